-- Joined of: TI X1 X2 X3 X4 X5 K26 X8 X9 X10 G118 G119 G80 X6 G116 G117 G78 G40 G105 G72 G73 G30 G97 G74 G32
import Derived.Test.YtakidmbnkkhojaaGreatC942JV1
import Derived.Test.YtakidmbnkkhojaaGreatProg
import Derived.KernelRfl
import Derived.Test.YtakidmbnkkhojaaGreatC942X
import Derived.Test.YtakidmbnkkhojaaGreatC942D
import Derived.Test.YtakidmbnkkhojaaGreatC942WWords
import Derived.Test.YtakidmbnkkhojaaGreatC942WMore
section
namespace Go.Proofs.YtakidmbnkkhojaaGreat
open Go.AVL
instance:TI Tryz.prog 2 ⟨false,1,8,[.int .i64 0], .int .i64⟩:=⟨by kernel_rfl⟩
instance:TI Tryz.prog 3 ⟨false,1,8,[.int .i64 0], .int .i64⟩:=⟨by kernel_rfl⟩
instance:TI Tryz.prog 4 ⟨false,1,1,[.bool false], .bool⟩:=⟨by kernel_rfl⟩
instance:TI Tryz.prog 5 ⟨false,1,1,[.int .u8 0], .int .u8⟩:=⟨by kernel_rfl⟩
instance:TI Tryz.prog 6 ⟨false,1,1,[.int .u8 0], .int .u8⟩:=⟨by kernel_rfl⟩
instance:TI Tryz.prog 7 ⟨true,4,24,[.int .i64 0, .int .i64 0, .bool false, .int .u8 0], .st [(0,2,1),(1,3,1),(2,4,1),(3,6,1)]⟩:=⟨by kernel_rfl⟩
instance:TI Tryz.prog 8 ⟨true,4,24,[.int .i64 0, .int .i64 0, .bool false, .int .u8 0], .st [(0,2,1),(1,3,1),(2,4,1),(3,6,1)]⟩:=⟨by kernel_rfl⟩
instance:TI Tryz.prog 9 ⟨false,1,16,[.str .empty], .str⟩:=⟨by kernel_rfl⟩
instance:TI Tryz.prog 10 ⟨false,1,16,[.str .empty], .str⟩:=⟨by kernel_rfl⟩
instance:TI Tryz.prog 11 ⟨false,1,16,[.str .empty], .str⟩:=⟨by kernel_rfl⟩
instance:TI Tryz.prog 12 ⟨false,1,8,[.int .u64 0], .int .u64⟩:=⟨by kernel_rfl⟩
instance:TI Tryz.prog 13 ⟨true,2,24,[.str .empty, .int .u64 0], .st [(0,9,1),(1,12,1)]⟩:=⟨by kernel_rfl⟩
instance:TI Tryz.prog 14 ⟨true,2,24,[.str .empty, .int .u64 0], .st [(0,9,1),(1,12,1)]⟩:=⟨by kernel_rfl⟩
instance:TI Tryz.prog 15 ⟨false,1,8,[.bad], .ptr 206⟩:=⟨by kernel_rfl⟩
instance:TI Tryz.prog 16 ⟨false,1,8,[.bad], .ptr 209⟩:=⟨by kernel_rfl⟩
instance:TI Tryz.prog 17 ⟨false,1,8,[.bad], .ptr 216⟩:=⟨by kernel_rfl⟩
instance:TI Tryz.prog 18 ⟨true,1,8,[.bad], .st [(0,17,1)]⟩:=⟨by kernel_rfl⟩
instance:TI Tryz.prog 19 ⟨true,1,8,[.bad], .st [(0,17,1)]⟩:=⟨by kernel_rfl⟩
instance:TI Tryz.prog 21 ⟨false,1,4,[.int .i32 0], .int .i32⟩:=⟨by kernel_rfl⟩
instance:TI Tryz.prog 22 ⟨true,3,24,[.int .i64 0, .int .i64 0, .int .i64 0], .arr 3 3⟩:=⟨by kernel_rfl⟩
instance:TI Tryz.prog 23 ⟨false,1,2,[.int .u16 0], .int .u16⟩:=⟨by kernel_rfl⟩
instance:TI Tryz.prog 24 ⟨false,1,24,[.fi .i16 []], .sl 64⟩:=⟨by kernel_rfl⟩
instance:TI Tryz.prog 25 ⟨true,7,88,[.int .i64 0, .int .i64 0, .int .i64 0, .int .u16 0, .fi .i16 [], .fi .i16 [], .int .u8 0], .st [(0,22,3),(3,23,1),(4,24,1),(5,24,1),(6,5,1)]⟩:=⟨by kernel_rfl⟩
instance:TI Tryz.prog 26 ⟨true,7,88,[.int .i64 0, .int .i64 0, .int .i64 0, .int .u16 0, .fi .i16 [], .fi .i16 [], .int .u8 0], .st [(0,22,3),(3,23,1),(4,24,1),(5,24,1),(6,5,1)]⟩:=⟨by kernel_rfl⟩
instance:TI Tryz.prog 27 ⟨true,3,24,[.int .i64 0, .int .i64 0, .int .i64 0], .st [(0,3,1),(1,3,1),(2,3,1)]⟩:=⟨by kernel_rfl⟩
instance:TI Tryz.prog 28 ⟨true,3,24,[.int .i64 0, .int .i64 0, .int .i64 0], .st [(0,3,1),(1,3,1),(2,3,1)]⟩:=⟨by kernel_rfl⟩
instance:TI Tryz.prog 29 ⟨false,1,24,[.fv []], .sl 28⟩:=⟨by kernel_rfl⟩
instance:TI Tryz.prog 30 ⟨true,14,160,[.int .i64 0, .int .i64 0, .int .i64 0, .int .u16 0, .fi .i16 [], .fi .i16 [], .int .u8 0, .int .i64 0, .int .i64 0, .int .i64 0, .int .i64 0, .int .i64 0, .int .i64 0, .fv []], .st [(0,26,7),(7,28,3),(10,28,3),(13,29,1)]⟩:=⟨by kernel_rfl⟩
instance:TI Tryz.prog 31 ⟨true,14,160,[.int .i64 0, .int .i64 0, .int .i64 0, .int .u16 0, .fi .i16 [], .fi .i16 [], .int .u8 0, .int .i64 0, .int .i64 0, .int .i64 0, .int .i64 0, .int .i64 0, .int .i64 0, .fv []], .st [(0,26,7),(7,28,3),(10,28,3),(13,29,1)]⟩:=⟨by kernel_rfl⟩
instance:TI Tryz.prog 37 ⟨true,14,144,[.int .i64 0, .int .i64 0, .int .i64 0, .int .u16 0, .fi .i16 [], .fi .i16 [], .int .u8 0, .int .i64 0, .int .i64 0, .int .i64 0, .int .i64 0, .int .i64 0, .int .i64 0, .int .i64 0], .st [(0,26,7),(7,28,3),(10,28,3),(13,3,1)]⟩:=⟨by kernel_rfl⟩
instance:TI Tryz.prog 38 ⟨true,14,144,[.int .i64 0, .int .i64 0, .int .i64 0, .int .u16 0, .fi .i16 [], .fi .i16 [], .int .u8 0, .int .i64 0, .int .i64 0, .int .i64 0, .int .i64 0, .int .i64 0, .int .i64 0, .int .i64 0], .st [(0,26,7),(7,28,3),(10,28,3),(13,3,1)]⟩:=⟨by kernel_rfl⟩
instance:TI Tryz.prog 39 ⟨false,1,24,[.fv []], .sl 55⟩:=⟨by kernel_rfl⟩
instance:TI Tryz.prog 40 ⟨false,1,8,[.int .i64 0], .int .i64⟩:=⟨by kernel_rfl⟩
instance:TI Tryz.prog 43 ⟨false,1,24,[.fi .u64 []], .sl 102⟩:=⟨by kernel_rfl⟩
instance:TI Tryz.prog 44 ⟨true,1,24,[.fi .u64 []], .st [(0,43,1)]⟩:=⟨by kernel_rfl⟩
instance:TI Tryz.prog 45 ⟨true,1,24,[.fi .u64 []], .st [(0,43,1)]⟩:=⟨by kernel_rfl⟩
instance:TI Tryz.prog 46 ⟨true,2,32,[.fi .u64 [], .bool false], .st [(0,45,1),(1,4,1)]⟩:=⟨by kernel_rfl⟩
instance:TI Tryz.prog 47 ⟨true,2,32,[.fi .u64 [], .bool false], .st [(0,45,1),(1,4,1)]⟩:=⟨by kernel_rfl⟩
instance:TI Tryz.prog 48 ⟨true,3,56,[.fi .u64 [], .bool false, .fi .u64 []], .st [(0,47,2),(2,45,1)]⟩:=⟨by kernel_rfl⟩
instance:TI Tryz.prog 49 ⟨true,3,56,[.fi .u64 [], .bool false, .fi .u64 []], .st [(0,47,2),(2,45,1)]⟩:=⟨by kernel_rfl⟩
instance:TI Tryz.prog 52 ⟨false,1,8,[.int .i64 0], .int .i64⟩:=⟨by kernel_rfl⟩
instance:TI Tryz.prog 54 ⟨true,6,48,[.int .i64 0, .int .i64 0, .int .i64 0, .int .i64 0, .int .i64 0, .int .i64 0], .st [(0,28,3),(3,28,3)]⟩:=⟨by kernel_rfl⟩
instance:TI Tryz.prog 55 ⟨true,6,48,[.int .i64 0, .int .i64 0, .int .i64 0, .int .i64 0, .int .i64 0, .int .i64 0], .st [(0,28,3),(3,28,3)]⟩:=⟨by kernel_rfl⟩
instance:TI Tryz.prog 58 ⟨false,1,24,[.fv []], .sl 91⟩:=⟨by kernel_rfl⟩
instance:TI Tryz.prog 61 ⟨false,1,24,[.fv []], .sl 49⟩:=⟨by kernel_rfl⟩
instance:TI Tryz.prog 62 ⟨false,1,24,[.fv []], .sl 71⟩:=⟨by kernel_rfl⟩
instance:TI Tryz.prog 64 ⟨false,1,2,[.int .i16 0], .int .i16⟩:=⟨by kernel_rfl⟩
instance:TI Tryz.prog 67 ⟨false,1,24,[.fi .i64 []], .sl 3⟩:=⟨by kernel_rfl⟩
instance:TI Tryz.prog 68 ⟨true,2,32,[.fi .i64 [], .bool false], .st [(0,67,1),(1,4,1)]⟩:=⟨by kernel_rfl⟩
instance:TI Tryz.prog 69 ⟨true,2,32,[.fi .i64 [], .bool false], .st [(0,67,1),(1,4,1)]⟩:=⟨by kernel_rfl⟩
instance:TI Tryz.prog 70 ⟨true,3,56,[.fi .i64 [], .bool false, .fi .i64 []], .st [(0,69,2),(2,67,1)]⟩:=⟨by kernel_rfl⟩
instance:TI Tryz.prog 71 ⟨true,3,56,[.fi .i64 [], .bool false, .fi .i64 []], .st [(0,69,2),(2,67,1)]⟩:=⟨by kernel_rfl⟩
instance:TI Tryz.prog 81 ⟨false,1,24,[.fi .i64 []], .sl 52⟩:=⟨by kernel_rfl⟩
instance:TI Tryz.prog 91 ⟨true,6,48,[.int .i64 0, .int .i64 0, .int .i64 0, .int .i64 0, .int .i64 0, .int .i64 0], .st [(0,28,3),(3,28,3)]⟩:=⟨by kernel_rfl⟩
instance:TI Tryz.prog 102 ⟨false,1,8,[.int .u64 0], .int .u64⟩:=⟨by kernel_rfl⟩
instance:TI Tryz.prog 123 ⟨false,1,8,[.int .u64 0], .int .u64⟩:=⟨by kernel_rfl⟩
instance:TI Tryz.prog 138 ⟨false,1,24,[.fv []], .sl 9⟩:=⟨by kernel_rfl⟩
instance:TI Tryz.prog 141 ⟨false,1,8,[.bad], .ptr 144⟩:=⟨by kernel_rfl⟩
instance:TI Tryz.prog 142 ⟨false,1,24,[.fi .u8 []], .sl 5⟩:=⟨by kernel_rfl⟩
instance:TI Tryz.prog 143 ⟨true,2,32,[.bad, .fi .u8 []], .st [(0,141,1),(1,142,1)]⟩:=⟨by kernel_rfl⟩
instance:TI Tryz.prog 144 ⟨true,2,32,[.bad, .fi .u8 []], .st [(0,141,1),(1,142,1)]⟩:=⟨by kernel_rfl⟩
instance:TI Tryz.prog 156 ⟨false,1,8,[.int .i64 0], .int .i64⟩:=⟨by kernel_rfl⟩
instance:TI Tryz.prog 164 ⟨false,1,4,[.int .u32 0], .int .u32⟩:=⟨by kernel_rfl⟩
instance:TI Tryz.prog 166 ⟨true,12,96,[.int .i64 0, .int .i64 0, .int .i64 0, .int .i64 0, .int .i64 0, .int .i64 0, .int .i64 0, .int .i64 0, .int .i64 0, .int .i64 0, .int .i64 0, .int .i64 0], .arr 12 3⟩:=⟨by kernel_rfl⟩
instance:TI Tryz.prog 180 ⟨true,20,20,[.int .u8 0, .int .u8 0, .int .u8 0, .int .u8 0, .int .u8 0, .int .u8 0, .int .u8 0, .int .u8 0, .int .u8 0, .int .u8 0, .int .u8 0, .int .u8 0, .int .u8 0, .int .u8 0, .int .u8 0, .int .u8 0, .int .u8 0, .int .u8 0, .int .u8 0, .int .u8 0], .arr 20 5⟩:=⟨by kernel_rfl⟩
instance:TI Tryz.prog 181 ⟨false,1,8,[.bad], .ptr 5⟩:=⟨by kernel_rfl⟩
instance:TI Tryz.prog 185 ⟨false,1,8,[.int .u64 0], .int .u64⟩:=⟨by kernel_rfl⟩
instance:TI Tryz.prog 189 ⟨false,1,8,[.bad], .ptr 3⟩:=⟨by kernel_rfl⟩
instance:TI Tryz.prog 200 ⟨false,1,8,[.bad], .ptr 185⟩:=⟨by kernel_rfl⟩
instance:TI Tryz.prog 204 ⟨false,1,8,[.bad], .ptr 218⟩:=⟨by kernel_rfl⟩
instance:TI Tryz.prog 205 ⟨true,4,40,[.bad, .bad, .bad, .str .empty], .st [(0,17,1),(1,17,1),(2,17,1),(3,9,1)]⟩:=⟨by kernel_rfl⟩
instance:TI Tryz.prog 206 ⟨true,4,40,[.bad, .bad, .bad, .str .empty], .st [(0,17,1),(1,17,1),(2,17,1),(3,9,1)]⟩:=⟨by kernel_rfl⟩
instance:TI Tryz.prog 207 ⟨true,0,0,[], .arr 0 16⟩:=⟨by kernel_rfl⟩
instance:TI Tryz.prog 208 ⟨true,0,0,[], .st [(0,207,0)]⟩:=⟨by kernel_rfl⟩
instance:TI Tryz.prog 209 ⟨true,0,0,[], .st [(0,207,0)]⟩:=⟨by kernel_rfl⟩
instance:TI Tryz.prog 210 ⟨false,1,1,[.int .u8 0], .int .u8⟩:=⟨by kernel_rfl⟩
instance:TI Tryz.prog 211 ⟨false,1,1,[.int .u8 0], .int .u8⟩:=⟨by kernel_rfl⟩
instance:TI Tryz.prog 213 ⟨false,1,4,[.int .i32 0], .int .i32⟩:=⟨by kernel_rfl⟩
instance:TI Tryz.prog 214 ⟨false,1,4,[.int .i32 0], .int .i32⟩:=⟨by kernel_rfl⟩
instance:TI Tryz.prog 217 ⟨true,1,16,[.str .empty], .st [(0,9,1)]⟩:=⟨by kernel_rfl⟩
instance:TI Tryz.prog 218 ⟨true,1,16,[.str .empty], .st [(0,9,1)]⟩:=⟨by kernel_rfl⟩
theorem mixed:Tryz.prog.follows .mixedOrders=true:=by kernel_rfl
end Go.Proofs.YtakidmbnkkhojaaGreat
end

section
namespace Go.AVL
open Go.RowKit Go.Proofs.YtakidmbnkkhojaaGreatX Go.Proofs.YtakidmbnkkhojaaGreatW.PrintWords Go.Proofs.YtakidmbnkkhojaaGreatW.PrintLast Go.Proofs.YtakidmbnkkhojaaGreatW.PrintMore
set_option linter.unusedVariables false
section
variable {P : Program} {st : St} {Q : Out → St → Prop} {K : St → Prop}
variable {ops : Array Oper} {os : List Oper} {d ty : Nat} {op : Op} {pos : String} {aft : Array Edge} {v : AV} {R : List Nat} {b : Blk} {n1 k j : Nat}
theorem U.whole {a:Bool} {n:Nat} {cs:List AV} (ha:a=true) (hn:cs.length=n):Part a n 0 (.agg cs) (.agg cs):=by subst ha;exact .whole hn
theorem U.sub {a:Bool} {n o:Nat} {cs r:List AV} (ha:a=true) (h:Ext cs o n r):Part a n o (.agg cs) (.agg r):=by subst ha;exact .sub h
theorem U.cell {a:Bool} {n o:Nat} {cs:List AV} {v:AV} (ha:a=false) (hn:n=1) (h:cs[o]?=some v):Part a n o (.agg cs) v:=by subst ha;subst hn;exact .cell h
theorem U.self {a:Bool} {n:Nat} {v:AV} (ha:a=false) (hn:n=1) (h:v.one=true):Part a n 0 v v:=by subst ha;subst hn;exact .self h
theorem W.t {x:Nat} {want:Bool} (hd:dstAt ops j=some x) (ht:st.t x = .bool want):Wt ops st (some (j,want)) true:=by
  have h:Wt ops st (some (j,want)) (want == want):=.yes hd ht
  rwa [show (want == want)=true by cases want <;> rfl] at h
theorem W.f {x:Nat} {p want:Bool} (hd:dstAt ops j=some x) (ht:st.t x = .bool p) (hn:(p == want)=false):Wt ops st (some (j,want)) false:=by
  have h:Wt ops st (some (j,want)) (p == want):=.yes hd ht
  rwa [hn] at h
theorem U.rdI {t i e ie x y k l k' n} [h:TI P t i] [h':TI P e ie] (hd:i.d = .sl e) (h1:ie.size=1) (hx:Ev st x (.fi k l)) (hy:Ev st y (.int k' n)) (h0:0≤n) (hn:n < (l.length:Int)) :
    Pu P st d (.indexAddr t x y) (.fp (.int k (rd l n)) 0) none []:=.indexI hd h1 hx hy h0 hn
theorem U.rdO {t i x s u n k l} [h:TI P t i] (hx:Ev st x (.op s u (Int.toNat n) 0)) (hu:(st.b s).ver=u) (hm:(st.b s).mode.live=true) (hr:(st.b s).row = .ints k l) (ha:i.agg=false) (hs:i.size=1) :
    Pu P st d (.load t x) (.int k (rd l n)) none [s]:=.load hx hu (Mode.live_ne hm) (by rw [hr];exact U.self ha hs rfl)
theorem U.shrW {t k k' a b} (h:0≤b):BinR P .shr t (.int k a) (.int k' b) (.int k (shr k a b)):=U.shrV h
theorem U.shlW {t k k' a b} (h:0≤b):BinR P .shl t (.int k a) (.int k' b) (.int k (shl k a b)):=.shl h
theorem U.mx {x y k k' p q ts} (hx:Ev st x (.int k p)) (hy:Ev st y (.int k' q)):Pu P st d (.call ⟨.builtin .max,#[x,y],ts⟩) (.int k (mx p q)) none []:=.max hx hy
theorem U.mn {x y k k' p q ts} (hx:Ev st x (.int k p)) (hy:Ev st y (.int k' q)):Pu P st d (.call ⟨.builtin .min,#[x,y],ts⟩) (.int k (mn p q)) none []:=.min hx hy
theorem U.sadd {t a b} (h:a.size + b.size≤9223372036854775807):BinR P .add t (.str a) (.str b) (.str (a ++ b)):=.sadd h
end
end Go.AVL
end

section
namespace Go.Proofs.YtakidmbnkkhojaaGreat
open Go.AVL Go.RowKit Go.Proofs.YtakidmbnkkhojaaGreatX Go.Proofs.YtakidmbnkkhojaaGreatW.PrintWords Go.Proofs.YtakidmbnkkhojaaGreatW.PrintLast Go.Proofs.YtakidmbnkkhojaaGreatW.PrintMore
set_option maxRecDepth 100000
theorem cs_u64x3 {f:FuncId} {x y c a b:Int} (hr : ∀ w,(callFunc f #[.int .u64 x, .int .u64 y, .int .u64 c]).run Tryz.prog w = .ok (.value (.tuple #[.int .u64 a, .int .u64 b])) w) :
    CS Tryz.prog f [.int .u64 x, .int .u64 y, .int .u64 c] .no [.int .u64 a, .int .u64 b]:=by
  intro A wg w m V hwg hw hs hv
  have h0:=(hv 0 (by simp)).int_inv
  have h1:=(hv 1 (by simp)).int_inv
  have h2:=(hv 2 (by simp)).int_inv
  have hV:V = #[.int .u64 x, .int .u64 y, .int .u64 c]:=by
    have h3:V.size=3:=hs
    apply Array.ext
    · exact h3
    · intro i hi1 hi2
      rw [h3] at hi1
      rcases i with _|_|_|i
      · simpa [Array.getD,h3] using h0
      · simpa [Array.getD,h3] using h1
      · simpa [Array.getD,h3] using h2
      · omega
  subst hV
  unfold CallW
  rw [hr w]
  exact ⟨A,m,hw,(fun p r1 r2 e h=>by cases h), .tup [_,_] #[_,_] rfl fun i hi=>by
    rcases i with _|_|i
    · exact .int _ _
    · exact .int _ _
    · simp at hi;omega⟩
theorem add64_cs {x y c:Int} (hc:c≤1):CS Tryz.prog 128 [.int .u64 x, .int .u64 y, .int .u64 c] .no [.int .u64 (add64s x y c), .int .u64 (add64c x y c)]:=cs_u64x3 (xrun_add64 x y c hc)
theorem sub64_cs {x y c:Int} (hc:c≤1):CS Tryz.prog 123 [.int .u64 x, .int .u64 y, .int .u64 c] .no [.int .u64 (sub64d x y c), .int .u64 (sub64b x y c)]:=cs_u64x3 (xrun_sub64 x y c hc)
end Go.Proofs.YtakidmbnkkhojaaGreat
end

section
namespace Go.Proofs.YtakidmbnkkhojaaGreat
open Go.AVL Go.RowKit Go.Proofs.YtakidmbnkkhojaaGreat.F Go.Proofs.YtakidmbnkkhojaaGreatX Go.Proofs.YtakidmbnkkhojaaGreatW.PrintWords Go.Proofs.YtakidmbnkkhojaaGreatW.PrintLast Go.Proofs.YtakidmbnkkhojaaGreatW.PrintMore
theorem row_l : ∀ (k:Nat) {x1 x2 x6 x13 x14 x15 y r},nat_Nat_row.l0 k x1 x2 x6 x13 x14 x15 y=some r→r.length=x2.length
  | 0,_,_,_,_,_,_,_,_,h=>by unfold nat_Nat_row.l0 at h;cases h
  | k + 1,_,_,_,_,_,_,_,_,h=>by
    unfold nat_Nat_row.l0 at h
    split at h
    · repeat first|(rw [giff] at h;obtain ⟨_,h⟩:=h)
      obtain ⟨_,_,h⟩:=Option.bind_eq_some_iff.1 h
      repeat first|(rw [giff] at h;obtain ⟨_,h⟩:=h)
      rw [row_l k h,List.length_set]
    · repeat first|(rw [giff] at h;obtain ⟨_,h⟩:=h)
      cases h
      rw [List.length_set]
theorem nat_Nat_row_len {k l a x r} (h:nat_Nat_row.f k l a x=some r):r.length=x.length:=row_l k h
theorem back_l : ∀ (k:Nat) {x0 x1 x4 x7 x8 x9 r},quot_back.l0 k x0 x1 x4 x7 x8 x9=some r→r.length=x0.length
  | 0,_,_,_,_,_,_,_,h=>by unfold quot_back.l0 at h;cases h
  | k + 1,_,_,_,_,_,_,_,h=>by
    unfold quot_back.l0 at h
    split at h
    · repeat first|(rw [giff] at h;obtain ⟨_,h⟩:=h)
      rw [back_l k h,List.length_set]
    · repeat first|(rw [giff] at h;obtain ⟨_,h⟩:=h)
      cases h
      rw [List.length_set]
theorem quot_back_len {k l x r} (h:quot_back.f k l x=some r):r.length=l.length:=back_l k h
theorem less_l : ∀ (k:Nat) {x0 x1 x2 x7 x8 x14 x15 x16 r},quot_less.l0 k x0 x1 x2 x7 x8 x14 x15 x16=some r→r.2.length=x0.length
  | 0,_,_,_,_,_,_,_,_,_,h=>by unfold quot_less.l0 at h;cases h
  | k + 1,_,_,_,_,_,_,_,_,_,h=>by
    unfold quot_less.l0 at h
    split at h
    · repeat first|(rw [giff] at h;obtain ⟨_,h⟩:=h)
      obtain ⟨_,_,h⟩:=Option.bind_eq_some_iff.1 h
      repeat first|(rw [giff] at h;obtain ⟨_,h⟩:=h)
      rw [less_l k h,List.length_set]
    · repeat first|(rw [giff] at h;obtain ⟨_,h⟩:=h)
      cases h
      show (List.set _ _ _).length=_
      rw [List.length_set]
theorem quot_less_len {k l x a r} (h:quot_less.f k l x a=some r):r.2.length=l.length:=less_l k h
end Go.Proofs.YtakidmbnkkhojaaGreat
end

section
namespace Go.AVL
open Go.RowKit
set_option linter.unusedVariables false
inductive SnapH (st:St) (ss:List Nat):Nat→List AV→List AV→Prop
  | hole {v a vs bs}:SnapL st ss vs bs→SnapH st ss 0 (v :: vs) (a :: bs)
  | cons {p v a vs bs}:Snap st ss v a→SnapH st ss p vs bs→SnapH st ss (p + 1) (v :: vs) (a :: bs)
theorem SnapH.spec {st:St} {ss:List Nat} {p:Nat} {vs bs:List AV} (h:SnapH st ss p vs bs):vs.length=bs.length∧p < vs.length∧∀ i,i < bs.length→i≠p→Snap st ss (vs.getD i .bad) (bs.getD i .bad):=by
  induction h with
  | hole hs =>
    refine ⟨by simp [hs.1],by simp,fun i hi hn=>?_⟩
    cases i with
    | zero=>exact absurd rfl hn
    | succ i=>exact hs.2 i (by have:=hs.1;simp at hi;omega)
  | cons hs _ ih =>
    obtain ⟨h1,h2,h3⟩:=ih
    refine ⟨by simp [h1],by simpa using h2,fun i hi hn=>?_⟩
    cases i with
    | zero=>exact hs
    | succ i=>exact h3 i (by simpa using hi) (fun e=>hn (by rw [e]))
section
variable {P : Program} {st : St} {d : Nat}
theorem U.sliceO0 {t i e ie x s u len full lo hi mx a b} [h:TI P t i] [h':TI P e ie] (hd:i.d = .sl e) (hx:Ev st x (.os s u 0 len full)) (hu:(st.b s).ver=u) (hm:(st.b s).mode.live=true) (hz:szOk ie.size ((st.b s).row.get 0))
    (hlo:Bd st lo 0 a) (hhi:Bd st hi len b) (hmx:Mx st b len hi mx) (hab:a≤b) (hb:b≤len):Pu P st d (.slice t x lo hi mx) (.os s u a (b - a) false) none [s]:=.sliceO hd hx hu (Mode.live_ne hm) (.inr hz) hlo hhi hmx hab hb (Nat.zero_add a).symm rfl
theorem U.callW {args ats f vs bs res ss p s u off hi len len2 full k l l' e m} (hv:EvL st args.toList vs) (hs:SnapH st ss p vs bs) (hp:vs.getD p .bad = .os s u off len full) (hap:bs.getD p .bad = .os p 1 0 len2 false)
    (hss:memB ss s=false) (hB:st.b s=⟨u,m, .ints k l,e⟩) (hm:m.wr=true) (hhi:hi=off + len) (hle:hi≤l.length) (hl2:len=len2) (hl':l'.length=len) (hf:Flat (AV.mk res))
    (hc:CS P f bs ⟨some (p, .ints k ((l.take hi).drop off), .ints k l',e),none⟩ res) :
    Ef P st d (.call ⟨.value (.func f),args,ats⟩) (AV.mk res) (upd st.b s ⟨u,m, .ints k (l.take off ++ l' ++ l.drop hi),e⟩):=by
  obtain ⟨h1,h2,h3⟩:=hs.spec
  subst hl2
  subst hhi
  have h4:Ef P st d (.call ⟨.value (.func f),args,ats⟩) (AV.mk res) (upd st.b s ((st.b s).setRow (.ints k (l.take off ++ l' ++ l.drop (off + len))))):=by
    refine .callI (caps:=[]) (ss:=ss) (p:=p) (s:=s) (u:=u) (off:=off) (len:=len) (full:=full) (rin:=.ints k ((l.take (off + len)).drop off)) (rout:=.ints k l') (e:=e) .fn hv (by rw [List.append_nil];exact h2) (by rw [List.append_nil];exact hp) (by rw [← h1];rfl)
      (fun i hi hn=>by rw [List.append_nil];exact h3 i hi hn) hap (fun hm=>by rw [memB_iff.2 hm] at hss;cases hss) (by rw [hB]) (by rw [hB];exact Mode.wr_or hm) (by rw [hB]) ?_ (by rw [hB];exact .ints hl') hc hf
    rw [hB]
    have:(l.take (off + len)).drop off=(l.drop off).take len:=by rw [List.drop_take,Nat.add_sub_cancel_left]
    rw [this]
    exact .ints
  rw [hB] at h4
  exact h4
end
theorem win_e {α β:Type} {c:Prop} [Decidable c] {x:Option α} {g:α→β} {q:β} (h:(if c then x.map g else none)=some q):c∧∃ r,x=some r∧q=g r:=by
  by_cases hc:c
  · rw [if_pos hc] at h
    obtain ⟨r,h1,h2⟩:=Option.map_eq_some_iff.1 h
    exact ⟨hc,r,h1,h2.symm⟩
  · rw [if_neg hc] at h;cases h
theorem Snap.osW {st:St} {ss:List Nat} {s u off len full k l hi} (hs:s ∈ ss) (hu:(st.b s).ver=u) (hm:(st.b s).mode≠.dead) (hr:(st.b s).row = .ints k l) (hh:hi=off + len) :
    Snap st ss (.os s u off len full) (.fi k ((l.take hi).drop off)):=by
  have h:(l.take hi).drop off=(l.drop off).take len:=by rw [hh,List.drop_take,Nat.add_sub_cancel_left]
  rw [h]
  exact .osI hs hu hm hr
theorem U.indexW {P:Program} {st:St} {d:Nat} {t i e ie x y s u off len full k' j n} [h:TI P t i] [h':TI P e ie] (hd:i.d = .sl e) (hx:Ev st x (.os s u off len full)) (hu:(st.b s).ver=u) (hm:(st.b s).mode.live=true) (hy:Ev st y (.int k' j)) (h0:0≤j) (hj:j < (len:Int))
    (hs:((st.b s).row.get (Int.toNat n)).cells.length=ie.size) (hb:notBad ((st.b s).row.get (Int.toNat n))=true) (hn:off + j.toNat=Int.toNat n):Pu P st d (.indexAddr t x y) (.op s u (Int.toNat n) 0) none [s] :=
  .indexO hd hx hu (Mode.live_ne hm) hy h0 hj hn.symm ⟨hs,notBad_ne hb⟩
theorem U.cutL {P:Program} {st:St} {d:Nat} {x s u u' off len full k l e row} (hx:Ev st x (.os s u off len full)) (hB:st.b s=⟨u, .own, .ints k l,e⟩) (hr:(l.drop off).take len=row) (hl:row.length=len) (hu:(st.b d).ver + 1=u'):Ef P st d (.assign x) (.os d u' 0 row.length false) (upd (upd st.b s ⟨u, .dead, .ints k l,e⟩) d ⟨u', .own, .ints k row,e⟩):=by
  rw [hl]
  exact U.cutE hx hB hr hu
theorem cutH {l:List Int} {n:Nat}:(l.drop 0).take (n - 0)=l.take n:=rfl
end Go.AVL
end

section
namespace Go.AVL
open Go.RowKit
set_option linter.unusedVariables false
theorem ClL.map {α:Type} {en:α→AV} {l:List α} (h : ∀ x,Cl (en x)):ClL (l.map en):=by
  intro i hi
  rw [List.length_map] at hi
  rw [List.getD_eq_getElem?_getD,List.getElem?_map,List.getElem?_eq_getElem hi]
  exact h _
theorem map_at {α:Type} {en:α→AV} {l:List α} {p:AV→Prop} (h : ∀ x,p (en x)) {i:Nat} (hi:i < l.length):p ((l.map en).getD i .bad):=by
  rw [List.getD_eq_getElem?_getD,List.getElem?_map,List.getElem?_eq_getElem hi]
  exact h _
section
variable {P : Program} {st : St} {d : Nat}
theorem U.litS {α:Type} {en:α→AV} {t i e ie len parts} {l:List α} [h:TI P t i] [h':TI P e ie] (hd:i.d = .sl e) (hp:PartsR st 0 parts.toList (l.map en)) (hl:len=l.length) (hs:Nat.ble (len * ie.size) 16777216=true) (h0:Nat.blt 0 ie.size=true)
    (hc : ∀ x,(en x).cells.length=ie.size):Pu P st d (.buildSlice t len parts) (.os d ((st.b d).ver + 1) 0 l.length true) (some ⟨(st.b d).ver + 1, .own, .vals (l.map en),e⟩) []:=by
  subst hl
  exact .litO hd hp (by simp) (Nat.le_of_ble_eq_true hs) (Nat.le_of_ble_eq_true h0) (fun j hj=>map_at (p:=fun v=>v.cells.length=ie.size) hc (by simpa using hj)) .vals
theorem U.appendSE {α:Type} {en:α→AV} {t i e ie x y s u u' len ss v} {l l2:List α} [h:TI P t i] [h':TI P e ie] (hd:i.d = .sl e) (hx:Ev st x (.os s u 0 len true)) (hB:st.b s=⟨u, .own, .vals (l.map en),e⟩) (hl:len=l.length)
    (hy:Ev st y v) (hsn:Snap st ss v (.fv (l2.map en))) (h0:Nat.blt 0 ie.size=true) (hc : ∀ x,szOk ie.size (en x)) (hm:l.length + l2.length≤maxLen) (hb:(l.length + l2.length) * ie.bytes≤140737488355328) (hu:(st.b d).ver + 1=u') :
    Ef P st d (.call ⟨.builtin .append,#[x,y],#[t,t]⟩) (.os d u' 0 (l ++ l2).length true) (upd (upd st.b s ⟨u, .dead, .vals (l.map en),e⟩) d ⟨u', .own, .vals ((l ++ l2).map en),e⟩):=by
  have h1:(Row.vals ((l ++ l2).map en)).len=l.length + l2.length:=by simp [Row.len]
  have h2:Ef P st d (.call ⟨.builtin .append,#[x,y],#[t,t]⟩) _ _:=.append (row:=.vals ((l ++ l2).map en)) (r2:=.vals (l2.map en)) (e:=e) (i:=i) (ie:=ie) hd (Nat.le_of_ble_eq_true h0) hx (by rw [hB]) (by rw [hB]) (by rw [hB]) (by rw [hB,hl];simp [Row.len]) hy hsn .fv
    (fun j hj=>map_at (p:=szOk ie.size) hc (by simpa [Row.len] using hj)) (by rw [hB,List.map_append];exact .vals) (by rw [h1];exact hm) (by rw [h1];exact hb)
  rw [hB,hu,h1] at h2
  rw [List.length_append]
  exact h2
theorem U.indexS {t i x y s k n} [h:TI P t i] (hd:i.d = .str) (hx:Ev st x (.str s)) (hy:Ev st y (.int k n)) (h0:0≤n) (hn:n < (s.size:Int)):Pu P st d (.index t x y) (.int .u8 (Go.Proofs.YtakidmbnkkhojaaGreatW.PrintWords.bt s n)) none []:=.indexS hd hx hy h0 hn
theorem U.lenS {α:Type} {en:α→AV} {t i e x} {l:List α} [h:TI P t i] (hd:i.d = .sl e) (hx:Ev st x (.fv (l.map en))):Pu P st d (.call ⟨.builtin .len,#[x],#[t]⟩) (.int .i64 l.length) none []:=by
  have:=Pu.lenV (P:=P) (d:=d) (t:=t) hd hx
  rwa [List.length_map] at this
theorem map_z {α:Type} {en:α→AV} {l:List α} (z:α) {i:Nat} (hi:i < l.length):(l.map en).getD i .bad=en (l.getD i z):=by
  rw [List.getD_eq_getElem?_getD,List.getElem?_map,List.getD_eq_getElem?_getD,List.getElem?_eq_getElem hi]
  rfl
theorem U.rdVS {α:Type} {en:α→AV} {t i e ie x y k n} {l:List α} [h:TI P t i] [h':TI P e ie] (z:α) (hd:i.d = .sl e) (hc : ∀ x,szOk ie.size (en x)) (hx:Ev st x (.fv (l.map en))) (hy:Ev st y (.int k n)) (h0:0≤n) (hn:n < (l.length:Int)) :
    Pu P st d (.indexAddr t x y) (.fp (en (l.getD n.toNat z)) 0) none []:=by
  have he:=map_z (en:=en) z (show n.toNat < l.length by omega)
  have:=Pu.indexV (P:=P) (d:=d) (t:=t) (e:=e) hd (by rw [he];exact hc _) hx hy h0 (by rw [List.length_map];exact hn)
  rwa [he] at this
theorem U.indexAr {t i e ie N x y s u j q k n b} [h1:TI P t i] [h2:TI P e ie] (hd:i.d = .arr N e) (hz:ie.size=1) (hx:Ev st x (.op s u j q)) (hB:st.b s=b) (hu:b.ver=u) (hm:b.mode.live=true) (hy:Ev st y (.int k n)) (h0:0≤n) (hn:n < (N:Int)) :
    Pu P st d (.indexAddr t x y) (.op s u j (q + n.toNat)) none [s]:=by
  refine .ext fun st' ha hb c I m a w o hop hs=>?_
  have hb':=hb s (List.mem_singleton.2 rfl)
  obtain ⟨_,_,_,F1⟩:=h1.facts
  obtain ⟨_,_,_,F2⟩:=h2.facts
  have u1:=F1.und
  rw [td_arr (F1.dd.symm.trans hd)] at u1
  obtain ⟨ad,e1,k1,k2⟩:=((ha x (by simp [Op.operands]) _ hx).vr hs).op_inv
  have e2:=((ha y (by simp [Op.operands]) _ hy).vr hs).int_inv
  obtain ⟨rfl,k4⟩:=k2 (by rw [hb',hB,hu]) (by rw [hb',hB];exact Mode.live_ne hm)
  refine ⟨.pointer (some ⟨(m s).g,((m s).base + j) * (m s).sz + (q + n.toNat),none⟩),?_, .op s u j (q + n.toNat) _ k1 fun _ _=>⟨rfl,k4⟩⟩
  have ha:=addr_add ⟨(m s).g,((m s).base + j) * (m s).sz + q,none⟩ (n.toNat * ie.size) rfl
  have hr:(Instr.indexAt t (.pointer (some ⟨(m s).g,((m s).base + j) * (m s).sz + q,none⟩)) (.int k n)).run P w = .ok (.pointer (some ⟨(m s).g,((m s).base + j) * (m s).sz + (q + n.toNat),none⟩)) w:=by
    rw [hz,Nat.mul_one] at ha
    simp [Instr.indexAt,Instr.sureAddr,asIntOf,run_underlying u1,h0,hn,run_size F2.info,F2.size,hz,ha,Nat.add_assoc]
  simp [execOp,hop,e1,e2,hr]
theorem C.appendSE {α:Type} {en:α→AV} {t i e ie x y s u u' len ss v} {l l2:List α} [h:TI P t i] [h':TI P e ie] (hd:i.d = .sl e) (hx:Ev st x (.os s u 0 len true)) (hB:st.b s=⟨u, .own, .vals (l.map en),e⟩) (hl:len=l.length)
    (hy:Ev st y v) (hsn:Snap st ss v (.fv (l2.map en))) (h0:Nat.blt 0 ie.size=true) (hc : ∀ x,szOk ie.size (en x)) (hm:l.length + l2.length≤maxLen) (hb:(l.length + l2.length) * ie.bytes≤140737488355328) (hu:(st.b d).ver + 1=u') :
    EfC P st d (.call ⟨.builtin .append,#[x,y],#[t,t]⟩) (.os d u' 0 (l ++ l2).length true) (fun B=>upd (upd B s ⟨u, .dead, .vals (l.map en),e⟩) d ⟨u', .own, .vals ((l ++ l2).map en),e⟩) [s,d] (s :: d :: ss):=by
  refine ⟨fun q ha hbb=>?_,fun B z=>?_⟩
  · unfold Ag at ha
    exact U.appendSE hd (ha x (by simp [Op.operands,Call.operands]) _ hx) (by rw [hbb s (by simp)];exact hB) hl (ha y (by simp [Op.operands,Call.operands]) _ hy) (hsn.congr fun z hz=>hbb z (by simp [hz])) h0 hc hm hb (by rw [hbb d (by simp)];exact hu)
  · by_cases e1:z=d
    · subst e1;simp [upd_same]
    · rw [upd_ne _ _ e1]
      by_cases e2:z=s
      · subst e2;rw [upd_same,if_pos (by simp),upd_ne _ _ e1,upd_same]
      · rw [upd_ne _ _ e2,if_neg (by simp [e1,e2])]
theorem C.takeE {x s u u' len row e} (hx:Ev st x (.os s u 0 len true)) (hB:st.b s=⟨u, .own,row,e⟩) (hn:s≠d) (hu:(st.b d).ver + 1=u') :
    EfC P st d (.assign x) (.os d u' 0 len true) (fun B=>upd (upd B s ⟨u, .dead,row,e⟩) d ⟨u', .own,row,e⟩) [s,d] [s,d]:=by
  refine ⟨fun q ha hbb=>?_,fun B z=>?_⟩
  · unfold Ag at ha
    exact U.takeE (ha x (by simp [Op.operands]) _ hx) (by rw [hbb s (by simp)];exact hB) hn (by rw [hbb d (by simp)];exact hu)
  · by_cases e1:z=d
    · subst e1;simp [upd_same]
    · rw [upd_ne _ _ e1]
      by_cases e2:z=s
      · subst e2;rw [upd_same,if_pos (by simp),upd_ne _ _ e1,upd_same]
      · rw [upd_ne _ _ e2,if_neg (by simp [e1,e2])]
end
end Go.AVL
end

section
namespace Go.Proofs.YtakidmbnkkhojaaGreat
open Go.AVL Go.RowKit Go.Proofs.YtakidmbnkkhojaaGreat.F Go.Proofs.YtakidmbnkkhojaaGreatX Go.Proofs.YtakidmbnkkhojaaGreatW.PrintWords Go.Proofs.YtakidmbnkkhojaaGreatW.PrintLast Go.Proofs.YtakidmbnkkhojaaGreatW.PrintMore
set_option linter.unusedVariables false
def en28 (x:S28):AV:=.agg [.int .i64 x.f0, .int .i64 x.f1, .int .i64 x.f2]
def en55 (x:S55):AV:=.agg [.int .i64 x.f0.f0, .int .i64 x.f0.f1, .int .i64 x.f0.f2, .int .i64 x.f1.f0, .int .i64 x.f1.f1, .int .i64 x.f1.f2]
def en49 (x:S49):AV:=.agg [.fi .u64 x.f0.f0.f0, .bool x.f0.f1, .fi .u64 x.f1.f0]
theorem arr_vr {I:Nat→Prop} {w:World} {B:Nat→Blk} {m:Nat→Reg} {k:IntKind} {l:List Int}:VR I w B m (.agg (l.map (AV.int k))) (.agg (l.map (Value.int k)).toArray):=by
  refine .agg _ _ (by simp) (fun u hu=>?_) fun i hi=>?_
  · simp at hu
    obtain ⟨n,_,rfl⟩:=hu
    rfl
  · rw [List.length_map] at hi
    have e1:(l.map (AV.int k)).getD i .bad = .int k l[i]:=by rw [List.getD_eq_getElem?_getD,List.getElem?_map,List.getElem?_eq_getElem hi];rfl
    have e2:(l.map (Value.int k)).toArray.getD i undef = .int k l[i]:=by rw [Array.getD_eq_getD_getElem?,List.getElem?_toArray,List.getElem?_map,List.getElem?_eq_getElem hi];rfl
    rw [e1,e2]
    exact .int _ _
theorem arr_inv {I:Nat→Prop} {w:World} {B:Nat→Blk} {m:Nat→Reg} {k:IntKind} {l:List Int} {V:Value} (h:VR I w B m (.agg (l.map (AV.int k))) V):V = .agg (l.map (Value.int k)).toArray:=by
  obtain ⟨vs,rfl,h1,h2,h3⟩:=h.cell
  rw [List.length_map] at h1
  congr 1
  apply Array.ext
  · simp [h1]
  · intro i hi1 hi2
    have hil:i < l.length:=by omega
    have:=h3 i (by rw [List.length_map];exact hil)
    have e1:(l.map (AV.int k)).getD i .bad = .int k l[i]:=by rw [List.getD_eq_getElem?_getD,List.getElem?_map,List.getElem?_eq_getElem hil];rfl
    rw [e1] at this
    have e2:=this.int_inv
    rw [Array.getD_eq_getD_getElem?,Array.getElem?_eq_getElem hi1] at e2
    simpa using e2
theorem U.bldAr {P:Program} {st:St} {d:Nat} {t:TypeId} {parts:Array (Nat×Operand)} {k:IntKind} {l:List Int} (hr : ∀ (a:Act) (w:World),(Instr.build t (parts.map fun (i,x)=>(i,a.eval x))).run P w = .ok (.agg (l.map (Value.int k)).toArray) w) :
    Pu P st d (.build t parts) (.agg (l.map (AV.int k))) none []:=by
  refine .ext fun st' ha hb c I m a w o hop hs=>⟨_,?_,arr_vr⟩
  have:=hr a w
  simp [execOp,hop,this]
theorem U.idxAr {P:Program} {st:St} {d:Nat} {t e:TypeId} {x y:Operand} {k kk:IntKind} {l:List Int} {n:Int} (ht:P.underlying t=some (.array l.length e)) (hz:(P.info? e).map (·.size)=some 1) (hu : ∃ q,P.underlying e=some (.int q))
    (hx:Ev st x (.agg (l.map (AV.int kk)))) (hy:Ev st y (.int k n)) (h0:0≤n) (hn:n < (l.length:Int)):Pu P st d (.index t x y) (.int kk (rd l n)) none []:=by
  refine .ext fun st' ha hb c I m a w o hop hs=>⟨.int kk (rd l n),?_, .int _ _⟩
  have e1:=arr_inv ((ha x (by simp [Op.operands]) _ hx).vr hs)
  have e2:=((ha y (by simp [Op.operands]) _ hy).vr hs).int_inv
  have:=run_index_arr (P:=P) t e k kk l n ht hz hu h0 hn w
  simp [execOp,hop,e1,e2,this]
end Go.Proofs.YtakidmbnkkhojaaGreat
end

section
namespace Go.AVL
open Go.RowKit
set_option linter.unusedVariables false
set_option linter.unusedSimpArgs false
def fz {β:Type} (v:AV) (K:AV→β):β:=match v with
  | .int k n=>K (.int k n)
  | .bool b=>K (.bool b)
  | .str s=>K (.str s)
  | .fi k l=>K (.fi k l)
  | .fv es=>K (.fv es)
  | .os s u o l f=>K (.os s u o l f)
  | .oc s u l r t=>K (.oc s u l r t)
  | .op s u i o=>K (.op s u i o)
  | .fp w o=>K (.fp w o)
  | .agg cs=>K (.agg cs)
  | .tup vs=>K (.tup vs)
  | .fn f cs=>K (.fn f cs)
  | .nob b=>K (.nob b)
  | .bad=>K .bad
theorem fz_eq {β:Type} (v:AV) (K:AV→β):fz v K=K v:=by cases v <;> rfl
class TT (P:Program) (tt:outParam (TypeId→Option TInfo)):Prop where
  ok : ∀ t i,tt t=some i→TI P t i
def evF (st:St):Operand→Option AV
  | .tmp t=>fz (st.t t) some
  | .const (.int k n)=>some (.int k n)
  | .const (.bool b)=>some (.bool b)
  | .const (.string s)=>some (.str s)
  | .func f=>some (.fn f [])
  | _=>none
theorem evF_ok {st:St} {x:Operand} {v:AV} (h:evF st x=some v):Ev st x v:=by
  unfold evF at h
  split at h
  · rw [fz_eq] at h;exact .tmp (Option.some.inj h)
  · cases h;exact .int
  · cases h;exact .bool
  · cases h;exact .str
  · cases h;exact .fn
  · cases h
def takeF:List AV→Nat→Option (List AV)
  | _,0=>some []
  | c :: cs,n + 1=>match takeF cs n with
    | some r=>some (c :: r)
    | none=>none
  | [],_ + 1=>none
def extF:List AV→Nat→Nat→Option (List AV)
  | cs,0,n=>takeF cs n
  | _ :: cs,o + 1,n=>extF cs o n
  | [],_ + 1,_=>none
theorem takeF_ok : ∀ {cs:List AV} {n:Nat} {r:List AV},takeF cs n=some r→Ext cs 0 n r
  | cs,0,r,h=>by cases cs <;> (simp only [takeF] at h;cases h;exact .done)
  | c :: cs,n + 1,r,h=>by
    simp only [takeF] at h
    split at h
    · rename_i q hq;cases h;exact .take (takeF_ok hq)
    · cases h
  | [],n + 1,r,h=>by simp only [takeF] at h;cases h
theorem extF_ok : ∀ {cs:List AV} {o n:Nat} {r:List AV},extF cs o n=some r→Ext cs o n r
  | cs,0,n,r,h=>by cases cs <;> exact takeF_ok (by simpa only [extF] using h)
  | c :: cs,o + 1,n,r,h=>.skip (extF_ok (by simpa only [extF] using h))
  | [],o + 1,n,r,h=>by simp only [extF] at h;cases h
def lenF:List AV→Nat→Bool
  | [],0=>true
  | _ :: cs,n + 1=>lenF cs n
  | _,_=>false
theorem lenF_ok : ∀ {cs:List AV} {n:Nat},lenF cs n=true→cs.length=n
  | [],0,_=>rfl
  | c :: cs,n + 1,h=>by rw [List.length_cons,lenF_ok (by simpa only [lenF] using h)]
  | [],n + 1,h=>by simp only [lenF] at h;cases h
  | c :: cs,0,h=>by simp only [lenF] at h;cases h
def getF:List AV→Nat→Option AV
  | c :: _,0=>fz c some
  | _ :: cs,o + 1=>getF cs o
  | [],_=>none
theorem getF_ok : ∀ {cs:List AV} {o:Nat} {v:AV},getF cs o=some v→cs[o]?=some v
  | c :: cs,0,v,h=>by simp only [getF,fz_eq] at h;simpa using h
  | c :: cs,o + 1,v,h=>by rw [List.getElem?_cons_succ];exact getF_ok (by simpa only [getF] using h)
  | [],o,v,h=>by simp only [getF] at h;cases h
def partF (g:Bool) (n o:Nat) (v:AV):Option AV:=match g,v,o with
  | true, .agg cs,0=>match lenF cs n with
    | true=>some (.agg cs)
    | false=>match takeF cs n with
      | some r=>some (.agg r)
      | none=>none
  | true, .agg cs,o + 1=>match extF cs (o + 1) n with
    | some r=>some (.agg r)
    | none=>none
  | false, .agg cs,o=>match n with
    | 1=>getF cs o
    | _=>none
  | false,v,0=>match n,v.one with
    | 1,true=>fz v some
    | _,_=>none
  | _,_,_=>none
theorem partF_ok {g:Bool} {n o:Nat} {v r:AV} (h:partF g n o v=some r):Part g n o v r:=by
  unfold partF at h
  split at h
  · split at h
    · rename_i hl;cases h;exact .whole (lenF_ok hl)
    · split at h
      · rename_i q hq;cases h;exact .sub (takeF_ok hq)
      · cases h
  · split at h
    · rename_i q hq;cases h;exact .sub (extF_ok hq)
    · cases h
  · split at h
    · exact .cell (getF_ok h)
    · cases h
  · split at h
    · rename_i h1;rw [fz_eq] at h;cases h;exact .self h1
    · cases h
  · cases h
def rowF:Row→Nat→Option AV
  | .vals es,j=>getF es j
  | _,_=>none
theorem rowF_ok {row:Row} {j:Nat} {v:AV} (h:rowF row j=some v):row.get j=v:=by
  cases row with
  | ints k l=>cases h
  | vals es =>
    have h:=getF_ok (show getF es j=some v from h)
    show es.getD j .bad=v
    rw [List.getD_eq_getElem?_getD,h];rfl
def putF:List AV→Nat→List AV→Option (List AV)
  | cs,0,[]=>some cs
  | c :: cs,o + 1,vs=>match putF cs o vs with
    | some r=>some (c :: r)
    | none=>none
  | _ :: cs,0,v :: vs=>match putF cs 0 vs with
    | some r=>some (v :: r)
    | none=>none
  | [],_,_=>none
theorem putF_ok : ∀ {cs:List AV} {o:Nat} {vs r:List AV},putF cs o vs=some r→PutL cs o vs r
  | [],0,[],r,h=>by simp only [putF] at h;cases h;exact .done
  | c :: cs,0,[],r,h=>by simp only [putF] at h;cases h;exact .done
  | c :: cs,o + 1,vs,r,h=>by
    simp only [putF] at h
    split at h
    · rename_i q hq;cases h;exact .skip (putF_ok hq)
    · cases h
  | c :: cs,0,v :: vs,r,h=>by
    simp only [putF] at h
    split at h
    · rename_i q hq;cases h;exact .put (putF_ok hq)
    · cases h
  | [],0,v :: vs,r,h=>by simp only [putF] at h;cases h
  | [],o + 1,vs,r,h=>by simp only [putF] at h;cases h
def sameF:List AV→List AV→Bool
  | [],[]=>true
  | _ :: cs,_ :: vs=>sameF cs vs
  | _,_=>false
theorem sameF_ok : ∀ {cs vs:List AV},sameF cs vs=true→vs.length=cs.length
  | [],[],_=>rfl
  | c :: cs,v :: vs,h=>by rw [List.length_cons,List.length_cons,sameF_ok (by simpa only [sameF] using h)]
  | [],v :: vs,h=>by simp only [sameF] at h;cases h
  | c :: cs,[],h=>by simp only [sameF] at h;cases h
def putVF (e:AV) (o:Nat) (v:AV):Option AV:=match e.isBad,o,sameF e.cells v.cells with
  | false,0,true=>fz v some
  | _,o,_=>match e with
    | .agg cs=>match putF cs o v.cells with
      | some r=>some (.agg r)
      | none=>none
    | _=>none
theorem putVF_ok {e v r:AV} {o:Nat} (h:putVF e o v=some r):PutV e o v r:=by
  unfold putVF at h
  split at h
  · rename_i h1 h2;rw [fz_eq] at h;cases h;exact .whole h1 (sameF_ok h2)
  · split at h
    · split at h
      · rename_i q hq;cases h;exact .part (putF_ok hq)
      · cases h
    · cases h
def fldF:List (Nat×TypeId×Nat)→Nat→Option (Nat×TypeId×Nat)
  | f :: _,0=>some f
  | _ :: fs,i + 1=>fldF fs i
  | [],_=>none
theorem fldF_ok : ∀ {fs:List (Nat×TypeId×Nat)} {i:Nat} {f:Nat×TypeId×Nat},fldF fs i=some f→fs[i]?=some f
  | f :: fs,0,g,h=>by simp only [fldF] at h;simpa using h
  | f :: fs,i + 1,g,h=>by rw [List.getElem?_cons_succ];exact fldF_ok (by simpa only [fldF] using h)
  | [],i,g,h=>by simp only [fldF] at h;cases h
def buildF (st:St) (fs:List (Nat×TypeId×Nat)):List (Nat×Operand)→List AV→Option (List AV)
  | [],cs=>some cs
  | (i,x) :: ps,cs=>match evF st x,fldF fs i with
    | some v,some (off,_,sz)=>match v.inVar,lenF v.cells sz,putF cs off v.cells with
      | true,true,some cs'=>buildF st fs ps cs'
      | _,_,_=>none
    | _,_=>none
theorem buildF_ok {st:St} {fs:List (Nat×TypeId×Nat)} : ∀ {ps:List (Nat×Operand)} {cs r:List AV},buildF st fs ps cs=some r→BuildR st fs ps cs r
  | [],cs,r,h=>by simp only [buildF] at h;cases h;exact .nil
  | (i,x) :: ps,cs,r,h=>by
    simp only [buildF] at h
    split at h
    · rename_i v off ft sz h1 h2
      split at h
      · rename_i cs' h3 h4 h5
        exact .cons (evF_ok h1) h3 (fldF_ok h2) (lenF_ok h4) (putF_ok h5) (buildF_ok h)
      · cases h
    · cases h
def sameK (k k':IntKind):Bool:=decide (k=k')
def arF (k:IntKind) (n:Int):AV:=match k with
  | .i64=>.int .i64 (wrap64 n)
  | k=>.int k (k.wrap n)
theorem arF_eq (k:IntKind) (n:Int):arF k n = .int k (k.wrap n):=by
  unfold arF
  split
  · rw [wrap_eq]
  · rfl
def binF (tt:TypeId→Option TInfo) (op:BinOp) (t:TypeId) (x y:AV):Option AV:=match x,y with
  | .int k a, .int k' b=>match sameK k k' with
    | true=>match op with
      | .add=>fz (arF k (a + b)) some
      | .sub=>fz (arF k (a - b)) some
      | .mul=>fz (arF k (a * b)) some
      | .and=>some (.int k (bits .and k a b))
      | .or=>some (.int k (bits .or k a b))
      | .xor=>some (.int k (bits .xor k a b))
      | .andNot=>some (.int k (bits .andNot k a b))
      | .eql=>some (.bool (a == b))
      | .neq=>some (.bool (a != b))
      | .lss=>some (.bool (decide (a < b)))
      | .leq=>some (.bool (decide (a≤b)))
      | .gtr=>some (.bool (decide (a > b)))
      | .geq=>some (.bool (decide (a ≥ b)))
      | _=>none
    | false=>none
  | .str a, .str b=>match op with
    | .eql=>some (.bool (a.toList == b.toList))
    | .neq=>some (.bool (!(a.toList == b.toList)))
    | _=>none
  | .bool a, .bool b=>match tt t with
    | some i=>match i.d,op with
      | .bool, .eql=>some (.bool (a == b))
      | .bool, .neq=>some (.bool (!(a == b)))
      | _,_=>none
    | none=>none
  | _,_=>none
theorem binF_ok {P:Program} {tt:TypeId→Option TInfo} [T:TT P tt] {op:BinOp} {t:TypeId} {x y r:AV} (h:binF tt op t x y=some r):BinR P op t x y r:=by
  unfold binF at h
  split at h
  · split at h
    · rename_i k a k' b _ hk
      obtain rfl:k=k':=of_decide_eq_true hk
      split at h <;> first
        | (rw [fz_eq,arF_eq] at h;cases h;first|exact .add|exact .sub|exact .mul)
        | (cases h;first|exact .band|exact .bor|exact .bxor|exact .bandNot|exact .eql|exact .neq|exact .lss|exact .leq|exact .gtr|exact .geq)
        | (cases h;done)
    · cases h
  · split at h <;> first|(cases h;first|exact .seql|exact .sneq)|(cases h;done)
  · split at h
    · rename_i i hi
      have:=T.ok _ _ hi
      split at h
      · rename_i hd;cases h;exact .beql hd
      · rename_i hd;cases h;exact .bneq hd
      · cases h
    · cases h
  · cases h
structure PF where
  v:AV
  b:Option Blk
  r:List Nat
  c:List (Nat×Nat)
def convF (d:TD) (x:AV):Option AV:=match d,x with
  | .int .i64, .int _ n=>some (.int .i64 (wrap64 n))
  | .int .u8, .int _ n=>some (.int .u8 (n % 256))
  | .int k, .int _ n=>some (.int k (k.wrap n))
  | _,_=>none
theorem convF_ok {P:Program} {st:St} {d:Nat} {s t:TypeId} {i j:TInfo} {x:Operand} {v r:AV} [TI P s i] [TI P t j] (hx:Ev st x v) (h:convF j.d v=some r):Pu P st d (.convert s t x) r none []:=by
  unfold convF at h
  split at h
  · rename_i hd;cases h;exact U.conv64 hd hx
  · rename_i hd;cases h;exact U.conv8 hd hx
  · rename_i hd;cases h;exact U.convI hd hx
  · cases h
def bz {β:Type} (b:Blk) (K:Nat→Mode→Row→TypeId→β):β:=match b with
  | ⟨u,m,r,e⟩=>K u m r e
theorem bz_eq {β:Type} (b:Blk) (K:Nat→Mode→Row→TypeId→β):bz b K=K b.ver b.mode b.row b.e:=rfl
def lf (c:List (Nat×Nat)):List Nat:=c.map (·.1)
def rt (c:List (Nat×Nat)):List Nat:=c.map (·.2)
def same (c:List (Nat×Nat)):Prop:=∀ p ∈ c,p.1=p.2
theorem same_of : ∀ {c:List (Nat×Nat)},lf c=rt c→same c
  | [],_,p,hp=>by cases hp
  | q :: c,h,p,hp=>by
    injection h with h1 h2
    rcases List.mem_cons.1 hp with rfl|hp
    · exact h1
    · exact same_of h2 p hp
def puF (tt:TypeId→Option TInfo) (st:St) (d:Nat):Op→Option PF
  | .move x=>match evF st x with
    | some v=>some ⟨v,none,[],[]⟩
    | none=>none
  | .assign x=>match evF st x with
    | some v=>some ⟨v,none,[],[]⟩
    | none=>none
  | .pick c x y=>match evF st c with
    | some (.bool true)=>match evF st x with
      | some v=>some ⟨v,none,[],[]⟩
      | none=>none
    | some (.bool false)=>match evF st y with
      | some v=>some ⟨v,none,[],[]⟩
      | none=>none
    | _=>none
  | .alloc e=>match tt e with
    | some i=>fz i.zeroV fun z=>bz (st.b d) fun u _ _ _=>some ⟨.op d (u + 1) 0 0,some ⟨u + 1, .own, .vals [z],e⟩,[],[]⟩
    | none=>none
  | .box e x=>match tt e,evF st x with
    | some i,some v=>match v.inVar,lenF v.cells i.size with
      | true,true=>bz (st.b d) fun u _ _ _=>some ⟨.op d (u + 1) 0 0,some ⟨u + 1, .own, .vals [v],e⟩,[],[]⟩
      | _,_=>none
    | _,_=>none
  | .load t x=>match tt t,evF st x with
    | some i,some (.op s u j o)=>bz (st.b s) fun u' m row _=>match m.live,rowF row j with
      | true,some w=>match partF i.agg i.size o w with
        | some v=>some ⟨v,none,[s],[(u',u)]⟩
        | none=>none
      | _,_=>none
    | some i,some (.fp w o)=>match partF i.agg i.size o w with
      | some v=>some ⟨v,none,[],[]⟩
      | none=>none
    | _,_=>none
  | .fieldAddr t x f=>match tt t,evF st x with
    | some i,some v=>match i.d with
      | .st fs=>match fldF fs f with
        | some (off,_,sz)=>match Nat.beq sz 0,v with
          | false, .op s u j o=>some ⟨.op s u j (o + off),none,[],[]⟩
          | false, .fp w o=>some ⟨.fp w (o + off),none,[],[]⟩
          | _,_=>none
        | none=>none
      | _=>none
    | _,_=>none
  | .extract x i=>match evF st x with
    | some (.tup vs)=>match getF vs i with
      | some v=>some ⟨v,none,[],[]⟩
      | none=>none
    | _=>none
  | .binOp op t x y _=>match evF st x,evF st y with
    | some a,some b=>match binF tt op t a b with
      | some v=>some ⟨v,none,[],[]⟩
      | none=>none
    | _,_=>none
  | .unOp .not _ x=>match evF st x with
    | some (.bool b)=>some ⟨.bool (!b),none,[],[]⟩
    | _=>none
  | .convert s t x=>match tt s,tt t,evF st x with
    | some _,some j,some v=>match convF j.d v with
      | some v=>some ⟨v,none,[],[]⟩
      | none=>none
    | _,_,_=>none
  | .build t ps=>match tt t with
    | some i=>match i.d with
      | .st fs=>match buildF st fs ps.toList i.zero with
        | some r=>some ⟨.agg r,none,[],[]⟩
        | none=>none
      | _=>none
    | none=>none
  | .nilCheck x=>match evF st x with
    | some (.op s u j o)=>some ⟨.op s u j o,none,[],[]⟩
    | some (.fp w o)=>some ⟨.fp w o,none,[],[]⟩
    | _=>none
  | _=>none
theorem puF_ok {P:Program} {tt:TypeId→Option TInfo} [T:TT P tt] {st:St} {d:Nat} {op:Op} {r:PF} (h:puF tt st d op=some r) (hc:same r.c):Pu P st d op r.v r.b r.r:=by
  unfold puF at h
  split at h
  · split at h
    · rename_i v hv;cases h;exact .move (evF_ok hv)
    · cases h
  · split at h
    · rename_i v hv;cases h;exact .assign (evF_ok hv)
    · cases h
  · split at h
    · rename_i hb
      split at h
      · rename_i v hv;cases h;exact .pickT (evF_ok hb) (evF_ok hv)
      · cases h
    · rename_i hb
      split at h
      · rename_i v hv;cases h;exact .pickF (evF_ok hb) (evF_ok hv)
      · cases h
    · cases h
  · split at h
    · rename_i i hi
      have:=T.ok _ _ hi
      rw [fz_eq,bz_eq] at h
      cases h
      exact .alloc
    · cases h
  · split at h
    · rename_i i v hi hv
      have:=T.ok _ _ hi
      split at h
      · rename_i h1 h2
        rw [bz_eq] at h
        cases h
        exact .box (evF_ok hv) h1 (lenF_ok h2)
      · cases h
    · cases h
  · split at h
    · rename_i i s u j o hi hx
      have:=T.ok _ _ hi
      rw [bz_eq] at h
      split at h
      · rename_i w h1 h2
        split at h
        · rename_i v h3
          cases h
          refine .load (evF_ok hx) (hc _ (List.mem_singleton.2 rfl)) (Mode.live_ne h1) ?_
          rw [rowF_ok h2]
          exact partF_ok h3
        · cases h
      · cases h
    · rename_i i w o hi hx
      have:=T.ok _ _ hi
      split at h
      · rename_i v h3;cases h;exact .loadR (evF_ok hx) (partF_ok h3)
      · cases h
    · cases h
  · split at h
    · rename_i i v hi hx
      have:=T.ok _ _ hi
      split at h
      · rename_i fs hd
        split at h
        · rename_i off ft sz hf
          have hz:Nat.beq sz 0=false→sz≠0:=fun e h=>by subst h;cases e
          split at h
          · rename_i hs;cases h;exact .fieldA hd (fldF_ok hf) (hz hs) (evF_ok hx) rfl
          · rename_i hs;cases h;exact .fieldR hd (fldF_ok hf) (hz hs) (evF_ok hx) rfl
          · cases h
        · cases h
      · cases h
    · cases h
  · split at h
    · rename_i vs hx
      split at h
      · rename_i v hv;cases h;exact .extract (evF_ok hx) (getF_ok hv)
      · cases h
    · cases h
  · split at h
    · rename_i a b ha hb
      split at h
      · rename_i v hv;cases h;exact .bin (evF_ok ha) (evF_ok hb) (binF_ok hv)
      · cases h
    · cases h
  · split at h
    · rename_i b hb;cases h;exact .un (evF_ok hb) .not
    · cases h
  · split at h
    · rename_i i j v hi hj hv
      have:=T.ok _ _ hi
      have:=T.ok _ _ hj
      split at h
      · rename_i w hw;cases h;exact convF_ok (evF_ok hv) hw
      · cases h
    · cases h
  · split at h
    · rename_i i hi
      have:=T.ok _ _ hi
      split at h
      · rename_i fs hd
        split at h
        · rename_i q hq;cases h;exact .build hd (buildF_ok hq)
        · cases h
      · cases h
    · cases h
  · split at h
    · rename_i hv;cases h;exact .nilC (evF_ok hv)
    · rename_i hv;cases h;exact .nilCR (evF_ok hv)
    · cases h
  · cases h
structure SF where
  st:St
  c:List (Nat×Nat)
  w:List Nat
  r:List Nat
def goF (ops:Array Oper) (st:St):Option (Nat×Bool)→Option Bool
  | none=>some true
  | some (j,want)=>match dstAt ops j with
    | some t=>match st.t t,want with
      | .bool true,true=>some true
      | .bool false,false=>some true
      | .bool true,false=>some false
      | .bool false,true=>some false
      | .nob true,true=>some false
      | .nob false,false=>some false
      | _,_=>none
    | none=>none
theorem goF_ok {ops:Array Oper} {st:St} {g:Option (Nat×Bool)} {b:Bool} (h:goF ops st g=some b):Wt ops st g b:=by
  unfold goF at h
  split at h
  · cases h;exact .no
  · split at h
    · rename_i t ht
      split at h <;> first
        | (rename_i hv;cases h;first|exact .yes ht hv|exact .nob ht hv)
        | (cases h;done)
    · cases h
def storeF (tt:TypeId→Option TInfo) (st:St) (t:TypeId) (x y:Operand):Option (Nat×Blk×List (Nat×Nat)):=match tt t,evF st x,evF st y with
  | some i,some (.op s u j o),some v=>bz (st.b s) fun u' m row e=>match m.wr,row,j,v.inVar,lenF v.cells i.size with
    | true, .vals [e0],0,true,true=>match putVF e0 o v with
      | some e1=>some (s,⟨u',m, .vals [e1],e⟩,[(u',u)])
      | none=>none
    | _,_,_,_,_=>none
  | _,_,_=>none
theorem storeF_ok {P:Program} {tt:TypeId→Option TInfo} [T:TT P tt] {st:St} {d:Nat} {t:TypeId} {x y:Operand} {s:Nat} {b:Blk} {c:List (Nat×Nat)} (h:storeF tt st t x y=some (s,b,c)) (hc:same c) :
    EfC P st d (.store t x y) .bad (fun B=>upd B s b) [s] [s]:=by
  unfold storeF at h
  split at h
  · rename_i i s' u j o v hi hx hy
    have:=T.ok _ _ hi
    rw [bz_eq] at h
    split at h
    · rename_i e0 h1 h2 h3 h4
      split at h
      · rename_i e1 h5
        cases h
        have hu:=hc _ (List.mem_singleton.2 rfl)
        have hg:(st.b s).row.get 0=e0:=by rw [h2];rfl
        have:=C.store (P:=P) (d:=d) (t:=t) (row':=.vals [e1]) (evF_ok hx) hu h1 (evF_ok hy) h3 (lenF_ok h4) (by rw [hg];exact putVF_ok h5) (by rw [h2];exact .one)
        exact this
      · cases h
    · cases h
  · cases h
def stF (tt:TypeId→Option TInfo) (ops:Array Oper) (st:St) (o:Oper):Option SF:=match goF ops st o.guard with
  | some true=>match o.op with
    | .store t x y=>match storeF tt st t x y with
      | some (s,b,c)=>some ⟨St.puto ⟨st.t,upd st.b s b⟩ o.dst .bad,c,[s],[s]⟩
      | none=>none
    | op=>match o.dst with
      | some d=>match puF tt st d op with
        | some ⟨v,none,r,c⟩=>some ⟨st.put d v,c,[],r⟩
        | some ⟨v,some b,r,c⟩=>some ⟨(st.putb d b).put d v,c,[d],d :: r⟩
        | none=>none
      | none=>match puF tt st 0 op with
        | some ⟨_,none,r,c⟩=>some ⟨st,c,[],r⟩
        | _=>none
  | some false=>some ⟨st.puto o.dst .bad,[],[],[]⟩
  | none=>none
section
variable {P : Program} {tt : TypeId → Option TInfo} [T : TT P tt] {ops : Array Oper} {st : St} {K : St → Prop}
theorem stF_Nd {o:Oper} {r:SF} (h:stF tt ops st o=some r) (hc:same r.c) : ∃ f,Nd P ops st o f (some r.w) r.r∧f st=r.st:=by
  unfold stF at h
  split at h
  · rename_i hg
    have hg:=goF_ok hg
    split at h
    · rename_i t x y ho
      split at h
      · rename_i s b c hs
        cases h
        refine ⟨_, .efc hg (by rw [ho];exact storeF_ok hs hc),rfl⟩
      · cases h
    · split at h
      · rename_i d hd
        split at h
        · rename_i v r' c hp
          cases h
          have hp:=puF_ok (P:=P) hp hc
          refine ⟨_, .pu hg (by rw [hd];exact hp),by rw [hd];rfl⟩
        · rename_i v b r' c hp
          cases h
          have hp:=puF_ok (P:=P) hp hc
          refine ⟨_, .puB hg hd hp,by rw [hd];rfl⟩
        · cases h
      · rename_i hd
        split at h
        · rename_i v r' c hp
          cases h
          have hp:=puF_ok (P:=P) hp hc
          refine ⟨_, .pu hg (by rw [hd];exact hp),by rw [hd];rfl⟩
        · cases h
  · rename_i hg
    cases h
    exact ⟨_, .skip (goF_ok hg),rfl⟩
  · cases h
theorem stF_O {o:Oper} {os:List Oper} {r:SF} (h:stF tt ops st o=some r) (hc:same r.c) (k:WO P ops os r.st K):WO P ops (o :: os) st K:=by
  obtain ⟨f,hn,e⟩:=stF_Nd (P:=P) h hc
  exact ⟨hn.sem st (fun e=>by cases e) (fun _ _=>rfl) (fun _ _=>rfl) _ (by rw [e];exact k.x)⟩
theorem stF_D {o:Oper} {os:List Oper} {fr:List (Option (List Nat)×List Nat)} {r:SF} (h:stF tt ops st o=some r) (hc:same r.c) (k:WD P ops ((some r.w,r.r) :: fr) os r.st K):WD P ops fr (o :: os) st K:=by
  obtain ⟨f,hn,e⟩:=stF_Nd (P:=P) h hc
  exact ⟨⟨f,_,_,hn,by rw [e];exact k.x⟩⟩
def rnF (tt:TypeId→Option TInfo) (ops:Array Oper):Nat→List Oper→St→List (Nat×Nat)→Option (List Oper×St×List (Nat×Nat))
  | 0,os,st,c=>some (os,st,c)
  | n + 1,o :: os,st,c=>match stF tt ops st o with
    | some ⟨st',c',_,_⟩=>rnF tt ops n os st' (c' ++ c)
    | none=>none
  | _ + 1,[],_,_=>none
theorem rnF_ok : ∀ {n:Nat} {os os':List Oper} {st st':St} {c c':List (Nat×Nat)},rnF tt ops n os st c=some (os',st',c')→same c'→same c∧(WO P ops os' st' K→WO P ops os st K)
  | 0,os,os',st,st',c,c',h,hc=>by simp only [rnF] at h;cases h;exact ⟨hc,id⟩
  | n + 1,[],os',st,st',c,c',h,hc=>by simp only [rnF] at h;cases h
  | n + 1,o :: os,os',st,st',c,c',h,hc=>by
    simp only [rnF] at h
    split at h
    · rename_i st1 c1 w1 r1 hs
      obtain ⟨h1,h2⟩:=rnF_ok h hc
      exact ⟨fun p hp=>h1 p (List.mem_append_right _ hp),fun k=>stF_O hs (fun p hp=>h1 p (List.mem_append_left _ hp)) (h2 k)⟩
    · cases h
def rdF (tt:TypeId→Option TInfo) (ops:Array Oper):Nat→List Oper→List (Option (List Nat)×List Nat)→St→List (Nat×Nat)→Option (List Oper×List (Option (List Nat)×List Nat)×St×List (Nat×Nat))
  | 0,os,fr,st,c=>some (os,fr,st,c)
  | n + 1,o :: os,fr,st,c=>match stF tt ops st o with
    | some ⟨st',c',w,r⟩=>rdF tt ops n os ((some w,r) :: fr) st' (c' ++ c)
    | none=>none
  | _ + 1,[],_,_,_=>none
theorem rdF_ok : ∀ {n:Nat} {os os':List Oper} {fr fr':List (Option (List Nat)×List Nat)} {st st':St} {c c':List (Nat×Nat)},rdF tt ops n os fr st c=some (os',fr',st',c')→same c'→same c∧(WD P ops fr' os' st' K→WD P ops fr os st K)
  | 0,os,os',fr,fr',st,st',c,c',h,hc=>by simp only [rdF] at h;cases h;exact ⟨hc,id⟩
  | n + 1,[],os',fr,fr',st,st',c,c',h,hc=>by simp only [rdF] at h;cases h
  | n + 1,o :: os,os',fr,fr',st,st',c,c',h,hc=>by
    simp only [rdF] at h
    split at h
    · rename_i st1 c1 w1 r1 hs
      obtain ⟨h1,h2⟩:=rdF_ok h hc
      exact ⟨fun p hp=>h1 p (List.mem_append_right _ hp),fun k=>stF_D hs (fun p hp=>h1 p (List.mem_append_left _ hp)) (h2 k)⟩
    · cases h
theorem O.run (n:Nat) {os os':List Oper} {st':St} {c:List (Nat×Nat)} (h:rnF tt ops n os st []=some (os',st',c)) (hc:lf c=rt c) (k:WO P ops os' st' K):WO P ops os st K:=(rnF_ok h (same_of hc)).2 k
theorem O.end (n:Nat) {os:List Oper} {st':St} {c:List (Nat×Nat)} (h:rnF tt ops n os st []=some ([],st',c)) (hc:lf c=rt c) (k:K st'):WO P ops os st K:=(rnF_ok h (same_of hc)).2 (O.nil k)
theorem D.run (n:Nat) {os os':List Oper} {fr fr':List (Option (List Nat)×List Nat)} {st':St} {c:List (Nat×Nat)} (h:rdF tt ops n os fr st []=some (os',fr',st',c)) (hc:lf c=rt c) (k:WD P ops fr' os' st' K):WD P ops fr os st K:=(rdF_ok h (same_of hc)).2 k
theorem D.end (n:Nat) {os:List Oper} {fr fr':List (Option (List Nat)×List Nat)} {st':St} {c:List (Nat×Nat)} (h:rdF tt ops n os fr st []=some ([],fr',st',c)) (hc:lf c=rt c) (hd:comOk ops fr'.reverse=true) (k:K st'):WD P ops fr os st K:=(rdF_ok h (same_of hc)).2 (D.nil hd k)
variable {Q : Out → St → Prop} {y : Code} {id : Nat}
theorem X.sO (n:Nat) {os':List Oper} {st':St} {c:List (Nat×Nat)} (h:rnF tt ops n ops.toList st []=some (os',st',c)) (hc:lf c=rt c) (k:WO P ops os' st' (fun s=>WC P y s Q)):WC P (.seq (.region id ops false) y) st Q:=X.seq (X.still (O.run n h hc k))
theorem X.sA (n:Nat) {st':St} {c:List (Nat×Nat)} (h:rnF tt ops n ops.toList st []=some ([],st',c)) (hc:lf c=rt c) (k:WC P y st' Q):WC P (.seq (.region id ops false) y) st Q:=X.seq (X.still (O.end n h hc k))
theorem X.sD (n:Nat) {os':List Oper} {fr':List (Option (List Nat)×List Nat)} {st':St} {c:List (Nat×Nat)} (h:rdF tt ops n ops.toList [] st []=some (os',fr',st',c)) (hc:lf c=rt c) (k:WD P ops fr' os' st' (fun s=>WC P y s Q)):WC P (.seq (.region id ops true) y) st Q:=X.seq (X.drawn (D.run n h hc k))
theorem X.sE (n:Nat) {fr':List (Option (List Nat)×List Nat)} {st':St} {c:List (Nat×Nat)} (h:rdF tt ops n ops.toList [] st []=some ([],fr',st',c)) (hc:lf c=rt c) (hd:comOk ops fr'.reverse=true) (k:WC P y st' Q):WC P (.seq (.region id ops true) y) st Q:=X.seq (X.drawn (D.end n h hc hd k))
end
end Go.AVL
end

section
namespace Go.AVL
inductive BT where
  | leaf (k:Nat) (i:TInfo)
  | node (k:Nat) (l r:BT)
def BT.find (t:Nat):BT→Option TInfo
  | .leaf k i=>match Nat.beq t k with
    | true=>some i
    | false=>none
  | .node k l r=>match Nat.blt t k with
    | true=>l.find t
    | false=>r.find t
def BT.All (p:Nat→TInfo→Prop):BT→Prop
  | .leaf k i=>p k i
  | .node _ l r=>l.All p∧r.All p
theorem BT.find_ok {p:Nat→TInfo→Prop} {t:Nat} {i:TInfo} : ∀ {b:BT},b.All p→b.find t=some i→p t i
  | .leaf k j,h,e=>by
    simp only [BT.find] at e
    split at e
    · rename_i hk;cases e;rw [Nat.eq_of_beq_eq_true hk];exact h
    · cases e
  | .node k l r,h,e=>by
    simp only [BT.find] at e
    split at e
    · exact BT.find_ok h.1 e
    · exact BT.find_ok h.2 e
end Go.AVL
namespace Go.Proofs.YtakidmbnkkhojaaGreat
open Go.AVL Go.RowKit
set_option linter.unusedVariables false
abbrev i2:TInfo:=⟨false,1,8,[.int .i64 0], .int .i64⟩
abbrev i3:TInfo:=⟨false,1,8,[.int .i64 0], .int .i64⟩
abbrev i4:TInfo:=⟨false,1,1,[.bool false], .bool⟩
abbrev i5:TInfo:=⟨false,1,1,[.int .u8 0], .int .u8⟩
abbrev i6:TInfo:=⟨false,1,1,[.int .u8 0], .int .u8⟩
abbrev i7:TInfo:=⟨true,4,24,[.int .i64 0, .int .i64 0, .bool false, .int .u8 0], .st [(0,2,1),(1,3,1),(2,4,1),(3,6,1)]⟩
abbrev i8:TInfo:=⟨true,4,24,[.int .i64 0, .int .i64 0, .bool false, .int .u8 0], .st [(0,2,1),(1,3,1),(2,4,1),(3,6,1)]⟩
abbrev i9:TInfo:=⟨false,1,16,[.str .empty], .str⟩
abbrev i10:TInfo:=⟨false,1,16,[.str .empty], .str⟩
abbrev i11:TInfo:=⟨false,1,16,[.str .empty], .str⟩
abbrev i12:TInfo:=⟨false,1,8,[.int .u64 0], .int .u64⟩
abbrev i13:TInfo:=⟨true,2,24,[.str .empty, .int .u64 0], .st [(0,9,1),(1,12,1)]⟩
abbrev i14:TInfo:=⟨true,2,24,[.str .empty, .int .u64 0], .st [(0,9,1),(1,12,1)]⟩
abbrev i15:TInfo:=⟨false,1,8,[.bad], .ptr 206⟩
abbrev i16:TInfo:=⟨false,1,8,[.bad], .ptr 209⟩
abbrev i17:TInfo:=⟨false,1,8,[.bad], .ptr 216⟩
abbrev i18:TInfo:=⟨true,1,8,[.bad], .st [(0,17,1)]⟩
abbrev i19:TInfo:=⟨true,1,8,[.bad], .st [(0,17,1)]⟩
abbrev i21:TInfo:=⟨false,1,4,[.int .i32 0], .int .i32⟩
abbrev i22:TInfo:=⟨true,3,24,[.int .i64 0, .int .i64 0, .int .i64 0], .arr 3 3⟩
abbrev i23:TInfo:=⟨false,1,2,[.int .u16 0], .int .u16⟩
abbrev i24:TInfo:=⟨false,1,24,[.fi .i16 []], .sl 64⟩
abbrev i25:TInfo:=⟨true,7,88,[.int .i64 0, .int .i64 0, .int .i64 0, .int .u16 0, .fi .i16 [], .fi .i16 [], .int .u8 0], .st [(0,22,3),(3,23,1),(4,24,1),(5,24,1),(6,5,1)]⟩
abbrev i26:TInfo:=⟨true,7,88,[.int .i64 0, .int .i64 0, .int .i64 0, .int .u16 0, .fi .i16 [], .fi .i16 [], .int .u8 0], .st [(0,22,3),(3,23,1),(4,24,1),(5,24,1),(6,5,1)]⟩
abbrev i27:TInfo:=⟨true,3,24,[.int .i64 0, .int .i64 0, .int .i64 0], .st [(0,3,1),(1,3,1),(2,3,1)]⟩
abbrev i28:TInfo:=⟨true,3,24,[.int .i64 0, .int .i64 0, .int .i64 0], .st [(0,3,1),(1,3,1),(2,3,1)]⟩
abbrev i29:TInfo:=⟨false,1,24,[.fv []], .sl 28⟩
abbrev i30:TInfo:=⟨true,14,160,[.int .i64 0, .int .i64 0, .int .i64 0, .int .u16 0, .fi .i16 [], .fi .i16 [], .int .u8 0, .int .i64 0, .int .i64 0, .int .i64 0, .int .i64 0, .int .i64 0, .int .i64 0, .fv []], .st [(0,26,7),(7,28,3),(10,28,3),(13,29,1)]⟩
abbrev i31:TInfo:=⟨true,14,160,[.int .i64 0, .int .i64 0, .int .i64 0, .int .u16 0, .fi .i16 [], .fi .i16 [], .int .u8 0, .int .i64 0, .int .i64 0, .int .i64 0, .int .i64 0, .int .i64 0, .int .i64 0, .fv []], .st [(0,26,7),(7,28,3),(10,28,3),(13,29,1)]⟩
abbrev i37:TInfo:=⟨true,14,144,[.int .i64 0, .int .i64 0, .int .i64 0, .int .u16 0, .fi .i16 [], .fi .i16 [], .int .u8 0, .int .i64 0, .int .i64 0, .int .i64 0, .int .i64 0, .int .i64 0, .int .i64 0, .int .i64 0], .st [(0,26,7),(7,28,3),(10,28,3),(13,3,1)]⟩
abbrev i38:TInfo:=⟨true,14,144,[.int .i64 0, .int .i64 0, .int .i64 0, .int .u16 0, .fi .i16 [], .fi .i16 [], .int .u8 0, .int .i64 0, .int .i64 0, .int .i64 0, .int .i64 0, .int .i64 0, .int .i64 0, .int .i64 0], .st [(0,26,7),(7,28,3),(10,28,3),(13,3,1)]⟩
abbrev i39:TInfo:=⟨false,1,24,[.fv []], .sl 55⟩
abbrev i40:TInfo:=⟨false,1,8,[.int .i64 0], .int .i64⟩
abbrev i43:TInfo:=⟨false,1,24,[.fi .u64 []], .sl 102⟩
abbrev i44:TInfo:=⟨true,1,24,[.fi .u64 []], .st [(0,43,1)]⟩
abbrev i45:TInfo:=⟨true,1,24,[.fi .u64 []], .st [(0,43,1)]⟩
abbrev i46:TInfo:=⟨true,2,32,[.fi .u64 [], .bool false], .st [(0,45,1),(1,4,1)]⟩
abbrev i47:TInfo:=⟨true,2,32,[.fi .u64 [], .bool false], .st [(0,45,1),(1,4,1)]⟩
abbrev i48:TInfo:=⟨true,3,56,[.fi .u64 [], .bool false, .fi .u64 []], .st [(0,47,2),(2,45,1)]⟩
abbrev i49:TInfo:=⟨true,3,56,[.fi .u64 [], .bool false, .fi .u64 []], .st [(0,47,2),(2,45,1)]⟩
abbrev i52:TInfo:=⟨false,1,8,[.int .i64 0], .int .i64⟩
abbrev i54:TInfo:=⟨true,6,48,[.int .i64 0, .int .i64 0, .int .i64 0, .int .i64 0, .int .i64 0, .int .i64 0], .st [(0,28,3),(3,28,3)]⟩
abbrev i55:TInfo:=⟨true,6,48,[.int .i64 0, .int .i64 0, .int .i64 0, .int .i64 0, .int .i64 0, .int .i64 0], .st [(0,28,3),(3,28,3)]⟩
abbrev i58:TInfo:=⟨false,1,24,[.fv []], .sl 91⟩
abbrev i61:TInfo:=⟨false,1,24,[.fv []], .sl 49⟩
abbrev i62:TInfo:=⟨false,1,24,[.fv []], .sl 71⟩
abbrev i64:TInfo:=⟨false,1,2,[.int .i16 0], .int .i16⟩
abbrev i67:TInfo:=⟨false,1,24,[.fi .i64 []], .sl 3⟩
abbrev i68:TInfo:=⟨true,2,32,[.fi .i64 [], .bool false], .st [(0,67,1),(1,4,1)]⟩
abbrev i69:TInfo:=⟨true,2,32,[.fi .i64 [], .bool false], .st [(0,67,1),(1,4,1)]⟩
abbrev i70:TInfo:=⟨true,3,56,[.fi .i64 [], .bool false, .fi .i64 []], .st [(0,69,2),(2,67,1)]⟩
abbrev i71:TInfo:=⟨true,3,56,[.fi .i64 [], .bool false, .fi .i64 []], .st [(0,69,2),(2,67,1)]⟩
abbrev i81:TInfo:=⟨false,1,24,[.fi .i64 []], .sl 52⟩
abbrev i91:TInfo:=⟨true,6,48,[.int .i64 0, .int .i64 0, .int .i64 0, .int .i64 0, .int .i64 0, .int .i64 0], .st [(0,28,3),(3,28,3)]⟩
abbrev i102:TInfo:=⟨false,1,8,[.int .u64 0], .int .u64⟩
abbrev i123:TInfo:=⟨false,1,8,[.int .u64 0], .int .u64⟩
abbrev i138:TInfo:=⟨false,1,24,[.fv []], .sl 9⟩
abbrev i141:TInfo:=⟨false,1,8,[.bad], .ptr 144⟩
abbrev i142:TInfo:=⟨false,1,24,[.fi .u8 []], .sl 5⟩
abbrev i143:TInfo:=⟨true,2,32,[.bad, .fi .u8 []], .st [(0,141,1),(1,142,1)]⟩
abbrev i144:TInfo:=⟨true,2,32,[.bad, .fi .u8 []], .st [(0,141,1),(1,142,1)]⟩
abbrev i156:TInfo:=⟨false,1,8,[.int .i64 0], .int .i64⟩
abbrev i164:TInfo:=⟨false,1,4,[.int .u32 0], .int .u32⟩
abbrev i166:TInfo:=⟨true,12,96,[.int .i64 0, .int .i64 0, .int .i64 0, .int .i64 0, .int .i64 0, .int .i64 0, .int .i64 0, .int .i64 0, .int .i64 0, .int .i64 0, .int .i64 0, .int .i64 0], .arr 12 3⟩
abbrev i180:TInfo:=⟨true,20,20,[.int .u8 0, .int .u8 0, .int .u8 0, .int .u8 0, .int .u8 0, .int .u8 0, .int .u8 0, .int .u8 0, .int .u8 0, .int .u8 0, .int .u8 0, .int .u8 0, .int .u8 0, .int .u8 0, .int .u8 0, .int .u8 0, .int .u8 0, .int .u8 0, .int .u8 0, .int .u8 0], .arr 20 5⟩
abbrev i181:TInfo:=⟨false,1,8,[.bad], .ptr 5⟩
abbrev i185:TInfo:=⟨false,1,8,[.int .u64 0], .int .u64⟩
abbrev i189:TInfo:=⟨false,1,8,[.bad], .ptr 3⟩
abbrev i200:TInfo:=⟨false,1,8,[.bad], .ptr 185⟩
abbrev i204:TInfo:=⟨false,1,8,[.bad], .ptr 218⟩
abbrev i205:TInfo:=⟨true,4,40,[.bad, .bad, .bad, .str .empty], .st [(0,17,1),(1,17,1),(2,17,1),(3,9,1)]⟩
abbrev i206:TInfo:=⟨true,4,40,[.bad, .bad, .bad, .str .empty], .st [(0,17,1),(1,17,1),(2,17,1),(3,9,1)]⟩
abbrev i207:TInfo:=⟨true,0,0,[], .arr 0 16⟩
abbrev i208:TInfo:=⟨true,0,0,[], .st [(0,207,0)]⟩
abbrev i209:TInfo:=⟨true,0,0,[], .st [(0,207,0)]⟩
abbrev i210:TInfo:=⟨false,1,1,[.int .u8 0], .int .u8⟩
abbrev i211:TInfo:=⟨false,1,1,[.int .u8 0], .int .u8⟩
abbrev i213:TInfo:=⟨false,1,4,[.int .i32 0], .int .i32⟩
abbrev i214:TInfo:=⟨false,1,4,[.int .i32 0], .int .i32⟩
abbrev i217:TInfo:=⟨true,1,16,[.str .empty], .st [(0,9,1)]⟩
abbrev i218:TInfo:=⟨true,1,16,[.str .empty], .st [(0,9,1)]⟩
def ttT:BT:=.node 52 (.node 23 (.node 12 (.node 7 (.node 4 (.node 3 (.leaf 2 i2) (.leaf 3 i3)) (.node 5 (.leaf 4 i4) (.node 6 (.leaf 5 i5) (.leaf 6 i6)))) (.node 9 (.node 8 (.leaf 7 i7) (.leaf 8 i8)) (.node 10 (.leaf 9 i9) (.node 11 (.leaf 10 i10) (.leaf 11 i11))))) (.node 17 (.node 14 (.node 13 (.leaf 12 i12) (.leaf 13 i13)) (.node 15 (.leaf 14 i14) (.node 16 (.leaf 15 i15) (.leaf 16 i16)))) (.node 19 (.node 18 (.leaf 17 i17) (.leaf 18 i18)) (.node 21 (.leaf 19 i19) (.node 22 (.leaf 21 i21) (.leaf 22 i22)))))) (.node 38 (.node 28 (.node 25 (.node 24 (.leaf 23 i23) (.leaf 24 i24)) (.node 26 (.leaf 25 i25) (.node 27 (.leaf 26 i26) (.leaf 27 i27)))) (.node 30 (.node 29 (.leaf 28 i28) (.leaf 29 i29)) (.node 31 (.leaf 30 i30) (.node 37 (.leaf 31 i31) (.leaf 37 i37))))) (.node 45 (.node 40 (.node 39 (.leaf 38 i38) (.leaf 39 i39)) (.node 43 (.leaf 40 i40) (.node 44 (.leaf 43 i43) (.leaf 44 i44)))) (.node 47 (.node 46 (.leaf 45 i45) (.leaf 46 i46)) (.node 48 (.leaf 47 i47) (.node 49 (.leaf 48 i48) (.leaf 49 i49))))))) (.node 144 (.node 70 (.node 62 (.node 55 (.node 54 (.leaf 52 i52) (.leaf 54 i54)) (.node 58 (.leaf 55 i55) (.node 61 (.leaf 58 i58) (.leaf 61 i61)))) (.node 67 (.node 64 (.leaf 62 i62) (.leaf 64 i64)) (.node 68 (.leaf 67 i67) (.node 69 (.leaf 68 i68) (.leaf 69 i69))))) (.node 123 (.node 81 (.node 71 (.leaf 70 i70) (.leaf 71 i71)) (.node 91 (.leaf 81 i81) (.node 102 (.leaf 91 i91) (.leaf 102 i102)))) (.node 141 (.node 138 (.leaf 123 i123) (.leaf 138 i138)) (.node 142 (.leaf 141 i141) (.node 143 (.leaf 142 i142) (.leaf 143 i143)))))) (.node 205 (.node 181 (.node 164 (.node 156 (.leaf 144 i144) (.leaf 156 i156)) (.node 166 (.leaf 164 i164) (.node 180 (.leaf 166 i166) (.leaf 180 i180)))) (.node 189 (.node 185 (.leaf 181 i181) (.leaf 185 i185)) (.node 200 (.leaf 189 i189) (.node 204 (.leaf 200 i200) (.leaf 204 i204))))) (.node 210 (.node 207 (.node 206 (.leaf 205 i205) (.leaf 206 i206)) (.node 208 (.leaf 207 i207) (.node 209 (.leaf 208 i208) (.leaf 209 i209)))) (.node 214 (.node 211 (.leaf 210 i210) (.node 213 (.leaf 211 i211) (.leaf 213 i213))) (.node 217 (.leaf 214 i214) (.node 218 (.leaf 217 i217) (.leaf 218 i218)))))))
theorem tt_all:ttT.All (fun t i=>TI Tryz.prog t i):=by
  unfold ttT
  simp only [BT.All]
  and_intros <;> infer_instance
instance:TT Tryz.prog (fun t=>ttT.find t):=⟨fun t i h=>BT.find_ok tt_all h⟩
abbrev ttf:TypeId→Option TInfo:=fun t=>ttT.find t
section
variable {ops : Array Oper} {st : St} {K : St → Prop} {Q : Out → St → Prop} {y : Code} {id : Nat} {os os' : List Oper} {fr fr' : List (Option (List Nat) × List Nat)} {st' : St} {c : List (Nat × Nat)}
theorem S.r (n:Nat) (h:rnF ttf ops n os st []=some (os',st',c)) (hc:lf c=rt c) (k:WO Tryz.prog ops os' st' K):WO Tryz.prog ops os st K:=O.run n h hc k
theorem S.e (n:Nat) (h:rnF ttf ops n os st []=some ([],st',c)) (hc:lf c=rt c) (k:K st'):WO Tryz.prog ops os st K:=O.end n h hc k
theorem S.d (n:Nat) (h:rdF ttf ops n os fr st []=some (os',fr',st',c)) (hc:lf c=rt c) (k:WD Tryz.prog ops fr' os' st' K):WD Tryz.prog ops fr os st K:=D.run n h hc k
theorem S.f (n:Nat) (h:rdF ttf ops n os fr st []=some ([],fr',st',c)) (hc:lf c=rt c) (hd:comOk ops fr'.reverse=true) (k:K st'):WD Tryz.prog ops fr os st K:=D.end n h hc hd k
theorem S.O (n:Nat) (h:rnF ttf ops n ops.toList st []=some (os',st',c)) (hc:lf c=rt c) (k:WO Tryz.prog ops os' st' (fun s=>WC Tryz.prog y s Q)):WC Tryz.prog (.seq (.region id ops false) y) st Q:=X.sO n h hc k
theorem S.A (n:Nat) (h:rnF ttf ops n ops.toList st []=some ([],st',c)) (hc:lf c=rt c) (k:WC Tryz.prog y st' Q):WC Tryz.prog (.seq (.region id ops false) y) st Q:=X.sA n h hc k
theorem S.D (n:Nat) (h:rdF ttf ops n ops.toList [] st []=some (os',fr',st',c)) (hc:lf c=rt c) (k:WD Tryz.prog ops fr' os' st' (fun s=>WC Tryz.prog y s Q)):WC Tryz.prog (.seq (.region id ops true) y) st Q:=X.sD n h hc k
theorem S.E (n:Nat) (h:rdF ttf ops n ops.toList [] st []=some ([],fr',st',c)) (hc:lf c=rt c) (hd:comOk ops fr'.reverse=true) (k:WC Tryz.prog y st' Q):WC Tryz.prog (.seq (.region id ops true) y) st Q:=X.sE n h hc hd k
end
end Go.Proofs.YtakidmbnkkhojaaGreat
end

section
namespace Go.AVL
open Go.RowKit
set_option linter.unusedVariables false
mutual
def clF:AV→Bool
  | .int _ _ | .bool _ | .str _ | .fi _ _ | .bad=>true
  | .agg cs | .tup cs=>clLF cs
  | _=>false
def clLF:List AV→Bool
  | []=>true
  | v :: vs=>match clF v with
    | true=>clLF vs
    | false=>false
end
mutual
theorem clF_ok : ∀ {v:AV},clF v=true→Cl v
  | .int _ _,_=>.int
  | .bool _,_=>.bool
  | .str _,_=>.str
  | .fi _ _,_=>.fi
  | .bad,_=>.bad
  | .agg cs,h=>.agg (clLF_ok (by simpa only [clF] using h))
  | .tup cs,h=>.tup (clLF_ok (by simpa only [clF] using h))
  | .fv _,h=>by simp only [clF] at h;cases h
  | .os ..,h=>by simp only [clF] at h;cases h
  | .oc ..,h=>by simp only [clF] at h;cases h
  | .op ..,h=>by simp only [clF] at h;cases h
  | .fp ..,h=>by simp only [clF] at h;cases h
  | .fn ..,h=>by simp only [clF] at h;cases h
  | .nob _,h=>by simp only [clF] at h;cases h
theorem clLF_ok : ∀ {vs:List AV},clLF vs=true→ClL vs
  | [],_=>ClL.nil
  | v :: vs,h=>by
    simp only [clLF] at h
    split at h
    · rename_i h1;exact ClL.cons (clF_ok h1) (clLF_ok h)
    · cases h
end
def evLF (st:St):List Operand→Option (List AV)
  | []=>some []
  | x :: xs=>match evF st x with
    | some v=>match evLF st xs with
      | some vs=>some (v :: vs)
      | none=>none
    | none=>none
theorem evLF_ok {st:St} : ∀ {xs:List Operand} {vs:List AV},evLF st xs=some vs→EvL st xs vs
  | [],vs,h=>by simp only [evLF] at h;cases h;exact .nil
  | x :: xs,vs,h=>by
    simp only [evLF] at h
    split at h
    · rename_i v hv
      split at h
      · rename_i us hu;cases h;exact .cons (evF_ok hv) (evLF_ok hu)
      · cases h
    · cases h
theorem snap_cl {st:St} {vs:List AV} (h:clLF vs=true):SnapL st [] vs vs:=⟨rfl,fun i hi=>.cl (clLF_ok h i hi)⟩
def rsF (tt:TypeId→Option TInfo) (st:St):List ResultVar→Option (List AV×List (Nat×Nat))
  | []=>some ([],[])
  | .tmp t :: rs=>fz (st.t t) fun v=>match rsF tt st rs with
    | some (vs,c)=>some (v :: vs,c)
    | none=>none
  | .cell x t :: rs=>match tt t,evF st (.tmp x) with
    | some i,some (.op s u j o)=>bz (st.b s) fun u' m row _=>match m.live,rowF row j with
      | true,some w=>match partF i.agg i.size o w with
        | some v=>match rsF tt st rs with
          | some (vs,c)=>some (v :: vs,(u',u) :: c)
          | none=>none
        | none=>none
      | _,_=>none
    | _,_=>none
theorem rsF_ok {P:Program} {tt:TypeId→Option TInfo} [T:TT P tt] {st:St} : ∀ {rs:List ResultVar} {vs:List AV} {c:List (Nat×Nat)},rsF tt st rs=some (vs,c)→same c→Rs P st rs vs
  | [],vs,c,h,hc=>by simp only [rsF] at h;cases h;exact .nil
  | .tmp t :: rs,vs,c,h,hc=>by
    simp only [rsF] at h
    rw [fz_eq] at h
    split at h
    · rename_i us c' hu;cases h;exact .tmp rfl (rsF_ok hu hc)
    · cases h
  | .cell x t :: rs,vs,c,h,hc=>by
    simp only [rsF] at h
    split at h
    · rename_i i s u j o hi hx
      have:=T.ok _ _ hi
      rw [bz_eq] at h
      have hx':st.t x = .op s u j o:=by
        have:=evF_ok hx
        cases this with
        | tmp h=>exact h
      split at h
      · rename_i w h1 h2
        split at h
        · rename_i v h3
          split at h
          · rename_i us c' hu
            cases h
            refine .cell hx' (hc _ (List.mem_cons_self ..)) (Mode.live_ne h1) ?_ (rsF_ok hu fun p hp=>hc p (List.mem_cons_of_mem _ hp))
            rw [rowF_ok h2]
            exact partF_ok h3
          · cases h
        · cases h
      · cases h
    · cases h
section
variable {P : Program} {ops : Array Oper} {os : List Oper} {st : St} {K : St → Prop} {d ty : Nat} {pos : String} {aft : Array Edge} {args : Array Operand} {ats : Array TypeId} {f : FuncId} {vs res : List AV} {fr : List (Option (List Nat) × List Nat)}
theorem O.c (hc:CS P f vs .no res) (h:evLF st args.toList=some vs) (hv:clLF vs=true) (hr:clF (AV.mk res)=true) (k:WO P ops os (st.put d (AV.mk res)) K):WO P ops (⟨some d, .call ⟨.value (.func f),args,ats⟩,ty,pos,aft,none⟩ :: os) st K :=
  O.pu (U.call (ss:=[]) (evLF_ok h) (snap_cl hv) hc (.inl rfl) (clF_ok hr)) k
theorem D.c (hc:CS P f vs .no res) (h:evLF st args.toList=some vs) (hv:clLF vs=true) (hr:clF (AV.mk res)=true) (k:WD P ops ((some [],[]) :: fr) os (st.put d (AV.mk res)) K):WD P ops fr (⟨some d, .call ⟨.value (.func f),args,ats⟩,ty,pos,aft,none⟩ :: os) st K :=
  D.pu (U.call (ss:=[]) (evLF_ok h) (snap_cl hv) hc (.inl rfl) (clF_ok hr)) k
end
end Go.AVL
namespace Go.Proofs.YtakidmbnkkhojaaGreat
open Go.AVL Go.RowKit
theorem S.R {fn:Func} {res:List AV} {st:St} {c:List (Nat×Nat)} (h:rsF ttf st fn.results.toList=some (res,c)) (hc:lf c=rt c) (hr:clLF res=true):Go.AVL.Ends (Go.AVL.Fin Tryz.prog fn res) st:=E.fin [] (rsF_ok h (same_of hc)) (snap_cl hr)
end Go.Proofs.YtakidmbnkkhojaaGreat
end

section
namespace Go.Proofs.YtakidmbnkkhojaaGreat
open Go.AVL Go.RowKit Go.Proofs.YtakidmbnkkhojaaGreat.F Go.Proofs.YtakidmbnkkhojaaGreatX Go.Proofs.YtakidmbnkkhojaaGreatW.PrintWords Go.Proofs.YtakidmbnkkhojaaGreatW.PrintLast Go.Proofs.YtakidmbnkkhojaaGreatW.PrintMore
set_option linter.unusedVariables false
set_option linter.unusedSimpArgs false
set_option maxRecDepth 100000
set_option maxHeartbeats 16000000
noncomputable def c118:Code:=Tryz.f118.body.getD .skip
theorem fn118:FnOk Tryz.prog 118 Tryz.f118 c118:=⟨Tryz.func118,rfl,by kernel_rfl,by kernel_rfl,mixed⟩
theorem bits_Mul32.cs {a0:Int} {a1:Int} {r:Int×Int} (h:bits_Mul32.f a0 a1=some r):CS Tryz.prog 118 [.int .u32 a0, .int .u32 a1] .no [.int .u32 r.1, .int .u32 r.2]:=by
  unfold bits_Mul32.f at h
  refine E.pure fn118 rfl ?_
  refine S.A 2 rfl rfl ?_
  refine S.A 6 rfl rfl ?_
  refine S.O 1 rfl rfl ?_
  refine O.pu (Pu.bin (.tmp rfl) .int (U.shrC 4294967296 (by decide) (by decide))) ?_
  refine S.e 5 rfl rfl ?_
  refine X.ret ?_
  cases h
  exact S.R rfl rfl rfl
noncomputable def c119:Code:=Tryz.f119.body.getD .skip
theorem fn119:FnOk Tryz.prog 119 Tryz.f119 c119:=⟨Tryz.func119,rfl,by kernel_rfl,by kernel_rfl,mixed⟩
theorem bits_Mul64.cs {a0:Int} {a1:Int} {r:Int×Int} (h:bits_Mul64.f a0 a1=some r):CS Tryz.prog 119 [.int .u64 a0, .int .u64 a1] .no [.int .u64 r.1, .int .u64 r.2]:=by
  unfold bits_Mul64.f at h
  refine E.pure fn119 rfl ?_
  refine S.A 2 rfl rfl ?_
  refine S.A 3 rfl rfl ?_
  refine S.O 1 rfl rfl ?_
  refine O.pu (Pu.bin (.tmp rfl) .int (U.shrC 4294967296 (by decide) (by decide))) ?_
  refine S.e 1 rfl rfl ?_
  refine S.A 3 rfl rfl ?_
  refine S.O 1 rfl rfl ?_
  refine O.pu (Pu.bin (.tmp rfl) .int (U.shrC 4294967296 (by decide) (by decide))) ?_
  refine S.e 1 rfl rfl ?_
  refine S.A 4 rfl rfl ?_
  refine S.O 4 rfl rfl ?_
  refine O.pu (Pu.bin (.tmp rfl) .int (U.shrC 4294967296 (by decide) (by decide))) ?_
  refine S.e 2 rfl rfl ?_
  refine S.A 3 rfl rfl ?_
  refine S.O 1 rfl rfl ?_
  refine O.pu (Pu.bin (.tmp rfl) .int (U.shrC 4294967296 (by decide) (by decide))) ?_
  refine S.e 1 rfl rfl ?_
  refine S.A 6 rfl rfl ?_
  refine S.O 6 rfl rfl ?_
  refine O.pu (Pu.bin (.tmp rfl) .int (U.shrC 4294967296 (by decide) (by decide))) ?_
  refine S.e 2 rfl rfl ?_
  refine S.A 4 rfl rfl ?_
  refine X.ret ?_
  cases h
  exact S.R rfl rfl rfl
noncomputable def c80:Code:=Tryz.f80.body.getD .skip
theorem fn80:FnOk Tryz.prog 80 Tryz.f80 c80:=⟨Tryz.func80,rfl,by kernel_rfl,by kernel_rfl,mixed⟩
theorem bits_Mul.cs {a0:Int} {a1:Int} {r:Int×Int} (h:bits_Mul.f a0 a1=some r):CS Tryz.prog 80 [.int .u64 a0, .int .u64 a1] .no [.int .u64 r.1, .int .u64 r.2]:=by
  unfold bits_Mul.f at h
  refine E.pure fn80 rfl ?_
  refine S.A 2 rfl rfl ?_
  refine X.seq ?_
  refine X.condF .bool ?_
  refine X.skip ?_
  refine S.O 2 rfl rfl ?_
  obtain ⟨q1,Hq1,h⟩:=Option.bind_eq_some_iff.1 h
  refine O.c (bits_Mul64.cs Hq1) rfl rfl rfl ?_
  refine S.e 5 rfl rfl ?_
  refine S.A 4 rfl rfl ?_
  refine X.ret ?_
  cases h
  exact S.R rfl rfl rfl
end Go.Proofs.YtakidmbnkkhojaaGreat
end

section
namespace Go.AVL
open Go.RowKit Go.Proofs.YtakidmbnkkhojaaGreatW.PrintWords
set_option linter.unusedVariables false
section
variable {P : Program} {w : World} {m : Nat → Reg}
def allOf (w:World):Nat→Prop:=fun k=>k < w.heap.size
theorem vr_reads {k:IntKind} {a:Option Addr} {cap:Nat} {l:List Int} (h:ReadsInt w k a l.length l) (hc:l.length≤cap):VR (allOf w) w noB m (.fi k l) (.slice a l.length cap):=by
  refine .fi k l a cap hc fun i hi=>?_
  obtain ⟨ad,e,hr⟩:=h.2.2 (by omega)
  have h0:=hr 0 (by omega)
  have hi':=hr i hi
  have hs:ad.spot=none:=by
    unfold World.cell? Addr.add at h0
    rw [if_pos rfl] at h0
    cases hsp:ad.spot with
    | none=>rfl
    | some s =>
      rw [hsp] at h0
      split at h0 <;> simp at h0
  have ha:ad.add i=⟨ad.block,ad.off + i,none⟩:=by
    unfold Addr.add
    by_cases hz:i=0
    · subst hz
      rw [if_pos rfl]
      cases ad with
      | mk b o s=>simp only at hs;rw [hs];rfl
    · rw [if_neg hz]
  rw [ha] at hi'
  refine ⟨ad,e,hs,?_,hi'⟩
  unfold World.cell? at hi'
  split at hi'
  · next c _ _ hb=>exact lt_of_some hb
  · cases hi'
inductive VRs (w:World) (m:Nat→Reg):List AV→List Value→Prop
  | nil:VRs w m [] []
  | cons {v V vs Vs}:VR (allOf w) w noB m v V→V.oneCell'=true→VRs w m vs Vs→VRs w m (v :: vs) (V :: Vs)
theorem VRs.spec {vs:List AV} {Vs:List Value} (h:VRs w m vs Vs):vs.length=Vs.length∧(∀ u ∈ Vs,u.oneCell'=true)∧∀ i,i < vs.length→VR (allOf w) w noB m (vs.getD i .bad) (Vs.getD i undef):=by
  induction h with
  | nil=>exact ⟨rfl,fun u hu=>by simp at hu,fun i hi=>absurd hi (Nat.not_lt_zero i)⟩
  | cons hv h1 _ ih =>
    obtain ⟨i1,i2,i3⟩:=ih
    refine ⟨by simp [i1],fun u hu=>?_,fun i hi=>?_⟩
    · rcases List.mem_cons.1 hu with rfl|hu
      · exact h1
      · exact i2 u hu
    · cases i with
      | zero=>exact hv
      | succ i=>exact i3 i (by simpa using hi)
theorem VRs.agg {vs:List AV} {Vs:List Value} (h:VRs w m vs Vs):VR (allOf w) w noB m (.agg vs) (.agg Vs.toArray):=by
  obtain ⟨h1,h2,h3⟩:=h.spec
  refine .agg vs _ (by simpa using h1) (by simpa using h2) fun i hi=>?_
  have:=h3 i hi
  simpa [Array.getD_eq_getD_getElem?,List.getD_eq_getElem?_getD] using this
inductive VRa (w:World) (m:Nat→Reg):List AV→List Value→Prop
  | nil:VRa w m [] []
  | cons {v V vs Vs}:VR (allOf w) w noB m v V→VRa w m vs Vs→VRa w m (v :: vs) (V :: Vs)
theorem VRa.spec {vs:List AV} {Vs:List Value} (h:VRa w m vs Vs):vs.length=Vs.length∧∀ i,i < vs.length→VR (allOf w) w noB m (vs.getD i .bad) (Vs.getD i undef):=by
  induction h with
  | nil=>exact ⟨rfl,fun i hi=>absurd hi (Nat.not_lt_zero i)⟩
  | cons hv _ ih =>
    refine ⟨by simp [ih.1],fun i hi=>?_⟩
    cases i with
    | zero=>exact hv
    | succ i=>exact ih.2 i (by simpa using hi)
theorem calls_of_cs {f:FuncId} {fn:Func} {code:Code} (hf:FnOk P f fn code) {args:List AV} {Vs:List Value} {res:List AV} (h:CS P f args .no res) (hv:VRa w (fun _=>default) args Vs) :
    Calls P f Vs.toArray w fun e w'=>∃ v,e = .returned v∧Below w.heap.size w w'∧∃ I' m',VR I' w' noB m' (AV.mk res) v:=by
  obtain ⟨h1,h2⟩:=hv.spec
  have hc:=h (allOf w) none w (fun _=>default) Vs.toArray (fun _=>rfl) (WR.fresh _ w _ fun k hk=>hk) (by simpa using h1.symm) fun i hi=>by
    have:=h2 i hi
    show VR (allOf w) w noB (fun _=>default) _ _
    simpa [Array.getD_eq_getD_getElem?,List.getD_eq_getElem?_getD] using this
  have he:(callFunc f Vs.toArray).run P w = .ok (.enter f Vs.toArray) w:=by
    have hn:=hf.name
    simp only [beq_eq_false_iff_ne,ne_eq] at hn
    simp [callFunc,program,Sem.run,hf.eq,hn,hf.body]
  unfold CallW at hc
  rw [he] at hc
  refine Calls.mono hc fun e w' hr=>?_
  cases e with
  | returned v =>
    obtain ⟨I',m',hw,_,hvr⟩:=hr
    exact ⟨v,rfl,⟨hw.os,hw.tape,hw.output,hw.size,fun k hk=>hw.frame k hk (by simp)⟩,I',m',hvr⟩
  | _=>exact hr.elim
theorem calls_true {f:FuncId} {fn:Func} {code:Code} (hf:FnOk P f fn code) {args:List AV} {Vs:List Value} (h:CS P f args .no [.bool true]) (hv:VRa w (fun _=>default) args Vs) :
    Calls P f Vs.toArray w fun e w'=>e = .returned (.bool true)∧Below w.heap.size w w':=by
  refine (calls_of_cs hf h hv).mono ?_
  rintro e w' ⟨v,rfl,hb,I',m',hr⟩
  have hr:VR I' w' noB m' (.bool true) v:=hr
  rw [hr.bool_inv]
  exact ⟨rfl,hb⟩
end
end Go.AVL
end

section
namespace Go.Proofs.YtakidmbnkkhojaaGreat
open Go.AVL Go.RowKit Go.Proofs.YtakidmbnkkhojaaGreat.F Go.Proofs.YtakidmbnkkhojaaGreatX Go.Proofs.YtakidmbnkkhojaaGreatW.PrintWords Go.Proofs.YtakidmbnkkhojaaGreatW.PrintLast Go.Proofs.YtakidmbnkkhojaaGreatW.PrintMore
set_option linter.unusedVariables false
set_option linter.unusedSimpArgs false
set_option maxRecDepth 100000
set_option maxHeartbeats 16000000
noncomputable def c116:Code:=Tryz.f116.body.getD .skip
theorem fn116:FnOk Tryz.prog 116 Tryz.f116 c116:=⟨Tryz.func116,rfl,by kernel_rfl,by kernel_rfl,mixed⟩
theorem date_good.cs {a0:Int} {r:Bool} (h:date_good.f a0=some r):CS Tryz.prog 116 [.int .i64 a0] .no [.bool r]:=by
  unfold date_good.f at h
  refine E.pure fn116 rfl ?_
  refine S.A 1 rfl rfl ?_
  refine S.O 3 rfl rfl ?_
  refine O.splitP (fun c=>?_) (fun c=>?_)
  · rw [if_pos c] at h
    refine S.e 4 rfl rfl ?_
    refine X.ret ?_
    cases h
    exact S.R rfl rfl rfl
  · rw [if_neg c] at h
    refine S.e 4 rfl rfl ?_
    refine X.ret ?_
    cases h
    exact S.R rfl rfl rfl
noncomputable def c117:Code:=Tryz.f117.body.getD .skip
theorem fn117:FnOk Tryz.prog 117 Tryz.f117 c117:=⟨Tryz.func117,rfl,by kernel_rfl,by kernel_rfl,mixed⟩
theorem date_Leap.cs {a0:Int} {r:Bool} (h:date_Leap.f a0=some r):CS Tryz.prog 117 [.int .i64 a0] .no [.bool r]:=by
  unfold date_Leap.f at h
  refine E.pure fn117 rfl ?_
  refine S.A 1 rfl rfl ?_
  refine S.O 1 rfl rfl ?_
  obtain ⟨q1,Hq1,h⟩:=Option.bind_eq_some_iff.1 h
  refine O.c (date_good.cs Hq1) rfl rfl rfl ?_
  refine S.r 1 rfl rfl ?_
  refine O.split (fun c=>?_) (fun c=>?_)
  · rw [if_pos c] at h
    refine S.r 1 rfl rfl ?_
    refine G.pu (W.t rfl rfl) (Pu.bin (.tmp rfl) .int (.rem (by omega))) ?_
    refine S.r 2 rfl rfl ?_
    refine O.splitE (fun c=>?_) (fun c=>?_)
    · rw [if_pos c] at h
      refine S.r 1 rfl rfl ?_
      refine G.pu (W.t rfl rfl) (Pu.bin (.tmp rfl) .int (.rem (by omega))) ?_
      refine S.r 3 rfl rfl ?_
      refine O.splitN (fun c=>?_) (fun c=>?_)
      · rw [if_neg c] at h
        refine S.e 6 rfl rfl ?_
        refine X.ret ?_
        cases h
        exact S.R rfl rfl rfl
      · rw [if_pos c] at h
        refine S.r 1 rfl rfl ?_
        refine G.pu (W.t rfl rfl) (Pu.bin (.tmp rfl) .int (.rem (by omega))) ?_
        refine S.e 4 rfl rfl ?_
        refine X.ret ?_
        cases h
        exact S.R rfl rfl rfl
    · rw [if_neg c] at h
      refine S.r 6 rfl rfl ?_
      refine G.pu (W.t rfl rfl) (Pu.bin (.tmp rfl) .int (.rem (by omega))) ?_
      refine S.e 4 rfl rfl ?_
      refine X.ret ?_
      cases h
      exact S.R rfl rfl rfl
  · rw [if_neg (bf c)] at h
    refine S.r 3 rfl rfl ?_
    refine G.skipN (b:=true) (W.f rfl rfl rfl) ?_
    refine S.r 4 rfl rfl ?_
    refine G.skipN (b:=false) (W.f rfl rfl rfl) ?_
    refine S.e 6 rfl rfl ?_
    refine X.ret ?_
    cases h
    exact S.R rfl rfl rfl
theorem date_Days.j0_e {k y0 y1 y2 r}:(date_Days.j0 k y0 y1 y2=some r) = ∃ j,k=j + 1∧date_Days.j0 (j + 1) y0 y1 y2=some r:=propext ⟨fun h=>by cases k with|zero=>(unfold date_Days.j0 at h;cases h)|succ k=>exact ⟨k,rfl,h⟩,fun ⟨j,hj,h⟩=>by subst hj;exact h⟩
noncomputable def c78:Code:=Tryz.f78.body.getD .skip
theorem fn78:FnOk Tryz.prog 78 Tryz.f78 c78:=⟨Tryz.func78,rfl,by kernel_rfl,by kernel_rfl,mixed⟩
theorem date_Days.cs {k:Nat} {a0:Int} {a1:Int} {r:Int} (h:date_Days.f k a0 a1=some r):CS Tryz.prog 78 [.int .i64 a0, .int .i64 a1] .no [.int .i64 r]:=by
  unfold date_Days.f at h
  refine E.pure fn78 rfl ?_
  refine S.A 1 rfl rfl ?_
  refine X.seq ?_
  refine S.O 1 rfl rfl ?_
  obtain ⟨q1,Hq1,h⟩:=Option.bind_eq_some_iff.1 h
  refine O.c (date_good.cs Hq1) rfl rfl rfl ?_
  refine S.r 2 rfl rfl ?_
  refine O.splitNot (fun c=>?_) (fun c=>?_)
  · rw [if_neg (bf c)] at h
    refine S.e 7 rfl rfl ?_
    repeat (rw [date_Days.j0_e] at h;obtain ⟨k,_,h⟩:=h;unfold date_Days.j0 at h;try dsimp only at h)
    rw [if_pos rfl] at h
    refine X.condT (.tmp rfl) ?_
    refine S.A 1 rfl rfl ?_
    refine X.ret ?_
    cases h
    exact S.R rfl rfl rfl
  · rw [if_pos c] at h
    refine S.r 4 rfl rfl ?_
    refine O.splitP (fun c=>?_) (fun c=>?_)
    · rw [if_pos c] at h
      refine S.e 3 rfl rfl ?_
      repeat (rw [date_Days.j0_e] at h;obtain ⟨k,_,h⟩:=h;unfold date_Days.j0 at h;try dsimp only at h)
      rw [if_pos rfl] at h
      refine X.condT (.tmp rfl) ?_
      refine S.A 1 rfl rfl ?_
      refine X.ret ?_
      cases h
      exact S.R rfl rfl rfl
    · rw [if_neg c] at h
      refine S.e 3 rfl rfl ?_
      repeat (rw [date_Days.j0_e] at h;obtain ⟨k,_,h⟩:=h;unfold date_Days.j0 at h;try dsimp only at h)
      refine X.condP (.tmp rfl) (fun c=>?_) (fun c=>?_)
      · rw [if_pos (decide_eq_true c)] at h
        refine S.A 1 rfl rfl ?_
        refine X.ret ?_
        cases h
        exact S.R rfl rfl rfl
      · rw [if_neg (nd c)] at h
        refine X.skip ?_
        refine X.seq ?_
        refine S.O 3 rfl rfl ?_
        refine O.splitE (fun c=>?_) (fun c=>?_)
        · rw [if_pos c] at h
          refine S.r 1 rfl rfl ?_
          obtain ⟨q2,Hq2,h⟩:=Option.bind_eq_some_iff.1 h
          refine G.pu (W.t rfl rfl) (U.call (ss:=[]) (.cons (.tmp (v:=.int _ _) rfl) .nil) (.cons (.cl .int) .nil) (date_Leap.cs Hq2) (.inl rfl) (.bool)) ?_
          refine S.e 1 rfl rfl ?_
          refine X.cond (.tmp rfl) (fun c=>?_) (fun c=>?_)
          · rw [if_pos c] at h
            refine S.A 1 rfl rfl ?_
            refine X.ret ?_
            cases h
            exact S.R rfl rfl rfl
          · rw [if_neg (bf c)] at h
            refine X.skip ?_
            refine X.seq ?_
            refine X.still ?_
            refine O.pu (U.bldAr (k:=.i64) (l:=[31,28,31,30,31,30,31,31,30,31,30,31]) (fun a w=>by kernel_rfl)) ?_
            refine S.r 2 rfl rfl ?_
            repeat (rw [giff] at h;obtain ⟨_,h⟩:=h)
            refine O.pu (U.idxAr (l:=[31,28,31,30,31,30,31,31,30,31,30,31]) Tryz.underlying166 (by kernel_rfl) ⟨_,Tryz.underlying3⟩ (.tmp rfl) (.tmp rfl) (by omega) (by first|omega|(simp only [List.length_cons,List.length_nil];omega))) ?_
            refine S.e 1 rfl rfl ?_
            refine X.ret ?_
            cases h
            exact S.R rfl rfl rfl
        · rw [if_neg c] at h
          refine S.e 3 rfl rfl ?_
          repeat (rw [giff] at h;obtain ⟨_,h⟩:=h)
          refine X.condF (.tmp rfl) ?_
          refine X.skip ?_
          refine X.seq ?_
          refine X.still ?_
          refine O.pu (U.bldAr (k:=.i64) (l:=[31,28,31,30,31,30,31,31,30,31,30,31]) (fun a w=>by kernel_rfl)) ?_
          refine S.r 2 rfl rfl ?_
          refine O.pu (U.idxAr (l:=[31,28,31,30,31,30,31,31,30,31,30,31]) Tryz.underlying166 (by kernel_rfl) ⟨_,Tryz.underlying3⟩ (.tmp rfl) (.tmp rfl) (by omega) (by first|omega|(simp only [List.length_cons,List.length_nil];omega))) ?_
          refine S.e 1 rfl rfl ?_
          refine X.ret ?_
          cases h
          exact S.R rfl rfl rfl
noncomputable def c40:Code:=Tryz.f40.body.getD .skip
theorem fn40:FnOk Tryz.prog 40 Tryz.f40 c40:=⟨Tryz.func40,rfl,by kernel_rfl,by kernel_rfl,mixed⟩
theorem date_Check.cs {k:Nat} {a0_0:Int} {a0_1:Int} {a0_2:Int} {r:Int} (h:date_Check.f k a0_0 a0_1 a0_2=some r):CS Tryz.prog 40 [.agg [.int .i64 a0_0, .int .i64 a0_1, .int .i64 a0_2]] .no [.int .i64 r]:=by
  unfold date_Check.f at h
  refine E.pure fn40 rfl ?_
  refine S.A 2 rfl rfl ?_
  refine X.seq ?_
  refine S.D 4 rfl rfl ?_
  refine D.splitP (fun c=>?_) (fun c=>?_)
  · rw [if_pos c] at h
    refine S.d 9 rfl rfl ?_
    refine D.nil (by kernel_rfl) ?_
    refine X.condT (.tmp rfl) ?_
    refine S.A 1 rfl rfl ?_
    refine X.ret ?_
    cases h
    exact S.R rfl rfl rfl
  · rw [if_neg c] at h
    refine S.d 6 rfl rfl ?_
    obtain ⟨q1,Hq1,h⟩:=Option.bind_eq_some_iff.1 h
    refine D.gpu (W.t rfl rfl) (U.call (ss:=[]) (.cons (.tmp (v:=.int _ _) rfl) (.cons (.tmp (v:=.int _ _) rfl) .nil)) (.cons (.cl .int) (.cons (.cl .int) .nil)) (date_Days.cs Hq1) (.inl rfl) (.int)) ?_
    refine S.d 2 rfl rfl ?_
    refine D.nil (by kernel_rfl) ?_
    refine X.condP (.tmp rfl) (fun c=>?_) (fun c=>?_)
    · rw [if_pos c] at h
      refine S.A 1 rfl rfl ?_
      refine X.ret ?_
      cases h
      exact S.R rfl rfl rfl
    · rw [if_neg c] at h
      refine X.skip ?_
      refine S.A 1 rfl rfl ?_
      refine X.ret ?_
      cases h
      exact S.R rfl rfl rfl
noncomputable def c105:Code:=Tryz.f105.body.getD .skip
theorem fn105:FnOk Tryz.prog 105 Tryz.f105 c105:=⟨Tryz.func105,rfl,by kernel_rfl,by kernel_rfl,mixed⟩
theorem date_ahead.cs {a0:Int} {r:Int} (h:date_ahead.f a0=some r):CS Tryz.prog 105 [.int .i64 a0] .no [.int .i64 r]:=by
  unfold date_ahead.f at h
  refine E.pure fn105 rfl ?_
  refine S.A 1 rfl rfl ?_
  refine S.A 3 rfl rfl ?_
  refine S.O 3 rfl rfl ?_
  refine O.pu (Pu.bin (.tmp rfl) .int (U.quo64 (by omega))) ?_
  refine S.r 2 rfl rfl ?_
  refine O.pu (Pu.bin (.tmp rfl) .int (U.quo64 (by omega))) ?_
  refine S.r 2 rfl rfl ?_
  refine O.pu (Pu.bin (.tmp rfl) .int (U.quo64 (by omega))) ?_
  refine S.e 2 rfl rfl ?_
  refine X.ret ?_
  cases h
  exact S.R rfl rfl rfl
noncomputable def c72:Code:=Tryz.f72.body.getD .skip
theorem fn72:FnOk Tryz.prog 72 Tryz.f72 c72:=⟨Tryz.func72,rfl,by kernel_rfl,by kernel_rfl,mixed⟩
theorem date_Number.cs {k:Nat} {a0_0:Int} {a0_1:Int} {a0_2:Int} {r:Int×Int} (h:date_Number.f k a0_0 a0_1 a0_2=some r):CS Tryz.prog 72 [.agg [.int .i64 a0_0, .int .i64 a0_1, .int .i64 a0_2]] .no [.int .i64 r.1, .int .i64 r.2]:=by
  unfold date_Number.f at h
  refine E.pure fn72 rfl ?_
  refine S.A 3 rfl rfl ?_
  refine X.seq ?_
  refine S.O 1 rfl rfl ?_
  obtain ⟨q1,Hq1,h⟩:=Option.bind_eq_some_iff.1 h
  refine O.c (date_Check.cs Hq1) rfl rfl rfl ?_
  refine S.e 1 rfl rfl ?_
  refine S.A 2 rfl rfl ?_
  refine X.condN (.tmp rfl) (fun c=>?_) (fun c=>?_)
  · rw [if_neg c] at h
    refine S.A 3 rfl rfl ?_
    refine X.ret ?_
    cases h
    exact S.R rfl rfl rfl
  · rw [if_pos c] at h
    refine X.skip ?_
    refine S.O 2 rfl rfl ?_
    obtain ⟨q2,Hq2,h⟩:=Option.bind_eq_some_iff.1 h
    refine O.c (date_ahead.cs Hq2) rfl rfl rfl ?_
    refine S.e 1 rfl rfl ?_
    refine X.seq ?_
    refine S.A 1 rfl rfl ?_
    refine X.block ?_
    refine X.inv (fun k s=>∃ x5 x6 x107000 x107001 x107002 u1,s.t 5 = .int .i64 x5∧s.t 6 = .int .i64 x6∧s.t 1 = .op 1 u1 0 0∧s.b 1=⟨u1, .own, .vals [.agg [.int .i64 x107000, .int .i64 x107001, .int .i64 x107002]],28⟩∧date_Number.l0 k x5 x6 x107000 x107001 x107002=some r) ?_ ?_ ⟨_,_,_,_,_,_,rfl,rfl,rfl,rfl,h⟩
    · rintro s ⟨_,_,_,_,_,_,_,_,_,_,h⟩;unfold date_Number.l0 at h;cases h
    · rintro k1 s1 ⟨x5,x6,x107000,x107001,x107002,u1,e0,e1,e2,e3,h⟩
      unfold date_Number.l0 at h
      rw [St.fixT e0,St.fixT e1,St.fixT e2,St.fixB e3]
      refine X.seq ?_
      refine S.A 4 rfl rfl ?_
      refine X.condP (.tmp rfl) (fun c=>?_) (fun c=>?_)
      · rw [if_pos c] at h
        refine X.skip ?_
        refine X.seq ?_
        refine X.block ?_
        refine X.still ?_
        refine S.r 4 rfl rfl ?_
        obtain ⟨q3,Hq3,h⟩:=Option.bind_eq_some_iff.1 h
        refine O.c (date_Days.cs Hq3) rfl rfl rfl ?_
        refine S.e 2 rfl rfl ?_
        refine X.still ?_
        refine S.e 3 rfl rfl ?_
        exact ⟨_,(by omega),_,_,_,_,_,_,rfl,rfl,rfl,rfl,h⟩
      · rw [if_neg c] at h
        refine X.exit (B.out ?_)
        refine S.A 6 rfl rfl ?_
        refine X.ret ?_
        cases h
        exact S.R rfl rfl rfl
theorem date_Of.j0_e {k y0 y1 r}:(date_Of.j0 k y0 y1=some r) = ∃ j,k=j + 1∧date_Of.j0 (j + 1) y0 y1=some r:=propext ⟨fun h=>by cases k with|zero=>(unfold date_Of.j0 at h;cases h)|succ k=>exact ⟨k,rfl,h⟩,fun ⟨j,hj,h⟩=>by subst hj;exact h⟩
theorem date_Of.j3_e {k y0 y1 y2 y3 r}:(date_Of.j3 k y0 y1 y2 y3=some r) = ∃ j,k=j + 1∧date_Of.j3 (j + 1) y0 y1 y2 y3=some r:=propext ⟨fun h=>by cases k with|zero=>(unfold date_Of.j3 at h;cases h)|succ k=>exact ⟨k,rfl,h⟩,fun ⟨j,hj,h⟩=>by subst hj;exact h⟩
noncomputable def c73:Code:=Tryz.f73.body.getD .skip
theorem fn73:FnOk Tryz.prog 73 Tryz.f73 c73:=⟨Tryz.func73,rfl,by kernel_rfl,by kernel_rfl,mixed⟩
theorem date_Of.cs {k:Nat} {a0:Int} {r:Int×Int×Int×Int} (h:date_Of.f k a0=some r):CS Tryz.prog 73 [.int .i64 a0] .no [.agg [.int .i64 r.1, .int .i64 r.2.1, .int .i64 r.2.2.1], .int .i64 r.2.2.2]:=by
  unfold date_Of.f at h
  refine E.pure fn73 rfl ?_
  refine S.A 2 rfl rfl ?_
  refine X.seq ?_
  refine S.O 3 rfl rfl ?_
  refine O.splitP (fun c=>?_) (fun c=>?_)
  · rw [if_pos c] at h
    refine S.e 3 rfl rfl ?_
    repeat (rw [date_Of.j0_e] at h;obtain ⟨k,_,h⟩:=h;unfold date_Of.j0 at h;try dsimp only at h)
    rw [if_pos rfl] at h
    refine X.condT (.tmp rfl) ?_
    refine S.A 3 rfl rfl ?_
    refine X.ret ?_
    cases h
    exact S.R rfl rfl rfl
  · rw [if_neg c] at h
    refine S.e 3 rfl rfl ?_
    repeat (rw [date_Of.j0_e] at h;obtain ⟨k,_,h⟩:=h;unfold date_Of.j0 at h;try dsimp only at h)
    refine X.condP (.tmp rfl) (fun c=>?_) (fun c=>?_)
    · rw [if_pos (decide_eq_true c)] at h
      refine S.A 3 rfl rfl ?_
      refine X.ret ?_
      cases h
      exact S.R rfl rfl rfl
    · rw [if_neg (nd c)] at h
      refine X.skip ?_
      refine S.O 2 rfl rfl ?_
      refine O.pu (Pu.bin (.tmp rfl) .int (U.quo64 (by omega))) ?_
      refine S.r 1 rfl rfl ?_
      refine O.pu (U.mn (.tmp rfl) .int) ?_
      refine S.e 3 rfl rfl ?_
      refine X.seq ?_
      refine X.block ?_
      refine X.inv (fun k s=>∃ x0 x112000 x112001 x112002 u2 u4,s.t 0 = .int .i64 x0∧s.t 2 = .op 2 u2 0 0∧s.b 2=⟨u2, .own, .vals [.agg [.int .i64 0, .int .i64 0, .int .i64 0]],28⟩∧s.t 4 = .op 4 u4 0 0∧s.b 4=⟨u4, .own, .vals [.agg [.int .i64 x112000, .int .i64 x112001, .int .i64 x112002]],28⟩∧date_Of.l0 k x0 x112000 x112001 x112002=some r) ?_ ?_ ⟨_,_,_,_,_,_,rfl,rfl,rfl,rfl,rfl,h⟩
      · rintro s ⟨_,_,_,_,_,_,_,_,_,_,_,h⟩;unfold date_Of.l0 at h;cases h
      · rintro k1 s1 ⟨x0,x112000,x112001,x112002,u2,u4,e0,e1,e2,e3,e4,h⟩
        unfold date_Of.l0 at h
        rw [St.fixT e0,St.fixT e1,St.fixB e2,St.fixT e3,St.fixB e4]
        refine X.seq ?_
        refine S.O 2 rfl rfl ?_
        obtain ⟨q1,Hq1,h⟩:=Option.bind_eq_some_iff.1 h
        refine O.c (date_ahead.cs Hq1) rfl rfl rfl ?_
        refine S.e 2 rfl rfl ?_
        refine X.condP (.tmp rfl) (fun c=>?_) (fun c=>?_)
        · rw [if_pos c] at h
          refine X.skip ?_
          refine X.block ?_
          refine X.still ?_
          refine S.e 5 rfl rfl ?_
          exact ⟨_,(by omega),_,_,_,_,_,_,rfl,rfl,rfl,rfl,rfl,h⟩
        · rw [if_neg c] at h
          refine X.exit (B.out ?_)
          refine X.seq ?_
          refine X.block ?_
          refine X.inv (fun k s=>k≤k1∧∃ x0 x112000 x112001 x112002 u2 u4,s.t 0 = .int .i64 x0∧s.t 2 = .op 2 u2 0 0∧s.b 2=⟨u2, .own, .vals [.agg [.int .i64 0, .int .i64 0, .int .i64 0]],28⟩∧s.t 4 = .op 4 u4 0 0∧s.b 4=⟨u4, .own, .vals [.agg [.int .i64 x112000, .int .i64 x112001, .int .i64 x112002]],28⟩∧date_Of.l1 k x0 x112000 x112001 x112002=some r) ?_ ?_ ⟨(by omega),_,_,_,_,_,_,rfl,rfl,rfl,rfl,rfl,h⟩
          · rintro s ⟨_,_,_,_,_,_,_,_,_,_,_,_,h⟩;unfold date_Of.l1 at h;cases h
          · rintro k2 s2 ⟨kl2,x0,x112000,x112001,x112002,u2,u4,e0,e1,e2,e3,e4,h⟩
            unfold date_Of.l1 at h
            rw [St.fixT e0,St.fixT e1,St.fixB e2,St.fixT e3,St.fixB e4]
            refine X.seq ?_
            refine S.O 4 rfl rfl ?_
            refine O.splitP (fun c=>?_) (fun c=>?_)
            · rw [if_pos c] at h
              refine S.r 3 rfl rfl ?_
              obtain ⟨q2,Hq2,h⟩:=Option.bind_eq_some_iff.1 h
              refine G.pu (W.t rfl rfl) (U.call (ss:=[]) (.cons (.tmp (v:=.int _ _) rfl) .nil) (.cons (.cl .int) .nil) (date_ahead.cs Hq2) (.inl rfl) (.int)) ?_
              refine S.e 3 rfl rfl ?_
              refine X.condP (.tmp rfl) (fun c=>?_) (fun c=>?_)
              · rw [if_pos c] at h
                refine X.skip ?_
                refine X.block ?_
                refine X.still ?_
                refine S.e 5 rfl rfl ?_
                exact ⟨_,(by omega),(by omega),_,_,_,_,_,_,rfl,rfl,rfl,rfl,rfl,h⟩
              · rw [if_neg c] at h
                refine X.exit (B.out ?_)
                refine S.O 3 rfl rfl ?_
                repeat (rw [date_Of.j3_e] at h;obtain ⟨k,_,h⟩:=h;unfold date_Of.j3 at h;try dsimp only at h)
                obtain ⟨q3,Hq3,h⟩:=Option.bind_eq_some_iff.1 h
                refine O.c (date_ahead.cs Hq3) rfl rfl rfl ?_
                refine S.e 2 rfl rfl ?_
                refine X.seq ?_
                refine X.block ?_
                refine X.inv (fun k s=>k≤k2∧∃ x0 x112000 x112001 x112002 u2 u4,s.t 0 = .int .i64 x0∧s.t 2 = .op 2 u2 0 0∧s.b 2=⟨u2, .own, .vals [.agg [.int .i64 0, .int .i64 0, .int .i64 0]],28⟩∧s.t 4 = .op 4 u4 0 0∧s.b 4=⟨u4, .own, .vals [.agg [.int .i64 x112000, .int .i64 x112001, .int .i64 x112002]],28⟩∧date_Of.l2 k x0 x112000 x112001 x112002=some r) ?_ ?_ ⟨(by omega),_,_,_,_,_,_,rfl,rfl,rfl,rfl,rfl,h⟩
                · rintro s ⟨_,_,_,_,_,_,_,_,_,_,_,_,h⟩;unfold date_Of.l2 at h;cases h
                · rintro k3 s3 ⟨kl3,x0,x112000,x112001,x112002,u2,u4,e0,e1,e2,e3,e4,h⟩
                  unfold date_Of.l2 at h
                  rw [St.fixT e0,St.fixT e1,St.fixB e2,St.fixT e3,St.fixB e4]
                  refine X.seq ?_
                  refine S.O 5 rfl rfl ?_
                  obtain ⟨q4,Hq4,h⟩:=Option.bind_eq_some_iff.1 h
                  refine O.c (date_Days.cs Hq4) rfl rfl rfl ?_
                  refine S.e 1 rfl rfl ?_
                  refine X.condP (.tmp rfl) (fun c=>?_) (fun c=>?_)
                  · rw [if_pos c] at h
                    refine X.skip ?_
                    refine X.block ?_
                    refine S.O 5 rfl rfl ?_
                    obtain ⟨q5,Hq5,h⟩:=Option.bind_eq_some_iff.1 h
                    refine O.c (date_Days.cs Hq5) rfl rfl rfl ?_
                    refine S.e 2 rfl rfl ?_
                    refine X.still ?_
                    refine S.e 5 rfl rfl ?_
                    exact ⟨_,(by omega),(by omega),_,_,_,_,_,_,rfl,rfl,rfl,rfl,rfl,h⟩
                  · rw [if_neg c] at h
                    refine X.exit (B.out ?_)
                    refine S.A 3 rfl rfl ?_
                    refine S.A 3 rfl rfl ?_
                    refine X.ret ?_
                    cases h
                    exact S.R rfl rfl rfl
            · rw [if_neg c] at h
              refine S.e 7 rfl rfl ?_
              repeat (rw [date_Of.j3_e] at h;obtain ⟨k,_,h⟩:=h;unfold date_Of.j3 at h;try dsimp only at h)
              refine X.condF (.tmp rfl) ?_
              refine X.exit (B.out ?_)
              refine S.O 3 rfl rfl ?_
              obtain ⟨q6,Hq6,h⟩:=Option.bind_eq_some_iff.1 h
              refine O.c (date_ahead.cs Hq6) rfl rfl rfl ?_
              refine S.e 2 rfl rfl ?_
              refine X.seq ?_
              refine X.block ?_
              refine X.inv (fun k s=>k≤k2∧∃ x0 x112000 x112001 x112002 u2 u4,s.t 0 = .int .i64 x0∧s.t 2 = .op 2 u2 0 0∧s.b 2=⟨u2, .own, .vals [.agg [.int .i64 0, .int .i64 0, .int .i64 0]],28⟩∧s.t 4 = .op 4 u4 0 0∧s.b 4=⟨u4, .own, .vals [.agg [.int .i64 x112000, .int .i64 x112001, .int .i64 x112002]],28⟩∧date_Of.l2 k x0 x112000 x112001 x112002=some r) ?_ ?_ ⟨(by omega),_,_,_,_,_,_,rfl,rfl,rfl,rfl,rfl,h⟩
              · rintro s ⟨_,_,_,_,_,_,_,_,_,_,_,_,h⟩;unfold date_Of.l2 at h;cases h
              · rintro k3 s3 ⟨kl3,x0,x112000,x112001,x112002,u2,u4,e0,e1,e2,e3,e4,h⟩
                unfold date_Of.l2 at h
                rw [St.fixT e0,St.fixT e1,St.fixB e2,St.fixT e3,St.fixB e4]
                refine X.seq ?_
                refine S.O 5 rfl rfl ?_
                obtain ⟨q7,Hq7,h⟩:=Option.bind_eq_some_iff.1 h
                refine O.c (date_Days.cs Hq7) rfl rfl rfl ?_
                refine S.e 1 rfl rfl ?_
                refine X.condP (.tmp rfl) (fun c=>?_) (fun c=>?_)
                · rw [if_pos c] at h
                  refine X.skip ?_
                  refine X.block ?_
                  refine S.O 5 rfl rfl ?_
                  obtain ⟨q8,Hq8,h⟩:=Option.bind_eq_some_iff.1 h
                  refine O.c (date_Days.cs Hq8) rfl rfl rfl ?_
                  refine S.e 2 rfl rfl ?_
                  refine X.still ?_
                  refine S.e 5 rfl rfl ?_
                  exact ⟨_,(by omega),(by omega),_,_,_,_,_,_,rfl,rfl,rfl,rfl,rfl,h⟩
                · rw [if_neg c] at h
                  refine X.exit (B.out ?_)
                  refine S.A 3 rfl rfl ?_
                  refine S.A 3 rfl rfl ?_
                  refine X.ret ?_
                  cases h
                  exact S.R rfl rfl rfl
noncomputable def c30:Code:=Tryz.f30.body.getD .skip
theorem fn30:FnOk Tryz.prog 30 Tryz.f30 c30:=⟨Tryz.func30,rfl,by kernel_rfl,by kernel_rfl,mixed⟩
theorem month_AddDays.cs {k:Nat} {a0_0:Int} {a0_1:Int} {a0_2:Int} {a1:Int} {r:Int×Int×Int×Int} (h:month_AddDays.f k a0_0 a0_1 a0_2 a1=some r):CS Tryz.prog 30 [.agg [.int .i64 a0_0, .int .i64 a0_1, .int .i64 a0_2], .int .i64 a1] .no [.agg [.int .i64 r.1, .int .i64 r.2.1, .int .i64 r.2.2.1], .int .i64 r.2.2.2]:=by
  unfold month_AddDays.f at h
  refine E.pure fn30 rfl ?_
  refine S.A 3 rfl rfl ?_
  refine S.O 1 rfl rfl ?_
  obtain ⟨q1,Hq1,h⟩:=Option.bind_eq_some_iff.1 h
  refine O.c (date_Number.cs Hq1) rfl rfl rfl ?_
  refine S.e 5 rfl rfl ?_
  refine X.seq ?_
  refine S.A 2 rfl rfl ?_
  refine X.condN (.tmp rfl) (fun c=>?_) (fun c=>?_)
  · rw [if_neg c] at h
    refine S.A 4 rfl rfl ?_
    refine X.ret ?_
    cases h
    exact S.R rfl rfl rfl
  · rw [if_pos c] at h
    refine X.skip ?_
    refine X.seq ?_
    refine S.O 3 rfl rfl ?_
    refine O.splitP (fun c=>?_) (fun c=>?_)
    · rw [if_pos c] at h
      refine S.e 3 rfl rfl ?_
      refine X.condT (.tmp rfl) ?_
      refine S.A 3 rfl rfl ?_
      refine X.ret ?_
      cases h
      exact S.R rfl rfl rfl
    · rw [if_neg c] at h
      refine S.e 3 rfl rfl ?_
      refine X.condP (.tmp rfl) (fun c=>?_) (fun c=>?_)
      · rw [if_pos c] at h
        refine S.A 3 rfl rfl ?_
        refine X.ret ?_
        cases h
        exact S.R rfl rfl rfl
      · rw [if_neg c] at h
        refine X.skip ?_
        refine S.O 3 rfl rfl ?_
        obtain ⟨q2,Hq2,h⟩:=Option.bind_eq_some_iff.1 h
        refine O.c (date_Of.cs Hq2) rfl rfl rfl ?_
        refine S.e 4 rfl rfl ?_
        refine X.ret ?_
        cases h
        exact S.R rfl rfl rfl
theorem chattelref09_Leap.j0_e {k y0 y1 r}:(chattelref09_Leap.j0 k y0 y1=some r) = ∃ j,k=j + 1∧chattelref09_Leap.j0 (j + 1) y0 y1=some r:=propext ⟨fun h=>by cases k with|zero=>(unfold chattelref09_Leap.j0 at h;cases h)|succ k=>exact ⟨k,rfl,h⟩,fun ⟨j,hj,h⟩=>by subst hj;exact h⟩
noncomputable def c97:Code:=Tryz.f97.body.getD .skip
theorem fn97:FnOk Tryz.prog 97 Tryz.f97 c97:=⟨Tryz.func97,rfl,by kernel_rfl,by kernel_rfl,mixed⟩
theorem chattelref09_Leap.cs {k:Nat} {a0:Int} {r:Bool} (h:chattelref09_Leap.f k a0=some r):CS Tryz.prog 97 [.int .i64 a0] .no [.bool r]:=by
  unfold chattelref09_Leap.f at h
  refine E.pure fn97 rfl ?_
  refine S.A 1 rfl rfl ?_
  refine X.seq ?_
  refine S.O 3 rfl rfl ?_
  refine O.splitP (fun c=>?_) (fun c=>?_)
  · rw [if_pos c] at h
    refine S.e 3 rfl rfl ?_
    repeat (rw [chattelref09_Leap.j0_e] at h;obtain ⟨k,_,h⟩:=h;unfold chattelref09_Leap.j0 at h;try dsimp only at h)
    rw [if_pos rfl] at h
    refine X.condT (.tmp rfl) ?_
    refine S.A 1 rfl rfl ?_
    refine X.ret ?_
    cases h
    exact S.R rfl rfl rfl
  · rw [if_neg c] at h
    refine S.e 3 rfl rfl ?_
    repeat (rw [chattelref09_Leap.j0_e] at h;obtain ⟨k,_,h⟩:=h;unfold chattelref09_Leap.j0 at h;try dsimp only at h)
    refine X.condP (.tmp rfl) (fun c=>?_) (fun c=>?_)
    · rw [if_pos (decide_eq_true c)] at h
      refine S.A 1 rfl rfl ?_
      refine X.ret ?_
      cases h
      exact S.R rfl rfl rfl
    · rw [if_neg (nd c)] at h
      refine X.skip ?_
      refine X.seq ?_
      refine S.O 1 rfl rfl ?_
      refine O.pu (Pu.bin (.tmp rfl) .int (.rem (by omega))) ?_
      refine S.e 1 rfl rfl ?_
      refine X.condE (.tmp rfl) (fun c=>?_) (fun c=>?_)
      · rw [if_pos c] at h
        refine S.A 1 rfl rfl ?_
        refine X.ret ?_
        cases h
        exact S.R rfl rfl rfl
      · rw [if_neg c] at h
        refine X.skip ?_
        refine S.O 1 rfl rfl ?_
        refine O.pu (Pu.bin (.tmp rfl) .int (.rem (by omega))) ?_
        refine S.r 2 rfl rfl ?_
        refine O.splitE (fun c=>?_) (fun c=>?_)
        · rw [if_pos c] at h
          refine S.r 1 rfl rfl ?_
          refine G.pu (W.t rfl rfl) (Pu.bin (.tmp rfl) .int (.rem (by omega))) ?_
          refine S.e 3 rfl rfl ?_
          refine X.ret ?_
          cases h
          exact S.R rfl rfl rfl
        · rw [if_neg c] at h
          refine S.e 5 rfl rfl ?_
          refine X.ret ?_
          cases h
          exact S.R rfl rfl rfl
theorem chattelref09_Days.j0_e {k y0 y1 y2 r}:(chattelref09_Days.j0 k y0 y1 y2=some r) = ∃ j,k=j + 1∧chattelref09_Days.j0 (j + 1) y0 y1 y2=some r:=propext ⟨fun h=>by cases k with|zero=>(unfold chattelref09_Days.j0 at h;cases h)|succ k=>exact ⟨k,rfl,h⟩,fun ⟨j,hj,h⟩=>by subst hj;exact h⟩
noncomputable def c74:Code:=Tryz.f74.body.getD .skip
theorem fn74:FnOk Tryz.prog 74 Tryz.f74 c74:=⟨Tryz.func74,rfl,by kernel_rfl,by kernel_rfl,mixed⟩
theorem chattelref09_Days.cs {k:Nat} {a0:Int} {a1:Int} {r:Int} (h:chattelref09_Days.f k a0 a1=some r):CS Tryz.prog 74 [.int .i64 a0, .int .i64 a1] .no [.int .i64 r]:=by
  unfold chattelref09_Days.f at h
  refine E.pure fn74 rfl ?_
  refine S.A 1 rfl rfl ?_
  refine X.seq ?_
  refine S.O 3 rfl rfl ?_
  refine O.splitP (fun c=>?_) (fun c=>?_)
  · rw [if_pos c] at h
    refine S.e 11 rfl rfl ?_
    repeat (rw [chattelref09_Days.j0_e] at h;obtain ⟨k,_,h⟩:=h;unfold chattelref09_Days.j0 at h;try dsimp only at h)
    rw [if_pos rfl] at h
    refine X.condT (.tmp rfl) ?_
    refine S.A 1 rfl rfl ?_
    refine X.ret ?_
    cases h
    exact S.R rfl rfl rfl
  · rw [if_neg c] at h
    refine S.r 4 rfl rfl ?_
    refine O.splitP (fun c=>?_) (fun c=>?_)
    · rw [if_pos c] at h
      refine S.e 7 rfl rfl ?_
      repeat (rw [chattelref09_Days.j0_e] at h;obtain ⟨k,_,h⟩:=h;unfold chattelref09_Days.j0 at h;try dsimp only at h)
      rw [if_pos rfl] at h
      refine X.condT (.tmp rfl) ?_
      refine S.A 1 rfl rfl ?_
      refine X.ret ?_
      cases h
      exact S.R rfl rfl rfl
    · rw [if_neg c] at h
      refine S.r 4 rfl rfl ?_
      refine O.splitP (fun c=>?_) (fun c=>?_)
      · rw [if_pos c] at h
        refine S.e 3 rfl rfl ?_
        repeat (rw [chattelref09_Days.j0_e] at h;obtain ⟨k,_,h⟩:=h;unfold chattelref09_Days.j0 at h;try dsimp only at h)
        rw [if_pos rfl] at h
        refine X.condT (.tmp rfl) ?_
        refine S.A 1 rfl rfl ?_
        refine X.ret ?_
        cases h
        exact S.R rfl rfl rfl
      · rw [if_neg c] at h
        refine S.e 3 rfl rfl ?_
        repeat (rw [chattelref09_Days.j0_e] at h;obtain ⟨k,_,h⟩:=h;unfold chattelref09_Days.j0 at h;try dsimp only at h)
        refine X.condP (.tmp rfl) (fun c=>?_) (fun c=>?_)
        · rw [if_pos (decide_eq_true c)] at h
          refine S.A 1 rfl rfl ?_
          refine X.ret ?_
          cases h
          exact S.R rfl rfl rfl
        · rw [if_neg (nd c)] at h
          refine X.skip ?_
          refine X.seq ?_
          refine S.A 2 rfl rfl ?_
          refine X.condE (.tmp rfl) (fun c=>?_) (fun c=>?_)
          · rw [if_pos c] at h
            refine S.O 1 rfl rfl ?_
            obtain ⟨q1,Hq1,h⟩:=Option.bind_eq_some_iff.1 h
            refine O.c (chattelref09_Leap.cs Hq1) rfl rfl rfl ?_
            refine S.e 1 rfl rfl ?_
            refine X.seq ?_
            refine S.A 1 rfl rfl ?_
            refine X.cond (.tmp rfl) (fun c=>?_) (fun c=>?_)
            · rw [if_pos c] at h
              refine S.A 1 rfl rfl ?_
              refine X.ret ?_
              cases h
              exact S.R rfl rfl rfl
            · rw [if_neg (bf c)] at h
              refine X.skip ?_
              refine S.A 1 rfl rfl ?_
              refine X.ret ?_
              cases h
              exact S.R rfl rfl rfl
          · rw [if_neg c] at h
            refine X.skip ?_
            refine X.seq ?_
            refine S.O 3 rfl rfl ?_
            refine O.splitE (fun c=>?_) (fun c=>?_)
            · rw [if_pos c] at h
              refine S.e 11 rfl rfl ?_
              refine X.condT (.tmp rfl) ?_
              refine S.A 1 rfl rfl ?_
              refine X.ret ?_
              cases h
              exact S.R rfl rfl rfl
            · rw [if_neg c] at h
              refine S.r 4 rfl rfl ?_
              refine O.splitE (fun c=>?_) (fun c=>?_)
              · rw [if_pos c] at h
                refine S.e 7 rfl rfl ?_
                refine X.condT (.tmp rfl) ?_
                refine S.A 1 rfl rfl ?_
                refine X.ret ?_
                cases h
                exact S.R rfl rfl rfl
              · rw [if_neg c] at h
                refine S.r 4 rfl rfl ?_
                refine O.splitE (fun c=>?_) (fun c=>?_)
                · rw [if_pos c] at h
                  refine S.e 3 rfl rfl ?_
                  refine X.condT (.tmp rfl) ?_
                  refine S.A 1 rfl rfl ?_
                  refine X.ret ?_
                  cases h
                  exact S.R rfl rfl rfl
                · rw [if_neg c] at h
                  refine S.e 3 rfl rfl ?_
                  refine X.condE (.tmp rfl) (fun c=>?_) (fun c=>?_)
                  · rw [if_pos c] at h
                    refine S.A 1 rfl rfl ?_
                    refine X.ret ?_
                    cases h
                    exact S.R rfl rfl rfl
                  · rw [if_neg c] at h
                    refine X.skip ?_
                    refine S.A 1 rfl rfl ?_
                    refine X.ret ?_
                    cases h
                    exact S.R rfl rfl rfl
theorem chattelref09_Make.j0_e {k y0 y1 y2 y3 r}:(chattelref09_Make.j0 k y0 y1 y2 y3=some r) = ∃ j,k=j + 1∧chattelref09_Make.j0 (j + 1) y0 y1 y2 y3=some r:=propext ⟨fun h=>by cases k with|zero=>(unfold chattelref09_Make.j0 at h;cases h)|succ k=>exact ⟨k,rfl,h⟩,fun ⟨j,hj,h⟩=>by subst hj;exact h⟩
noncomputable def c32:Code:=Tryz.f32.body.getD .skip
theorem fn32:FnOk Tryz.prog 32 Tryz.f32 c32:=⟨Tryz.func32,rfl,by kernel_rfl,by kernel_rfl,mixed⟩
theorem chattelref09_Make.cs {k:Nat} {a0_0:Int} {a0_1:Int} {a0_2:Int} {a1:Int} {r:Int×Int×Int} (h:chattelref09_Make.f k a0_0 a0_1 a0_2 a1=some r):CS Tryz.prog 32 [.agg [.int .i64 a0_0, .int .i64 a0_1, .int .i64 a0_2], .int .i64 a1] .no [.agg [.int .i64 r.1, .int .i64 r.2.1, .int .i64 r.2.2]]:=by
  unfold chattelref09_Make.f at h
  refine E.pure fn32 rfl ?_
  refine S.A 2 rfl rfl ?_
  refine X.seq ?_
  refine X.still ?_
  repeat (rw [giffn] at h;obtain ⟨_,h⟩:=h)
  refine O.pu (U.indexAr rfl rfl (.tmp rfl) rfl rfl rfl .int (by decide) (by decide)) ?_
  refine S.r 2 rfl rfl ?_
  refine O.pu (Pu.bin (.tmp rfl) (.tmp rfl) (.rem (by omega))) ?_
  refine S.e 1 rfl rfl ?_
  refine X.seq ?_
  refine S.A 2 rfl rfl ?_
  refine X.condP (.tmp rfl) (fun c=>?_) (fun c=>?_)
  · rw [if_pos c] at h
    refine X.still ?_
    refine S.e 4 rfl rfl ?_
    refine X.seq ?_
    refine X.still ?_
    repeat (rw [chattelref09_Make.j0_e] at h;obtain ⟨k,_,h⟩:=h;unfold chattelref09_Make.j0 at h;try dsimp only at h)
    refine O.pu (U.indexAr rfl rfl (.tmp rfl) rfl rfl rfl .int (by decide) (by decide)) ?_
    refine S.r 1 rfl rfl ?_
    refine O.pu (Pu.bin (.tmp rfl) .int (.rem (by omega))) ?_
    refine S.e 1 rfl rfl ?_
    refine X.seq ?_
    refine S.A 2 rfl rfl ?_
    refine X.condP (.tmp rfl) (fun c=>?_) (fun c=>?_)
    · rw [if_pos c] at h
      refine X.still ?_
      refine S.e 3 rfl rfl ?_
      refine S.O 4 rfl rfl ?_
      obtain ⟨q1,Hq1,h⟩:=Option.bind_eq_some_iff.1 h
      refine O.c (chattelref09_Days.cs Hq1) rfl rfl rfl ?_
      refine S.e 1 rfl rfl ?_
      refine X.seq ?_
      refine X.still ?_
      repeat (rw [giffn] at h;obtain ⟨_,h⟩:=h)
      refine O.pu (U.indexAr rfl rfl (.tmp rfl) rfl rfl rfl .int (by decide) (by decide)) ?_
      refine S.r 2 rfl rfl ?_
      refine O.pu (Pu.bin (.tmp rfl) (.tmp rfl) (.rem (by omega))) ?_
      refine S.e 1 rfl rfl ?_
      refine X.seq ?_
      refine S.A 2 rfl rfl ?_
      refine X.condP (.tmp rfl) (fun c=>?_) (fun c=>?_)
      · rw [if_pos c] at h
        refine X.still ?_
        refine S.e 4 rfl rfl ?_
        refine S.A 8 rfl rfl ?_
        refine X.ret ?_
        cases h
        exact S.R rfl rfl rfl
      · rw [if_neg c] at h
        refine X.skip ?_
        refine S.A 8 rfl rfl ?_
        refine X.ret ?_
        cases h
        exact S.R rfl rfl rfl
    · rw [if_neg c] at h
      refine X.skip ?_
      refine S.O 4 rfl rfl ?_
      obtain ⟨q2,Hq2,h⟩:=Option.bind_eq_some_iff.1 h
      refine O.c (chattelref09_Days.cs Hq2) rfl rfl rfl ?_
      refine S.e 1 rfl rfl ?_
      refine X.seq ?_
      refine X.still ?_
      repeat (rw [giffn] at h;obtain ⟨_,h⟩:=h)
      refine O.pu (U.indexAr rfl rfl (.tmp rfl) rfl rfl rfl .int (by decide) (by decide)) ?_
      refine S.r 2 rfl rfl ?_
      refine O.pu (Pu.bin (.tmp rfl) (.tmp rfl) (.rem (by omega))) ?_
      refine S.e 1 rfl rfl ?_
      refine X.seq ?_
      refine S.A 2 rfl rfl ?_
      refine X.condP (.tmp rfl) (fun c=>?_) (fun c=>?_)
      · rw [if_pos c] at h
        refine X.still ?_
        refine S.e 4 rfl rfl ?_
        refine S.A 8 rfl rfl ?_
        refine X.ret ?_
        cases h
        exact S.R rfl rfl rfl
      · rw [if_neg c] at h
        refine X.skip ?_
        refine S.A 8 rfl rfl ?_
        refine X.ret ?_
        cases h
        exact S.R rfl rfl rfl
  · rw [if_neg c] at h
    refine X.skip ?_
    refine X.seq ?_
    refine X.still ?_
    repeat (rw [chattelref09_Make.j0_e] at h;obtain ⟨k,_,h⟩:=h;unfold chattelref09_Make.j0 at h;try dsimp only at h)
    refine O.pu (U.indexAr rfl rfl (.tmp rfl) rfl rfl rfl .int (by decide) (by decide)) ?_
    refine S.r 1 rfl rfl ?_
    refine O.pu (Pu.bin (.tmp rfl) .int (.rem (by omega))) ?_
    refine S.e 1 rfl rfl ?_
    refine X.seq ?_
    refine S.A 2 rfl rfl ?_
    refine X.condP (.tmp rfl) (fun c=>?_) (fun c=>?_)
    · rw [if_pos c] at h
      refine X.still ?_
      refine S.e 3 rfl rfl ?_
      refine S.O 4 rfl rfl ?_
      obtain ⟨q3,Hq3,h⟩:=Option.bind_eq_some_iff.1 h
      refine O.c (chattelref09_Days.cs Hq3) rfl rfl rfl ?_
      refine S.e 1 rfl rfl ?_
      refine X.seq ?_
      refine X.still ?_
      repeat (rw [giffn] at h;obtain ⟨_,h⟩:=h)
      refine O.pu (U.indexAr rfl rfl (.tmp rfl) rfl rfl rfl .int (by decide) (by decide)) ?_
      refine S.r 2 rfl rfl ?_
      refine O.pu (Pu.bin (.tmp rfl) (.tmp rfl) (.rem (by omega))) ?_
      refine S.e 1 rfl rfl ?_
      refine X.seq ?_
      refine S.A 2 rfl rfl ?_
      refine X.condP (.tmp rfl) (fun c=>?_) (fun c=>?_)
      · rw [if_pos c] at h
        refine X.still ?_
        refine S.e 4 rfl rfl ?_
        refine S.A 8 rfl rfl ?_
        refine X.ret ?_
        cases h
        exact S.R rfl rfl rfl
      · rw [if_neg c] at h
        refine X.skip ?_
        refine S.A 8 rfl rfl ?_
        refine X.ret ?_
        cases h
        exact S.R rfl rfl rfl
    · rw [if_neg c] at h
      refine X.skip ?_
      refine S.O 4 rfl rfl ?_
      obtain ⟨q4,Hq4,h⟩:=Option.bind_eq_some_iff.1 h
      refine O.c (chattelref09_Days.cs Hq4) rfl rfl rfl ?_
      refine S.e 1 rfl rfl ?_
      refine X.seq ?_
      refine X.still ?_
      repeat (rw [giffn] at h;obtain ⟨_,h⟩:=h)
      refine O.pu (U.indexAr rfl rfl (.tmp rfl) rfl rfl rfl .int (by decide) (by decide)) ?_
      refine S.r 2 rfl rfl ?_
      refine O.pu (Pu.bin (.tmp rfl) (.tmp rfl) (.rem (by omega))) ?_
      refine S.e 1 rfl rfl ?_
      refine X.seq ?_
      refine S.A 2 rfl rfl ?_
      refine X.condP (.tmp rfl) (fun c=>?_) (fun c=>?_)
      · rw [if_pos c] at h
        refine X.still ?_
        refine S.e 4 rfl rfl ?_
        refine S.A 8 rfl rfl ?_
        refine X.ret ?_
        cases h
        exact S.R rfl rfl rfl
      · rw [if_neg c] at h
        refine X.skip ?_
        refine S.A 8 rfl rfl ?_
        refine X.ret ?_
        cases h
        exact S.R rfl rfl rfl
end Go.Proofs.YtakidmbnkkhojaaGreat
end
