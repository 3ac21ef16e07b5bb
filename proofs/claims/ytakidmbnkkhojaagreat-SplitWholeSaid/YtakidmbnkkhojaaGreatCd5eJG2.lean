-- Joined of: TI X1 X2 X3 X4 X5 K26 G118 G119 G80 X6 G116 G117 G78 G40 G105 G72 G73 G30 G97 G74 G32
import Derived.Test.YtakidmbnkkhojaaGreatCd5eJV1
import Derived.Test.YtakidmbnkkhojaaGreatProg
import Derived.KernelRfl
import Derived.Test.YtakidmbnkkhojaaGreatCd5eX
import Derived.Test.YtakidmbnkkhojaaGreatCd5eD
import Derived.Test.YtakidmbnkkhojaaGreatCd5eWWords
import Derived.Test.YtakidmbnkkhojaaGreatCd5eWMore
section
namespace Go.Proofs.YtakidmbnkkhojaaGreat
open Go.AVL
instance:TI Tryz.prog 2 ⟨false,1,8,[.int .i64 0], .int .i64⟩:=⟨by kernel_rfl⟩
instance:TI Tryz.prog 3 ⟨false,1,8,[.int .i64 0], .int .i64⟩:=⟨by kernel_rfl⟩
instance:TI Tryz.prog 4 ⟨false,1,1,[.bool false], .bool⟩:=⟨by kernel_rfl⟩
instance:TI Tryz.prog 5 ⟨false,1,1,[.int .u8 0], .int .u8⟩:=⟨by kernel_rfl⟩
instance:TI Tryz.prog 6 ⟨false,1,1,[.int .u8 0], .int .u8⟩:=⟨by kernel_rfl⟩
instance:TI Tryz.prog 7 ⟨true,4,24,[.int .i64 0, .int .i64 0, .bool false, .int .u8 0], .st [(0,2,1),(1,3,1),(2,4,1),(3,6,1)]⟩:=⟨by kernel_rfl⟩
instance:TI Tryz.prog 8 ⟨true,4,24,[.int .i64 0, .int .i64 0, .bool false, .int .u8 0], .st [(0,2,1),(1,3,1),(2,4,1),(3,6,1)]⟩:=⟨by kernel_rfl⟩
instance:TI Tryz.prog 9 ⟨false,1,16,[.str .empty], .str⟩:=⟨by kernel_rfl⟩
instance:TI Tryz.prog 10 ⟨false,1,16,[.str .empty], .str⟩:=⟨by kernel_rfl⟩
instance:TI Tryz.prog 11 ⟨false,1,16,[.str .empty], .str⟩:=⟨by kernel_rfl⟩
instance:TI Tryz.prog 12 ⟨false,1,8,[.int .u64 0], .int .u64⟩:=⟨by kernel_rfl⟩
instance:TI Tryz.prog 13 ⟨true,2,24,[.str .empty, .int .u64 0], .st [(0,9,1),(1,12,1)]⟩:=⟨by kernel_rfl⟩
instance:TI Tryz.prog 14 ⟨true,2,24,[.str .empty, .int .u64 0], .st [(0,9,1),(1,12,1)]⟩:=⟨by kernel_rfl⟩
instance:TI Tryz.prog 15 ⟨false,1,8,[.bad], .ptr 206⟩:=⟨by kernel_rfl⟩
instance:TI Tryz.prog 16 ⟨false,1,8,[.bad], .ptr 209⟩:=⟨by kernel_rfl⟩
instance:TI Tryz.prog 17 ⟨false,1,8,[.bad], .ptr 216⟩:=⟨by kernel_rfl⟩
instance:TI Tryz.prog 18 ⟨true,1,8,[.bad], .st [(0,17,1)]⟩:=⟨by kernel_rfl⟩
instance:TI Tryz.prog 19 ⟨true,1,8,[.bad], .st [(0,17,1)]⟩:=⟨by kernel_rfl⟩
instance:TI Tryz.prog 21 ⟨false,1,4,[.int .i32 0], .int .i32⟩:=⟨by kernel_rfl⟩
instance:TI Tryz.prog 22 ⟨true,3,24,[.int .i64 0, .int .i64 0, .int .i64 0], .arr 3 3⟩:=⟨by kernel_rfl⟩
instance:TI Tryz.prog 23 ⟨false,1,2,[.int .u16 0], .int .u16⟩:=⟨by kernel_rfl⟩
instance:TI Tryz.prog 24 ⟨false,1,24,[.fi .i16 []], .sl 64⟩:=⟨by kernel_rfl⟩
instance:TI Tryz.prog 25 ⟨true,7,88,[.int .i64 0, .int .i64 0, .int .i64 0, .int .u16 0, .fi .i16 [], .fi .i16 [], .int .u8 0], .st [(0,22,3),(3,23,1),(4,24,1),(5,24,1),(6,5,1)]⟩:=⟨by kernel_rfl⟩
instance:TI Tryz.prog 26 ⟨true,7,88,[.int .i64 0, .int .i64 0, .int .i64 0, .int .u16 0, .fi .i16 [], .fi .i16 [], .int .u8 0], .st [(0,22,3),(3,23,1),(4,24,1),(5,24,1),(6,5,1)]⟩:=⟨by kernel_rfl⟩
instance:TI Tryz.prog 27 ⟨true,3,24,[.int .i64 0, .int .i64 0, .int .i64 0], .st [(0,3,1),(1,3,1),(2,3,1)]⟩:=⟨by kernel_rfl⟩
instance:TI Tryz.prog 28 ⟨true,3,24,[.int .i64 0, .int .i64 0, .int .i64 0], .st [(0,3,1),(1,3,1),(2,3,1)]⟩:=⟨by kernel_rfl⟩
instance:TI Tryz.prog 29 ⟨false,1,24,[.fv []], .sl 28⟩:=⟨by kernel_rfl⟩
instance:TI Tryz.prog 30 ⟨true,14,160,[.int .i64 0, .int .i64 0, .int .i64 0, .int .u16 0, .fi .i16 [], .fi .i16 [], .int .u8 0, .int .i64 0, .int .i64 0, .int .i64 0, .int .i64 0, .int .i64 0, .int .i64 0, .fv []], .st [(0,26,7),(7,28,3),(10,28,3),(13,29,1)]⟩:=⟨by kernel_rfl⟩
instance:TI Tryz.prog 31 ⟨true,14,160,[.int .i64 0, .int .i64 0, .int .i64 0, .int .u16 0, .fi .i16 [], .fi .i16 [], .int .u8 0, .int .i64 0, .int .i64 0, .int .i64 0, .int .i64 0, .int .i64 0, .int .i64 0, .fv []], .st [(0,26,7),(7,28,3),(10,28,3),(13,29,1)]⟩:=⟨by kernel_rfl⟩
instance:TI Tryz.prog 37 ⟨true,14,144,[.int .i64 0, .int .i64 0, .int .i64 0, .int .u16 0, .fi .i16 [], .fi .i16 [], .int .u8 0, .int .i64 0, .int .i64 0, .int .i64 0, .int .i64 0, .int .i64 0, .int .i64 0, .int .i64 0], .st [(0,26,7),(7,28,3),(10,28,3),(13,3,1)]⟩:=⟨by kernel_rfl⟩
instance:TI Tryz.prog 38 ⟨true,14,144,[.int .i64 0, .int .i64 0, .int .i64 0, .int .u16 0, .fi .i16 [], .fi .i16 [], .int .u8 0, .int .i64 0, .int .i64 0, .int .i64 0, .int .i64 0, .int .i64 0, .int .i64 0, .int .i64 0], .st [(0,26,7),(7,28,3),(10,28,3),(13,3,1)]⟩:=⟨by kernel_rfl⟩
instance:TI Tryz.prog 39 ⟨false,1,24,[.fv []], .sl 55⟩:=⟨by kernel_rfl⟩
instance:TI Tryz.prog 40 ⟨false,1,8,[.int .i64 0], .int .i64⟩:=⟨by kernel_rfl⟩
instance:TI Tryz.prog 43 ⟨false,1,24,[.fi .u64 []], .sl 102⟩:=⟨by kernel_rfl⟩
instance:TI Tryz.prog 44 ⟨true,1,24,[.fi .u64 []], .st [(0,43,1)]⟩:=⟨by kernel_rfl⟩
instance:TI Tryz.prog 45 ⟨true,1,24,[.fi .u64 []], .st [(0,43,1)]⟩:=⟨by kernel_rfl⟩
instance:TI Tryz.prog 46 ⟨true,2,32,[.fi .u64 [], .bool false], .st [(0,45,1),(1,4,1)]⟩:=⟨by kernel_rfl⟩
instance:TI Tryz.prog 47 ⟨true,2,32,[.fi .u64 [], .bool false], .st [(0,45,1),(1,4,1)]⟩:=⟨by kernel_rfl⟩
instance:TI Tryz.prog 48 ⟨true,3,56,[.fi .u64 [], .bool false, .fi .u64 []], .st [(0,47,2),(2,45,1)]⟩:=⟨by kernel_rfl⟩
instance:TI Tryz.prog 49 ⟨true,3,56,[.fi .u64 [], .bool false, .fi .u64 []], .st [(0,47,2),(2,45,1)]⟩:=⟨by kernel_rfl⟩
instance:TI Tryz.prog 52 ⟨false,1,8,[.int .i64 0], .int .i64⟩:=⟨by kernel_rfl⟩
instance:TI Tryz.prog 54 ⟨true,6,48,[.int .i64 0, .int .i64 0, .int .i64 0, .int .i64 0, .int .i64 0, .int .i64 0], .st [(0,28,3),(3,28,3)]⟩:=⟨by kernel_rfl⟩
instance:TI Tryz.prog 55 ⟨true,6,48,[.int .i64 0, .int .i64 0, .int .i64 0, .int .i64 0, .int .i64 0, .int .i64 0], .st [(0,28,3),(3,28,3)]⟩:=⟨by kernel_rfl⟩
instance:TI Tryz.prog 58 ⟨false,1,24,[.fv []], .sl 91⟩:=⟨by kernel_rfl⟩
instance:TI Tryz.prog 61 ⟨false,1,24,[.fv []], .sl 49⟩:=⟨by kernel_rfl⟩
instance:TI Tryz.prog 62 ⟨false,1,24,[.fv []], .sl 71⟩:=⟨by kernel_rfl⟩
instance:TI Tryz.prog 64 ⟨false,1,2,[.int .i16 0], .int .i16⟩:=⟨by kernel_rfl⟩
instance:TI Tryz.prog 67 ⟨false,1,24,[.fi .i64 []], .sl 3⟩:=⟨by kernel_rfl⟩
instance:TI Tryz.prog 68 ⟨true,2,32,[.fi .i64 [], .bool false], .st [(0,67,1),(1,4,1)]⟩:=⟨by kernel_rfl⟩
instance:TI Tryz.prog 69 ⟨true,2,32,[.fi .i64 [], .bool false], .st [(0,67,1),(1,4,1)]⟩:=⟨by kernel_rfl⟩
instance:TI Tryz.prog 70 ⟨true,3,56,[.fi .i64 [], .bool false, .fi .i64 []], .st [(0,69,2),(2,67,1)]⟩:=⟨by kernel_rfl⟩
instance:TI Tryz.prog 71 ⟨true,3,56,[.fi .i64 [], .bool false, .fi .i64 []], .st [(0,69,2),(2,67,1)]⟩:=⟨by kernel_rfl⟩
instance:TI Tryz.prog 81 ⟨false,1,24,[.fi .i64 []], .sl 52⟩:=⟨by kernel_rfl⟩
instance:TI Tryz.prog 91 ⟨true,6,48,[.int .i64 0, .int .i64 0, .int .i64 0, .int .i64 0, .int .i64 0, .int .i64 0], .st [(0,28,3),(3,28,3)]⟩:=⟨by kernel_rfl⟩
instance:TI Tryz.prog 102 ⟨false,1,8,[.int .u64 0], .int .u64⟩:=⟨by kernel_rfl⟩
instance:TI Tryz.prog 123 ⟨false,1,8,[.int .u64 0], .int .u64⟩:=⟨by kernel_rfl⟩
instance:TI Tryz.prog 138 ⟨false,1,24,[.fv []], .sl 9⟩:=⟨by kernel_rfl⟩
instance:TI Tryz.prog 141 ⟨false,1,8,[.bad], .ptr 144⟩:=⟨by kernel_rfl⟩
instance:TI Tryz.prog 142 ⟨false,1,24,[.fi .u8 []], .sl 5⟩:=⟨by kernel_rfl⟩
instance:TI Tryz.prog 143 ⟨true,2,32,[.bad, .fi .u8 []], .st [(0,141,1),(1,142,1)]⟩:=⟨by kernel_rfl⟩
instance:TI Tryz.prog 144 ⟨true,2,32,[.bad, .fi .u8 []], .st [(0,141,1),(1,142,1)]⟩:=⟨by kernel_rfl⟩
instance:TI Tryz.prog 156 ⟨false,1,8,[.int .i64 0], .int .i64⟩:=⟨by kernel_rfl⟩
instance:TI Tryz.prog 164 ⟨false,1,4,[.int .u32 0], .int .u32⟩:=⟨by kernel_rfl⟩
instance:TI Tryz.prog 166 ⟨true,12,96,[.int .i64 0, .int .i64 0, .int .i64 0, .int .i64 0, .int .i64 0, .int .i64 0, .int .i64 0, .int .i64 0, .int .i64 0, .int .i64 0, .int .i64 0, .int .i64 0], .arr 12 3⟩:=⟨by kernel_rfl⟩
instance:TI Tryz.prog 180 ⟨true,20,20,[.int .u8 0, .int .u8 0, .int .u8 0, .int .u8 0, .int .u8 0, .int .u8 0, .int .u8 0, .int .u8 0, .int .u8 0, .int .u8 0, .int .u8 0, .int .u8 0, .int .u8 0, .int .u8 0, .int .u8 0, .int .u8 0, .int .u8 0, .int .u8 0, .int .u8 0, .int .u8 0], .arr 20 5⟩:=⟨by kernel_rfl⟩
instance:TI Tryz.prog 181 ⟨false,1,8,[.bad], .ptr 5⟩:=⟨by kernel_rfl⟩
instance:TI Tryz.prog 185 ⟨false,1,8,[.int .u64 0], .int .u64⟩:=⟨by kernel_rfl⟩
instance:TI Tryz.prog 189 ⟨false,1,8,[.bad], .ptr 3⟩:=⟨by kernel_rfl⟩
instance:TI Tryz.prog 200 ⟨false,1,8,[.bad], .ptr 185⟩:=⟨by kernel_rfl⟩
instance:TI Tryz.prog 204 ⟨false,1,8,[.bad], .ptr 218⟩:=⟨by kernel_rfl⟩
instance:TI Tryz.prog 205 ⟨true,4,40,[.bad, .bad, .bad, .str .empty], .st [(0,17,1),(1,17,1),(2,17,1),(3,9,1)]⟩:=⟨by kernel_rfl⟩
instance:TI Tryz.prog 206 ⟨true,4,40,[.bad, .bad, .bad, .str .empty], .st [(0,17,1),(1,17,1),(2,17,1),(3,9,1)]⟩:=⟨by kernel_rfl⟩
instance:TI Tryz.prog 207 ⟨true,0,0,[], .arr 0 16⟩:=⟨by kernel_rfl⟩
instance:TI Tryz.prog 208 ⟨true,0,0,[], .st [(0,207,0)]⟩:=⟨by kernel_rfl⟩
instance:TI Tryz.prog 209 ⟨true,0,0,[], .st [(0,207,0)]⟩:=⟨by kernel_rfl⟩
instance:TI Tryz.prog 210 ⟨false,1,1,[.int .u8 0], .int .u8⟩:=⟨by kernel_rfl⟩
instance:TI Tryz.prog 211 ⟨false,1,1,[.int .u8 0], .int .u8⟩:=⟨by kernel_rfl⟩
instance:TI Tryz.prog 213 ⟨false,1,4,[.int .i32 0], .int .i32⟩:=⟨by kernel_rfl⟩
instance:TI Tryz.prog 214 ⟨false,1,4,[.int .i32 0], .int .i32⟩:=⟨by kernel_rfl⟩
instance:TI Tryz.prog 217 ⟨true,1,16,[.str .empty], .st [(0,9,1)]⟩:=⟨by kernel_rfl⟩
instance:TI Tryz.prog 218 ⟨true,1,16,[.str .empty], .st [(0,9,1)]⟩:=⟨by kernel_rfl⟩
theorem mixed:Tryz.prog.follows .mixedOrders=true:=by kernel_rfl
end Go.Proofs.YtakidmbnkkhojaaGreat
end

section
namespace Go.AVL
open Go.RowKit Go.Proofs.YtakidmbnkkhojaaGreatX Go.Proofs.YtakidmbnkkhojaaGreatW.PrintWords Go.Proofs.YtakidmbnkkhojaaGreatW.PrintLast Go.Proofs.YtakidmbnkkhojaaGreatW.PrintMore
set_option linter.unusedVariables false
section
variable {P : Program} {st : St} {Q : Out → St → Prop} {K : St → Prop}
variable {ops : Array Oper} {os : List Oper} {d ty : Nat} {op : Op} {pos : String} {aft : Array Edge} {v : AV} {R : List Nat} {b : Blk} {n1 k j : Nat}
theorem U.whole {a:Bool} {n:Nat} {cs:List AV} (ha:a=true) (hn:cs.length=n):Part a n 0 (.agg cs) (.agg cs):=by subst ha;exact .whole hn
theorem U.sub {a:Bool} {n o:Nat} {cs r:List AV} (ha:a=true) (h:Ext cs o n r):Part a n o (.agg cs) (.agg r):=by subst ha;exact .sub h
theorem U.cell {a:Bool} {n o:Nat} {cs:List AV} {v:AV} (ha:a=false) (hn:n=1) (h:cs[o]?=some v):Part a n o (.agg cs) v:=by subst ha;subst hn;exact .cell h
theorem U.self {a:Bool} {n:Nat} {v:AV} (ha:a=false) (hn:n=1) (h:v.one=true):Part a n 0 v v:=by subst ha;subst hn;exact .self h
theorem W.t {x:Nat} {want:Bool} (hd:dstAt ops j=some x) (ht:st.t x = .bool want):Wt ops st (some (j,want)) true:=by
  have h:Wt ops st (some (j,want)) (want == want):=.yes hd ht
  rwa [show (want == want)=true by cases want <;> rfl] at h
theorem W.f {x:Nat} {p want:Bool} (hd:dstAt ops j=some x) (ht:st.t x = .bool p) (hn:(p == want)=false):Wt ops st (some (j,want)) false:=by
  have h:Wt ops st (some (j,want)) (p == want):=.yes hd ht
  rwa [hn] at h
theorem U.rdI {t i e ie x y k l k' n} [h:TI P t i] [h':TI P e ie] (hd:i.d = .sl e) (h1:ie.size=1) (hx:Ev st x (.fi k l)) (hy:Ev st y (.int k' n)) (h0:0≤n) (hn:n < (l.length:Int)) :
    Pu P st d (.indexAddr t x y) (.fp (.int k (rd l n)) 0) none []:=.indexI hd h1 hx hy h0 hn
theorem U.rdO {t i x s u n k l} [h:TI P t i] (hx:Ev st x (.op s u (Int.toNat n) 0)) (hu:(st.b s).ver=u) (hm:(st.b s).mode.live=true) (hr:(st.b s).row = .ints k l) (ha:i.agg=false) (hs:i.size=1) :
    Pu P st d (.load t x) (.int k (rd l n)) none [s]:=.load hx hu (Mode.live_ne hm) (by rw [hr];exact U.self ha hs rfl)
theorem U.shrW {t k k' a b} (h:0≤b):BinR P .shr t (.int k a) (.int k' b) (.int k (shr k a b)):=U.shrV h
theorem U.shlW {t k k' a b} (h:0≤b):BinR P .shl t (.int k a) (.int k' b) (.int k (shl k a b)):=.shl h
theorem U.mx {x y k k' p q ts} (hx:Ev st x (.int k p)) (hy:Ev st y (.int k' q)):Pu P st d (.call ⟨.builtin .max,#[x,y],ts⟩) (.int k (mx p q)) none []:=.max hx hy
theorem U.mn {x y k k' p q ts} (hx:Ev st x (.int k p)) (hy:Ev st y (.int k' q)):Pu P st d (.call ⟨.builtin .min,#[x,y],ts⟩) (.int k (mn p q)) none []:=.min hx hy
theorem U.sadd {t a b} (h:a.size + b.size≤9223372036854775807):BinR P .add t (.str a) (.str b) (.str (a ++ b)):=.sadd h
end
end Go.AVL
end

section
namespace Go.Proofs.YtakidmbnkkhojaaGreat
open Go.AVL Go.RowKit Go.Proofs.YtakidmbnkkhojaaGreatX Go.Proofs.YtakidmbnkkhojaaGreatW.PrintWords Go.Proofs.YtakidmbnkkhojaaGreatW.PrintLast Go.Proofs.YtakidmbnkkhojaaGreatW.PrintMore
set_option maxRecDepth 100000
theorem cs_u64x3 {f:FuncId} {x y c a b:Int} (hr : ∀ w,(callFunc f #[.int .u64 x, .int .u64 y, .int .u64 c]).run Tryz.prog w = .ok (.value (.tuple #[.int .u64 a, .int .u64 b])) w) :
    CS Tryz.prog f [.int .u64 x, .int .u64 y, .int .u64 c] .no [.int .u64 a, .int .u64 b]:=by
  intro A wg w m V hwg hw hs hv
  have h0:=(hv 0 (by simp)).int_inv
  have h1:=(hv 1 (by simp)).int_inv
  have h2:=(hv 2 (by simp)).int_inv
  have hV:V = #[.int .u64 x, .int .u64 y, .int .u64 c]:=by
    have h3:V.size=3:=hs
    apply Array.ext
    · exact h3
    · intro i hi1 hi2
      rw [h3] at hi1
      rcases i with _|_|_|i
      · simpa [Array.getD,h3] using h0
      · simpa [Array.getD,h3] using h1
      · simpa [Array.getD,h3] using h2
      · omega
  subst hV
  unfold CallW
  rw [hr w]
  exact ⟨A,m,hw,(fun p r1 r2 e h=>by cases h), .tup [_,_] #[_,_] rfl fun i hi=>by
    rcases i with _|_|i
    · exact .int _ _
    · exact .int _ _
    · simp at hi;omega⟩
theorem add64_cs {x y c:Int} (hc:c≤1):CS Tryz.prog 128 [.int .u64 x, .int .u64 y, .int .u64 c] .no [.int .u64 (add64s x y c), .int .u64 (add64c x y c)]:=cs_u64x3 (xrun_add64 x y c hc)
theorem sub64_cs {x y c:Int} (hc:c≤1):CS Tryz.prog 123 [.int .u64 x, .int .u64 y, .int .u64 c] .no [.int .u64 (sub64d x y c), .int .u64 (sub64b x y c)]:=cs_u64x3 (xrun_sub64 x y c hc)
end Go.Proofs.YtakidmbnkkhojaaGreat
end

section
namespace Go.Proofs.YtakidmbnkkhojaaGreat
open Go.AVL Go.RowKit Go.Proofs.YtakidmbnkkhojaaGreat.F Go.Proofs.YtakidmbnkkhojaaGreatX Go.Proofs.YtakidmbnkkhojaaGreatW.PrintWords Go.Proofs.YtakidmbnkkhojaaGreatW.PrintLast Go.Proofs.YtakidmbnkkhojaaGreatW.PrintMore
theorem row_l : ∀ (k:Nat) {x1 x2 x6 x13 x14 x15 y r},nat_Nat_row.l0 k x1 x2 x6 x13 x14 x15 y=some r→r.length=x2.length
  | 0,_,_,_,_,_,_,_,_,h=>by unfold nat_Nat_row.l0 at h;cases h
  | k + 1,_,_,_,_,_,_,_,_,h=>by
    unfold nat_Nat_row.l0 at h
    split at h
    · repeat first|(rw [giff] at h;obtain ⟨_,h⟩:=h)
      obtain ⟨_,_,h⟩:=Option.bind_eq_some_iff.1 h
      repeat first|(rw [giff] at h;obtain ⟨_,h⟩:=h)
      rw [row_l k h,List.length_set]
    · repeat first|(rw [giff] at h;obtain ⟨_,h⟩:=h)
      cases h
      rw [List.length_set]
theorem nat_Nat_row_len {k l a x r} (h:nat_Nat_row.f k l a x=some r):r.length=x.length:=row_l k h
theorem back_l : ∀ (k:Nat) {x0 x1 x4 x7 x8 x9 r},quot_back.l0 k x0 x1 x4 x7 x8 x9=some r→r.length=x0.length
  | 0,_,_,_,_,_,_,_,h=>by unfold quot_back.l0 at h;cases h
  | k + 1,_,_,_,_,_,_,_,h=>by
    unfold quot_back.l0 at h
    split at h
    · repeat first|(rw [giff] at h;obtain ⟨_,h⟩:=h)
      rw [back_l k h,List.length_set]
    · repeat first|(rw [giff] at h;obtain ⟨_,h⟩:=h)
      cases h
      rw [List.length_set]
theorem quot_back_len {k l x r} (h:quot_back.f k l x=some r):r.length=l.length:=back_l k h
theorem less_l : ∀ (k:Nat) {x0 x1 x2 x7 x8 x14 x15 x16 r},quot_less.l0 k x0 x1 x2 x7 x8 x14 x15 x16=some r→r.2.length=x0.length
  | 0,_,_,_,_,_,_,_,_,_,h=>by unfold quot_less.l0 at h;cases h
  | k + 1,_,_,_,_,_,_,_,_,_,h=>by
    unfold quot_less.l0 at h
    split at h
    · repeat first|(rw [giff] at h;obtain ⟨_,h⟩:=h)
      obtain ⟨_,_,h⟩:=Option.bind_eq_some_iff.1 h
      repeat first|(rw [giff] at h;obtain ⟨_,h⟩:=h)
      rw [less_l k h,List.length_set]
    · repeat first|(rw [giff] at h;obtain ⟨_,h⟩:=h)
      cases h
      show (List.set _ _ _).length=_
      rw [List.length_set]
theorem quot_less_len {k l x a r} (h:quot_less.f k l x a=some r):r.2.length=l.length:=less_l k h
end Go.Proofs.YtakidmbnkkhojaaGreat
end

section
namespace Go.AVL
open Go.RowKit
set_option linter.unusedVariables false
inductive SnapH (st:St) (ss:List Nat):Nat→List AV→List AV→Prop
  | hole {v a vs bs}:SnapL st ss vs bs→SnapH st ss 0 (v :: vs) (a :: bs)
  | cons {p v a vs bs}:Snap st ss v a→SnapH st ss p vs bs→SnapH st ss (p + 1) (v :: vs) (a :: bs)
theorem SnapH.spec {st:St} {ss:List Nat} {p:Nat} {vs bs:List AV} (h:SnapH st ss p vs bs):vs.length=bs.length∧p < vs.length∧∀ i,i < bs.length→i≠p→Snap st ss (vs.getD i .bad) (bs.getD i .bad):=by
  induction h with
  | hole hs =>
    refine ⟨by simp [hs.1],by simp,fun i hi hn=>?_⟩
    cases i with
    | zero=>exact absurd rfl hn
    | succ i=>exact hs.2 i (by have:=hs.1;simp at hi;omega)
  | cons hs _ ih =>
    obtain ⟨h1,h2,h3⟩:=ih
    refine ⟨by simp [h1],by simpa using h2,fun i hi hn=>?_⟩
    cases i with
    | zero=>exact hs
    | succ i=>exact h3 i (by simpa using hi) (fun e=>hn (by rw [e]))
section
variable {P : Program} {st : St} {d : Nat}
theorem U.sliceO0 {t i e ie x s u len full lo hi mx a b} [h:TI P t i] [h':TI P e ie] (hd:i.d = .sl e) (hx:Ev st x (.os s u 0 len full)) (hu:(st.b s).ver=u) (hm:(st.b s).mode.live=true) (hz:szOk ie.size ((st.b s).row.get 0))
    (hlo:Bd st lo 0 a) (hhi:Bd st hi len b) (hmx:Mx st b len hi mx) (hab:a≤b) (hb:b≤len):Pu P st d (.slice t x lo hi mx) (.os s u a (b - a) false) none [s]:=.sliceO hd hx hu (Mode.live_ne hm) (.inr hz) hlo hhi hmx hab hb (Nat.zero_add a).symm rfl
theorem U.callW {args ats f vs bs res ss p s u off hi len len2 full k l l' e m} (hv:EvL st args.toList vs) (hs:SnapH st ss p vs bs) (hp:vs.getD p .bad = .os s u off len full) (hap:bs.getD p .bad = .os p 1 0 len2 false)
    (hss:memB ss s=false) (hB:st.b s=⟨u,m, .ints k l,e⟩) (hm:m.wr=true) (hhi:hi=off + len) (hle:hi≤l.length) (hl2:len=len2) (hl':l'.length=len) (hf:Flat (AV.mk res))
    (hc:CS P f bs ⟨some (p, .ints k ((l.take hi).drop off), .ints k l',e),none⟩ res) :
    Ef P st d (.call ⟨.value (.func f),args,ats⟩) (AV.mk res) (upd st.b s ⟨u,m, .ints k (l.take off ++ l' ++ l.drop hi),e⟩):=by
  obtain ⟨h1,h2,h3⟩:=hs.spec
  subst hl2
  subst hhi
  have h4:Ef P st d (.call ⟨.value (.func f),args,ats⟩) (AV.mk res) (upd st.b s ((st.b s).setRow (.ints k (l.take off ++ l' ++ l.drop (off + len))))):=by
    refine .callI (caps:=[]) (ss:=ss) (p:=p) (s:=s) (u:=u) (off:=off) (len:=len) (full:=full) (rin:=.ints k ((l.take (off + len)).drop off)) (rout:=.ints k l') (e:=e) .fn hv (by rw [List.append_nil];exact h2) (by rw [List.append_nil];exact hp) (by rw [← h1];rfl)
      (fun i hi hn=>by rw [List.append_nil];exact h3 i hi hn) hap (fun hm=>by rw [memB_iff.2 hm] at hss;cases hss) (by rw [hB]) (by rw [hB];exact Mode.wr_or hm) (by rw [hB]) ?_ (by rw [hB];exact .ints hl') hc hf
    rw [hB]
    have:(l.take (off + len)).drop off=(l.drop off).take len:=by rw [List.drop_take,Nat.add_sub_cancel_left]
    rw [this]
    exact .ints
  rw [hB] at h4
  exact h4
end
theorem win_e {α β:Type} {c:Prop} [Decidable c] {x:Option α} {g:α→β} {q:β} (h:(if c then x.map g else none)=some q):c∧∃ r,x=some r∧q=g r:=by
  by_cases hc:c
  · rw [if_pos hc] at h
    obtain ⟨r,h1,h2⟩:=Option.map_eq_some_iff.1 h
    exact ⟨hc,r,h1,h2.symm⟩
  · rw [if_neg hc] at h;cases h
theorem Snap.osW {st:St} {ss:List Nat} {s u off len full k l hi} (hs:s ∈ ss) (hu:(st.b s).ver=u) (hm:(st.b s).mode≠.dead) (hr:(st.b s).row = .ints k l) (hh:hi=off + len) :
    Snap st ss (.os s u off len full) (.fi k ((l.take hi).drop off)):=by
  have h:(l.take hi).drop off=(l.drop off).take len:=by rw [hh,List.drop_take,Nat.add_sub_cancel_left]
  rw [h]
  exact .osI hs hu hm hr
theorem U.indexW {P:Program} {st:St} {d:Nat} {t i e ie x y s u off len full k' j n} [h:TI P t i] [h':TI P e ie] (hd:i.d = .sl e) (hx:Ev st x (.os s u off len full)) (hu:(st.b s).ver=u) (hm:(st.b s).mode.live=true) (hy:Ev st y (.int k' j)) (h0:0≤j) (hj:j < (len:Int))
    (hs:((st.b s).row.get (Int.toNat n)).cells.length=ie.size) (hb:notBad ((st.b s).row.get (Int.toNat n))=true) (hn:off + j.toNat=Int.toNat n):Pu P st d (.indexAddr t x y) (.op s u (Int.toNat n) 0) none [s] :=
  .indexO hd hx hu (Mode.live_ne hm) hy h0 hj hn.symm ⟨hs,notBad_ne hb⟩
theorem U.cutL {P:Program} {st:St} {d:Nat} {x s u u' off len full k l e row} (hx:Ev st x (.os s u off len full)) (hB:st.b s=⟨u, .own, .ints k l,e⟩) (hr:(l.drop off).take len=row) (hl:row.length=len) (hu:(st.b d).ver + 1=u'):Ef P st d (.assign x) (.os d u' 0 row.length false) (upd (upd st.b s ⟨u, .dead, .ints k l,e⟩) d ⟨u', .own, .ints k row,e⟩):=by
  rw [hl]
  exact U.cutE hx hB hr hu
theorem cutH {l:List Int} {n:Nat}:(l.drop 0).take (n - 0)=l.take n:=rfl
end Go.AVL
end

section
namespace Go.AVL
open Go.RowKit
set_option linter.unusedVariables false
theorem ClL.map {α:Type} {en:α→AV} {l:List α} (h : ∀ x,Cl (en x)):ClL (l.map en):=by
  intro i hi
  rw [List.length_map] at hi
  rw [List.getD_eq_getElem?_getD,List.getElem?_map,List.getElem?_eq_getElem hi]
  exact h _
theorem map_at {α:Type} {en:α→AV} {l:List α} {p:AV→Prop} (h : ∀ x,p (en x)) {i:Nat} (hi:i < l.length):p ((l.map en).getD i .bad):=by
  rw [List.getD_eq_getElem?_getD,List.getElem?_map,List.getElem?_eq_getElem hi]
  exact h _
section
variable {P : Program} {st : St} {d : Nat}
theorem U.litS {α:Type} {en:α→AV} {t i e ie len parts} {l:List α} [h:TI P t i] [h':TI P e ie] (hd:i.d = .sl e) (hp:PartsR st 0 parts.toList (l.map en)) (hl:len=l.length) (hs:Nat.ble (len * ie.size) 16777216=true) (h0:Nat.blt 0 ie.size=true)
    (hc : ∀ x,(en x).cells.length=ie.size):Pu P st d (.buildSlice t len parts) (.os d ((st.b d).ver + 1) 0 l.length true) (some ⟨(st.b d).ver + 1, .own, .vals (l.map en),e⟩) []:=by
  subst hl
  exact .litO hd hp (by simp) (Nat.le_of_ble_eq_true hs) (Nat.le_of_ble_eq_true h0) (fun j hj=>map_at (p:=fun v=>v.cells.length=ie.size) hc (by simpa using hj)) .vals
theorem U.appendSE {α:Type} {en:α→AV} {t i e ie x y s u u' len ss v} {l l2:List α} [h:TI P t i] [h':TI P e ie] (hd:i.d = .sl e) (hx:Ev st x (.os s u 0 len true)) (hB:st.b s=⟨u, .own, .vals (l.map en),e⟩) (hl:len=l.length)
    (hy:Ev st y v) (hsn:Snap st ss v (.fv (l2.map en))) (h0:Nat.blt 0 ie.size=true) (hc : ∀ x,szOk ie.size (en x)) (hm:l.length + l2.length≤maxLen) (hb:(l.length + l2.length) * ie.bytes≤140737488355328) (hu:(st.b d).ver + 1=u') :
    Ef P st d (.call ⟨.builtin .append,#[x,y],#[t,t]⟩) (.os d u' 0 (l ++ l2).length true) (upd (upd st.b s ⟨u, .dead, .vals (l.map en),e⟩) d ⟨u', .own, .vals ((l ++ l2).map en),e⟩):=by
  have h1:(Row.vals ((l ++ l2).map en)).len=l.length + l2.length:=by simp [Row.len]
  have h2:Ef P st d (.call ⟨.builtin .append,#[x,y],#[t,t]⟩) _ _:=.append (row:=.vals ((l ++ l2).map en)) (r2:=.vals (l2.map en)) (e:=e) (i:=i) (ie:=ie) hd (Nat.le_of_ble_eq_true h0) hx (by rw [hB]) (by rw [hB]) (by rw [hB]) (by rw [hB,hl];simp [Row.len]) hy hsn .fv
    (fun j hj=>map_at (p:=szOk ie.size) hc (by simpa [Row.len] using hj)) (by rw [hB,List.map_append];exact .vals) (by rw [h1];exact hm) (by rw [h1];exact hb)
  rw [hB,hu,h1] at h2
  rw [List.length_append]
  exact h2
theorem U.indexS {t i x y s k n} [h:TI P t i] (hd:i.d = .str) (hx:Ev st x (.str s)) (hy:Ev st y (.int k n)) (h0:0≤n) (hn:n < (s.size:Int)):Pu P st d (.index t x y) (.int .u8 (Go.Proofs.YtakidmbnkkhojaaGreatW.PrintWords.bt s n)) none []:=.indexS hd hx hy h0 hn
theorem U.lenS {α:Type} {en:α→AV} {t i e x} {l:List α} [h:TI P t i] (hd:i.d = .sl e) (hx:Ev st x (.fv (l.map en))):Pu P st d (.call ⟨.builtin .len,#[x],#[t]⟩) (.int .i64 l.length) none []:=by
  have:=Pu.lenV (P:=P) (d:=d) (t:=t) hd hx
  rwa [List.length_map] at this
theorem map_z {α:Type} {en:α→AV} {l:List α} (z:α) {i:Nat} (hi:i < l.length):(l.map en).getD i .bad=en (l.getD i z):=by
  rw [List.getD_eq_getElem?_getD,List.getElem?_map,List.getD_eq_getElem?_getD,List.getElem?_eq_getElem hi]
  rfl
theorem U.rdVS {α:Type} {en:α→AV} {t i e ie x y k n} {l:List α} [h:TI P t i] [h':TI P e ie] (z:α) (hd:i.d = .sl e) (hc : ∀ x,szOk ie.size (en x)) (hx:Ev st x (.fv (l.map en))) (hy:Ev st y (.int k n)) (h0:0≤n) (hn:n < (l.length:Int)) :
    Pu P st d (.indexAddr t x y) (.fp (en (l.getD n.toNat z)) 0) none []:=by
  have he:=map_z (en:=en) z (show n.toNat < l.length by omega)
  have:=Pu.indexV (P:=P) (d:=d) (t:=t) (e:=e) hd (by rw [he];exact hc _) hx hy h0 (by rw [List.length_map];exact hn)
  rwa [he] at this
theorem U.indexAr {t i e ie N x y s u j q k n b} [h1:TI P t i] [h2:TI P e ie] (hd:i.d = .arr N e) (hz:ie.size=1) (hx:Ev st x (.op s u j q)) (hB:st.b s=b) (hu:b.ver=u) (hm:b.mode.live=true) (hy:Ev st y (.int k n)) (h0:0≤n) (hn:n < (N:Int)) :
    Pu P st d (.indexAddr t x y) (.op s u j (q + n.toNat)) none [s]:=by
  refine .ext fun st' ha hb c I m a w o hop hs=>?_
  have hb':=hb s (List.mem_singleton.2 rfl)
  obtain ⟨_,_,_,F1⟩:=h1.facts
  obtain ⟨_,_,_,F2⟩:=h2.facts
  have u1:=F1.und
  rw [td_arr (F1.dd.symm.trans hd)] at u1
  obtain ⟨ad,e1,k1,k2⟩:=((ha x (by simp [Op.operands]) _ hx).vr hs).op_inv
  have e2:=((ha y (by simp [Op.operands]) _ hy).vr hs).int_inv
  obtain ⟨rfl,k4⟩:=k2 (by rw [hb',hB,hu]) (by rw [hb',hB];exact Mode.live_ne hm)
  refine ⟨.pointer (some ⟨(m s).g,((m s).base + j) * (m s).sz + (q + n.toNat),none⟩),?_, .op s u j (q + n.toNat) _ k1 fun _ _=>⟨rfl,k4⟩⟩
  have ha:=addr_add ⟨(m s).g,((m s).base + j) * (m s).sz + q,none⟩ (n.toNat * ie.size) rfl
  have hr:(Instr.indexAt t (.pointer (some ⟨(m s).g,((m s).base + j) * (m s).sz + q,none⟩)) (.int k n)).run P w = .ok (.pointer (some ⟨(m s).g,((m s).base + j) * (m s).sz + (q + n.toNat),none⟩)) w:=by
    rw [hz,Nat.mul_one] at ha
    simp [Instr.indexAt,Instr.sureAddr,asIntOf,run_underlying u1,h0,hn,run_size F2.info,F2.size,hz,ha,Nat.add_assoc]
  simp [execOp,hop,e1,e2,hr]
theorem C.appendSE {α:Type} {en:α→AV} {t i e ie x y s u u' len ss v} {l l2:List α} [h:TI P t i] [h':TI P e ie] (hd:i.d = .sl e) (hx:Ev st x (.os s u 0 len true)) (hB:st.b s=⟨u, .own, .vals (l.map en),e⟩) (hl:len=l.length)
    (hy:Ev st y v) (hsn:Snap st ss v (.fv (l2.map en))) (h0:Nat.blt 0 ie.size=true) (hc : ∀ x,szOk ie.size (en x)) (hm:l.length + l2.length≤maxLen) (hb:(l.length + l2.length) * ie.bytes≤140737488355328) (hu:(st.b d).ver + 1=u') :
    EfC P st d (.call ⟨.builtin .append,#[x,y],#[t,t]⟩) (.os d u' 0 (l ++ l2).length true) (fun B=>upd (upd B s ⟨u, .dead, .vals (l.map en),e⟩) d ⟨u', .own, .vals ((l ++ l2).map en),e⟩) [s,d] (s :: d :: ss):=by
  refine ⟨fun q ha hbb=>?_,fun B z=>?_⟩
  · unfold Ag at ha
    exact U.appendSE hd (ha x (by simp [Op.operands,Call.operands]) _ hx) (by rw [hbb s (by simp)];exact hB) hl (ha y (by simp [Op.operands,Call.operands]) _ hy) (hsn.congr fun z hz=>hbb z (by simp [hz])) h0 hc hm hb (by rw [hbb d (by simp)];exact hu)
  · by_cases e1:z=d
    · subst e1;simp [upd_same]
    · rw [upd_ne _ _ e1]
      by_cases e2:z=s
      · subst e2;rw [upd_same,if_pos (by simp),upd_ne _ _ e1,upd_same]
      · rw [upd_ne _ _ e2,if_neg (by simp [e1,e2])]
theorem C.takeE {x s u u' len row e} (hx:Ev st x (.os s u 0 len true)) (hB:st.b s=⟨u, .own,row,e⟩) (hn:s≠d) (hu:(st.b d).ver + 1=u') :
    EfC P st d (.assign x) (.os d u' 0 len true) (fun B=>upd (upd B s ⟨u, .dead,row,e⟩) d ⟨u', .own,row,e⟩) [s,d] [s,d]:=by
  refine ⟨fun q ha hbb=>?_,fun B z=>?_⟩
  · unfold Ag at ha
    exact U.takeE (ha x (by simp [Op.operands]) _ hx) (by rw [hbb s (by simp)];exact hB) hn (by rw [hbb d (by simp)];exact hu)
  · by_cases e1:z=d
    · subst e1;simp [upd_same]
    · rw [upd_ne _ _ e1]
      by_cases e2:z=s
      · subst e2;rw [upd_same,if_pos (by simp),upd_ne _ _ e1,upd_same]
      · rw [upd_ne _ _ e2,if_neg (by simp [e1,e2])]
end
end Go.AVL
end

section
namespace Go.Proofs.YtakidmbnkkhojaaGreat
open Go.AVL Go.RowKit Go.Proofs.YtakidmbnkkhojaaGreat.F Go.Proofs.YtakidmbnkkhojaaGreatX Go.Proofs.YtakidmbnkkhojaaGreatW.PrintWords Go.Proofs.YtakidmbnkkhojaaGreatW.PrintLast Go.Proofs.YtakidmbnkkhojaaGreatW.PrintMore
set_option linter.unusedVariables false
def en28 (x:S28):AV:=.agg [.int .i64 x.f0, .int .i64 x.f1, .int .i64 x.f2]
def en55 (x:S55):AV:=.agg [.int .i64 x.f0.f0, .int .i64 x.f0.f1, .int .i64 x.f0.f2, .int .i64 x.f1.f0, .int .i64 x.f1.f1, .int .i64 x.f1.f2]
def en91 (x:S91):AV:=.agg [.int .i64 x.f0.f0, .int .i64 x.f0.f1, .int .i64 x.f0.f2, .int .i64 x.f1.f0, .int .i64 x.f1.f1, .int .i64 x.f1.f2]
def en49 (x:S49):AV:=.agg [.fi .u64 x.f0.f0.f0, .bool x.f0.f1, .fi .u64 x.f1.f0]
theorem arr_vr {I:Nat→Prop} {w:World} {B:Nat→Blk} {m:Nat→Reg} {k:IntKind} {l:List Int}:VR I w B m (.agg (l.map (AV.int k))) (.agg (l.map (Value.int k)).toArray):=by
  refine .agg _ _ (by simp) (fun u hu=>?_) fun i hi=>?_
  · simp at hu
    obtain ⟨n,_,rfl⟩:=hu
    rfl
  · rw [List.length_map] at hi
    have e1:(l.map (AV.int k)).getD i .bad = .int k l[i]:=by rw [List.getD_eq_getElem?_getD,List.getElem?_map,List.getElem?_eq_getElem hi];rfl
    have e2:(l.map (Value.int k)).toArray.getD i undef = .int k l[i]:=by rw [Array.getD_eq_getD_getElem?,List.getElem?_toArray,List.getElem?_map,List.getElem?_eq_getElem hi];rfl
    rw [e1,e2]
    exact .int _ _
theorem arr_inv {I:Nat→Prop} {w:World} {B:Nat→Blk} {m:Nat→Reg} {k:IntKind} {l:List Int} {V:Value} (h:VR I w B m (.agg (l.map (AV.int k))) V):V = .agg (l.map (Value.int k)).toArray:=by
  obtain ⟨vs,rfl,h1,h2,h3⟩:=h.cell
  rw [List.length_map] at h1
  congr 1
  apply Array.ext
  · simp [h1]
  · intro i hi1 hi2
    have hil:i < l.length:=by omega
    have:=h3 i (by rw [List.length_map];exact hil)
    have e1:(l.map (AV.int k)).getD i .bad = .int k l[i]:=by rw [List.getD_eq_getElem?_getD,List.getElem?_map,List.getElem?_eq_getElem hil];rfl
    rw [e1] at this
    have e2:=this.int_inv
    rw [Array.getD_eq_getD_getElem?,Array.getElem?_eq_getElem hi1] at e2
    simpa using e2
theorem U.bldAr {P:Program} {st:St} {d:Nat} {t:TypeId} {parts:Array (Nat×Operand)} {k:IntKind} {l:List Int} (hr : ∀ (a:Act) (w:World),(Instr.build t (parts.map fun (i,x)=>(i,a.eval x))).run P w = .ok (.agg (l.map (Value.int k)).toArray) w) :
    Pu P st d (.build t parts) (.agg (l.map (AV.int k))) none []:=by
  refine .ext fun st' ha hb c I m a w o hop hs=>⟨_,?_,arr_vr⟩
  have:=hr a w
  simp [execOp,hop,this]
theorem U.idxAr {P:Program} {st:St} {d:Nat} {t e:TypeId} {x y:Operand} {k kk:IntKind} {l:List Int} {n:Int} (ht:P.underlying t=some (.array l.length e)) (hz:(P.info? e).map (·.size)=some 1) (hu : ∃ q,P.underlying e=some (.int q))
    (hx:Ev st x (.agg (l.map (AV.int kk)))) (hy:Ev st y (.int k n)) (h0:0≤n) (hn:n < (l.length:Int)):Pu P st d (.index t x y) (.int kk (rd l n)) none []:=by
  refine .ext fun st' ha hb c I m a w o hop hs=>⟨.int kk (rd l n),?_, .int _ _⟩
  have e1:=arr_inv ((ha x (by simp [Op.operands]) _ hx).vr hs)
  have e2:=((ha y (by simp [Op.operands]) _ hy).vr hs).int_inv
  have:=run_index_arr (P:=P) t e k kk l n ht hz hu h0 hn w
  simp [execOp,hop,e1,e2,this]
end Go.Proofs.YtakidmbnkkhojaaGreat
end

section
namespace Go.Proofs.YtakidmbnkkhojaaGreat
open Go.AVL Go.RowKit Go.Proofs.YtakidmbnkkhojaaGreat.F Go.Proofs.YtakidmbnkkhojaaGreatX Go.Proofs.YtakidmbnkkhojaaGreatW.PrintWords Go.Proofs.YtakidmbnkkhojaaGreatW.PrintLast Go.Proofs.YtakidmbnkkhojaaGreatW.PrintMore
set_option linter.unusedVariables false
set_option linter.unusedSimpArgs false
set_option maxRecDepth 100000
set_option maxHeartbeats 16000000
noncomputable def c118:Code:=Tryz.f118.body.getD .skip
theorem fn118:FnOk Tryz.prog 118 Tryz.f118 c118:=⟨Tryz.func118,rfl,by kernel_rfl,by kernel_rfl,mixed⟩
theorem bits_Mul32.cs {a0:Int} {a1:Int} {r:Int×Int} (h:bits_Mul32.f a0 a1=some r):CS Tryz.prog 118 [.int .u32 a0, .int .u32 a1] .no [.int .u32 r.1, .int .u32 r.2]:=by
  unfold bits_Mul32.f at h
  refine E.pure fn118 rfl ?_
  refine X.seq ?_
  refine X.still ?_
  refine O.pu (Pu.assign .int) ?_
  refine O.pu (Pu.assign .int) ?_
  refine O.nil ?_
  refine X.seq ?_
  refine X.still ?_
  refine O.pu (Pu.move (.tmp (v:=.int _ _) rfl)) ?_
  refine O.pu (U.convI rfl (.tmp rfl)) ?_
  refine O.pu (Pu.move (.tmp (v:=.int _ _) rfl)) ?_
  refine O.pu (U.convI rfl (.tmp rfl)) ?_
  refine O.pu (Pu.bin (.tmp rfl) (.tmp rfl) .mul) ?_
  refine O.pu (Pu.assign (.tmp (v:=.int _ _) rfl)) ?_
  refine O.nil ?_
  refine X.seq ?_
  refine X.still ?_
  refine O.pu (Pu.move (.tmp (v:=.int _ _) rfl)) ?_
  refine O.pu (Pu.bin (.tmp rfl) .int (U.shrC 4294967296 (by decide) (by decide))) ?_
  refine O.pu (U.convI rfl (.tmp rfl)) ?_
  refine O.pu (Pu.move (.tmp (v:=.int _ _) rfl)) ?_
  refine O.pu (U.convI rfl (.tmp rfl)) ?_
  refine O.pu (Pu.assign (.tmp (v:=.int _ _) rfl)) ?_
  refine O.pu (Pu.assign (.tmp (v:=.int _ _) rfl)) ?_
  refine O.nil ?_
  refine X.ret ?_
  cases h
  exact E.fin [] (.tmp (v:=.int _ _) rfl (.tmp (v:=.int _ _) rfl .nil)) (.cons (.cl .int) (.cons (.cl .int) .nil))
noncomputable def c119:Code:=Tryz.f119.body.getD .skip
theorem fn119:FnOk Tryz.prog 119 Tryz.f119 c119:=⟨Tryz.func119,rfl,by kernel_rfl,by kernel_rfl,mixed⟩
theorem bits_Mul64.cs {a0:Int} {a1:Int} {r:Int×Int} (h:bits_Mul64.f a0 a1=some r):CS Tryz.prog 119 [.int .u64 a0, .int .u64 a1] .no [.int .u64 r.1, .int .u64 r.2]:=by
  unfold bits_Mul64.f at h
  refine E.pure fn119 rfl ?_
  refine X.seq ?_
  refine X.still ?_
  refine O.pu (Pu.assign .int) ?_
  refine O.pu (Pu.assign .int) ?_
  refine O.nil ?_
  refine X.seq ?_
  refine X.still ?_
  refine O.pu (Pu.move (.tmp (v:=.int _ _) rfl)) ?_
  refine O.pu (Pu.bin (.tmp rfl) .int .band) ?_
  refine O.pu (Pu.assign (.tmp (v:=.int _ _) rfl)) ?_
  refine O.nil ?_
  refine X.seq ?_
  refine X.still ?_
  refine O.pu (Pu.move (.tmp (v:=.int _ _) rfl)) ?_
  refine O.pu (Pu.bin (.tmp rfl) .int (U.shrC 4294967296 (by decide) (by decide))) ?_
  refine O.pu (Pu.assign (.tmp (v:=.int _ _) rfl)) ?_
  refine O.nil ?_
  refine X.seq ?_
  refine X.still ?_
  refine O.pu (Pu.move (.tmp (v:=.int _ _) rfl)) ?_
  refine O.pu (Pu.bin (.tmp rfl) .int .band) ?_
  refine O.pu (Pu.assign (.tmp (v:=.int _ _) rfl)) ?_
  refine O.nil ?_
  refine X.seq ?_
  refine X.still ?_
  refine O.pu (Pu.move (.tmp (v:=.int _ _) rfl)) ?_
  refine O.pu (Pu.bin (.tmp rfl) .int (U.shrC 4294967296 (by decide) (by decide))) ?_
  refine O.pu (Pu.assign (.tmp (v:=.int _ _) rfl)) ?_
  refine O.nil ?_
  refine X.seq ?_
  refine X.still ?_
  refine O.pu (Pu.move (.tmp (v:=.int _ _) rfl)) ?_
  refine O.pu (Pu.move (.tmp (v:=.int _ _) rfl)) ?_
  refine O.pu (Pu.bin (.tmp rfl) (.tmp rfl) .mul) ?_
  refine O.pu (Pu.assign (.tmp (v:=.int _ _) rfl)) ?_
  refine O.nil ?_
  refine X.seq ?_
  refine X.still ?_
  refine O.pu (Pu.move (.tmp (v:=.int _ _) rfl)) ?_
  refine O.pu (Pu.move (.tmp (v:=.int _ _) rfl)) ?_
  refine O.pu (Pu.bin (.tmp rfl) (.tmp rfl) .mul) ?_
  refine O.pu (Pu.move (.tmp (v:=.int _ _) rfl)) ?_
  refine O.pu (Pu.bin (.tmp rfl) .int (U.shrC 4294967296 (by decide) (by decide))) ?_
  refine O.pu (Pu.bin (.tmp rfl) (.tmp rfl) .add) ?_
  refine O.pu (Pu.assign (.tmp (v:=.int _ _) rfl)) ?_
  refine O.nil ?_
  refine X.seq ?_
  refine X.still ?_
  refine O.pu (Pu.move (.tmp (v:=.int _ _) rfl)) ?_
  refine O.pu (Pu.bin (.tmp rfl) .int .band) ?_
  refine O.pu (Pu.assign (.tmp (v:=.int _ _) rfl)) ?_
  refine O.nil ?_
  refine X.seq ?_
  refine X.still ?_
  refine O.pu (Pu.move (.tmp (v:=.int _ _) rfl)) ?_
  refine O.pu (Pu.bin (.tmp rfl) .int (U.shrC 4294967296 (by decide) (by decide))) ?_
  refine O.pu (Pu.assign (.tmp (v:=.int _ _) rfl)) ?_
  refine O.nil ?_
  refine X.seq ?_
  refine X.still ?_
  refine O.pu (Pu.move (.tmp (v:=.int _ _) rfl)) ?_
  refine O.pu (Pu.move (.tmp (v:=.int _ _) rfl)) ?_
  refine O.pu (Pu.move (.tmp (v:=.int _ _) rfl)) ?_
  refine O.pu (Pu.bin (.tmp rfl) (.tmp rfl) .mul) ?_
  refine O.pu (Pu.bin (.tmp rfl) (.tmp rfl) .add) ?_
  refine O.pu (Pu.assign (.tmp (v:=.int _ _) rfl)) ?_
  refine O.nil ?_
  refine X.seq ?_
  refine X.still ?_
  refine O.pu (Pu.move (.tmp (v:=.int _ _) rfl)) ?_
  refine O.pu (Pu.move (.tmp (v:=.int _ _) rfl)) ?_
  refine O.pu (Pu.bin (.tmp rfl) (.tmp rfl) .mul) ?_
  refine O.pu (Pu.move (.tmp (v:=.int _ _) rfl)) ?_
  refine O.pu (Pu.bin (.tmp rfl) (.tmp rfl) .add) ?_
  refine O.pu (Pu.move (.tmp (v:=.int _ _) rfl)) ?_
  refine O.pu (Pu.bin (.tmp rfl) .int (U.shrC 4294967296 (by decide) (by decide))) ?_
  refine O.pu (Pu.bin (.tmp rfl) (.tmp rfl) .add) ?_
  refine O.pu (Pu.assign (.tmp (v:=.int _ _) rfl)) ?_
  refine O.nil ?_
  refine X.seq ?_
  refine X.still ?_
  refine O.pu (Pu.move (.tmp (v:=.int _ _) rfl)) ?_
  refine O.pu (Pu.move (.tmp (v:=.int _ _) rfl)) ?_
  refine O.pu (Pu.bin (.tmp rfl) (.tmp rfl) .mul) ?_
  refine O.pu (Pu.assign (.tmp (v:=.int _ _) rfl)) ?_
  refine O.nil ?_
  refine X.ret ?_
  cases h
  exact E.fin [] (.tmp (v:=.int _ _) rfl (.tmp (v:=.int _ _) rfl .nil)) (.cons (.cl .int) (.cons (.cl .int) .nil))
noncomputable def c80:Code:=Tryz.f80.body.getD .skip
theorem fn80:FnOk Tryz.prog 80 Tryz.f80 c80:=⟨Tryz.func80,rfl,by kernel_rfl,by kernel_rfl,mixed⟩
theorem bits_Mul.cs {a0:Int} {a1:Int} {r:Int×Int} (h:bits_Mul.f a0 a1=some r):CS Tryz.prog 80 [.int .u64 a0, .int .u64 a1] .no [.int .u64 r.1, .int .u64 r.2]:=by
  unfold bits_Mul.f at h
  refine E.pure fn80 rfl ?_
  refine X.seq ?_
  refine X.still ?_
  refine O.pu (Pu.assign .int) ?_
  refine O.pu (Pu.assign .int) ?_
  refine O.nil ?_
  refine X.seq ?_
  refine X.condF .bool ?_
  refine X.skip ?_
  refine X.seq ?_
  refine X.still ?_
  refine O.pu (Pu.move (.tmp (v:=.int _ _) rfl)) ?_
  refine O.pu (Pu.move (.tmp (v:=.int _ _) rfl)) ?_
  obtain ⟨q1,Hq1,h⟩:=Option.bind_eq_some_iff.1 h
  refine O.pu (U.call (ss:=[]) (.cons (.tmp (v:=.int _ _) rfl) (.cons (.tmp (v:=.int _ _) rfl) .nil)) (.cons (.cl .int) (.cons (.cl .int) .nil)) (bits_Mul64.cs Hq1) (.inl rfl) (.tupL (.cons .int (.cons .int .nil)))) ?_
  refine O.pu (Pu.move (.tmp (v:=.tup _) rfl)) ?_
  refine O.pu (Pu.extract (.tmp rfl) rfl) ?_
  refine O.pu (Pu.extract (.tmp rfl) rfl) ?_
  refine O.pu (Pu.assign (.tmp (v:=.int _ _) rfl)) ?_
  refine O.pu (Pu.assign (.tmp (v:=.int _ _) rfl)) ?_
  refine O.nil ?_
  refine X.seq ?_
  refine X.still ?_
  refine O.pu (Pu.move (.tmp (v:=.int _ _) rfl)) ?_
  refine O.pu (Pu.move (.tmp (v:=.int _ _) rfl)) ?_
  refine O.pu (Pu.assign (.tmp (v:=.int _ _) rfl)) ?_
  refine O.pu (Pu.assign (.tmp (v:=.int _ _) rfl)) ?_
  refine O.nil ?_
  refine X.ret ?_
  cases h
  exact E.fin [] (.tmp (v:=.int _ _) rfl (.tmp (v:=.int _ _) rfl .nil)) (.cons (.cl .int) (.cons (.cl .int) .nil))
end Go.Proofs.YtakidmbnkkhojaaGreat
end

section
namespace Go.AVL
open Go.RowKit Go.Proofs.YtakidmbnkkhojaaGreatW.PrintWords
set_option linter.unusedVariables false
section
variable {P : Program} {w : World} {m : Nat → Reg}
def allOf (w:World):Nat→Prop:=fun k=>k < w.heap.size
theorem vr_reads {k:IntKind} {a:Option Addr} {cap:Nat} {l:List Int} (h:ReadsInt w k a l.length l) (hc:l.length≤cap):VR (allOf w) w noB m (.fi k l) (.slice a l.length cap):=by
  refine .fi k l a cap hc fun i hi=>?_
  obtain ⟨ad,e,hr⟩:=h.2.2 (by omega)
  have h0:=hr 0 (by omega)
  have hi':=hr i hi
  have hs:ad.spot=none:=by
    unfold World.cell? Addr.add at h0
    rw [if_pos rfl] at h0
    cases hsp:ad.spot with
    | none=>rfl
    | some s =>
      rw [hsp] at h0
      split at h0 <;> simp at h0
  have ha:ad.add i=⟨ad.block,ad.off + i,none⟩:=by
    unfold Addr.add
    by_cases hz:i=0
    · subst hz
      rw [if_pos rfl]
      cases ad with
      | mk b o s=>simp only at hs;rw [hs];rfl
    · rw [if_neg hz]
  rw [ha] at hi'
  refine ⟨ad,e,hs,?_,hi'⟩
  unfold World.cell? at hi'
  split at hi'
  · next c _ _ hb=>exact lt_of_some hb
  · cases hi'
inductive VRs (w:World) (m:Nat→Reg):List AV→List Value→Prop
  | nil:VRs w m [] []
  | cons {v V vs Vs}:VR (allOf w) w noB m v V→V.oneCell'=true→VRs w m vs Vs→VRs w m (v :: vs) (V :: Vs)
theorem VRs.spec {vs:List AV} {Vs:List Value} (h:VRs w m vs Vs):vs.length=Vs.length∧(∀ u ∈ Vs,u.oneCell'=true)∧∀ i,i < vs.length→VR (allOf w) w noB m (vs.getD i .bad) (Vs.getD i undef):=by
  induction h with
  | nil=>exact ⟨rfl,fun u hu=>by simp at hu,fun i hi=>absurd hi (Nat.not_lt_zero i)⟩
  | cons hv h1 _ ih =>
    obtain ⟨i1,i2,i3⟩:=ih
    refine ⟨by simp [i1],fun u hu=>?_,fun i hi=>?_⟩
    · rcases List.mem_cons.1 hu with rfl|hu
      · exact h1
      · exact i2 u hu
    · cases i with
      | zero=>exact hv
      | succ i=>exact i3 i (by simpa using hi)
theorem VRs.agg {vs:List AV} {Vs:List Value} (h:VRs w m vs Vs):VR (allOf w) w noB m (.agg vs) (.agg Vs.toArray):=by
  obtain ⟨h1,h2,h3⟩:=h.spec
  refine .agg vs _ (by simpa using h1) (by simpa using h2) fun i hi=>?_
  have:=h3 i hi
  simpa [Array.getD_eq_getD_getElem?,List.getD_eq_getElem?_getD] using this
inductive VRa (w:World) (m:Nat→Reg):List AV→List Value→Prop
  | nil:VRa w m [] []
  | cons {v V vs Vs}:VR (allOf w) w noB m v V→VRa w m vs Vs→VRa w m (v :: vs) (V :: Vs)
theorem VRa.spec {vs:List AV} {Vs:List Value} (h:VRa w m vs Vs):vs.length=Vs.length∧∀ i,i < vs.length→VR (allOf w) w noB m (vs.getD i .bad) (Vs.getD i undef):=by
  induction h with
  | nil=>exact ⟨rfl,fun i hi=>absurd hi (Nat.not_lt_zero i)⟩
  | cons hv _ ih =>
    refine ⟨by simp [ih.1],fun i hi=>?_⟩
    cases i with
    | zero=>exact hv
    | succ i=>exact ih.2 i (by simpa using hi)
theorem calls_of_cs {f:FuncId} {fn:Func} {code:Code} (hf:FnOk P f fn code) {args:List AV} {Vs:List Value} {res:List AV} (h:CS P f args .no res) (hv:VRa w (fun _=>default) args Vs) :
    Calls P f Vs.toArray w fun e w'=>∃ v,e = .returned v∧Below w.heap.size w w'∧∃ I' m',VR I' w' noB m' (AV.mk res) v:=by
  obtain ⟨h1,h2⟩:=hv.spec
  have hc:=h (allOf w) none w (fun _=>default) Vs.toArray (fun _=>rfl) (WR.fresh _ w _ fun k hk=>hk) (by simpa using h1.symm) fun i hi=>by
    have:=h2 i hi
    show VR (allOf w) w noB (fun _=>default) _ _
    simpa [Array.getD_eq_getD_getElem?,List.getD_eq_getElem?_getD] using this
  have he:(callFunc f Vs.toArray).run P w = .ok (.enter f Vs.toArray) w:=by
    have hn:=hf.name
    simp only [beq_eq_false_iff_ne,ne_eq] at hn
    simp [callFunc,program,Sem.run,hf.eq,hn,hf.body]
  unfold CallW at hc
  rw [he] at hc
  refine Calls.mono hc fun e w' hr=>?_
  cases e with
  | returned v =>
    obtain ⟨I',m',hw,_,hvr⟩:=hr
    exact ⟨v,rfl,⟨hw.os,hw.tape,hw.output,hw.size,fun k hk=>hw.frame k hk (by simp)⟩,I',m',hvr⟩
  | _=>exact hr.elim
theorem calls_true {f:FuncId} {fn:Func} {code:Code} (hf:FnOk P f fn code) {args:List AV} {Vs:List Value} (h:CS P f args .no [.bool true]) (hv:VRa w (fun _=>default) args Vs) :
    Calls P f Vs.toArray w fun e w'=>e = .returned (.bool true)∧Below w.heap.size w w':=by
  refine (calls_of_cs hf h hv).mono ?_
  rintro e w' ⟨v,rfl,hb,I',m',hr⟩
  have hr:VR I' w' noB m' (.bool true) v:=hr
  rw [hr.bool_inv]
  exact ⟨rfl,hb⟩
end
end Go.AVL
end

section
namespace Go.Proofs.YtakidmbnkkhojaaGreat
open Go.AVL Go.RowKit Go.Proofs.YtakidmbnkkhojaaGreat.F Go.Proofs.YtakidmbnkkhojaaGreatX Go.Proofs.YtakidmbnkkhojaaGreatW.PrintWords Go.Proofs.YtakidmbnkkhojaaGreatW.PrintLast Go.Proofs.YtakidmbnkkhojaaGreatW.PrintMore
set_option linter.unusedVariables false
set_option linter.unusedSimpArgs false
set_option maxRecDepth 100000
set_option maxHeartbeats 16000000
noncomputable def c116:Code:=Tryz.f116.body.getD .skip
theorem fn116:FnOk Tryz.prog 116 Tryz.f116 c116:=⟨Tryz.func116,rfl,by kernel_rfl,by kernel_rfl,mixed⟩
theorem date_good.cs {a0:Int} {r:Bool} (h:date_good.f a0=some r):CS Tryz.prog 116 [.int .i64 a0] .no [.bool r]:=by
  unfold date_good.f at h
  refine E.pure fn116 rfl ?_
  refine X.seq ?_
  refine X.still ?_
  refine O.pu (Pu.assign .bool) ?_
  refine O.nil ?_
  refine X.seq ?_
  refine X.still ?_
  refine O.pu (Pu.move (.tmp (v:=.int _ _) rfl)) ?_
  refine O.pu (Pu.bin (.tmp rfl) .int .geq) ?_
  refine O.pu (Pu.move (.tmp (v:=.bool _) rfl)) ?_
  refine O.splitP (fun c=>?_) (fun c=>?_)
  · rw [if_pos c] at h
    refine G.pu (W.t rfl rfl) (Pu.move (.tmp (v:=.int _ _) rfl)) ?_
    refine G.pu (W.t rfl rfl) (Pu.bin (.tmp rfl) .int .leq) ?_
    refine O.pu (Pu.pickT (.tmp rfl) (.tmp (v:=.bool _) rfl)) ?_
    refine O.pu (Pu.assign (.tmp (v:=.bool _) rfl)) ?_
    refine O.nil ?_
    refine X.ret ?_
    cases h
    exact E.fin [] (.tmp (v:=.bool _) rfl .nil) (.cons (.cl .bool) .nil)
  · rw [if_neg c] at h
    refine G.skip (W.f rfl rfl rfl) ?_
    refine G.skip (W.f rfl rfl rfl) ?_
    refine O.pu (Pu.pickF (.tmp rfl) .bool) ?_
    refine O.pu (Pu.assign (.tmp (v:=.bool _) rfl)) ?_
    refine O.nil ?_
    refine X.ret ?_
    cases h
    exact E.fin [] (.tmp (v:=.bool _) rfl .nil) (.cons (.cl .bool) .nil)
noncomputable def c117:Code:=Tryz.f117.body.getD .skip
theorem fn117:FnOk Tryz.prog 117 Tryz.f117 c117:=⟨Tryz.func117,rfl,by kernel_rfl,by kernel_rfl,mixed⟩
theorem date_Leap.cs {a0:Int} {r:Bool} (h:date_Leap.f a0=some r):CS Tryz.prog 117 [.int .i64 a0] .no [.bool r]:=by
  unfold date_Leap.f at h
  refine E.pure fn117 rfl ?_
  refine X.seq ?_
  refine X.still ?_
  refine O.pu (Pu.assign .bool) ?_
  refine O.nil ?_
  refine X.seq ?_
  refine X.still ?_
  refine O.pu (Pu.move (.tmp (v:=.int _ _) rfl)) ?_
  obtain ⟨q1,Hq1,h⟩:=Option.bind_eq_some_iff.1 h
  refine O.pu (U.call (ss:=[]) (.cons (.tmp (v:=.int _ _) rfl) .nil) (.cons (.cl .int) .nil) (date_good.cs Hq1) (.inl rfl) (.bool)) ?_
  refine O.pu (Pu.move (.tmp (v:=.bool _) rfl)) ?_
  refine O.split (fun c=>?_) (fun c=>?_)
  · rw [if_pos c] at h
    refine G.pu (W.t rfl rfl) (Pu.move (.tmp (v:=.int _ _) rfl)) ?_
    refine G.pu (W.t rfl rfl) (Pu.bin (.tmp rfl) .int (.rem (by omega))) ?_
    refine G.pu (W.t rfl rfl) (Pu.bin (.tmp rfl) .int .eql) ?_
    refine G.pu (W.t rfl rfl) (Pu.move (.tmp (v:=.bool _) rfl)) ?_
    refine O.splitE (fun c=>?_) (fun c=>?_)
    · rw [if_pos c] at h
      refine G.pu (W.t rfl rfl) (Pu.move (.tmp (v:=.int _ _) rfl)) ?_
      refine G.pu (W.t rfl rfl) (Pu.bin (.tmp rfl) .int (.rem (by omega))) ?_
      refine G.pu (W.t rfl rfl) (Pu.bin (.tmp rfl) .int .neq) ?_
      refine G.pu (W.t rfl rfl) (Pu.pickT (.tmp rfl) (.tmp (v:=.bool _) rfl)) ?_
      refine G.pu (W.t rfl rfl) (Pu.move (.tmp (v:=.bool _) rfl)) ?_
      refine O.splitN (fun c=>?_) (fun c=>?_)
      · rw [if_neg c] at h
        refine G.skip (W.f rfl rfl rfl) ?_
        refine G.skip (W.f rfl rfl rfl) ?_
        refine G.skip (W.f rfl rfl rfl) ?_
        refine G.pu (W.t rfl rfl) (Pu.pickT (.tmp rfl) .bool) ?_
        refine O.pu (Pu.pickT (.tmp rfl) (.tmp (v:=.bool _) rfl)) ?_
        refine O.pu (Pu.assign (.tmp (v:=.bool _) rfl)) ?_
        refine O.nil ?_
        refine X.ret ?_
        cases h
        exact E.fin [] (.tmp (v:=.bool _) rfl .nil) (.cons (.cl .bool) .nil)
      · rw [if_pos c] at h
        refine G.pu (W.t rfl rfl) (Pu.move (.tmp (v:=.int _ _) rfl)) ?_
        refine G.pu (W.t rfl rfl) (Pu.bin (.tmp rfl) .int (.rem (by omega))) ?_
        refine G.pu (W.t rfl rfl) (Pu.bin (.tmp rfl) .int .eql) ?_
        refine G.pu (W.t rfl rfl) (Pu.pickF (.tmp rfl) (.tmp (v:=.bool _) rfl)) ?_
        refine O.pu (Pu.pickT (.tmp rfl) (.tmp (v:=.bool _) rfl)) ?_
        refine O.pu (Pu.assign (.tmp (v:=.bool _) rfl)) ?_
        refine O.nil ?_
        refine X.ret ?_
        cases h
        exact E.fin [] (.tmp (v:=.bool _) rfl .nil) (.cons (.cl .bool) .nil)
    · rw [if_neg c] at h
      refine G.skip (W.f rfl rfl rfl) ?_
      refine G.skip (W.f rfl rfl rfl) ?_
      refine G.skip (W.f rfl rfl rfl) ?_
      refine G.pu (W.t rfl rfl) (Pu.pickF (.tmp rfl) .bool) ?_
      refine G.pu (W.t rfl rfl) (Pu.move (.tmp (v:=.bool _) rfl)) ?_
      refine G.pu (W.t rfl rfl) (Pu.move (.tmp (v:=.int _ _) rfl)) ?_
      refine G.pu (W.t rfl rfl) (Pu.bin (.tmp rfl) .int (.rem (by omega))) ?_
      refine G.pu (W.t rfl rfl) (Pu.bin (.tmp rfl) .int .eql) ?_
      refine G.pu (W.t rfl rfl) (Pu.pickF (.tmp rfl) (.tmp (v:=.bool _) rfl)) ?_
      refine O.pu (Pu.pickT (.tmp rfl) (.tmp (v:=.bool _) rfl)) ?_
      refine O.pu (Pu.assign (.tmp (v:=.bool _) rfl)) ?_
      refine O.nil ?_
      refine X.ret ?_
      cases h
      exact E.fin [] (.tmp (v:=.bool _) rfl .nil) (.cons (.cl .bool) .nil)
  · rw [if_neg (bf c)] at h
    refine G.skip (W.f rfl rfl rfl) ?_
    refine G.skip (W.f rfl rfl rfl) ?_
    refine G.skip (W.f rfl rfl rfl) ?_
    refine G.skipN (b:=true) (W.f rfl rfl rfl) ?_
    refine G.skip (W.n rfl rfl) ?_
    refine G.skip (W.n rfl rfl) ?_
    refine G.skip (W.n rfl rfl) ?_
    refine G.skip (W.f rfl rfl rfl) ?_
    refine G.skipN (b:=false) (W.f rfl rfl rfl) ?_
    refine G.skip (W.n rfl rfl) ?_
    refine G.skip (W.n rfl rfl) ?_
    refine G.skip (W.n rfl rfl) ?_
    refine G.skip (W.f rfl rfl rfl) ?_
    refine O.pu (Pu.pickF (.tmp rfl) .bool) ?_
    refine O.pu (Pu.assign (.tmp (v:=.bool _) rfl)) ?_
    refine O.nil ?_
    refine X.ret ?_
    cases h
    exact E.fin [] (.tmp (v:=.bool _) rfl .nil) (.cons (.cl .bool) .nil)
theorem date_Days.j0_e {k y0 y1 y2 r}:(date_Days.j0 k y0 y1 y2=some r) = ∃ j,k=j + 1∧date_Days.j0 (j + 1) y0 y1 y2=some r:=propext ⟨fun h=>by cases k with|zero=>(unfold date_Days.j0 at h;cases h)|succ k=>exact ⟨k,rfl,h⟩,fun ⟨j,hj,h⟩=>by subst hj;exact h⟩
noncomputable def c78:Code:=Tryz.f78.body.getD .skip
theorem fn78:FnOk Tryz.prog 78 Tryz.f78 c78:=⟨Tryz.func78,rfl,by kernel_rfl,by kernel_rfl,mixed⟩
theorem date_Days.cs {k:Nat} {a0:Int} {a1:Int} {r:Int} (h:date_Days.f k a0 a1=some r):CS Tryz.prog 78 [.int .i64 a0, .int .i64 a1] .no [.int .i64 r]:=by
  unfold date_Days.f at h
  refine E.pure fn78 rfl ?_
  refine X.seq ?_
  refine X.still ?_
  refine O.pu (Pu.assign .int) ?_
  refine O.nil ?_
  refine X.seq ?_
  refine X.seq ?_
  refine X.still ?_
  refine O.pu (Pu.move (.tmp (v:=.int _ _) rfl)) ?_
  obtain ⟨q1,Hq1,h⟩:=Option.bind_eq_some_iff.1 h
  refine O.pu (U.call (ss:=[]) (.cons (.tmp (v:=.int _ _) rfl) .nil) (.cons (.cl .int) .nil) (date_good.cs Hq1) (.inl rfl) (.bool)) ?_
  refine O.pu (Pu.un (.tmp rfl) .not) ?_
  refine O.pu (Pu.move (.tmp (v:=.bool _) rfl)) ?_
  refine O.splitNot (fun c=>?_) (fun c=>?_)
  · rw [if_neg (bf c)] at h
    refine G.skip (W.f rfl rfl rfl) ?_
    refine G.skip (W.f rfl rfl rfl) ?_
    refine O.pu (Pu.pickT (.tmp rfl) .bool) ?_
    refine O.pu (Pu.move (.tmp (v:=.bool _) rfl)) ?_
    refine G.skip (W.f rfl rfl rfl) ?_
    refine G.skip (W.f rfl rfl rfl) ?_
    refine O.pu (Pu.pickT (.tmp rfl) .bool) ?_
    refine O.nil ?_
    repeat (rw [date_Days.j0_e] at h;obtain ⟨k,_,h⟩:=h;unfold date_Days.j0 at h;try dsimp only at h)
    rw [if_pos rfl] at h
    refine X.condT (.tmp rfl) ?_
    refine X.seq ?_
    refine X.still ?_
    refine O.pu (Pu.assign .int) ?_
    refine O.nil ?_
    refine X.ret ?_
    cases h
    exact E.fin [] (.tmp (v:=.int _ _) rfl .nil) (.cons (.cl .int) .nil)
  · rw [if_pos c] at h
    refine G.pu (W.t rfl rfl) (Pu.move (.tmp (v:=.int _ _) rfl)) ?_
    refine G.pu (W.t rfl rfl) (Pu.bin (.tmp rfl) .int .lss) ?_
    refine O.pu (Pu.pickF (.tmp rfl) (.tmp (v:=.bool _) rfl)) ?_
    refine O.pu (Pu.move (.tmp (v:=.bool _) rfl)) ?_
    refine O.splitP (fun c=>?_) (fun c=>?_)
    · rw [if_pos c] at h
      refine G.skip (W.f rfl rfl rfl) ?_
      refine G.skip (W.f rfl rfl rfl) ?_
      refine O.pu (Pu.pickT (.tmp rfl) .bool) ?_
      refine O.nil ?_
      repeat (rw [date_Days.j0_e] at h;obtain ⟨k,_,h⟩:=h;unfold date_Days.j0 at h;try dsimp only at h)
      rw [if_pos rfl] at h
      refine X.condT (.tmp rfl) ?_
      refine X.seq ?_
      refine X.still ?_
      refine O.pu (Pu.assign .int) ?_
      refine O.nil ?_
      refine X.ret ?_
      cases h
      exact E.fin [] (.tmp (v:=.int _ _) rfl .nil) (.cons (.cl .int) .nil)
    · rw [if_neg c] at h
      refine G.pu (W.t rfl rfl) (Pu.move (.tmp (v:=.int _ _) rfl)) ?_
      refine G.pu (W.t rfl rfl) (Pu.bin (.tmp rfl) .int .gtr) ?_
      refine O.pu (Pu.pickF (.tmp rfl) (.tmp (v:=.bool _) rfl)) ?_
      refine O.nil ?_
      repeat (rw [date_Days.j0_e] at h;obtain ⟨k,_,h⟩:=h;unfold date_Days.j0 at h;try dsimp only at h)
      refine X.condP (.tmp rfl) (fun c=>?_) (fun c=>?_)
      · rw [if_pos (decide_eq_true c)] at h
        refine X.seq ?_
        refine X.still ?_
        refine O.pu (Pu.assign .int) ?_
        refine O.nil ?_
        refine X.ret ?_
        cases h
        exact E.fin [] (.tmp (v:=.int _ _) rfl .nil) (.cons (.cl .int) .nil)
      · rw [if_neg (nd c)] at h
        refine X.skip ?_
        refine X.seq ?_
        refine X.seq ?_
        refine X.still ?_
        refine O.pu (Pu.move (.tmp (v:=.int _ _) rfl)) ?_
        refine O.pu (Pu.bin (.tmp rfl) .int .eql) ?_
        refine O.pu (Pu.move (.tmp (v:=.bool _) rfl)) ?_
        refine O.splitE (fun c=>?_) (fun c=>?_)
        · rw [if_pos c] at h
          refine G.pu (W.t rfl rfl) (Pu.move (.tmp (v:=.int _ _) rfl)) ?_
          obtain ⟨q2,Hq2,h⟩:=Option.bind_eq_some_iff.1 h
          refine G.pu (W.t rfl rfl) (U.call (ss:=[]) (.cons (.tmp (v:=.int _ _) rfl) .nil) (.cons (.cl .int) .nil) (date_Leap.cs Hq2) (.inl rfl) (.bool)) ?_
          refine O.pu (Pu.pickT (.tmp rfl) (.tmp (v:=.bool _) rfl)) ?_
          refine O.nil ?_
          refine X.cond (.tmp rfl) (fun c=>?_) (fun c=>?_)
          · rw [if_pos c] at h
            refine X.seq ?_
            refine X.still ?_
            refine O.pu (Pu.assign .int) ?_
            refine O.nil ?_
            refine X.ret ?_
            cases h
            exact E.fin [] (.tmp (v:=.int _ _) rfl .nil) (.cons (.cl .int) .nil)
          · rw [if_neg (bf c)] at h
            refine X.skip ?_
            refine X.seq ?_
            refine X.still ?_
            refine O.pu (U.bldAr (k:=.i64) (l:=[31,28,31,30,31,30,31,31,30,31,30,31]) (fun a w=>by kernel_rfl)) ?_
            refine O.pu (Pu.move (.tmp (v:=.int _ _) rfl)) ?_
            refine O.pu (Pu.bin (.tmp rfl) .int U.sub64) ?_
            repeat (rw [giff] at h;obtain ⟨_,h⟩:=h)
            refine O.pu (U.idxAr (l:=[31,28,31,30,31,30,31,31,30,31,30,31]) Tryz.underlying166 (by kernel_rfl) ⟨_,Tryz.underlying3⟩ (.tmp rfl) (.tmp rfl) (by omega) (by first|omega|(simp only [List.length_cons,List.length_nil];omega))) ?_
            refine O.pu (Pu.assign (.tmp (v:=.int _ _) rfl)) ?_
            refine O.nil ?_
            refine X.ret ?_
            cases h
            exact E.fin [] (.tmp (v:=.int _ _) rfl .nil) (.cons (.cl .int) .nil)
        · rw [if_neg c] at h
          refine G.skip (W.f rfl rfl rfl) ?_
          refine G.skip (W.f rfl rfl rfl) ?_
          refine O.pu (Pu.pickF (.tmp rfl) .bool) ?_
          refine O.nil ?_
          repeat (rw [giff] at h;obtain ⟨_,h⟩:=h)
          refine X.condF (.tmp rfl) ?_
          refine X.skip ?_
          refine X.seq ?_
          refine X.still ?_
          refine O.pu (U.bldAr (k:=.i64) (l:=[31,28,31,30,31,30,31,31,30,31,30,31]) (fun a w=>by kernel_rfl)) ?_
          refine O.pu (Pu.move (.tmp (v:=.int _ _) rfl)) ?_
          refine O.pu (Pu.bin (.tmp rfl) .int U.sub64) ?_
          refine O.pu (U.idxAr (l:=[31,28,31,30,31,30,31,31,30,31,30,31]) Tryz.underlying166 (by kernel_rfl) ⟨_,Tryz.underlying3⟩ (.tmp rfl) (.tmp rfl) (by omega) (by first|omega|(simp only [List.length_cons,List.length_nil];omega))) ?_
          refine O.pu (Pu.assign (.tmp (v:=.int _ _) rfl)) ?_
          refine O.nil ?_
          refine X.ret ?_
          cases h
          exact E.fin [] (.tmp (v:=.int _ _) rfl .nil) (.cons (.cl .int) .nil)
noncomputable def c40:Code:=Tryz.f40.body.getD .skip
theorem fn40:FnOk Tryz.prog 40 Tryz.f40 c40:=⟨Tryz.func40,rfl,by kernel_rfl,by kernel_rfl,mixed⟩
theorem date_Check.cs {k:Nat} {a0_0:Int} {a0_1:Int} {a0_2:Int} {r:Int} (h:date_Check.f k a0_0 a0_1 a0_2=some r):CS Tryz.prog 40 [.agg [.int .i64 a0_0, .int .i64 a0_1, .int .i64 a0_2]] .no [.int .i64 r]:=by
  unfold date_Check.f at h
  refine E.pure fn40 rfl ?_
  refine X.seq ?_
  refine X.still ?_
  refine O.puE (v':=.op 1 (1) 0 0) (b':=⟨1, .own,_,_⟩) (Pu.box (.tmp (v:=.agg _) rfl) rfl rfl) rfl rfl ?_
  refine O.pu (Pu.assign .int) ?_
  refine O.nil ?_
  refine X.seq ?_
  refine X.seq ?_
  refine X.drawn ?_
  refine D.pu (U.fieldA rfl rfl rfl (.tmp rfl)) ?_
  refine D.pu (U.load (.tmp rfl) rfl rfl (U.cell rfl rfl rfl)) ?_
  refine D.pu (Pu.bin (.tmp rfl) .int .lss) ?_
  refine D.pu (Pu.move (.tmp (v:=.bool _) rfl)) ?_
  refine D.splitP (fun c=>?_) (fun c=>?_)
  · rw [if_pos c] at h
    refine D.gskip (W.f rfl rfl rfl) ?_
    refine D.gskip (W.f rfl rfl rfl) ?_
    refine D.gskip (W.f rfl rfl rfl) ?_
    refine D.gskip (W.f rfl rfl rfl) ?_
    refine D.gskip (W.f rfl rfl rfl) ?_
    refine D.gskip (W.f rfl rfl rfl) ?_
    refine D.gskip (W.f rfl rfl rfl) ?_
    refine D.gskip (W.f rfl rfl rfl) ?_
    refine D.pu (Pu.pickT (.tmp rfl) .bool) ?_
    refine D.nil (by kernel_rfl) ?_
    refine X.condT (.tmp rfl) ?_
    refine X.seq ?_
    refine X.still ?_
    refine O.pu (Pu.assign .int) ?_
    refine O.nil ?_
    refine X.ret ?_
    cases h
    exact E.fin [] (.tmp (v:=.int _ _) rfl .nil) (.cons (.cl .int) .nil)
  · rw [if_neg c] at h
    refine D.gpu (W.t rfl rfl) (U.fieldA rfl rfl rfl (.tmp rfl)) ?_
    refine D.gpu (W.t rfl rfl) (U.load (.tmp rfl) rfl rfl (U.cell rfl rfl rfl)) ?_
    refine D.gpu (W.t rfl rfl) (U.fieldA rfl rfl rfl (.tmp rfl)) ?_
    refine D.gpu (W.t rfl rfl) (U.load (.tmp rfl) rfl rfl (U.cell rfl rfl rfl)) ?_
    refine D.gpu (W.t rfl rfl) (U.fieldA rfl rfl rfl (.tmp rfl)) ?_
    refine D.gpu (W.t rfl rfl) (U.load (.tmp rfl) rfl rfl (U.cell rfl rfl rfl)) ?_
    obtain ⟨q1,Hq1,h⟩:=Option.bind_eq_some_iff.1 h
    refine D.gpu (W.t rfl rfl) (U.call (ss:=[]) (.cons (.tmp (v:=.int _ _) rfl) (.cons (.tmp (v:=.int _ _) rfl) .nil)) (.cons (.cl .int) (.cons (.cl .int) .nil)) (date_Days.cs Hq1) (.inl rfl) (.int)) ?_
    refine D.gpu (W.t rfl rfl) (Pu.bin (.tmp rfl) (.tmp rfl) .gtr) ?_
    refine D.pu (Pu.pickF (.tmp rfl) (.tmp (v:=.bool _) rfl)) ?_
    refine D.nil (by kernel_rfl) ?_
    refine X.condP (.tmp rfl) (fun c=>?_) (fun c=>?_)
    · rw [if_pos c] at h
      refine X.seq ?_
      refine X.still ?_
      refine O.pu (Pu.assign .int) ?_
      refine O.nil ?_
      refine X.ret ?_
      cases h
      exact E.fin [] (.tmp (v:=.int _ _) rfl .nil) (.cons (.cl .int) .nil)
    · rw [if_neg c] at h
      refine X.skip ?_
      refine X.seq ?_
      refine X.still ?_
      refine O.pu (Pu.assign .int) ?_
      refine O.nil ?_
      refine X.ret ?_
      cases h
      exact E.fin [] (.tmp (v:=.int _ _) rfl .nil) (.cons (.cl .int) .nil)
noncomputable def c105:Code:=Tryz.f105.body.getD .skip
theorem fn105:FnOk Tryz.prog 105 Tryz.f105 c105:=⟨Tryz.func105,rfl,by kernel_rfl,by kernel_rfl,mixed⟩
theorem date_ahead.cs {a0:Int} {r:Int} (h:date_ahead.f a0=some r):CS Tryz.prog 105 [.int .i64 a0] .no [.int .i64 r]:=by
  unfold date_ahead.f at h
  refine E.pure fn105 rfl ?_
  refine X.seq ?_
  refine X.still ?_
  refine O.pu (Pu.assign .int) ?_
  refine O.nil ?_
  refine X.seq ?_
  refine X.still ?_
  refine O.pu (Pu.move (.tmp (v:=.int _ _) rfl)) ?_
  refine O.pu (Pu.bin (.tmp rfl) .int U.sub64) ?_
  refine O.pu (Pu.assign (.tmp (v:=.int _ _) rfl)) ?_
  refine O.nil ?_
  refine X.seq ?_
  refine X.still ?_
  refine O.pu (Pu.move (.tmp (v:=.int _ _) rfl)) ?_
  refine O.pu (Pu.bin .int (.tmp rfl) U.mul64) ?_
  refine O.pu (Pu.move (.tmp (v:=.int _ _) rfl)) ?_
  refine O.pu (Pu.bin (.tmp rfl) .int (U.quo64 (by omega))) ?_
  refine O.pu (Pu.bin (.tmp rfl) (.tmp rfl) U.add64) ?_
  refine O.pu (Pu.move (.tmp (v:=.int _ _) rfl)) ?_
  refine O.pu (Pu.bin (.tmp rfl) .int (U.quo64 (by omega))) ?_
  refine O.pu (Pu.bin (.tmp rfl) (.tmp rfl) U.sub64) ?_
  refine O.pu (Pu.move (.tmp (v:=.int _ _) rfl)) ?_
  refine O.pu (Pu.bin (.tmp rfl) .int (U.quo64 (by omega))) ?_
  refine O.pu (Pu.bin (.tmp rfl) (.tmp rfl) U.add64) ?_
  refine O.pu (Pu.assign (.tmp (v:=.int _ _) rfl)) ?_
  refine O.nil ?_
  refine X.ret ?_
  cases h
  exact E.fin [] (.tmp (v:=.int _ _) rfl .nil) (.cons (.cl .int) .nil)
noncomputable def c72:Code:=Tryz.f72.body.getD .skip
theorem fn72:FnOk Tryz.prog 72 Tryz.f72 c72:=⟨Tryz.func72,rfl,by kernel_rfl,by kernel_rfl,mixed⟩
theorem date_Number.cs {k:Nat} {a0_0:Int} {a0_1:Int} {a0_2:Int} {r:Int×Int} (h:date_Number.f k a0_0 a0_1 a0_2=some r):CS Tryz.prog 72 [.agg [.int .i64 a0_0, .int .i64 a0_1, .int .i64 a0_2]] .no [.int .i64 r.1, .int .i64 r.2]:=by
  unfold date_Number.f at h
  refine E.pure fn72 rfl ?_
  refine X.seq ?_
  refine X.still ?_
  refine O.puE (v':=.op 1 (1) 0 0) (b':=⟨1, .own,_,_⟩) (Pu.box (.tmp (v:=.agg _) rfl) rfl rfl) rfl rfl ?_
  refine O.pu (Pu.assign .int) ?_
  refine O.pu (Pu.assign .int) ?_
  refine O.nil ?_
  refine X.seq ?_
  refine X.seq ?_
  refine X.still ?_
  refine O.pu (U.load (.tmp rfl) rfl rfl (U.whole rfl rfl)) ?_
  obtain ⟨q1,Hq1,h⟩:=Option.bind_eq_some_iff.1 h
  refine O.pu (U.call (ss:=[]) (.cons (.tmp (v:=.agg _) rfl) .nil) (.cons (.cl (.aggL (.cons .int (.cons .int (.cons .int .nil))))) .nil) (date_Check.cs Hq1) (.inl rfl) (.int)) ?_
  refine O.pu (Pu.assign (.tmp (v:=.int _ _) rfl)) ?_
  refine O.nil ?_
  refine X.seq ?_
  refine X.still ?_
  refine O.pu (Pu.move (.tmp (v:=.int _ _) rfl)) ?_
  refine O.pu (Pu.bin (.tmp rfl) .int .neq) ?_
  refine O.nil ?_
  refine X.condN (.tmp rfl) (fun c=>?_) (fun c=>?_)
  · rw [if_neg c] at h
    refine X.seq ?_
    refine X.still ?_
    refine O.pu (Pu.move (.tmp (v:=.int _ _) rfl)) ?_
    refine O.pu (Pu.assign .int) ?_
    refine O.pu (Pu.assign (.tmp (v:=.int _ _) rfl)) ?_
    refine O.nil ?_
    refine X.ret ?_
    cases h
    exact E.fin [] (.tmp (v:=.int _ _) rfl (.tmp (v:=.int _ _) rfl .nil)) (.cons (.cl .int) (.cons (.cl .int) .nil))
  · rw [if_pos c] at h
    refine X.skip ?_
    refine X.seq ?_
    refine X.still ?_
    refine O.pu (U.fieldA rfl rfl rfl (.tmp rfl)) ?_
    refine O.pu (U.load (.tmp rfl) rfl rfl (U.cell rfl rfl rfl)) ?_
    obtain ⟨q2,Hq2,h⟩:=Option.bind_eq_some_iff.1 h
    refine O.pu (U.call (ss:=[]) (.cons (.tmp (v:=.int _ _) rfl) .nil) (.cons (.cl .int) .nil) (date_ahead.cs Hq2) (.inl rfl) (.int)) ?_
    refine O.pu (Pu.assign (.tmp (v:=.int _ _) rfl)) ?_
    refine O.nil ?_
    refine X.seq ?_
    refine X.seq ?_
    refine X.still ?_
    refine O.pu (Pu.assign .int) ?_
    refine O.nil ?_
    refine X.block ?_
    refine X.inv (fun k s=>∃ x5 x6 x107000 x107001 x107002 u1,s.t 5 = .int .i64 x5∧s.t 6 = .int .i64 x6∧s.t 1 = .op 1 u1 0 0∧s.b 1=⟨u1, .own, .vals [.agg [.int .i64 x107000, .int .i64 x107001, .int .i64 x107002]],28⟩∧date_Number.l0 k x5 x6 x107000 x107001 x107002=some r) ?_ ?_ ⟨_,_,_,_,_,_,rfl,rfl,rfl,rfl,h⟩
    · rintro s ⟨_,_,_,_,_,_,_,_,_,_,h⟩;unfold date_Number.l0 at h;cases h
    · rintro k1 s1 ⟨x5,x6,x107000,x107001,x107002,u1,e0,e1,e2,e3,h⟩
      unfold date_Number.l0 at h
      rw [St.fixT e0,St.fixT e1,St.fixT e2,St.fixB e3]
      refine X.seq ?_
      refine X.seq ?_
      refine X.still ?_
      refine O.pu (Pu.move (.tmp (v:=.int _ _) rfl)) ?_
      refine O.pu (U.fieldA rfl rfl rfl (.tmp rfl)) ?_
      refine O.pu (U.load (.tmp rfl) rfl rfl (U.cell rfl rfl rfl)) ?_
      refine O.pu (Pu.bin (.tmp rfl) (.tmp rfl) .lss) ?_
      refine O.nil ?_
      refine X.condP (.tmp rfl) (fun c=>?_) (fun c=>?_)
      · rw [if_pos c] at h
        refine X.skip ?_
        refine X.seq ?_
        refine X.block ?_
        refine X.still ?_
        refine O.pu (Pu.move (.tmp (v:=.int _ _) rfl)) ?_
        refine O.pu (U.fieldA rfl rfl rfl (.tmp rfl)) ?_
        refine O.pu (U.load (.tmp rfl) rfl rfl (U.cell rfl rfl rfl)) ?_
        refine O.pu (Pu.move (.tmp (v:=.int _ _) rfl)) ?_
        obtain ⟨q3,Hq3,h⟩:=Option.bind_eq_some_iff.1 h
        refine O.pu (U.call (ss:=[]) (.cons (.tmp (v:=.int _ _) rfl) (.cons (.tmp (v:=.int _ _) rfl) .nil)) (.cons (.cl .int) (.cons (.cl .int) .nil)) (date_Days.cs Hq3) (.inl rfl) (.int)) ?_
        refine O.pu (Pu.bin (.tmp rfl) (.tmp rfl) U.add64) ?_
        refine O.pu (Pu.assign (.tmp (v:=.int _ _) rfl)) ?_
        refine O.nil ?_
        refine X.still ?_
        refine O.pu (Pu.move (.tmp (v:=.int _ _) rfl)) ?_
        refine O.pu (Pu.bin (.tmp rfl) .int U.add64) ?_
        refine O.pu (Pu.assign (.tmp (v:=.int _ _) rfl)) ?_
        refine O.nil ?_
        exact ⟨_,(by omega),_,_,_,_,_,_,rfl,rfl,rfl,rfl,h⟩
      · rw [if_neg c] at h
        refine X.exit (B.out ?_)
        refine X.seq ?_
        refine X.still ?_
        refine O.pu (Pu.move (.tmp (v:=.int _ _) rfl)) ?_
        refine O.pu (U.fieldA rfl rfl rfl (.tmp rfl)) ?_
        refine O.pu (U.load (.tmp rfl) rfl rfl (U.cell rfl rfl rfl)) ?_
        refine O.pu (Pu.bin (.tmp rfl) (.tmp rfl) U.add64) ?_
        refine O.pu (Pu.assign (.tmp (v:=.int _ _) rfl)) ?_
        refine O.pu (Pu.assign .int) ?_
        refine O.nil ?_
        refine X.ret ?_
        cases h
        exact E.fin [] (.tmp (v:=.int _ _) rfl (.tmp (v:=.int _ _) rfl .nil)) (.cons (.cl .int) (.cons (.cl .int) .nil))
theorem date_Of.j0_e {k y0 y1 r}:(date_Of.j0 k y0 y1=some r) = ∃ j,k=j + 1∧date_Of.j0 (j + 1) y0 y1=some r:=propext ⟨fun h=>by cases k with|zero=>(unfold date_Of.j0 at h;cases h)|succ k=>exact ⟨k,rfl,h⟩,fun ⟨j,hj,h⟩=>by subst hj;exact h⟩
theorem date_Of.j3_e {k y0 y1 y2 y3 r}:(date_Of.j3 k y0 y1 y2 y3=some r) = ∃ j,k=j + 1∧date_Of.j3 (j + 1) y0 y1 y2 y3=some r:=propext ⟨fun h=>by cases k with|zero=>(unfold date_Of.j3 at h;cases h)|succ k=>exact ⟨k,rfl,h⟩,fun ⟨j,hj,h⟩=>by subst hj;exact h⟩
noncomputable def c73:Code:=Tryz.f73.body.getD .skip
theorem fn73:FnOk Tryz.prog 73 Tryz.f73 c73:=⟨Tryz.func73,rfl,by kernel_rfl,by kernel_rfl,mixed⟩
theorem date_Of.cs {k:Nat} {a0:Int} {r:Int×Int×Int×Int} (h:date_Of.f k a0=some r):CS Tryz.prog 73 [.int .i64 a0] .no [.agg [.int .i64 r.1, .int .i64 r.2.1, .int .i64 r.2.2.1], .int .i64 r.2.2.2]:=by
  unfold date_Of.f at h
  refine E.pure fn73 rfl ?_
  refine X.seq ?_
  refine X.still ?_
  refine O.puE (v':=.op 2 (1) 0 0) (b':=⟨1, .own,(.vals [.agg [.int .i64 0, .int .i64 0, .int .i64 0]]),_⟩) Pu.alloc rfl rfl ?_
  refine O.pu (Pu.assign .int) ?_
  refine O.nil ?_
  refine X.seq ?_
  refine X.seq ?_
  refine X.still ?_
  refine O.pu (Pu.move (.tmp (v:=.int _ _) rfl)) ?_
  refine O.pu (Pu.bin (.tmp rfl) .int .lss) ?_
  refine O.pu (Pu.move (.tmp (v:=.bool _) rfl)) ?_
  refine O.splitP (fun c=>?_) (fun c=>?_)
  · rw [if_pos c] at h
    refine G.skip (W.f rfl rfl rfl) ?_
    refine G.skip (W.f rfl rfl rfl) ?_
    refine O.pu (Pu.pickT (.tmp rfl) .bool) ?_
    refine O.nil ?_
    repeat (rw [date_Of.j0_e] at h;obtain ⟨k,_,h⟩:=h;unfold date_Of.j0 at h;try dsimp only at h)
    rw [if_pos rfl] at h
    refine X.condT (.tmp rfl) ?_
    refine X.seq ?_
    refine X.still ?_
    refine O.pu (Pu.build rfl .nil) ?_
    refine O.ef0 (U.storeE (.tmp rfl) rfl rfl (.tmp (v:=.agg _) rfl) rfl rfl (.whole (notBad_ne rfl) rfl) .one) ?_
    refine O.pu (Pu.assign .int) ?_
    refine O.nil ?_
    refine X.ret ?_
    cases h
    exact E.fin [] (.cell rfl rfl (Mode.live_ne rfl) (U.whole rfl rfl) (.tmp (v:=.int _ _) rfl .nil)) (.cons (.cl (.aggL (.cons .int (.cons .int (.cons .int .nil))))) (.cons (.cl .int) .nil))
  · rw [if_neg c] at h
    refine G.pu (W.t rfl rfl) (Pu.move (.tmp (v:=.int _ _) rfl)) ?_
    refine G.pu (W.t rfl rfl) (Pu.bin (.tmp rfl) .int .gtr) ?_
    refine O.pu (Pu.pickF (.tmp rfl) (.tmp (v:=.bool _) rfl)) ?_
    refine O.nil ?_
    repeat (rw [date_Of.j0_e] at h;obtain ⟨k,_,h⟩:=h;unfold date_Of.j0 at h;try dsimp only at h)
    refine X.condP (.tmp rfl) (fun c=>?_) (fun c=>?_)
    · rw [if_pos (decide_eq_true c)] at h
      refine X.seq ?_
      refine X.still ?_
      refine O.pu (Pu.build rfl .nil) ?_
      refine O.ef0 (U.storeE (.tmp rfl) rfl rfl (.tmp (v:=.agg _) rfl) rfl rfl (.whole (notBad_ne rfl) rfl) .one) ?_
      refine O.pu (Pu.assign .int) ?_
      refine O.nil ?_
      refine X.ret ?_
      cases h
      exact E.fin [] (.cell rfl rfl (Mode.live_ne rfl) (U.whole rfl rfl) (.tmp (v:=.int _ _) rfl .nil)) (.cons (.cl (.aggL (.cons .int (.cons .int (.cons .int .nil))))) (.cons (.cl .int) .nil))
    · rw [if_neg (nd c)] at h
      refine X.skip ?_
      refine X.seq ?_
      refine X.still ?_
      refine O.pu (Pu.move (.tmp (v:=.int _ _) rfl)) ?_
      refine O.pu (Pu.bin (.tmp rfl) .int U.mul64) ?_
      refine O.pu (Pu.bin (.tmp rfl) .int (U.quo64 (by omega))) ?_
      refine O.pu (Pu.bin (.tmp rfl) .int U.add64) ?_
      refine O.pu (U.mn (.tmp rfl) .int) ?_
      refine O.pu (Pu.build rfl (.cons (.tmp (v:=.int _ _) rfl) rfl rfl rfl (.put .done) (.cons .int rfl rfl rfl (.skip (.put .done)) .nil))) ?_
      refine O.puE (v':=.op 4 (1) 0 0) (b':=⟨1, .own,(.vals [.agg [.int .i64 0, .int .i64 0, .int .i64 0]]),_⟩) Pu.alloc rfl rfl ?_
      refine O.ef0 (U.storeE (.tmp rfl) rfl rfl (.tmp (v:=.agg _) rfl) rfl rfl (.whole (notBad_ne rfl) rfl) .one) ?_
      refine O.nil ?_
      refine X.seq ?_
      refine X.block ?_
      refine X.inv (fun k s=>∃ x0 x112000 x112001 x112002 u2 u4,s.t 0 = .int .i64 x0∧s.t 2 = .op 2 u2 0 0∧s.b 2=⟨u2, .own, .vals [.agg [.int .i64 0, .int .i64 0, .int .i64 0]],28⟩∧s.t 4 = .op 4 u4 0 0∧s.b 4=⟨u4, .own, .vals [.agg [.int .i64 x112000, .int .i64 x112001, .int .i64 x112002]],28⟩∧date_Of.l0 k x0 x112000 x112001 x112002=some r) ?_ ?_ ⟨_,_,_,_,_,_,rfl,rfl,rfl,rfl,rfl,h⟩
      · rintro s ⟨_,_,_,_,_,_,_,_,_,_,_,h⟩;unfold date_Of.l0 at h;cases h
      · rintro k1 s1 ⟨x0,x112000,x112001,x112002,u2,u4,e0,e1,e2,e3,e4,h⟩
        unfold date_Of.l0 at h
        rw [St.fixT e0,St.fixT e1,St.fixB e2,St.fixT e3,St.fixB e4]
        refine X.seq ?_
        refine X.seq ?_
        refine X.still ?_
        refine O.pu (U.fieldA rfl rfl rfl (.tmp rfl)) ?_
        refine O.pu (U.load (.tmp rfl) rfl rfl (U.cell rfl rfl rfl)) ?_
        obtain ⟨q1,Hq1,h⟩:=Option.bind_eq_some_iff.1 h
        refine O.pu (U.call (ss:=[]) (.cons (.tmp (v:=.int _ _) rfl) .nil) (.cons (.cl .int) .nil) (date_ahead.cs Hq1) (.inl rfl) (.int)) ?_
        refine O.pu (Pu.move (.tmp (v:=.int _ _) rfl)) ?_
        refine O.pu (Pu.bin (.tmp rfl) (.tmp rfl) .geq) ?_
        refine O.nil ?_
        refine X.condP (.tmp rfl) (fun c=>?_) (fun c=>?_)
        · rw [if_pos c] at h
          refine X.skip ?_
          refine X.block ?_
          refine X.still ?_
          refine O.pu (U.fieldA rfl rfl rfl (.tmp rfl)) ?_
          refine O.pu (U.load (.tmp rfl) rfl rfl (U.cell rfl rfl rfl)) ?_
          refine O.pu (Pu.bin (.tmp rfl) .int U.sub64) ?_
          refine O.pu (U.fieldA rfl rfl rfl (.tmp rfl)) ?_
          refine O.ef0 (U.storeE (.tmp rfl) rfl rfl (.tmp (v:=.int _ _) rfl) rfl rfl (.part (.put .done)) .one) ?_
          refine O.nil ?_
          exact ⟨_,(by omega),_,_,_,_,_,_,rfl,rfl,rfl,rfl,rfl,h⟩
        · rw [if_neg c] at h
          refine X.exit (B.out ?_)
          refine X.seq ?_
          refine X.block ?_
          refine X.inv (fun k s=>k≤k1∧∃ x0 x112000 x112001 x112002 u2 u4,s.t 0 = .int .i64 x0∧s.t 2 = .op 2 u2 0 0∧s.b 2=⟨u2, .own, .vals [.agg [.int .i64 0, .int .i64 0, .int .i64 0]],28⟩∧s.t 4 = .op 4 u4 0 0∧s.b 4=⟨u4, .own, .vals [.agg [.int .i64 x112000, .int .i64 x112001, .int .i64 x112002]],28⟩∧date_Of.l1 k x0 x112000 x112001 x112002=some r) ?_ ?_ ⟨(by omega),_,_,_,_,_,_,rfl,rfl,rfl,rfl,rfl,h⟩
          · rintro s ⟨_,_,_,_,_,_,_,_,_,_,_,_,h⟩;unfold date_Of.l1 at h;cases h
          · rintro k2 s2 ⟨kl2,x0,x112000,x112001,x112002,u2,u4,e0,e1,e2,e3,e4,h⟩
            unfold date_Of.l1 at h
            rw [St.fixT e0,St.fixT e1,St.fixB e2,St.fixT e3,St.fixB e4]
            refine X.seq ?_
            refine X.seq ?_
            refine X.still ?_
            refine O.pu (U.fieldA rfl rfl rfl (.tmp rfl)) ?_
            refine O.pu (U.load (.tmp rfl) rfl rfl (U.cell rfl rfl rfl)) ?_
            refine O.pu (Pu.bin (.tmp rfl) .int .lss) ?_
            refine O.pu (Pu.move (.tmp (v:=.bool _) rfl)) ?_
            refine O.splitP (fun c=>?_) (fun c=>?_)
            · rw [if_pos c] at h
              refine G.pu (W.t rfl rfl) (U.fieldA rfl rfl rfl (.tmp rfl)) ?_
              refine G.pu (W.t rfl rfl) (U.load (.tmp rfl) rfl rfl (U.cell rfl rfl rfl)) ?_
              refine G.pu (W.t rfl rfl) (Pu.bin (.tmp rfl) .int U.add64) ?_
              obtain ⟨q2,Hq2,h⟩:=Option.bind_eq_some_iff.1 h
              refine G.pu (W.t rfl rfl) (U.call (ss:=[]) (.cons (.tmp (v:=.int _ _) rfl) .nil) (.cons (.cl .int) .nil) (date_ahead.cs Hq2) (.inl rfl) (.int)) ?_
              refine G.pu (W.t rfl rfl) (Pu.move (.tmp (v:=.int _ _) rfl)) ?_
              refine G.pu (W.t rfl rfl) (Pu.bin (.tmp rfl) (.tmp rfl) .lss) ?_
              refine O.pu (Pu.pickT (.tmp rfl) (.tmp (v:=.bool _) rfl)) ?_
              refine O.nil ?_
              refine X.condP (.tmp rfl) (fun c=>?_) (fun c=>?_)
              · rw [if_pos c] at h
                refine X.skip ?_
                refine X.block ?_
                refine X.still ?_
                refine O.pu (U.fieldA rfl rfl rfl (.tmp rfl)) ?_
                refine O.pu (U.load (.tmp rfl) rfl rfl (U.cell rfl rfl rfl)) ?_
                refine O.pu (Pu.bin (.tmp rfl) .int U.add64) ?_
                refine O.pu (U.fieldA rfl rfl rfl (.tmp rfl)) ?_
                refine O.ef0 (U.storeE (.tmp rfl) rfl rfl (.tmp (v:=.int _ _) rfl) rfl rfl (.part (.put .done)) .one) ?_
                refine O.nil ?_
                exact ⟨_,(by omega),(by omega),_,_,_,_,_,_,rfl,rfl,rfl,rfl,rfl,h⟩
              · rw [if_neg c] at h
                refine X.exit (B.out ?_)
                refine X.seq ?_
                refine X.still ?_
                refine O.pu (Pu.move (.tmp (v:=.int _ _) rfl)) ?_
                refine O.pu (U.fieldA rfl rfl rfl (.tmp rfl)) ?_
                refine O.pu (U.load (.tmp rfl) rfl rfl (U.cell rfl rfl rfl)) ?_
                repeat (rw [date_Of.j3_e] at h;obtain ⟨k,_,h⟩:=h;unfold date_Of.j3 at h;try dsimp only at h)
                obtain ⟨q3,Hq3,h⟩:=Option.bind_eq_some_iff.1 h
                refine O.pu (U.call (ss:=[]) (.cons (.tmp (v:=.int _ _) rfl) .nil) (.cons (.cl .int) .nil) (date_ahead.cs Hq3) (.inl rfl) (.int)) ?_
                refine O.pu (Pu.bin (.tmp rfl) (.tmp rfl) U.sub64) ?_
                refine O.pu (Pu.assign (.tmp (v:=.int _ _) rfl)) ?_
                refine O.nil ?_
                refine X.seq ?_
                refine X.block ?_
                refine X.inv (fun k s=>k≤k2∧∃ x0 x112000 x112001 x112002 u2 u4,s.t 0 = .int .i64 x0∧s.t 2 = .op 2 u2 0 0∧s.b 2=⟨u2, .own, .vals [.agg [.int .i64 0, .int .i64 0, .int .i64 0]],28⟩∧s.t 4 = .op 4 u4 0 0∧s.b 4=⟨u4, .own, .vals [.agg [.int .i64 x112000, .int .i64 x112001, .int .i64 x112002]],28⟩∧date_Of.l2 k x0 x112000 x112001 x112002=some r) ?_ ?_ ⟨(by omega),_,_,_,_,_,_,rfl,rfl,rfl,rfl,rfl,h⟩
                · rintro s ⟨_,_,_,_,_,_,_,_,_,_,_,_,h⟩;unfold date_Of.l2 at h;cases h
                · rintro k3 s3 ⟨kl3,x0,x112000,x112001,x112002,u2,u4,e0,e1,e2,e3,e4,h⟩
                  unfold date_Of.l2 at h
                  rw [St.fixT e0,St.fixT e1,St.fixB e2,St.fixT e3,St.fixB e4]
                  refine X.seq ?_
                  refine X.seq ?_
                  refine X.still ?_
                  refine O.pu (Pu.move (.tmp (v:=.int _ _) rfl)) ?_
                  refine O.pu (U.fieldA rfl rfl rfl (.tmp rfl)) ?_
                  refine O.pu (U.load (.tmp rfl) rfl rfl (U.cell rfl rfl rfl)) ?_
                  refine O.pu (U.fieldA rfl rfl rfl (.tmp rfl)) ?_
                  refine O.pu (U.load (.tmp rfl) rfl rfl (U.cell rfl rfl rfl)) ?_
                  obtain ⟨q4,Hq4,h⟩:=Option.bind_eq_some_iff.1 h
                  refine O.pu (U.call (ss:=[]) (.cons (.tmp (v:=.int _ _) rfl) (.cons (.tmp (v:=.int _ _) rfl) .nil)) (.cons (.cl .int) (.cons (.cl .int) .nil)) (date_Days.cs Hq4) (.inl rfl) (.int)) ?_
                  refine O.pu (Pu.bin (.tmp rfl) (.tmp rfl) .gtr) ?_
                  refine O.nil ?_
                  refine X.condP (.tmp rfl) (fun c=>?_) (fun c=>?_)
                  · rw [if_pos c] at h
                    refine X.skip ?_
                    refine X.block ?_
                    refine X.seq ?_
                    refine X.still ?_
                    refine O.pu (Pu.move (.tmp (v:=.int _ _) rfl)) ?_
                    refine O.pu (U.fieldA rfl rfl rfl (.tmp rfl)) ?_
                    refine O.pu (U.load (.tmp rfl) rfl rfl (U.cell rfl rfl rfl)) ?_
                    refine O.pu (U.fieldA rfl rfl rfl (.tmp rfl)) ?_
                    refine O.pu (U.load (.tmp rfl) rfl rfl (U.cell rfl rfl rfl)) ?_
                    obtain ⟨q5,Hq5,h⟩:=Option.bind_eq_some_iff.1 h
                    refine O.pu (U.call (ss:=[]) (.cons (.tmp (v:=.int _ _) rfl) (.cons (.tmp (v:=.int _ _) rfl) .nil)) (.cons (.cl .int) (.cons (.cl .int) .nil)) (date_Days.cs Hq5) (.inl rfl) (.int)) ?_
                    refine O.pu (Pu.bin (.tmp rfl) (.tmp rfl) U.sub64) ?_
                    refine O.pu (Pu.assign (.tmp (v:=.int _ _) rfl)) ?_
                    refine O.nil ?_
                    refine X.still ?_
                    refine O.pu (U.fieldA rfl rfl rfl (.tmp rfl)) ?_
                    refine O.pu (U.load (.tmp rfl) rfl rfl (U.cell rfl rfl rfl)) ?_
                    refine O.pu (Pu.bin (.tmp rfl) .int U.add64) ?_
                    refine O.pu (U.fieldA rfl rfl rfl (.tmp rfl)) ?_
                    refine O.ef0 (U.storeE (.tmp rfl) rfl rfl (.tmp (v:=.int _ _) rfl) rfl rfl (.part (.skip (.put .done))) .one) ?_
                    refine O.nil ?_
                    exact ⟨_,(by omega),(by omega),_,_,_,_,_,_,rfl,rfl,rfl,rfl,rfl,h⟩
                  · rw [if_neg c] at h
                    refine X.exit (B.out ?_)
                    refine X.seq ?_
                    refine X.still ?_
                    refine O.pu (Pu.move (.tmp (v:=.int _ _) rfl)) ?_
                    refine O.pu (U.fieldA rfl rfl rfl (.tmp rfl)) ?_
                    refine O.ef0 (U.storeE (.tmp rfl) rfl rfl (.tmp (v:=.int _ _) rfl) rfl rfl (.part (.skip (.skip (.put .done)))) .one) ?_
                    refine O.nil ?_
                    refine X.seq ?_
                    refine X.still ?_
                    refine O.pu (U.load (.tmp rfl) rfl rfl (U.whole rfl rfl)) ?_
                    refine O.ef0 (U.storeE (.tmp rfl) rfl rfl (.tmp (v:=.agg _) rfl) rfl rfl (.whole (notBad_ne rfl) rfl) .one) ?_
                    refine O.pu (Pu.assign .int) ?_
                    refine O.nil ?_
                    refine X.ret ?_
                    cases h
                    exact E.fin [] (.cell rfl rfl (Mode.live_ne rfl) (U.whole rfl rfl) (.tmp (v:=.int _ _) rfl .nil)) (.cons (.cl (.aggL (.cons .int (.cons .int (.cons .int .nil))))) (.cons (.cl .int) .nil))
            · rw [if_neg c] at h
              refine G.skip (W.f rfl rfl rfl) ?_
              refine G.skip (W.f rfl rfl rfl) ?_
              refine G.skip (W.f rfl rfl rfl) ?_
              refine G.skip (W.f rfl rfl rfl) ?_
              refine G.skip (W.f rfl rfl rfl) ?_
              refine G.skip (W.f rfl rfl rfl) ?_
              refine O.pu (Pu.pickF (.tmp rfl) .bool) ?_
              refine O.nil ?_
              repeat (rw [date_Of.j3_e] at h;obtain ⟨k,_,h⟩:=h;unfold date_Of.j3 at h;try dsimp only at h)
              refine X.condF (.tmp rfl) ?_
              refine X.exit (B.out ?_)
              refine X.seq ?_
              refine X.still ?_
              refine O.pu (Pu.move (.tmp (v:=.int _ _) rfl)) ?_
              refine O.pu (U.fieldA rfl rfl rfl (.tmp rfl)) ?_
              refine O.pu (U.load (.tmp rfl) rfl rfl (U.cell rfl rfl rfl)) ?_
              obtain ⟨q6,Hq6,h⟩:=Option.bind_eq_some_iff.1 h
              refine O.pu (U.call (ss:=[]) (.cons (.tmp (v:=.int _ _) rfl) .nil) (.cons (.cl .int) .nil) (date_ahead.cs Hq6) (.inl rfl) (.int)) ?_
              refine O.pu (Pu.bin (.tmp rfl) (.tmp rfl) U.sub64) ?_
              refine O.pu (Pu.assign (.tmp (v:=.int _ _) rfl)) ?_
              refine O.nil ?_
              refine X.seq ?_
              refine X.block ?_
              refine X.inv (fun k s=>k≤k2∧∃ x0 x112000 x112001 x112002 u2 u4,s.t 0 = .int .i64 x0∧s.t 2 = .op 2 u2 0 0∧s.b 2=⟨u2, .own, .vals [.agg [.int .i64 0, .int .i64 0, .int .i64 0]],28⟩∧s.t 4 = .op 4 u4 0 0∧s.b 4=⟨u4, .own, .vals [.agg [.int .i64 x112000, .int .i64 x112001, .int .i64 x112002]],28⟩∧date_Of.l2 k x0 x112000 x112001 x112002=some r) ?_ ?_ ⟨(by omega),_,_,_,_,_,_,rfl,rfl,rfl,rfl,rfl,h⟩
              · rintro s ⟨_,_,_,_,_,_,_,_,_,_,_,_,h⟩;unfold date_Of.l2 at h;cases h
              · rintro k3 s3 ⟨kl3,x0,x112000,x112001,x112002,u2,u4,e0,e1,e2,e3,e4,h⟩
                unfold date_Of.l2 at h
                rw [St.fixT e0,St.fixT e1,St.fixB e2,St.fixT e3,St.fixB e4]
                refine X.seq ?_
                refine X.seq ?_
                refine X.still ?_
                refine O.pu (Pu.move (.tmp (v:=.int _ _) rfl)) ?_
                refine O.pu (U.fieldA rfl rfl rfl (.tmp rfl)) ?_
                refine O.pu (U.load (.tmp rfl) rfl rfl (U.cell rfl rfl rfl)) ?_
                refine O.pu (U.fieldA rfl rfl rfl (.tmp rfl)) ?_
                refine O.pu (U.load (.tmp rfl) rfl rfl (U.cell rfl rfl rfl)) ?_
                obtain ⟨q7,Hq7,h⟩:=Option.bind_eq_some_iff.1 h
                refine O.pu (U.call (ss:=[]) (.cons (.tmp (v:=.int _ _) rfl) (.cons (.tmp (v:=.int _ _) rfl) .nil)) (.cons (.cl .int) (.cons (.cl .int) .nil)) (date_Days.cs Hq7) (.inl rfl) (.int)) ?_
                refine O.pu (Pu.bin (.tmp rfl) (.tmp rfl) .gtr) ?_
                refine O.nil ?_
                refine X.condP (.tmp rfl) (fun c=>?_) (fun c=>?_)
                · rw [if_pos c] at h
                  refine X.skip ?_
                  refine X.block ?_
                  refine X.seq ?_
                  refine X.still ?_
                  refine O.pu (Pu.move (.tmp (v:=.int _ _) rfl)) ?_
                  refine O.pu (U.fieldA rfl rfl rfl (.tmp rfl)) ?_
                  refine O.pu (U.load (.tmp rfl) rfl rfl (U.cell rfl rfl rfl)) ?_
                  refine O.pu (U.fieldA rfl rfl rfl (.tmp rfl)) ?_
                  refine O.pu (U.load (.tmp rfl) rfl rfl (U.cell rfl rfl rfl)) ?_
                  obtain ⟨q8,Hq8,h⟩:=Option.bind_eq_some_iff.1 h
                  refine O.pu (U.call (ss:=[]) (.cons (.tmp (v:=.int _ _) rfl) (.cons (.tmp (v:=.int _ _) rfl) .nil)) (.cons (.cl .int) (.cons (.cl .int) .nil)) (date_Days.cs Hq8) (.inl rfl) (.int)) ?_
                  refine O.pu (Pu.bin (.tmp rfl) (.tmp rfl) U.sub64) ?_
                  refine O.pu (Pu.assign (.tmp (v:=.int _ _) rfl)) ?_
                  refine O.nil ?_
                  refine X.still ?_
                  refine O.pu (U.fieldA rfl rfl rfl (.tmp rfl)) ?_
                  refine O.pu (U.load (.tmp rfl) rfl rfl (U.cell rfl rfl rfl)) ?_
                  refine O.pu (Pu.bin (.tmp rfl) .int U.add64) ?_
                  refine O.pu (U.fieldA rfl rfl rfl (.tmp rfl)) ?_
                  refine O.ef0 (U.storeE (.tmp rfl) rfl rfl (.tmp (v:=.int _ _) rfl) rfl rfl (.part (.skip (.put .done))) .one) ?_
                  refine O.nil ?_
                  exact ⟨_,(by omega),(by omega),_,_,_,_,_,_,rfl,rfl,rfl,rfl,rfl,h⟩
                · rw [if_neg c] at h
                  refine X.exit (B.out ?_)
                  refine X.seq ?_
                  refine X.still ?_
                  refine O.pu (Pu.move (.tmp (v:=.int _ _) rfl)) ?_
                  refine O.pu (U.fieldA rfl rfl rfl (.tmp rfl)) ?_
                  refine O.ef0 (U.storeE (.tmp rfl) rfl rfl (.tmp (v:=.int _ _) rfl) rfl rfl (.part (.skip (.skip (.put .done)))) .one) ?_
                  refine O.nil ?_
                  refine X.seq ?_
                  refine X.still ?_
                  refine O.pu (U.load (.tmp rfl) rfl rfl (U.whole rfl rfl)) ?_
                  refine O.ef0 (U.storeE (.tmp rfl) rfl rfl (.tmp (v:=.agg _) rfl) rfl rfl (.whole (notBad_ne rfl) rfl) .one) ?_
                  refine O.pu (Pu.assign .int) ?_
                  refine O.nil ?_
                  refine X.ret ?_
                  cases h
                  exact E.fin [] (.cell rfl rfl (Mode.live_ne rfl) (U.whole rfl rfl) (.tmp (v:=.int _ _) rfl .nil)) (.cons (.cl (.aggL (.cons .int (.cons .int (.cons .int .nil))))) (.cons (.cl .int) .nil))
noncomputable def c30:Code:=Tryz.f30.body.getD .skip
theorem fn30:FnOk Tryz.prog 30 Tryz.f30 c30:=⟨Tryz.func30,rfl,by kernel_rfl,by kernel_rfl,mixed⟩
theorem month_AddDays.cs {k:Nat} {a0_0:Int} {a0_1:Int} {a0_2:Int} {a1:Int} {r:Int×Int×Int×Int} (h:month_AddDays.f k a0_0 a0_1 a0_2 a1=some r):CS Tryz.prog 30 [.agg [.int .i64 a0_0, .int .i64 a0_1, .int .i64 a0_2], .int .i64 a1] .no [.agg [.int .i64 r.1, .int .i64 r.2.1, .int .i64 r.2.2.1], .int .i64 r.2.2.2]:=by
  unfold month_AddDays.f at h
  refine E.pure fn30 rfl ?_
  refine X.seq ?_
  refine X.still ?_
  refine O.puE (v':=.op 2 (1) 0 0) (b':=⟨1, .own,_,_⟩) (Pu.box (.tmp (v:=.agg _) rfl) rfl rfl) rfl rfl ?_
  refine O.puE (v':=.op 4 (1) 0 0) (b':=⟨1, .own,(.vals [.agg [.int .i64 0, .int .i64 0, .int .i64 0]]),_⟩) Pu.alloc rfl rfl ?_
  refine O.pu (Pu.assign .int) ?_
  refine O.nil ?_
  refine X.seq ?_
  refine X.still ?_
  refine O.pu (U.load (.tmp rfl) rfl rfl (U.whole rfl rfl)) ?_
  obtain ⟨q1,Hq1,h⟩:=Option.bind_eq_some_iff.1 h
  refine O.pu (U.call (ss:=[]) (.cons (.tmp (v:=.agg _) rfl) .nil) (.cons (.cl (.aggL (.cons .int (.cons .int (.cons .int .nil))))) .nil) (date_Number.cs Hq1) (.inl rfl) (.tupL (.cons .int (.cons .int .nil)))) ?_
  refine O.pu (Pu.move (.tmp (v:=.tup _) rfl)) ?_
  refine O.pu (Pu.extract (.tmp rfl) rfl) ?_
  refine O.pu (Pu.extract (.tmp rfl) rfl) ?_
  refine O.pu (Pu.assign (.tmp (v:=.int _ _) rfl)) ?_
  refine O.pu (Pu.assign (.tmp (v:=.int _ _) rfl)) ?_
  refine O.nil ?_
  refine X.seq ?_
  refine X.seq ?_
  refine X.still ?_
  refine O.pu (Pu.move (.tmp (v:=.int _ _) rfl)) ?_
  refine O.pu (Pu.bin (.tmp rfl) .int .neq) ?_
  refine O.nil ?_
  refine X.condN (.tmp rfl) (fun c=>?_) (fun c=>?_)
  · rw [if_neg c] at h
    refine X.seq ?_
    refine X.still ?_
    refine O.pu (Pu.build rfl .nil) ?_
    refine O.pu (Pu.move (.tmp (v:=.int _ _) rfl)) ?_
    refine O.ef0 (U.storeE (.tmp rfl) rfl rfl (.tmp (v:=.agg _) rfl) rfl rfl (.whole (notBad_ne rfl) rfl) .one) ?_
    refine O.pu (Pu.assign (.tmp (v:=.int _ _) rfl)) ?_
    refine O.nil ?_
    refine X.ret ?_
    cases h
    exact E.fin [] (.cell rfl rfl (Mode.live_ne rfl) (U.whole rfl rfl) (.tmp (v:=.int _ _) rfl .nil)) (.cons (.cl (.aggL (.cons .int (.cons .int (.cons .int .nil))))) (.cons (.cl .int) .nil))
  · rw [if_pos c] at h
    refine X.skip ?_
    refine X.seq ?_
    refine X.seq ?_
    refine X.still ?_
    refine O.pu (Pu.move (.tmp (v:=.int _ _) rfl)) ?_
    refine O.pu (Pu.bin (.tmp rfl) .int .lss) ?_
    refine O.pu (Pu.move (.tmp (v:=.bool _) rfl)) ?_
    refine O.splitP (fun c=>?_) (fun c=>?_)
    · rw [if_pos c] at h
      refine G.skip (W.f rfl rfl rfl) ?_
      refine G.skip (W.f rfl rfl rfl) ?_
      refine O.pu (Pu.pickT (.tmp rfl) .bool) ?_
      refine O.nil ?_
      refine X.condT (.tmp rfl) ?_
      refine X.seq ?_
      refine X.still ?_
      refine O.pu (Pu.build rfl .nil) ?_
      refine O.ef0 (U.storeE (.tmp rfl) rfl rfl (.tmp (v:=.agg _) rfl) rfl rfl (.whole (notBad_ne rfl) rfl) .one) ?_
      refine O.pu (Pu.assign .int) ?_
      refine O.nil ?_
      refine X.ret ?_
      cases h
      exact E.fin [] (.cell rfl rfl (Mode.live_ne rfl) (U.whole rfl rfl) (.tmp (v:=.int _ _) rfl .nil)) (.cons (.cl (.aggL (.cons .int (.cons .int (.cons .int .nil))))) (.cons (.cl .int) .nil))
    · rw [if_neg c] at h
      refine G.pu (W.t rfl rfl) (Pu.move (.tmp (v:=.int _ _) rfl)) ?_
      refine G.pu (W.t rfl rfl) (Pu.bin (.tmp rfl) .int .gtr) ?_
      refine O.pu (Pu.pickF (.tmp rfl) (.tmp (v:=.bool _) rfl)) ?_
      refine O.nil ?_
      refine X.condP (.tmp rfl) (fun c=>?_) (fun c=>?_)
      · rw [if_pos c] at h
        refine X.seq ?_
        refine X.still ?_
        refine O.pu (Pu.build rfl .nil) ?_
        refine O.ef0 (U.storeE (.tmp rfl) rfl rfl (.tmp (v:=.agg _) rfl) rfl rfl (.whole (notBad_ne rfl) rfl) .one) ?_
        refine O.pu (Pu.assign .int) ?_
        refine O.nil ?_
        refine X.ret ?_
        cases h
        exact E.fin [] (.cell rfl rfl (Mode.live_ne rfl) (U.whole rfl rfl) (.tmp (v:=.int _ _) rfl .nil)) (.cons (.cl (.aggL (.cons .int (.cons .int (.cons .int .nil))))) (.cons (.cl .int) .nil))
      · rw [if_neg c] at h
        refine X.skip ?_
        refine X.seq ?_
        refine X.still ?_
        refine O.pu (Pu.move (.tmp (v:=.int _ _) rfl)) ?_
        refine O.pu (Pu.move (.tmp (v:=.int _ _) rfl)) ?_
        refine O.pu (Pu.bin (.tmp rfl) (.tmp rfl) U.add64) ?_
        obtain ⟨q2,Hq2,h⟩:=Option.bind_eq_some_iff.1 h
        refine O.pu (U.call (ss:=[]) (.cons (.tmp (v:=.int _ _) rfl) .nil) (.cons (.cl .int) .nil) (date_Of.cs Hq2) (.inl rfl) (.tupL (.cons (.aggL (.cons .int (.cons .int (.cons .int .nil)))) (.cons .int .nil)))) ?_
        refine O.pu (Pu.extract (.tmp rfl) rfl) ?_
        refine O.pu (Pu.extract (.tmp rfl) rfl) ?_
        refine O.ef0 (U.storeE (.tmp rfl) rfl rfl (.tmp (v:=.agg _) rfl) rfl rfl (.whole (notBad_ne rfl) rfl) .one) ?_
        refine O.pu (Pu.assign (.tmp (v:=.int _ _) rfl)) ?_
        refine O.nil ?_
        refine X.ret ?_
        cases h
        exact E.fin [] (.cell rfl rfl (Mode.live_ne rfl) (U.whole rfl rfl) (.tmp (v:=.int _ _) rfl .nil)) (.cons (.cl (.aggL (.cons .int (.cons .int (.cons .int .nil))))) (.cons (.cl .int) .nil))
theorem chattelref09_Leap.j0_e {k y0 y1 r}:(chattelref09_Leap.j0 k y0 y1=some r) = ∃ j,k=j + 1∧chattelref09_Leap.j0 (j + 1) y0 y1=some r:=propext ⟨fun h=>by cases k with|zero=>(unfold chattelref09_Leap.j0 at h;cases h)|succ k=>exact ⟨k,rfl,h⟩,fun ⟨j,hj,h⟩=>by subst hj;exact h⟩
noncomputable def c97:Code:=Tryz.f97.body.getD .skip
theorem fn97:FnOk Tryz.prog 97 Tryz.f97 c97:=⟨Tryz.func97,rfl,by kernel_rfl,by kernel_rfl,mixed⟩
theorem chattelref09_Leap.cs {k:Nat} {a0:Int} {r:Bool} (h:chattelref09_Leap.f k a0=some r):CS Tryz.prog 97 [.int .i64 a0] .no [.bool r]:=by
  unfold chattelref09_Leap.f at h
  refine E.pure fn97 rfl ?_
  refine X.seq ?_
  refine X.still ?_
  refine O.pu (Pu.assign .bool) ?_
  refine O.nil ?_
  refine X.seq ?_
  refine X.seq ?_
  refine X.still ?_
  refine O.pu (Pu.move (.tmp (v:=.int _ _) rfl)) ?_
  refine O.pu (Pu.bin (.tmp rfl) .int .lss) ?_
  refine O.pu (Pu.move (.tmp (v:=.bool _) rfl)) ?_
  refine O.splitP (fun c=>?_) (fun c=>?_)
  · rw [if_pos c] at h
    refine G.skip (W.f rfl rfl rfl) ?_
    refine G.skip (W.f rfl rfl rfl) ?_
    refine O.pu (Pu.pickT (.tmp rfl) .bool) ?_
    refine O.nil ?_
    repeat (rw [chattelref09_Leap.j0_e] at h;obtain ⟨k,_,h⟩:=h;unfold chattelref09_Leap.j0 at h;try dsimp only at h)
    rw [if_pos rfl] at h
    refine X.condT (.tmp rfl) ?_
    refine X.seq ?_
    refine X.still ?_
    refine O.pu (Pu.assign .bool) ?_
    refine O.nil ?_
    refine X.ret ?_
    cases h
    exact E.fin [] (.tmp (v:=.bool _) rfl .nil) (.cons (.cl .bool) .nil)
  · rw [if_neg c] at h
    refine G.pu (W.t rfl rfl) (Pu.move (.tmp (v:=.int _ _) rfl)) ?_
    refine G.pu (W.t rfl rfl) (Pu.bin (.tmp rfl) .int .gtr) ?_
    refine O.pu (Pu.pickF (.tmp rfl) (.tmp (v:=.bool _) rfl)) ?_
    refine O.nil ?_
    repeat (rw [chattelref09_Leap.j0_e] at h;obtain ⟨k,_,h⟩:=h;unfold chattelref09_Leap.j0 at h;try dsimp only at h)
    refine X.condP (.tmp rfl) (fun c=>?_) (fun c=>?_)
    · rw [if_pos (decide_eq_true c)] at h
      refine X.seq ?_
      refine X.still ?_
      refine O.pu (Pu.assign .bool) ?_
      refine O.nil ?_
      refine X.ret ?_
      cases h
      exact E.fin [] (.tmp (v:=.bool _) rfl .nil) (.cons (.cl .bool) .nil)
    · rw [if_neg (nd c)] at h
      refine X.skip ?_
      refine X.seq ?_
      refine X.seq ?_
      refine X.still ?_
      refine O.pu (Pu.move (.tmp (v:=.int _ _) rfl)) ?_
      refine O.pu (Pu.bin (.tmp rfl) .int (.rem (by omega))) ?_
      refine O.pu (Pu.bin (.tmp rfl) .int .eql) ?_
      refine O.nil ?_
      refine X.condE (.tmp rfl) (fun c=>?_) (fun c=>?_)
      · rw [if_pos c] at h
        refine X.seq ?_
        refine X.still ?_
        refine O.pu (Pu.assign .bool) ?_
        refine O.nil ?_
        refine X.ret ?_
        cases h
        exact E.fin [] (.tmp (v:=.bool _) rfl .nil) (.cons (.cl .bool) .nil)
      · rw [if_neg c] at h
        refine X.skip ?_
        refine X.seq ?_
        refine X.still ?_
        refine O.pu (Pu.move (.tmp (v:=.int _ _) rfl)) ?_
        refine O.pu (Pu.bin (.tmp rfl) .int (.rem (by omega))) ?_
        refine O.pu (Pu.bin (.tmp rfl) .int .eql) ?_
        refine O.pu (Pu.move (.tmp (v:=.bool _) rfl)) ?_
        refine O.splitE (fun c=>?_) (fun c=>?_)
        · rw [if_pos c] at h
          refine G.pu (W.t rfl rfl) (Pu.move (.tmp (v:=.int _ _) rfl)) ?_
          refine G.pu (W.t rfl rfl) (Pu.bin (.tmp rfl) .int (.rem (by omega))) ?_
          refine G.pu (W.t rfl rfl) (Pu.bin (.tmp rfl) .int .neq) ?_
          refine O.pu (Pu.pickT (.tmp rfl) (.tmp (v:=.bool _) rfl)) ?_
          refine O.pu (Pu.assign (.tmp (v:=.bool _) rfl)) ?_
          refine O.nil ?_
          refine X.ret ?_
          cases h
          exact E.fin [] (.tmp (v:=.bool _) rfl .nil) (.cons (.cl .bool) .nil)
        · rw [if_neg c] at h
          refine G.skip (W.f rfl rfl rfl) ?_
          refine G.skip (W.f rfl rfl rfl) ?_
          refine G.skip (W.f rfl rfl rfl) ?_
          refine O.pu (Pu.pickF (.tmp rfl) .bool) ?_
          refine O.pu (Pu.assign (.tmp (v:=.bool _) rfl)) ?_
          refine O.nil ?_
          refine X.ret ?_
          cases h
          exact E.fin [] (.tmp (v:=.bool _) rfl .nil) (.cons (.cl .bool) .nil)
theorem chattelref09_Days.j0_e {k y0 y1 y2 r}:(chattelref09_Days.j0 k y0 y1 y2=some r) = ∃ j,k=j + 1∧chattelref09_Days.j0 (j + 1) y0 y1 y2=some r:=propext ⟨fun h=>by cases k with|zero=>(unfold chattelref09_Days.j0 at h;cases h)|succ k=>exact ⟨k,rfl,h⟩,fun ⟨j,hj,h⟩=>by subst hj;exact h⟩
noncomputable def c74:Code:=Tryz.f74.body.getD .skip
theorem fn74:FnOk Tryz.prog 74 Tryz.f74 c74:=⟨Tryz.func74,rfl,by kernel_rfl,by kernel_rfl,mixed⟩
theorem chattelref09_Days.cs {k:Nat} {a0:Int} {a1:Int} {r:Int} (h:chattelref09_Days.f k a0 a1=some r):CS Tryz.prog 74 [.int .i64 a0, .int .i64 a1] .no [.int .i64 r]:=by
  unfold chattelref09_Days.f at h
  refine E.pure fn74 rfl ?_
  refine X.seq ?_
  refine X.still ?_
  refine O.pu (Pu.assign .int) ?_
  refine O.nil ?_
  refine X.seq ?_
  refine X.seq ?_
  refine X.still ?_
  refine O.pu (Pu.move (.tmp (v:=.int _ _) rfl)) ?_
  refine O.pu (Pu.bin (.tmp rfl) .int .lss) ?_
  refine O.pu (Pu.move (.tmp (v:=.bool _) rfl)) ?_
  refine O.splitP (fun c=>?_) (fun c=>?_)
  · rw [if_pos c] at h
    refine G.skip (W.f rfl rfl rfl) ?_
    refine G.skip (W.f rfl rfl rfl) ?_
    refine O.pu (Pu.pickT (.tmp rfl) .bool) ?_
    refine O.pu (Pu.move (.tmp (v:=.bool _) rfl)) ?_
    refine G.skip (W.f rfl rfl rfl) ?_
    refine G.skip (W.f rfl rfl rfl) ?_
    refine O.pu (Pu.pickT (.tmp rfl) .bool) ?_
    refine O.pu (Pu.move (.tmp (v:=.bool _) rfl)) ?_
    refine G.skip (W.f rfl rfl rfl) ?_
    refine G.skip (W.f rfl rfl rfl) ?_
    refine O.pu (Pu.pickT (.tmp rfl) .bool) ?_
    refine O.nil ?_
    repeat (rw [chattelref09_Days.j0_e] at h;obtain ⟨k,_,h⟩:=h;unfold chattelref09_Days.j0 at h;try dsimp only at h)
    rw [if_pos rfl] at h
    refine X.condT (.tmp rfl) ?_
    refine X.seq ?_
    refine X.still ?_
    refine O.pu (Pu.assign .int) ?_
    refine O.nil ?_
    refine X.ret ?_
    cases h
    exact E.fin [] (.tmp (v:=.int _ _) rfl .nil) (.cons (.cl .int) .nil)
  · rw [if_neg c] at h
    refine G.pu (W.t rfl rfl) (Pu.move (.tmp (v:=.int _ _) rfl)) ?_
    refine G.pu (W.t rfl rfl) (Pu.bin (.tmp rfl) .int .gtr) ?_
    refine O.pu (Pu.pickF (.tmp rfl) (.tmp (v:=.bool _) rfl)) ?_
    refine O.pu (Pu.move (.tmp (v:=.bool _) rfl)) ?_
    refine O.splitP (fun c=>?_) (fun c=>?_)
    · rw [if_pos c] at h
      refine G.skip (W.f rfl rfl rfl) ?_
      refine G.skip (W.f rfl rfl rfl) ?_
      refine O.pu (Pu.pickT (.tmp rfl) .bool) ?_
      refine O.pu (Pu.move (.tmp (v:=.bool _) rfl)) ?_
      refine G.skip (W.f rfl rfl rfl) ?_
      refine G.skip (W.f rfl rfl rfl) ?_
      refine O.pu (Pu.pickT (.tmp rfl) .bool) ?_
      refine O.nil ?_
      repeat (rw [chattelref09_Days.j0_e] at h;obtain ⟨k,_,h⟩:=h;unfold chattelref09_Days.j0 at h;try dsimp only at h)
      rw [if_pos rfl] at h
      refine X.condT (.tmp rfl) ?_
      refine X.seq ?_
      refine X.still ?_
      refine O.pu (Pu.assign .int) ?_
      refine O.nil ?_
      refine X.ret ?_
      cases h
      exact E.fin [] (.tmp (v:=.int _ _) rfl .nil) (.cons (.cl .int) .nil)
    · rw [if_neg c] at h
      refine G.pu (W.t rfl rfl) (Pu.move (.tmp (v:=.int _ _) rfl)) ?_
      refine G.pu (W.t rfl rfl) (Pu.bin (.tmp rfl) .int .lss) ?_
      refine O.pu (Pu.pickF (.tmp rfl) (.tmp (v:=.bool _) rfl)) ?_
      refine O.pu (Pu.move (.tmp (v:=.bool _) rfl)) ?_
      refine O.splitP (fun c=>?_) (fun c=>?_)
      · rw [if_pos c] at h
        refine G.skip (W.f rfl rfl rfl) ?_
        refine G.skip (W.f rfl rfl rfl) ?_
        refine O.pu (Pu.pickT (.tmp rfl) .bool) ?_
        refine O.nil ?_
        repeat (rw [chattelref09_Days.j0_e] at h;obtain ⟨k,_,h⟩:=h;unfold chattelref09_Days.j0 at h;try dsimp only at h)
        rw [if_pos rfl] at h
        refine X.condT (.tmp rfl) ?_
        refine X.seq ?_
        refine X.still ?_
        refine O.pu (Pu.assign .int) ?_
        refine O.nil ?_
        refine X.ret ?_
        cases h
        exact E.fin [] (.tmp (v:=.int _ _) rfl .nil) (.cons (.cl .int) .nil)
      · rw [if_neg c] at h
        refine G.pu (W.t rfl rfl) (Pu.move (.tmp (v:=.int _ _) rfl)) ?_
        refine G.pu (W.t rfl rfl) (Pu.bin (.tmp rfl) .int .gtr) ?_
        refine O.pu (Pu.pickF (.tmp rfl) (.tmp (v:=.bool _) rfl)) ?_
        refine O.nil ?_
        repeat (rw [chattelref09_Days.j0_e] at h;obtain ⟨k,_,h⟩:=h;unfold chattelref09_Days.j0 at h;try dsimp only at h)
        refine X.condP (.tmp rfl) (fun c=>?_) (fun c=>?_)
        · rw [if_pos (decide_eq_true c)] at h
          refine X.seq ?_
          refine X.still ?_
          refine O.pu (Pu.assign .int) ?_
          refine O.nil ?_
          refine X.ret ?_
          cases h
          exact E.fin [] (.tmp (v:=.int _ _) rfl .nil) (.cons (.cl .int) .nil)
        · rw [if_neg (nd c)] at h
          refine X.skip ?_
          refine X.seq ?_
          refine X.seq ?_
          refine X.still ?_
          refine O.pu (Pu.move (.tmp (v:=.int _ _) rfl)) ?_
          refine O.pu (Pu.bin (.tmp rfl) .int .eql) ?_
          refine O.nil ?_
          refine X.condE (.tmp rfl) (fun c=>?_) (fun c=>?_)
          · rw [if_pos c] at h
            refine X.seq ?_
            refine X.still ?_
            refine O.pu (Pu.move (.tmp (v:=.int _ _) rfl)) ?_
            obtain ⟨q1,Hq1,h⟩:=Option.bind_eq_some_iff.1 h
            refine O.pu (U.call (ss:=[]) (.cons (.tmp (v:=.int _ _) rfl) .nil) (.cons (.cl .int) .nil) (chattelref09_Leap.cs Hq1) (.inl rfl) (.bool)) ?_
            refine O.pu (Pu.assign (.tmp (v:=.bool _) rfl)) ?_
            refine O.nil ?_
            refine X.seq ?_
            refine X.seq ?_
            refine X.still ?_
            refine O.pu (Pu.move (.tmp (v:=.bool _) rfl)) ?_
            refine O.nil ?_
            refine X.cond (.tmp rfl) (fun c=>?_) (fun c=>?_)
            · rw [if_pos c] at h
              refine X.seq ?_
              refine X.still ?_
              refine O.pu (Pu.assign .int) ?_
              refine O.nil ?_
              refine X.ret ?_
              cases h
              exact E.fin [] (.tmp (v:=.int _ _) rfl .nil) (.cons (.cl .int) .nil)
            · rw [if_neg (bf c)] at h
              refine X.skip ?_
              refine X.seq ?_
              refine X.still ?_
              refine O.pu (Pu.assign .int) ?_
              refine O.nil ?_
              refine X.ret ?_
              cases h
              exact E.fin [] (.tmp (v:=.int _ _) rfl .nil) (.cons (.cl .int) .nil)
          · rw [if_neg c] at h
            refine X.skip ?_
            refine X.seq ?_
            refine X.seq ?_
            refine X.still ?_
            refine O.pu (Pu.move (.tmp (v:=.int _ _) rfl)) ?_
            refine O.pu (Pu.bin (.tmp rfl) .int .eql) ?_
            refine O.pu (Pu.move (.tmp (v:=.bool _) rfl)) ?_
            refine O.splitE (fun c=>?_) (fun c=>?_)
            · rw [if_pos c] at h
              refine G.skip (W.f rfl rfl rfl) ?_
              refine G.skip (W.f rfl rfl rfl) ?_
              refine O.pu (Pu.pickT (.tmp rfl) .bool) ?_
              refine O.pu (Pu.move (.tmp (v:=.bool _) rfl)) ?_
              refine G.skip (W.f rfl rfl rfl) ?_
              refine G.skip (W.f rfl rfl rfl) ?_
              refine O.pu (Pu.pickT (.tmp rfl) .bool) ?_
              refine O.pu (Pu.move (.tmp (v:=.bool _) rfl)) ?_
              refine G.skip (W.f rfl rfl rfl) ?_
              refine G.skip (W.f rfl rfl rfl) ?_
              refine O.pu (Pu.pickT (.tmp rfl) .bool) ?_
              refine O.nil ?_
              refine X.condT (.tmp rfl) ?_
              refine X.seq ?_
              refine X.still ?_
              refine O.pu (Pu.assign .int) ?_
              refine O.nil ?_
              refine X.ret ?_
              cases h
              exact E.fin [] (.tmp (v:=.int _ _) rfl .nil) (.cons (.cl .int) .nil)
            · rw [if_neg c] at h
              refine G.pu (W.t rfl rfl) (Pu.move (.tmp (v:=.int _ _) rfl)) ?_
              refine G.pu (W.t rfl rfl) (Pu.bin (.tmp rfl) .int .eql) ?_
              refine O.pu (Pu.pickF (.tmp rfl) (.tmp (v:=.bool _) rfl)) ?_
              refine O.pu (Pu.move (.tmp (v:=.bool _) rfl)) ?_
              refine O.splitE (fun c=>?_) (fun c=>?_)
              · rw [if_pos c] at h
                refine G.skip (W.f rfl rfl rfl) ?_
                refine G.skip (W.f rfl rfl rfl) ?_
                refine O.pu (Pu.pickT (.tmp rfl) .bool) ?_
                refine O.pu (Pu.move (.tmp (v:=.bool _) rfl)) ?_
                refine G.skip (W.f rfl rfl rfl) ?_
                refine G.skip (W.f rfl rfl rfl) ?_
                refine O.pu (Pu.pickT (.tmp rfl) .bool) ?_
                refine O.nil ?_
                refine X.condT (.tmp rfl) ?_
                refine X.seq ?_
                refine X.still ?_
                refine O.pu (Pu.assign .int) ?_
                refine O.nil ?_
                refine X.ret ?_
                cases h
                exact E.fin [] (.tmp (v:=.int _ _) rfl .nil) (.cons (.cl .int) .nil)
              · rw [if_neg c] at h
                refine G.pu (W.t rfl rfl) (Pu.move (.tmp (v:=.int _ _) rfl)) ?_
                refine G.pu (W.t rfl rfl) (Pu.bin (.tmp rfl) .int .eql) ?_
                refine O.pu (Pu.pickF (.tmp rfl) (.tmp (v:=.bool _) rfl)) ?_
                refine O.pu (Pu.move (.tmp (v:=.bool _) rfl)) ?_
                refine O.splitE (fun c=>?_) (fun c=>?_)
                · rw [if_pos c] at h
                  refine G.skip (W.f rfl rfl rfl) ?_
                  refine G.skip (W.f rfl rfl rfl) ?_
                  refine O.pu (Pu.pickT (.tmp rfl) .bool) ?_
                  refine O.nil ?_
                  refine X.condT (.tmp rfl) ?_
                  refine X.seq ?_
                  refine X.still ?_
                  refine O.pu (Pu.assign .int) ?_
                  refine O.nil ?_
                  refine X.ret ?_
                  cases h
                  exact E.fin [] (.tmp (v:=.int _ _) rfl .nil) (.cons (.cl .int) .nil)
                · rw [if_neg c] at h
                  refine G.pu (W.t rfl rfl) (Pu.move (.tmp (v:=.int _ _) rfl)) ?_
                  refine G.pu (W.t rfl rfl) (Pu.bin (.tmp rfl) .int .eql) ?_
                  refine O.pu (Pu.pickF (.tmp rfl) (.tmp (v:=.bool _) rfl)) ?_
                  refine O.nil ?_
                  refine X.condE (.tmp rfl) (fun c=>?_) (fun c=>?_)
                  · rw [if_pos c] at h
                    refine X.seq ?_
                    refine X.still ?_
                    refine O.pu (Pu.assign .int) ?_
                    refine O.nil ?_
                    refine X.ret ?_
                    cases h
                    exact E.fin [] (.tmp (v:=.int _ _) rfl .nil) (.cons (.cl .int) .nil)
                  · rw [if_neg c] at h
                    refine X.skip ?_
                    refine X.seq ?_
                    refine X.still ?_
                    refine O.pu (Pu.assign .int) ?_
                    refine O.nil ?_
                    refine X.ret ?_
                    cases h
                    exact E.fin [] (.tmp (v:=.int _ _) rfl .nil) (.cons (.cl .int) .nil)
theorem chattelref09_Make.j0_e {k y0 y1 y2 y3 r}:(chattelref09_Make.j0 k y0 y1 y2 y3=some r) = ∃ j,k=j + 1∧chattelref09_Make.j0 (j + 1) y0 y1 y2 y3=some r:=propext ⟨fun h=>by cases k with|zero=>(unfold chattelref09_Make.j0 at h;cases h)|succ k=>exact ⟨k,rfl,h⟩,fun ⟨j,hj,h⟩=>by subst hj;exact h⟩
noncomputable def c32:Code:=Tryz.f32.body.getD .skip
theorem fn32:FnOk Tryz.prog 32 Tryz.f32 c32:=⟨Tryz.func32,rfl,by kernel_rfl,by kernel_rfl,mixed⟩
theorem chattelref09_Make.cs {k:Nat} {a0_0:Int} {a0_1:Int} {a0_2:Int} {a1:Int} {r:Int×Int×Int} (h:chattelref09_Make.f k a0_0 a0_1 a0_2 a1=some r):CS Tryz.prog 32 [.agg [.int .i64 a0_0, .int .i64 a0_1, .int .i64 a0_2], .int .i64 a1] .no [.agg [.int .i64 r.1, .int .i64 r.2.1, .int .i64 r.2.2]]:=by
  unfold chattelref09_Make.f at h
  refine E.pure fn32 rfl ?_
  refine X.seq ?_
  refine X.still ?_
  refine O.puE (v':=.op 2 (1) 0 0) (b':=⟨1, .own,_,_⟩) (Pu.box (.tmp (v:=.agg _) rfl) rfl rfl) rfl rfl ?_
  refine O.puE (v':=.op 4 (1) 0 0) (b':=⟨1, .own,(.vals [.agg [.int .i64 0, .int .i64 0, .int .i64 0]]),_⟩) Pu.alloc rfl rfl ?_
  refine O.nil ?_
  refine X.seq ?_
  refine X.still ?_
  repeat (rw [giffn] at h;obtain ⟨_,h⟩:=h)
  refine O.pu (U.indexAr rfl rfl (.tmp rfl) rfl rfl rfl .int (by decide) (by decide)) ?_
  refine O.pu (U.load (.tmp rfl) rfl rfl (U.cell rfl rfl rfl)) ?_
  refine O.pu (Pu.move (.tmp (v:=.int _ _) rfl)) ?_
  refine O.pu (Pu.bin (.tmp rfl) (.tmp rfl) (.rem (by omega))) ?_
  refine O.pu (Pu.assign (.tmp (v:=.int _ _) rfl)) ?_
  refine O.nil ?_
  refine X.seq ?_
  refine X.seq ?_
  refine X.still ?_
  refine O.pu (Pu.move (.tmp (v:=.int _ _) rfl)) ?_
  refine O.pu (Pu.bin (.tmp rfl) .int .lss) ?_
  refine O.nil ?_
  refine X.condP (.tmp rfl) (fun c=>?_) (fun c=>?_)
  · rw [if_pos c] at h
    refine X.still ?_
    refine O.pu (Pu.move (.tmp (v:=.int _ _) rfl)) ?_
    refine O.pu (Pu.move (.tmp (v:=.int _ _) rfl)) ?_
    refine O.pu (Pu.bin (.tmp rfl) (.tmp rfl) U.add64) ?_
    refine O.pu (Pu.assign (.tmp (v:=.int _ _) rfl)) ?_
    refine O.nil ?_
    refine X.seq ?_
    refine X.still ?_
    repeat (rw [chattelref09_Make.j0_e] at h;obtain ⟨k,_,h⟩:=h;unfold chattelref09_Make.j0 at h;try dsimp only at h)
    refine O.pu (U.indexAr rfl rfl (.tmp rfl) rfl rfl rfl .int (by decide) (by decide)) ?_
    refine O.pu (U.load (.tmp rfl) rfl rfl (U.cell rfl rfl rfl)) ?_
    refine O.pu (Pu.bin (.tmp rfl) .int (.rem (by omega))) ?_
    refine O.pu (Pu.assign (.tmp (v:=.int _ _) rfl)) ?_
    refine O.nil ?_
    refine X.seq ?_
    refine X.seq ?_
    refine X.still ?_
    refine O.pu (Pu.move (.tmp (v:=.int _ _) rfl)) ?_
    refine O.pu (Pu.bin (.tmp rfl) .int .lss) ?_
    refine O.nil ?_
    refine X.condP (.tmp rfl) (fun c=>?_) (fun c=>?_)
    · rw [if_pos c] at h
      refine X.still ?_
      refine O.pu (Pu.move (.tmp (v:=.int _ _) rfl)) ?_
      refine O.pu (Pu.bin (.tmp rfl) .int U.add64) ?_
      refine O.pu (Pu.assign (.tmp (v:=.int _ _) rfl)) ?_
      refine O.nil ?_
      refine X.seq ?_
      refine X.still ?_
      refine O.pu (Pu.move (.tmp (v:=.int _ _) rfl)) ?_
      refine O.pu (Pu.bin (.tmp rfl) .int U.add64) ?_
      refine O.pu (Pu.move (.tmp (v:=.int _ _) rfl)) ?_
      refine O.pu (Pu.bin (.tmp rfl) .int U.add64) ?_
      obtain ⟨q1,Hq1,h⟩:=Option.bind_eq_some_iff.1 h
      refine O.pu (U.call (ss:=[]) (.cons (.tmp (v:=.int _ _) rfl) (.cons (.tmp (v:=.int _ _) rfl) .nil)) (.cons (.cl .int) (.cons (.cl .int) .nil)) (chattelref09_Days.cs Hq1) (.inl rfl) (.int)) ?_
      refine O.pu (Pu.assign (.tmp (v:=.int _ _) rfl)) ?_
      refine O.nil ?_
      refine X.seq ?_
      refine X.still ?_
      repeat (rw [giffn] at h;obtain ⟨_,h⟩:=h)
      refine O.pu (U.indexAr rfl rfl (.tmp rfl) rfl rfl rfl .int (by decide) (by decide)) ?_
      refine O.pu (U.load (.tmp rfl) rfl rfl (U.cell rfl rfl rfl)) ?_
      refine O.pu (Pu.move (.tmp (v:=.int _ _) rfl)) ?_
      refine O.pu (Pu.bin (.tmp rfl) (.tmp rfl) (.rem (by omega))) ?_
      refine O.pu (Pu.assign (.tmp (v:=.int _ _) rfl)) ?_
      refine O.nil ?_
      refine X.seq ?_
      refine X.seq ?_
      refine X.still ?_
      refine O.pu (Pu.move (.tmp (v:=.int _ _) rfl)) ?_
      refine O.pu (Pu.bin (.tmp rfl) .int .lss) ?_
      refine O.nil ?_
      refine X.condP (.tmp rfl) (fun c=>?_) (fun c=>?_)
      · rw [if_pos c] at h
        refine X.still ?_
        refine O.pu (Pu.move (.tmp (v:=.int _ _) rfl)) ?_
        refine O.pu (Pu.move (.tmp (v:=.int _ _) rfl)) ?_
        refine O.pu (Pu.bin (.tmp rfl) (.tmp rfl) U.add64) ?_
        refine O.pu (Pu.assign (.tmp (v:=.int _ _) rfl)) ?_
        refine O.nil ?_
        refine X.seq ?_
        refine X.still ?_
        refine O.pu (Pu.move (.tmp (v:=.int _ _) rfl)) ?_
        refine O.pu (Pu.bin (.tmp rfl) .int U.add64) ?_
        refine O.pu (Pu.move (.tmp (v:=.int _ _) rfl)) ?_
        refine O.pu (Pu.bin (.tmp rfl) .int U.add64) ?_
        refine O.pu (Pu.move (.tmp (v:=.int _ _) rfl)) ?_
        refine O.pu (Pu.bin (.tmp rfl) .int U.add64) ?_
        refine O.pu (Pu.build rfl (.cons (.tmp (v:=.int _ _) rfl) rfl rfl rfl (.put .done) (.cons (.tmp (v:=.int _ _) rfl) rfl rfl rfl (.skip (.put .done)) (.cons (.tmp (v:=.int _ _) rfl) rfl rfl rfl (.skip (.skip (.put .done))) .nil)))) ?_
        refine O.ef0 (U.storeE (.tmp rfl) rfl rfl (.tmp (v:=.agg _) rfl) rfl rfl (.whole (notBad_ne rfl) rfl) .one) ?_
        refine O.nil ?_
        refine X.ret ?_
        cases h
        exact E.fin [] (.cell rfl rfl (Mode.live_ne rfl) (U.whole rfl rfl) .nil) (.cons (.cl (.aggL (.cons .int (.cons .int (.cons .int .nil))))) .nil)
      · rw [if_neg c] at h
        refine X.skip ?_
        refine X.seq ?_
        refine X.still ?_
        refine O.pu (Pu.move (.tmp (v:=.int _ _) rfl)) ?_
        refine O.pu (Pu.bin (.tmp rfl) .int U.add64) ?_
        refine O.pu (Pu.move (.tmp (v:=.int _ _) rfl)) ?_
        refine O.pu (Pu.bin (.tmp rfl) .int U.add64) ?_
        refine O.pu (Pu.move (.tmp (v:=.int _ _) rfl)) ?_
        refine O.pu (Pu.bin (.tmp rfl) .int U.add64) ?_
        refine O.pu (Pu.build rfl (.cons (.tmp (v:=.int _ _) rfl) rfl rfl rfl (.put .done) (.cons (.tmp (v:=.int _ _) rfl) rfl rfl rfl (.skip (.put .done)) (.cons (.tmp (v:=.int _ _) rfl) rfl rfl rfl (.skip (.skip (.put .done))) .nil)))) ?_
        refine O.ef0 (U.storeE (.tmp rfl) rfl rfl (.tmp (v:=.agg _) rfl) rfl rfl (.whole (notBad_ne rfl) rfl) .one) ?_
        refine O.nil ?_
        refine X.ret ?_
        cases h
        exact E.fin [] (.cell rfl rfl (Mode.live_ne rfl) (U.whole rfl rfl) .nil) (.cons (.cl (.aggL (.cons .int (.cons .int (.cons .int .nil))))) .nil)
    · rw [if_neg c] at h
      refine X.skip ?_
      refine X.seq ?_
      refine X.still ?_
      refine O.pu (Pu.move (.tmp (v:=.int _ _) rfl)) ?_
      refine O.pu (Pu.bin (.tmp rfl) .int U.add64) ?_
      refine O.pu (Pu.move (.tmp (v:=.int _ _) rfl)) ?_
      refine O.pu (Pu.bin (.tmp rfl) .int U.add64) ?_
      obtain ⟨q2,Hq2,h⟩:=Option.bind_eq_some_iff.1 h
      refine O.pu (U.call (ss:=[]) (.cons (.tmp (v:=.int _ _) rfl) (.cons (.tmp (v:=.int _ _) rfl) .nil)) (.cons (.cl .int) (.cons (.cl .int) .nil)) (chattelref09_Days.cs Hq2) (.inl rfl) (.int)) ?_
      refine O.pu (Pu.assign (.tmp (v:=.int _ _) rfl)) ?_
      refine O.nil ?_
      refine X.seq ?_
      refine X.still ?_
      repeat (rw [giffn] at h;obtain ⟨_,h⟩:=h)
      refine O.pu (U.indexAr rfl rfl (.tmp rfl) rfl rfl rfl .int (by decide) (by decide)) ?_
      refine O.pu (U.load (.tmp rfl) rfl rfl (U.cell rfl rfl rfl)) ?_
      refine O.pu (Pu.move (.tmp (v:=.int _ _) rfl)) ?_
      refine O.pu (Pu.bin (.tmp rfl) (.tmp rfl) (.rem (by omega))) ?_
      refine O.pu (Pu.assign (.tmp (v:=.int _ _) rfl)) ?_
      refine O.nil ?_
      refine X.seq ?_
      refine X.seq ?_
      refine X.still ?_
      refine O.pu (Pu.move (.tmp (v:=.int _ _) rfl)) ?_
      refine O.pu (Pu.bin (.tmp rfl) .int .lss) ?_
      refine O.nil ?_
      refine X.condP (.tmp rfl) (fun c=>?_) (fun c=>?_)
      · rw [if_pos c] at h
        refine X.still ?_
        refine O.pu (Pu.move (.tmp (v:=.int _ _) rfl)) ?_
        refine O.pu (Pu.move (.tmp (v:=.int _ _) rfl)) ?_
        refine O.pu (Pu.bin (.tmp rfl) (.tmp rfl) U.add64) ?_
        refine O.pu (Pu.assign (.tmp (v:=.int _ _) rfl)) ?_
        refine O.nil ?_
        refine X.seq ?_
        refine X.still ?_
        refine O.pu (Pu.move (.tmp (v:=.int _ _) rfl)) ?_
        refine O.pu (Pu.bin (.tmp rfl) .int U.add64) ?_
        refine O.pu (Pu.move (.tmp (v:=.int _ _) rfl)) ?_
        refine O.pu (Pu.bin (.tmp rfl) .int U.add64) ?_
        refine O.pu (Pu.move (.tmp (v:=.int _ _) rfl)) ?_
        refine O.pu (Pu.bin (.tmp rfl) .int U.add64) ?_
        refine O.pu (Pu.build rfl (.cons (.tmp (v:=.int _ _) rfl) rfl rfl rfl (.put .done) (.cons (.tmp (v:=.int _ _) rfl) rfl rfl rfl (.skip (.put .done)) (.cons (.tmp (v:=.int _ _) rfl) rfl rfl rfl (.skip (.skip (.put .done))) .nil)))) ?_
        refine O.ef0 (U.storeE (.tmp rfl) rfl rfl (.tmp (v:=.agg _) rfl) rfl rfl (.whole (notBad_ne rfl) rfl) .one) ?_
        refine O.nil ?_
        refine X.ret ?_
        cases h
        exact E.fin [] (.cell rfl rfl (Mode.live_ne rfl) (U.whole rfl rfl) .nil) (.cons (.cl (.aggL (.cons .int (.cons .int (.cons .int .nil))))) .nil)
      · rw [if_neg c] at h
        refine X.skip ?_
        refine X.seq ?_
        refine X.still ?_
        refine O.pu (Pu.move (.tmp (v:=.int _ _) rfl)) ?_
        refine O.pu (Pu.bin (.tmp rfl) .int U.add64) ?_
        refine O.pu (Pu.move (.tmp (v:=.int _ _) rfl)) ?_
        refine O.pu (Pu.bin (.tmp rfl) .int U.add64) ?_
        refine O.pu (Pu.move (.tmp (v:=.int _ _) rfl)) ?_
        refine O.pu (Pu.bin (.tmp rfl) .int U.add64) ?_
        refine O.pu (Pu.build rfl (.cons (.tmp (v:=.int _ _) rfl) rfl rfl rfl (.put .done) (.cons (.tmp (v:=.int _ _) rfl) rfl rfl rfl (.skip (.put .done)) (.cons (.tmp (v:=.int _ _) rfl) rfl rfl rfl (.skip (.skip (.put .done))) .nil)))) ?_
        refine O.ef0 (U.storeE (.tmp rfl) rfl rfl (.tmp (v:=.agg _) rfl) rfl rfl (.whole (notBad_ne rfl) rfl) .one) ?_
        refine O.nil ?_
        refine X.ret ?_
        cases h
        exact E.fin [] (.cell rfl rfl (Mode.live_ne rfl) (U.whole rfl rfl) .nil) (.cons (.cl (.aggL (.cons .int (.cons .int (.cons .int .nil))))) .nil)
  · rw [if_neg c] at h
    refine X.skip ?_
    refine X.seq ?_
    refine X.still ?_
    repeat (rw [chattelref09_Make.j0_e] at h;obtain ⟨k,_,h⟩:=h;unfold chattelref09_Make.j0 at h;try dsimp only at h)
    refine O.pu (U.indexAr rfl rfl (.tmp rfl) rfl rfl rfl .int (by decide) (by decide)) ?_
    refine O.pu (U.load (.tmp rfl) rfl rfl (U.cell rfl rfl rfl)) ?_
    refine O.pu (Pu.bin (.tmp rfl) .int (.rem (by omega))) ?_
    refine O.pu (Pu.assign (.tmp (v:=.int _ _) rfl)) ?_
    refine O.nil ?_
    refine X.seq ?_
    refine X.seq ?_
    refine X.still ?_
    refine O.pu (Pu.move (.tmp (v:=.int _ _) rfl)) ?_
    refine O.pu (Pu.bin (.tmp rfl) .int .lss) ?_
    refine O.nil ?_
    refine X.condP (.tmp rfl) (fun c=>?_) (fun c=>?_)
    · rw [if_pos c] at h
      refine X.still ?_
      refine O.pu (Pu.move (.tmp (v:=.int _ _) rfl)) ?_
      refine O.pu (Pu.bin (.tmp rfl) .int U.add64) ?_
      refine O.pu (Pu.assign (.tmp (v:=.int _ _) rfl)) ?_
      refine O.nil ?_
      refine X.seq ?_
      refine X.still ?_
      refine O.pu (Pu.move (.tmp (v:=.int _ _) rfl)) ?_
      refine O.pu (Pu.bin (.tmp rfl) .int U.add64) ?_
      refine O.pu (Pu.move (.tmp (v:=.int _ _) rfl)) ?_
      refine O.pu (Pu.bin (.tmp rfl) .int U.add64) ?_
      obtain ⟨q3,Hq3,h⟩:=Option.bind_eq_some_iff.1 h
      refine O.pu (U.call (ss:=[]) (.cons (.tmp (v:=.int _ _) rfl) (.cons (.tmp (v:=.int _ _) rfl) .nil)) (.cons (.cl .int) (.cons (.cl .int) .nil)) (chattelref09_Days.cs Hq3) (.inl rfl) (.int)) ?_
      refine O.pu (Pu.assign (.tmp (v:=.int _ _) rfl)) ?_
      refine O.nil ?_
      refine X.seq ?_
      refine X.still ?_
      repeat (rw [giffn] at h;obtain ⟨_,h⟩:=h)
      refine O.pu (U.indexAr rfl rfl (.tmp rfl) rfl rfl rfl .int (by decide) (by decide)) ?_
      refine O.pu (U.load (.tmp rfl) rfl rfl (U.cell rfl rfl rfl)) ?_
      refine O.pu (Pu.move (.tmp (v:=.int _ _) rfl)) ?_
      refine O.pu (Pu.bin (.tmp rfl) (.tmp rfl) (.rem (by omega))) ?_
      refine O.pu (Pu.assign (.tmp (v:=.int _ _) rfl)) ?_
      refine O.nil ?_
      refine X.seq ?_
      refine X.seq ?_
      refine X.still ?_
      refine O.pu (Pu.move (.tmp (v:=.int _ _) rfl)) ?_
      refine O.pu (Pu.bin (.tmp rfl) .int .lss) ?_
      refine O.nil ?_
      refine X.condP (.tmp rfl) (fun c=>?_) (fun c=>?_)
      · rw [if_pos c] at h
        refine X.still ?_
        refine O.pu (Pu.move (.tmp (v:=.int _ _) rfl)) ?_
        refine O.pu (Pu.move (.tmp (v:=.int _ _) rfl)) ?_
        refine O.pu (Pu.bin (.tmp rfl) (.tmp rfl) U.add64) ?_
        refine O.pu (Pu.assign (.tmp (v:=.int _ _) rfl)) ?_
        refine O.nil ?_
        refine X.seq ?_
        refine X.still ?_
        refine O.pu (Pu.move (.tmp (v:=.int _ _) rfl)) ?_
        refine O.pu (Pu.bin (.tmp rfl) .int U.add64) ?_
        refine O.pu (Pu.move (.tmp (v:=.int _ _) rfl)) ?_
        refine O.pu (Pu.bin (.tmp rfl) .int U.add64) ?_
        refine O.pu (Pu.move (.tmp (v:=.int _ _) rfl)) ?_
        refine O.pu (Pu.bin (.tmp rfl) .int U.add64) ?_
        refine O.pu (Pu.build rfl (.cons (.tmp (v:=.int _ _) rfl) rfl rfl rfl (.put .done) (.cons (.tmp (v:=.int _ _) rfl) rfl rfl rfl (.skip (.put .done)) (.cons (.tmp (v:=.int _ _) rfl) rfl rfl rfl (.skip (.skip (.put .done))) .nil)))) ?_
        refine O.ef0 (U.storeE (.tmp rfl) rfl rfl (.tmp (v:=.agg _) rfl) rfl rfl (.whole (notBad_ne rfl) rfl) .one) ?_
        refine O.nil ?_
        refine X.ret ?_
        cases h
        exact E.fin [] (.cell rfl rfl (Mode.live_ne rfl) (U.whole rfl rfl) .nil) (.cons (.cl (.aggL (.cons .int (.cons .int (.cons .int .nil))))) .nil)
      · rw [if_neg c] at h
        refine X.skip ?_
        refine X.seq ?_
        refine X.still ?_
        refine O.pu (Pu.move (.tmp (v:=.int _ _) rfl)) ?_
        refine O.pu (Pu.bin (.tmp rfl) .int U.add64) ?_
        refine O.pu (Pu.move (.tmp (v:=.int _ _) rfl)) ?_
        refine O.pu (Pu.bin (.tmp rfl) .int U.add64) ?_
        refine O.pu (Pu.move (.tmp (v:=.int _ _) rfl)) ?_
        refine O.pu (Pu.bin (.tmp rfl) .int U.add64) ?_
        refine O.pu (Pu.build rfl (.cons (.tmp (v:=.int _ _) rfl) rfl rfl rfl (.put .done) (.cons (.tmp (v:=.int _ _) rfl) rfl rfl rfl (.skip (.put .done)) (.cons (.tmp (v:=.int _ _) rfl) rfl rfl rfl (.skip (.skip (.put .done))) .nil)))) ?_
        refine O.ef0 (U.storeE (.tmp rfl) rfl rfl (.tmp (v:=.agg _) rfl) rfl rfl (.whole (notBad_ne rfl) rfl) .one) ?_
        refine O.nil ?_
        refine X.ret ?_
        cases h
        exact E.fin [] (.cell rfl rfl (Mode.live_ne rfl) (U.whole rfl rfl) .nil) (.cons (.cl (.aggL (.cons .int (.cons .int (.cons .int .nil))))) .nil)
    · rw [if_neg c] at h
      refine X.skip ?_
      refine X.seq ?_
      refine X.still ?_
      refine O.pu (Pu.move (.tmp (v:=.int _ _) rfl)) ?_
      refine O.pu (Pu.bin (.tmp rfl) .int U.add64) ?_
      refine O.pu (Pu.move (.tmp (v:=.int _ _) rfl)) ?_
      refine O.pu (Pu.bin (.tmp rfl) .int U.add64) ?_
      obtain ⟨q4,Hq4,h⟩:=Option.bind_eq_some_iff.1 h
      refine O.pu (U.call (ss:=[]) (.cons (.tmp (v:=.int _ _) rfl) (.cons (.tmp (v:=.int _ _) rfl) .nil)) (.cons (.cl .int) (.cons (.cl .int) .nil)) (chattelref09_Days.cs Hq4) (.inl rfl) (.int)) ?_
      refine O.pu (Pu.assign (.tmp (v:=.int _ _) rfl)) ?_
      refine O.nil ?_
      refine X.seq ?_
      refine X.still ?_
      repeat (rw [giffn] at h;obtain ⟨_,h⟩:=h)
      refine O.pu (U.indexAr rfl rfl (.tmp rfl) rfl rfl rfl .int (by decide) (by decide)) ?_
      refine O.pu (U.load (.tmp rfl) rfl rfl (U.cell rfl rfl rfl)) ?_
      refine O.pu (Pu.move (.tmp (v:=.int _ _) rfl)) ?_
      refine O.pu (Pu.bin (.tmp rfl) (.tmp rfl) (.rem (by omega))) ?_
      refine O.pu (Pu.assign (.tmp (v:=.int _ _) rfl)) ?_
      refine O.nil ?_
      refine X.seq ?_
      refine X.seq ?_
      refine X.still ?_
      refine O.pu (Pu.move (.tmp (v:=.int _ _) rfl)) ?_
      refine O.pu (Pu.bin (.tmp rfl) .int .lss) ?_
      refine O.nil ?_
      refine X.condP (.tmp rfl) (fun c=>?_) (fun c=>?_)
      · rw [if_pos c] at h
        refine X.still ?_
        refine O.pu (Pu.move (.tmp (v:=.int _ _) rfl)) ?_
        refine O.pu (Pu.move (.tmp (v:=.int _ _) rfl)) ?_
        refine O.pu (Pu.bin (.tmp rfl) (.tmp rfl) U.add64) ?_
        refine O.pu (Pu.assign (.tmp (v:=.int _ _) rfl)) ?_
        refine O.nil ?_
        refine X.seq ?_
        refine X.still ?_
        refine O.pu (Pu.move (.tmp (v:=.int _ _) rfl)) ?_
        refine O.pu (Pu.bin (.tmp rfl) .int U.add64) ?_
        refine O.pu (Pu.move (.tmp (v:=.int _ _) rfl)) ?_
        refine O.pu (Pu.bin (.tmp rfl) .int U.add64) ?_
        refine O.pu (Pu.move (.tmp (v:=.int _ _) rfl)) ?_
        refine O.pu (Pu.bin (.tmp rfl) .int U.add64) ?_
        refine O.pu (Pu.build rfl (.cons (.tmp (v:=.int _ _) rfl) rfl rfl rfl (.put .done) (.cons (.tmp (v:=.int _ _) rfl) rfl rfl rfl (.skip (.put .done)) (.cons (.tmp (v:=.int _ _) rfl) rfl rfl rfl (.skip (.skip (.put .done))) .nil)))) ?_
        refine O.ef0 (U.storeE (.tmp rfl) rfl rfl (.tmp (v:=.agg _) rfl) rfl rfl (.whole (notBad_ne rfl) rfl) .one) ?_
        refine O.nil ?_
        refine X.ret ?_
        cases h
        exact E.fin [] (.cell rfl rfl (Mode.live_ne rfl) (U.whole rfl rfl) .nil) (.cons (.cl (.aggL (.cons .int (.cons .int (.cons .int .nil))))) .nil)
      · rw [if_neg c] at h
        refine X.skip ?_
        refine X.seq ?_
        refine X.still ?_
        refine O.pu (Pu.move (.tmp (v:=.int _ _) rfl)) ?_
        refine O.pu (Pu.bin (.tmp rfl) .int U.add64) ?_
        refine O.pu (Pu.move (.tmp (v:=.int _ _) rfl)) ?_
        refine O.pu (Pu.bin (.tmp rfl) .int U.add64) ?_
        refine O.pu (Pu.move (.tmp (v:=.int _ _) rfl)) ?_
        refine O.pu (Pu.bin (.tmp rfl) .int U.add64) ?_
        refine O.pu (Pu.build rfl (.cons (.tmp (v:=.int _ _) rfl) rfl rfl rfl (.put .done) (.cons (.tmp (v:=.int _ _) rfl) rfl rfl rfl (.skip (.put .done)) (.cons (.tmp (v:=.int _ _) rfl) rfl rfl rfl (.skip (.skip (.put .done))) .nil)))) ?_
        refine O.ef0 (U.storeE (.tmp rfl) rfl rfl (.tmp (v:=.agg _) rfl) rfl rfl (.whole (notBad_ne rfl) rfl) .one) ?_
        refine O.nil ?_
        refine X.ret ?_
        cases h
        exact E.fin [] (.cell rfl rfl (Mode.live_ne rfl) (U.whole rfl rfl) .nil) (.cons (.cl (.aggL (.cons .int (.cons .int (.cons .int .nil))))) .nil)
end Go.Proofs.YtakidmbnkkhojaaGreat
end
