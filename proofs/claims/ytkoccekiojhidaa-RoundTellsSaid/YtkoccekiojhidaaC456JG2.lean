-- Joined of: TI X1 X2 X3 X4 X5 G64 G23 G71 G72 G22 G59 G106 G74 G107 G75 G31 G126 G119 G118 G104 G120 G117 G121 G122 G123 G127 G124 G105 G73 V25 K32T K76 G32 G30 G79 G46 G21
import Derived.Test.YtkoccekiojhidaaC456JV1
import Derived.Test.YtkoccekiojhidaaProg
import Derived.KernelRfl
import Derived.Test.YtkoccekiojhidaaC456X
import Derived.Test.YtkoccekiojhidaaC456D
import Derived.Test.YtkoccekiojhidaaC456WWords
import Derived.Test.YtkoccekiojhidaaC456WMore
import Derived.Test.YtkoccekiojhidaaC456B
section
namespace Go.Proofs.Ytkoccekiojhidaa
open Go.AVL
instance:TI Try.prog 2 ⟨false,1,8,[.int .i64 0], .int .i64⟩:=⟨by kernel_rfl⟩
instance:TI Try.prog 3 ⟨false,1,8,[.int .i64 0], .int .i64⟩:=⟨by kernel_rfl⟩
instance:TI Try.prog 4 ⟨false,1,1,[.bool false], .bool⟩:=⟨by kernel_rfl⟩
instance:TI Try.prog 5 ⟨false,1,1,[.int .u8 0], .int .u8⟩:=⟨by kernel_rfl⟩
instance:TI Try.prog 6 ⟨false,1,1,[.int .u8 0], .int .u8⟩:=⟨by kernel_rfl⟩
instance:TI Try.prog 7 ⟨true,4,24,[.int .i64 0, .int .i64 0, .bool false, .int .u8 0], .st [(0,2,1),(1,3,1),(2,4,1),(3,6,1)]⟩:=⟨by kernel_rfl⟩
instance:TI Try.prog 8 ⟨true,4,24,[.int .i64 0, .int .i64 0, .bool false, .int .u8 0], .st [(0,2,1),(1,3,1),(2,4,1),(3,6,1)]⟩:=⟨by kernel_rfl⟩
instance:TI Try.prog 9 ⟨false,1,16,[.str .empty], .str⟩:=⟨by kernel_rfl⟩
instance:TI Try.prog 10 ⟨false,1,16,[.str .empty], .str⟩:=⟨by kernel_rfl⟩
instance:TI Try.prog 11 ⟨false,1,16,[.str .empty], .str⟩:=⟨by kernel_rfl⟩
instance:TI Try.prog 12 ⟨false,1,8,[.int .u64 0], .int .u64⟩:=⟨by kernel_rfl⟩
instance:TI Try.prog 13 ⟨true,2,24,[.str .empty, .int .u64 0], .st [(0,9,1),(1,12,1)]⟩:=⟨by kernel_rfl⟩
instance:TI Try.prog 14 ⟨true,2,24,[.str .empty, .int .u64 0], .st [(0,9,1),(1,12,1)]⟩:=⟨by kernel_rfl⟩
instance:TI Try.prog 15 ⟨false,1,8,[.bad], .ptr 161⟩:=⟨by kernel_rfl⟩
instance:TI Try.prog 16 ⟨false,1,8,[.bad], .ptr 164⟩:=⟨by kernel_rfl⟩
instance:TI Try.prog 17 ⟨false,1,8,[.bad], .ptr 172⟩:=⟨by kernel_rfl⟩
instance:TI Try.prog 18 ⟨true,1,8,[.bad], .st [(0,17,1)]⟩:=⟨by kernel_rfl⟩
instance:TI Try.prog 19 ⟨true,1,8,[.bad], .st [(0,17,1)]⟩:=⟨by kernel_rfl⟩
instance:TI Try.prog 21 ⟨false,1,4,[.int .i32 0], .int .i32⟩:=⟨by kernel_rfl⟩
instance:TI Try.prog 22 ⟨false,1,24,[.fi .u64 []], .sl 57⟩:=⟨by kernel_rfl⟩
instance:TI Try.prog 23 ⟨true,3,56,[.fi .u64 [], .fi .u64 [], .bool false], .st [(0,22,1),(1,22,1),(2,4,1)]⟩:=⟨by kernel_rfl⟩
instance:TI Try.prog 24 ⟨true,3,56,[.fi .u64 [], .fi .u64 [], .bool false], .st [(0,22,1),(1,22,1),(2,4,1)]⟩:=⟨by kernel_rfl⟩
instance:TI Try.prog 25 ⟨true,1,24,[.fi .u64 []], .st [(0,22,1)]⟩:=⟨by kernel_rfl⟩
instance:TI Try.prog 26 ⟨true,1,24,[.fi .u64 []], .st [(0,22,1)]⟩:=⟨by kernel_rfl⟩
instance:TI Try.prog 27 ⟨true,2,32,[.fi .u64 [], .bool false], .st [(0,26,1),(1,4,1)]⟩:=⟨by kernel_rfl⟩
instance:TI Try.prog 28 ⟨true,2,32,[.fi .u64 [], .bool false], .st [(0,26,1),(1,4,1)]⟩:=⟨by kernel_rfl⟩
instance:TI Try.prog 29 ⟨true,3,56,[.fi .u64 [], .bool false, .fi .u64 []], .st [(0,28,2),(2,26,1)]⟩:=⟨by kernel_rfl⟩
instance:TI Try.prog 30 ⟨true,3,56,[.fi .u64 [], .bool false, .fi .u64 []], .st [(0,28,2),(2,26,1)]⟩:=⟨by kernel_rfl⟩
instance:TI Try.prog 31 ⟨false,1,24,[.fi .i64 []], .sl 3⟩:=⟨by kernel_rfl⟩
instance:TI Try.prog 32 ⟨true,2,32,[.fi .i64 [], .bool false], .st [(0,31,1),(1,4,1)]⟩:=⟨by kernel_rfl⟩
instance:TI Try.prog 33 ⟨true,2,32,[.fi .i64 [], .bool false], .st [(0,31,1),(1,4,1)]⟩:=⟨by kernel_rfl⟩
instance:TI Try.prog 34 ⟨true,3,56,[.fi .i64 [], .bool false, .fi .i64 []], .st [(0,33,2),(2,31,1)]⟩:=⟨by kernel_rfl⟩
instance:TI Try.prog 35 ⟨true,3,56,[.fi .i64 [], .bool false, .fi .i64 []], .st [(0,33,2),(2,31,1)]⟩:=⟨by kernel_rfl⟩
instance:TI Try.prog 50 ⟨false,1,8,[.int .i64 0], .int .i64⟩:=⟨by kernel_rfl⟩
instance:TI Try.prog 57 ⟨false,1,8,[.int .u64 0], .int .u64⟩:=⟨by kernel_rfl⟩
instance:TI Try.prog 70 ⟨true,3,56,[.fi .u64 [], .fi .u64 [], .bool false], .st [(0,22,1),(1,22,1),(2,4,1)]⟩:=⟨by kernel_rfl⟩
instance:TI Try.prog 74 ⟨false,1,8,[.int .i64 0], .int .i64⟩:=⟨by kernel_rfl⟩
instance:TI Try.prog 79 ⟨false,1,24,[.fv []], .sl 9⟩:=⟨by kernel_rfl⟩
instance:TI Try.prog 87 ⟨false,1,24,[.fv []], .sl 26⟩:=⟨by kernel_rfl⟩
instance:TI Try.prog 104 ⟨false,1,8,[.bad], .ptr 107⟩:=⟨by kernel_rfl⟩
instance:TI Try.prog 105 ⟨false,1,24,[.fi .u8 []], .sl 5⟩:=⟨by kernel_rfl⟩
instance:TI Try.prog 106 ⟨true,2,32,[.bad, .fi .u8 []], .st [(0,104,1),(1,105,1)]⟩:=⟨by kernel_rfl⟩
instance:TI Try.prog 107 ⟨true,2,32,[.bad, .fi .u8 []], .st [(0,104,1),(1,105,1)]⟩:=⟨by kernel_rfl⟩
instance:TI Try.prog 141 ⟨true,20,20,[.int .u8 0, .int .u8 0, .int .u8 0, .int .u8 0, .int .u8 0, .int .u8 0, .int .u8 0, .int .u8 0, .int .u8 0, .int .u8 0, .int .u8 0, .int .u8 0, .int .u8 0, .int .u8 0, .int .u8 0, .int .u8 0, .int .u8 0, .int .u8 0, .int .u8 0, .int .u8 0], .arr 20 5⟩:=⟨by kernel_rfl⟩
instance:TI Try.prog 142 ⟨false,1,8,[.bad], .ptr 5⟩:=⟨by kernel_rfl⟩
instance:TI Try.prog 150 ⟨false,1,8,[.int .u64 0], .int .u64⟩:=⟨by kernel_rfl⟩
instance:TI Try.prog 159 ⟨false,1,8,[.bad], .ptr 174⟩:=⟨by kernel_rfl⟩
instance:TI Try.prog 160 ⟨true,4,40,[.bad, .bad, .bad, .str .empty], .st [(0,17,1),(1,17,1),(2,17,1),(3,9,1)]⟩:=⟨by kernel_rfl⟩
instance:TI Try.prog 161 ⟨true,4,40,[.bad, .bad, .bad, .str .empty], .st [(0,17,1),(1,17,1),(2,17,1),(3,9,1)]⟩:=⟨by kernel_rfl⟩
instance:TI Try.prog 162 ⟨true,0,0,[], .arr 0 16⟩:=⟨by kernel_rfl⟩
instance:TI Try.prog 163 ⟨true,0,0,[], .st [(0,162,0)]⟩:=⟨by kernel_rfl⟩
instance:TI Try.prog 164 ⟨true,0,0,[], .st [(0,162,0)]⟩:=⟨by kernel_rfl⟩
instance:TI Try.prog 165 ⟨false,1,4,[.int .u32 0], .int .u32⟩:=⟨by kernel_rfl⟩
instance:TI Try.prog 166 ⟨false,1,1,[.int .u8 0], .int .u8⟩:=⟨by kernel_rfl⟩
instance:TI Try.prog 167 ⟨false,1,1,[.int .u8 0], .int .u8⟩:=⟨by kernel_rfl⟩
instance:TI Try.prog 169 ⟨false,1,4,[.int .i32 0], .int .i32⟩:=⟨by kernel_rfl⟩
instance:TI Try.prog 170 ⟨false,1,4,[.int .i32 0], .int .i32⟩:=⟨by kernel_rfl⟩
instance:TI Try.prog 173 ⟨true,1,16,[.str .empty], .st [(0,9,1)]⟩:=⟨by kernel_rfl⟩
instance:TI Try.prog 174 ⟨true,1,16,[.str .empty], .st [(0,9,1)]⟩:=⟨by kernel_rfl⟩
theorem mixed:Try.prog.follows .mixedOrders=true:=by kernel_rfl
end Go.Proofs.Ytkoccekiojhidaa
end

section
namespace Go.AVL
open Go.RowKit Go.Proofs.YtkoccekiojhidaaX Go.Proofs.YtkoccekiojhidaaW.PrintWords Go.Proofs.YtkoccekiojhidaaW.PrintLast Go.Proofs.YtkoccekiojhidaaW.PrintMore
set_option linter.unusedVariables false
section
variable {P : Program} {st : St} {Q : Out → St → Prop} {K : St → Prop}
variable {ops : Array Oper} {os : List Oper} {d ty : Nat} {op : Op} {pos : String} {aft : Array Edge} {v : AV} {R : List Nat} {b : Blk} {n1 k j : Nat}
theorem U.whole {a:Bool} {n:Nat} {cs:List AV} (ha:a=true) (hn:cs.length=n):Part a n 0 (.agg cs) (.agg cs):=by subst ha;exact .whole hn
theorem U.sub {a:Bool} {n o:Nat} {cs r:List AV} (ha:a=true) (h:Ext cs o n r):Part a n o (.agg cs) (.agg r):=by subst ha;exact .sub h
theorem U.cell {a:Bool} {n o:Nat} {cs:List AV} {v:AV} (ha:a=false) (hn:n=1) (h:cs[o]?=some v):Part a n o (.agg cs) v:=by subst ha;subst hn;exact .cell h
theorem U.self {a:Bool} {n:Nat} {v:AV} (ha:a=false) (hn:n=1) (h:v.one=true):Part a n 0 v v:=by subst ha;subst hn;exact .self h
theorem W.t {x:Nat} {want:Bool} (hd:dstAt ops j=some x) (ht:st.t x = .bool want):Wt ops st (some (j,want)) true:=by
  have h:Wt ops st (some (j,want)) (want == want):=.yes hd ht
  rwa [show (want == want)=true by cases want <;> rfl] at h
theorem W.f {x:Nat} {p want:Bool} (hd:dstAt ops j=some x) (ht:st.t x = .bool p) (hn:(p == want)=false):Wt ops st (some (j,want)) false:=by
  have h:Wt ops st (some (j,want)) (p == want):=.yes hd ht
  rwa [hn] at h
theorem U.rdI {t i e ie x y k l k' n} [h:TI P t i] [h':TI P e ie] (hd:i.d = .sl e) (h1:ie.size=1) (hx:Ev st x (.fi k l)) (hy:Ev st y (.int k' n)) (h0:0≤n) (hn:n < (l.length:Int)) :
    Pu P st d (.indexAddr t x y) (.fp (.int k (rd l n)) 0) none []:=.indexI hd h1 hx hy h0 hn
theorem U.rdO {t i x s u n k l} [h:TI P t i] (hx:Ev st x (.op s u (Int.toNat n) 0)) (hu:(st.b s).ver=u) (hm:(st.b s).mode.live=true) (hr:(st.b s).row = .ints k l) (ha:i.agg=false) (hs:i.size=1) :
    Pu P st d (.load t x) (.int k (rd l n)) none [s]:=.load hx hu (Mode.live_ne hm) (by rw [hr];exact U.self ha hs rfl)
theorem U.shrW {t k k' a b} (h:0≤b):BinR P .shr t (.int k a) (.int k' b) (.int k (shr k a b)):=U.shrV h
theorem U.shlW {t k k' a b} (h:0≤b):BinR P .shl t (.int k a) (.int k' b) (.int k (shl k a b)):=.shl h
theorem U.mx {x y k k' p q ts} (hx:Ev st x (.int k p)) (hy:Ev st y (.int k' q)):Pu P st d (.call ⟨.builtin .max,#[x,y],ts⟩) (.int k (mx p q)) none []:=.max hx hy
theorem U.mn {x y k k' p q ts} (hx:Ev st x (.int k p)) (hy:Ev st y (.int k' q)):Pu P st d (.call ⟨.builtin .min,#[x,y],ts⟩) (.int k (mn p q)) none []:=.min hx hy
theorem U.sadd {t a b} (h:a.size + b.size≤9223372036854775807):BinR P .add t (.str a) (.str b) (.str (a ++ b)):=.sadd h
end
end Go.AVL
end

section
namespace Go.Proofs.Ytkoccekiojhidaa
open Go.AVL Go.RowKit Go.Proofs.YtkoccekiojhidaaX Go.Proofs.YtkoccekiojhidaaW.PrintWords Go.Proofs.YtkoccekiojhidaaW.PrintLast Go.Proofs.YtkoccekiojhidaaW.PrintMore
set_option maxRecDepth 100000
theorem cs_u64x3 {f:FuncId} {x y c a b:Int} (hr : ∀ w,(callFunc f #[.int .u64 x, .int .u64 y, .int .u64 c]).run Try.prog w = .ok (.value (.tuple #[.int .u64 a, .int .u64 b])) w) :
    CS Try.prog f [.int .u64 x, .int .u64 y, .int .u64 c] .no [.int .u64 a, .int .u64 b]:=by
  intro A wg w m V hwg hw hs hv
  have h0:=(hv 0 (by simp)).int_inv
  have h1:=(hv 1 (by simp)).int_inv
  have h2:=(hv 2 (by simp)).int_inv
  have hV:V = #[.int .u64 x, .int .u64 y, .int .u64 c]:=by
    have h3:V.size=3:=hs
    apply Array.ext
    · exact h3
    · intro i hi1 hi2
      rw [h3] at hi1
      rcases i with _|_|_|i
      · simpa [Array.getD,h3] using h0
      · simpa [Array.getD,h3] using h1
      · simpa [Array.getD,h3] using h2
      · omega
  subst hV
  unfold CallW
  rw [hr w]
  exact ⟨A,m,hw,(fun p r1 r2 e h=>by cases h), .tup [_,_] #[_,_] rfl fun i hi=>by
    rcases i with _|_|i
    · exact .int _ _
    · exact .int _ _
    · simp at hi;omega⟩
theorem add64_cs {x y c:Int} (hc:c≤1):CS Try.prog 98 [.int .u64 x, .int .u64 y, .int .u64 c] .no [.int .u64 (add64s x y c), .int .u64 (add64c x y c)]:=cs_u64x3 (xrun_add64 x y c hc)
theorem sub64_cs {x y c:Int} (hc:c≤1):CS Try.prog 101 [.int .u64 x, .int .u64 y, .int .u64 c] .no [.int .u64 (sub64d x y c), .int .u64 (sub64b x y c)]:=cs_u64x3 (xrun_sub64 x y c hc)
end Go.Proofs.Ytkoccekiojhidaa
end

section
namespace Go.Proofs.Ytkoccekiojhidaa
open Go.AVL Go.RowKit Go.Proofs.Ytkoccekiojhidaa.F Go.Proofs.YtkoccekiojhidaaX Go.Proofs.YtkoccekiojhidaaW.PrintWords Go.Proofs.YtkoccekiojhidaaW.PrintLast Go.Proofs.YtkoccekiojhidaaW.PrintMore
theorem row_l : ∀ (k:Nat) {x1 x2 x6 x13 x14 x15 y r},nat_Nat_row.l0 k x1 x2 x6 x13 x14 x15 y=some r→r.length=x2.length
  | 0,_,_,_,_,_,_,_,_,h=>by unfold nat_Nat_row.l0 at h;cases h
  | k + 1,_,_,_,_,_,_,_,_,h=>by
    unfold nat_Nat_row.l0 at h
    split at h
    · repeat first|(rw [giff] at h;obtain ⟨_,h⟩:=h)
      obtain ⟨_,_,h⟩:=Option.bind_eq_some_iff.1 h
      repeat first|(rw [giff] at h;obtain ⟨_,h⟩:=h)
      rw [row_l k h,List.length_set]
    · repeat first|(rw [giff] at h;obtain ⟨_,h⟩:=h)
      cases h
      rw [List.length_set]
theorem nat_Nat_row_len {k l a x r} (h:nat_Nat_row.f k l a x=some r):r.length=x.length:=row_l k h
theorem back_l : ∀ (k:Nat) {x0 x1 x4 x7 x8 x9 r},quot_back.l0 k x0 x1 x4 x7 x8 x9=some r→r.length=x0.length
  | 0,_,_,_,_,_,_,_,h=>by unfold quot_back.l0 at h;cases h
  | k + 1,_,_,_,_,_,_,_,h=>by
    unfold quot_back.l0 at h
    split at h
    · repeat first|(rw [giff] at h;obtain ⟨_,h⟩:=h)
      rw [back_l k h,List.length_set]
    · repeat first|(rw [giff] at h;obtain ⟨_,h⟩:=h)
      cases h
      rw [List.length_set]
theorem quot_back_len {k l x r} (h:quot_back.f k l x=some r):r.length=l.length:=back_l k h
theorem less_l : ∀ (k:Nat) {x0 x1 x2 x7 x8 x14 x15 x16 r},quot_less.l0 k x0 x1 x2 x7 x8 x14 x15 x16=some r→r.2.length=x0.length
  | 0,_,_,_,_,_,_,_,_,_,h=>by unfold quot_less.l0 at h;cases h
  | k + 1,_,_,_,_,_,_,_,_,_,h=>by
    unfold quot_less.l0 at h
    split at h
    · repeat first|(rw [giff] at h;obtain ⟨_,h⟩:=h)
      obtain ⟨_,_,h⟩:=Option.bind_eq_some_iff.1 h
      repeat first|(rw [giff] at h;obtain ⟨_,h⟩:=h)
      rw [less_l k h,List.length_set]
    · repeat first|(rw [giff] at h;obtain ⟨_,h⟩:=h)
      cases h
      show (List.set _ _ _).length=_
      rw [List.length_set]
theorem quot_less_len {k l x a r} (h:quot_less.f k l x a=some r):r.2.length=l.length:=less_l k h
end Go.Proofs.Ytkoccekiojhidaa
end

section
namespace Go.AVL
open Go.RowKit
set_option linter.unusedVariables false
inductive SnapH (st:St) (ss:List Nat):Nat→List AV→List AV→Prop
  | hole {v a vs bs}:SnapL st ss vs bs→SnapH st ss 0 (v :: vs) (a :: bs)
  | cons {p v a vs bs}:Snap st ss v a→SnapH st ss p vs bs→SnapH st ss (p + 1) (v :: vs) (a :: bs)
theorem SnapH.spec {st:St} {ss:List Nat} {p:Nat} {vs bs:List AV} (h:SnapH st ss p vs bs):vs.length=bs.length∧p < vs.length∧∀ i,i < bs.length→i≠p→Snap st ss (vs.getD i .bad) (bs.getD i .bad):=by
  induction h with
  | hole hs =>
    refine ⟨by simp [hs.1],by simp,fun i hi hn=>?_⟩
    cases i with
    | zero=>exact absurd rfl hn
    | succ i=>exact hs.2 i (by have:=hs.1;simp at hi;omega)
  | cons hs _ ih =>
    obtain ⟨h1,h2,h3⟩:=ih
    refine ⟨by simp [h1],by simpa using h2,fun i hi hn=>?_⟩
    cases i with
    | zero=>exact hs
    | succ i=>exact h3 i (by simpa using hi) (fun e=>hn (by rw [e]))
section
variable {P : Program} {st : St} {d : Nat}
theorem U.sliceO0 {t i e ie x s u len full lo hi mx a b} [h:TI P t i] [h':TI P e ie] (hd:i.d = .sl e) (hx:Ev st x (.os s u 0 len full)) (hu:(st.b s).ver=u) (hm:(st.b s).mode.live=true) (hz:szOk ie.size ((st.b s).row.get 0))
    (hlo:Bd st lo 0 a) (hhi:Bd st hi len b) (hmx:Mx st b len hi mx) (hab:a≤b) (hb:b≤len):Pu P st d (.slice t x lo hi mx) (.os s u a (b - a) false) none [s]:=.sliceO hd hx hu (Mode.live_ne hm) (.inr hz) hlo hhi hmx hab hb (Nat.zero_add a).symm rfl
theorem U.callW {args ats f vs bs res ss p s u off hi len len2 full k l l' e m} (hv:EvL st args.toList vs) (hs:SnapH st ss p vs bs) (hp:vs.getD p .bad = .os s u off len full) (hap:bs.getD p .bad = .os p 1 0 len2 false)
    (hss:memB ss s=false) (hB:st.b s=⟨u,m, .ints k l,e⟩) (hm:m.wr=true) (hhi:hi=off + len) (hle:hi≤l.length) (hl2:len=len2) (hl':l'.length=len) (hf:Flat (AV.mk res))
    (hc:CS P f bs ⟨some (p, .ints k ((l.take hi).drop off), .ints k l',e),none⟩ res) :
    Ef P st d (.call ⟨.value (.func f),args,ats⟩) (AV.mk res) (upd st.b s ⟨u,m, .ints k (l.take off ++ l' ++ l.drop hi),e⟩):=by
  obtain ⟨h1,h2,h3⟩:=hs.spec
  subst hl2
  subst hhi
  have h4:Ef P st d (.call ⟨.value (.func f),args,ats⟩) (AV.mk res) (upd st.b s ((st.b s).setRow (.ints k (l.take off ++ l' ++ l.drop (off + len))))):=by
    refine .callI (caps:=[]) (ss:=ss) (p:=p) (s:=s) (u:=u) (off:=off) (len:=len) (full:=full) (rin:=.ints k ((l.take (off + len)).drop off)) (rout:=.ints k l') (e:=e) .fn hv (by rw [List.append_nil];exact h2) (by rw [List.append_nil];exact hp) (by rw [← h1];rfl)
      (fun i hi hn=>by rw [List.append_nil];exact h3 i hi hn) hap (fun hm=>by rw [memB_iff.2 hm] at hss;cases hss) (by rw [hB]) (by rw [hB];exact Mode.wr_or hm) (by rw [hB]) ?_ (by rw [hB];exact .ints hl') hc hf
    rw [hB]
    have:(l.take (off + len)).drop off=(l.drop off).take len:=by rw [List.drop_take,Nat.add_sub_cancel_left]
    rw [this]
    exact .ints
  rw [hB] at h4
  exact h4
end
theorem win_e {α β:Type} {c:Prop} [Decidable c] {x:Option α} {g:α→β} {q:β} (h:(if c then x.map g else none)=some q):c∧∃ r,x=some r∧q=g r:=by
  by_cases hc:c
  · rw [if_pos hc] at h
    obtain ⟨r,h1,h2⟩:=Option.map_eq_some_iff.1 h
    exact ⟨hc,r,h1,h2.symm⟩
  · rw [if_neg hc] at h;cases h
theorem Snap.osW {st:St} {ss:List Nat} {s u off len full k l hi} (hs:s ∈ ss) (hu:(st.b s).ver=u) (hm:(st.b s).mode≠.dead) (hr:(st.b s).row = .ints k l) (hh:hi=off + len) :
    Snap st ss (.os s u off len full) (.fi k ((l.take hi).drop off)):=by
  have h:(l.take hi).drop off=(l.drop off).take len:=by rw [hh,List.drop_take,Nat.add_sub_cancel_left]
  rw [h]
  exact .osI hs hu hm hr
theorem U.indexW {P:Program} {st:St} {d:Nat} {t i e ie x y s u off len full k' j n} [h:TI P t i] [h':TI P e ie] (hd:i.d = .sl e) (hx:Ev st x (.os s u off len full)) (hu:(st.b s).ver=u) (hm:(st.b s).mode.live=true) (hy:Ev st y (.int k' j)) (h0:0≤j) (hj:j < (len:Int))
    (hs:((st.b s).row.get (Int.toNat n)).cells.length=ie.size) (hb:notBad ((st.b s).row.get (Int.toNat n))=true) (hn:off + j.toNat=Int.toNat n):Pu P st d (.indexAddr t x y) (.op s u (Int.toNat n) 0) none [s] :=
  .indexO hd hx hu (Mode.live_ne hm) hy h0 hj hn.symm ⟨hs,notBad_ne hb⟩
theorem U.cutL {P:Program} {st:St} {d:Nat} {x s u u' off len full k l e row} (hx:Ev st x (.os s u off len full)) (hB:st.b s=⟨u, .own, .ints k l,e⟩) (hr:(l.drop off).take len=row) (hl:row.length=len) (hu:(st.b d).ver + 1=u'):Ef P st d (.assign x) (.os d u' 0 row.length false) (upd (upd st.b s ⟨u, .dead, .ints k l,e⟩) d ⟨u', .own, .ints k row,e⟩):=by
  rw [hl]
  exact U.cutE hx hB hr hu
theorem cutH {l:List Int} {n:Nat}:(l.drop 0).take (n - 0)=l.take n:=rfl
end Go.AVL
end

section
namespace Go.AVL
open Go.RowKit
set_option linter.unusedVariables false
theorem ClL.map {α:Type} {en:α→AV} {l:List α} (h : ∀ x,Cl (en x)):ClL (l.map en):=by
  intro i hi
  rw [List.length_map] at hi
  rw [List.getD_eq_getElem?_getD,List.getElem?_map,List.getElem?_eq_getElem hi]
  exact h _
theorem map_at {α:Type} {en:α→AV} {l:List α} {p:AV→Prop} (h : ∀ x,p (en x)) {i:Nat} (hi:i < l.length):p ((l.map en).getD i .bad):=by
  rw [List.getD_eq_getElem?_getD,List.getElem?_map,List.getElem?_eq_getElem hi]
  exact h _
section
variable {P : Program} {st : St} {d : Nat}
theorem U.litS {α:Type} {en:α→AV} {t i e ie len parts} {l:List α} [h:TI P t i] [h':TI P e ie] (hd:i.d = .sl e) (hp:PartsR st 0 parts.toList (l.map en)) (hl:len=l.length) (hs:Nat.ble (len * ie.size) 16777216=true) (h0:Nat.blt 0 ie.size=true)
    (hc : ∀ x,(en x).cells.length=ie.size):Pu P st d (.buildSlice t len parts) (.os d ((st.b d).ver + 1) 0 l.length true) (some ⟨(st.b d).ver + 1, .own, .vals (l.map en),e⟩) []:=by
  subst hl
  exact .litO hd hp (by simp) (Nat.le_of_ble_eq_true hs) (Nat.le_of_ble_eq_true h0) (fun j hj=>map_at (p:=fun v=>v.cells.length=ie.size) hc (by simpa using hj)) .vals
theorem U.appendSE {α:Type} {en:α→AV} {t i e ie x y s u u' len ss v} {l l2:List α} [h:TI P t i] [h':TI P e ie] (hd:i.d = .sl e) (hx:Ev st x (.os s u 0 len true)) (hB:st.b s=⟨u, .own, .vals (l.map en),e⟩) (hl:len=l.length)
    (hy:Ev st y v) (hsn:Snap st ss v (.fv (l2.map en))) (h0:Nat.blt 0 ie.size=true) (hc : ∀ x,szOk ie.size (en x)) (hm:l.length + l2.length≤maxLen) (hb:(l.length + l2.length) * ie.bytes≤140737488355328) (hu:(st.b d).ver + 1=u') :
    Ef P st d (.call ⟨.builtin .append,#[x,y],#[t,t]⟩) (.os d u' 0 (l ++ l2).length true) (upd (upd st.b s ⟨u, .dead, .vals (l.map en),e⟩) d ⟨u', .own, .vals ((l ++ l2).map en),e⟩):=by
  have h1:(Row.vals ((l ++ l2).map en)).len=l.length + l2.length:=by simp [Row.len]
  have h2:Ef P st d (.call ⟨.builtin .append,#[x,y],#[t,t]⟩) _ _:=.append (row:=.vals ((l ++ l2).map en)) (r2:=.vals (l2.map en)) (e:=e) (i:=i) (ie:=ie) hd (Nat.le_of_ble_eq_true h0) hx (by rw [hB]) (by rw [hB]) (by rw [hB]) (by rw [hB,hl];simp [Row.len]) hy hsn .fv
    (fun j hj=>map_at (p:=szOk ie.size) hc (by simpa [Row.len] using hj)) (by rw [hB,List.map_append];exact .vals) (by rw [h1];exact hm) (by rw [h1];exact hb)
  rw [hB,hu,h1] at h2
  rw [List.length_append]
  exact h2
theorem fi_reads {I:Nat→Prop} {w:World} {B:Nat→Blk} {m:Nat→Reg} {k:IntKind} {l:List Int} {V:Value} (h:VR I w B m (.fi k l) V) : ∃ a cap,V = .slice a l.length cap∧(l.length≤9223372036854775807→Go.Proofs.YtkoccekiojhidaaW.PrintWords.ReadsInt w k a l.length l):=by
  cases h with
  | fi _ _ a cap hl hc =>
    refine ⟨a,cap,rfl,fun hm=>⟨rfl,hm,fun hn=>?_⟩⟩
    obtain ⟨ad,e,hs,_,_⟩:=hc 0 hn
    refine ⟨ad,e,fun j hj=>?_⟩
    obtain ⟨ad',e',_,_,h5⟩:=hc j hj
    obtain rfl:ad'=ad:=by rw [e] at e';exact (Option.some.inj e').symm
    have:ad'.add j=⟨ad'.block,ad'.off + j,none⟩:=by
      unfold Addr.add
      by_cases hz:j=0
      · subst hz
        rw [if_pos rfl]
        cases ad' with
        | mk b o s=>simp only at hs;rw [hs];rfl
      · rw [if_neg hz]
    rw [this]
    exact h5
theorem U.convB {s t e i j ie x sl u off len full l} [h1:TI P s i] [h2:TI P t j] [h3:TI P e ie] (hi:i.d = .sl e) (he:ie.d = .int .u8) (hj:j.d = .str) (hx:Ev st x (.os sl u off len full)) (hu:(st.b sl).ver=u) (hm:(st.b sl).mode.live=true) (hr:(st.b sl).row = .ints .u8 l) (hl:len=l.length) (ho:off=0) (hle:l.length≤9223372036854775807) :
    Pu P st d (.convert s t x) (.str (strOfNums l)) none [sl]:=by
  refine .ext fun st' ha hb c I m a w o hop hs=>?_
  have hb':=hb sl (List.mem_singleton.2 rfl)
  subst ho
  obtain ⟨_,_,_,F1⟩:=h1.facts
  obtain ⟨_,_,_,F2⟩:=h2.facts
  obtain ⟨_,_,_,F3⟩:=h3.facts
  have u1:=F1.und
  rw [td_sl (F1.dd.symm.trans hi)] at u1
  have u2:=F2.und
  rw [td_str (F2.dd.symm.trans hj)] at u2
  have u3:=F3.und
  rw [td_int (F3.dd.symm.trans he)] at u3
  have hv:=os_ints (B':=noB) (m':=m) (J:=fun _=>True) hs.wr ((ha x (by simp [Op.operands]) _ hx).vr hs) (by rw [hb'];exact hu) (by rw [hb'];exact Mode.live_ne hm) (by rw [hb'];exact hr) (fun _=>trivial)
  rw [List.drop_zero,hl,List.take_length] at hv
  obtain ⟨A,cap,e1,e2⟩:=fi_reads hv
  refine ⟨_,?_, .str _⟩
  simp only [execOp,hop,e1]
  have:=Go.Proofs.YtkoccekiojhidaaW.PrintWords.string_of_reads (P:=P) (c:=cap) u1 u3 u2 (e2 hle)
  simp [this]
theorem U.indexS {t i x y s k n} [h:TI P t i] (hd:i.d = .str) (hx:Ev st x (.str s)) (hy:Ev st y (.int k n)) (h0:0≤n) (hn:n < (s.size:Int)):Pu P st d (.index t x y) (.int .u8 (Go.Proofs.YtkoccekiojhidaaW.PrintWords.bt s n)) none []:=.indexS hd hx hy h0 hn
theorem U.lenS {α:Type} {en:α→AV} {t i e x} {l:List α} [h:TI P t i] (hd:i.d = .sl e) (hx:Ev st x (.fv (l.map en))):Pu P st d (.call ⟨.builtin .len,#[x],#[t]⟩) (.int .i64 l.length) none []:=by
  have:=Pu.lenV (P:=P) (d:=d) (t:=t) hd hx
  rwa [List.length_map] at this
theorem str_at {l:List ByteArray} {n:Int} (h0:0≤n) (hn:n < (l.length:Int)):(l.map AV.str).getD n.toNat .bad = .str (Go.Proofs.YtkoccekiojhidaaW.PrintWords.rdOf ByteArray.empty l n):=by
  have hi:n.toNat < l.length:=by omega
  unfold Go.Proofs.YtkoccekiojhidaaW.PrintWords.rdOf
  rw [List.getD_eq_getElem?_getD,List.getElem?_map,List.getD_eq_getElem?_getD,List.getElem?_eq_getElem hi]
  rfl
theorem U.rdV {t i e ie x y k n} {l:List ByteArray} [h:TI P t i] [h':TI P e ie] (hd:i.d = .sl e) (hz:ie.size=1) (hx:Ev st x (.fv (l.map AV.str))) (hy:Ev st y (.int k n)) (h0:0≤n) (hn:n < (l.length:Int)) :
    Pu P st d (.indexAddr t x y) (.fp (.str (Go.Proofs.YtkoccekiojhidaaW.PrintWords.rdOf ByteArray.empty l n)) 0) none []:=by
  have he:=str_at h0 hn
  have:=Pu.indexV (P:=P) (d:=d) (t:=t) (e:=e) hd (by rw [he,hz];exact ⟨rfl,rfl⟩) hx hy h0 (by rw [List.length_map];exact hn)
  rwa [he] at this
theorem U.remE {t k a b} (h0:0≤a) (hb:b≠0):BinR P .rem t (.int k a) (.int k b) (.int k (a % b)):=by
  have:=BinR.rem (P:=P) (t:=t) (k:=k) (a:=a) hb
  rwa [Int.tmod_eq_emod_of_nonneg h0] at this
theorem mx_pos (a:Int):0≤Go.Proofs.YtkoccekiojhidaaW.PrintWords.mx 0 a:=by unfold Go.Proofs.YtkoccekiojhidaaW.PrintWords.mx;split <;> omega
theorem C.appendSE {α:Type} {en:α→AV} {t i e ie x y s u u' len ss v} {l l2:List α} [h:TI P t i] [h':TI P e ie] (hd:i.d = .sl e) (hx:Ev st x (.os s u 0 len true)) (hB:st.b s=⟨u, .own, .vals (l.map en),e⟩) (hl:len=l.length)
    (hy:Ev st y v) (hsn:Snap st ss v (.fv (l2.map en))) (h0:Nat.blt 0 ie.size=true) (hc : ∀ x,szOk ie.size (en x)) (hm:l.length + l2.length≤maxLen) (hb:(l.length + l2.length) * ie.bytes≤140737488355328) (hu:(st.b d).ver + 1=u') :
    EfC P st d (.call ⟨.builtin .append,#[x,y],#[t,t]⟩) (.os d u' 0 (l ++ l2).length true) (fun B=>upd (upd B s ⟨u, .dead, .vals (l.map en),e⟩) d ⟨u', .own, .vals ((l ++ l2).map en),e⟩) [s,d] (s :: d :: ss):=by
  refine ⟨fun q ha hbb=>?_,fun B z=>?_⟩
  · unfold Ag at ha
    exact U.appendSE hd (ha x (by simp [Op.operands,Call.operands]) _ hx) (by rw [hbb s (by simp)];exact hB) hl (ha y (by simp [Op.operands,Call.operands]) _ hy) (hsn.congr fun z hz=>hbb z (by simp [hz])) h0 hc hm hb (by rw [hbb d (by simp)];exact hu)
  · by_cases e1:z=d
    · subst e1;simp [upd_same]
    · rw [upd_ne _ _ e1]
      by_cases e2:z=s
      · subst e2;rw [upd_same,if_pos (by simp),upd_ne _ _ e1,upd_same]
      · rw [upd_ne _ _ e2,if_neg (by simp [e1,e2])]
theorem C.takeE {x s u u' len row e} (hx:Ev st x (.os s u 0 len true)) (hB:st.b s=⟨u, .own,row,e⟩) (hn:s≠d) (hu:(st.b d).ver + 1=u') :
    EfC P st d (.assign x) (.os d u' 0 len true) (fun B=>upd (upd B s ⟨u, .dead,row,e⟩) d ⟨u', .own,row,e⟩) [s,d] [s,d]:=by
  refine ⟨fun q ha hbb=>?_,fun B z=>?_⟩
  · unfold Ag at ha
    exact U.takeE (ha x (by simp [Op.operands]) _ hx) (by rw [hbb s (by simp)];exact hB) hn (by rw [hbb d (by simp)];exact hu)
  · by_cases e1:z=d
    · subst e1;simp [upd_same]
    · rw [upd_ne _ _ e1]
      by_cases e2:z=s
      · subst e2;rw [upd_same,if_pos (by simp),upd_ne _ _ e1,upd_same]
      · rw [upd_ne _ _ e2,if_neg (by simp [e1,e2])]
end
end Go.AVL
end

section
namespace Go.Proofs.Ytkoccekiojhidaa
open Go.AVL Go.RowKit Go.Proofs.Ytkoccekiojhidaa.F Go.Proofs.YtkoccekiojhidaaX Go.Proofs.YtkoccekiojhidaaW.PrintWords Go.Proofs.YtkoccekiojhidaaW.PrintLast Go.Proofs.YtkoccekiojhidaaW.PrintMore
set_option linter.unusedVariables false
set_option linter.unusedSimpArgs false
set_option maxRecDepth 100000
set_option maxHeartbeats 4000000
noncomputable def c64:Code:=Try.f64.body.getD .skip
theorem fn64:FnOk Try.prog 64 Try.f64 c64:=⟨Try.func64,rfl,by kernel_rfl,by kernel_rfl,mixed⟩
theorem nat_Nat_Zero.cs {l0_0:List Int} {r:Bool} (h:nat_Nat_Zero.f l0_0=some r):CS Try.prog 64 [.agg [.fi .u64 l0_0]] .no [.bool r]:=by
  unfold nat_Nat_Zero.f at h
  refine E.pure fn64 rfl ?_
  refine X.seq ?_
  refine X.still ?_
  refine O.puE (v':=.op 1 (1) 0 0) (b':=⟨1, .own,_,_⟩) (Pu.box (.tmp (v:=.agg _) rfl) rfl rfl) rfl rfl ?_
  refine O.pu (Pu.assign .bool) ?_
  refine O.nil ?_
  refine X.seq ?_
  refine X.still ?_
  refine O.pu (U.fieldA rfl rfl rfl (.tmp rfl)) ?_
  refine O.pu (U.load (.tmp rfl) rfl rfl (U.cell rfl rfl rfl)) ?_
  refine O.pu (Pu.lenI rfl (.tmp rfl)) ?_
  refine O.pu (Pu.bin (.tmp rfl) .int .eql) ?_
  refine O.pu (Pu.assign (.tmp (v:=.bool _) rfl)) ?_
  refine O.nil ?_
  refine X.ret ?_
  cases h
  exact E.fin [] (.tmp (v:=.bool _) rfl .nil) (.cons (.cl .bool) .nil)
noncomputable def c23:Code:=Try.f23.body.getD .skip
theorem fn23:FnOk Try.prog 23 Try.f23 c23:=⟨Try.func23,rfl,by kernel_rfl,by kernel_rfl,mixed⟩
theorem whole_Int_Sign.cs {l0_0:List Int} {a0_1:Bool} {r:Int} (h:whole_Int_Sign.f l0_0 a0_1=some r):CS Try.prog 23 [.agg [.fi .u64 l0_0, .bool a0_1]] .no [.int .i64 r]:=by
  unfold whole_Int_Sign.f at h
  refine E.pure fn23 rfl ?_
  refine X.seq ?_
  refine X.still ?_
  refine O.puE (v':=.op 1 (1) 0 0) (b':=⟨1, .own,_,_⟩) (Pu.box (.tmp (v:=.agg _) rfl) rfl rfl) rfl rfl ?_
  refine O.pu (Pu.assign .int) ?_
  refine O.nil ?_
  refine X.seq ?_
  refine X.block ?_
  refine X.seq ?_
  refine X.still ?_
  refine O.pu (U.fieldA rfl rfl rfl (.tmp rfl)) ?_
  refine O.pu (U.load (.tmp rfl) rfl rfl (U.sub rfl (.take .done))) ?_
  obtain ⟨q1,Hq1,h⟩:=Option.bind_eq_some_iff.1 h
  refine O.pu (U.call (ss:=[]) (.cons (.tmp (v:=.agg _) rfl) .nil) (.cons (.cl (.aggL (.cons .fi .nil))) .nil) (nat_Nat_Zero.cs Hq1) (.inl rfl) (.bool)) ?_
  refine O.pu (Pu.assign (.tmp (v:=.bool _) rfl)) ?_
  refine O.nil ?_
  refine X.cond (.tmp rfl) (fun c=>?_) (fun c=>?_)
  · rw [if_pos c] at h
    refine X.seq ?_
    refine X.still ?_
    refine O.pu (Pu.assign .int) ?_
    refine O.nil ?_
    refine X.ret ?_
    cases h
    exact E.fin [] (.tmp (v:=.int _ _) rfl .nil) (.cons (.cl .int) .nil)
  · rw [if_neg (bf c)] at h
    refine X.seq ?_
    refine X.still ?_
    refine O.pu (U.fieldA rfl rfl rfl (.tmp rfl)) ?_
    refine O.pu (U.load (.tmp rfl) rfl rfl (U.cell rfl rfl rfl)) ?_
    refine O.pu (Pu.assign (.tmp (v:=.bool _) rfl)) ?_
    refine O.nil ?_
    refine X.cond (.tmp rfl) (fun c=>?_) (fun c=>?_)
    · rw [if_pos c] at h
      refine X.seq ?_
      refine X.still ?_
      refine O.pu (Pu.assign .int) ?_
      refine O.nil ?_
      refine X.ret ?_
      cases h
      exact E.fin [] (.tmp (v:=.int _ _) rfl .nil) (.cons (.cl .int) .nil)
    · rw [if_neg (bf c)] at h
      refine X.skip ?_
      refine X.seq ?_
      refine X.still ?_
      refine O.pu (Pu.assign .int) ?_
      refine O.nil ?_
      refine X.ret ?_
      cases h
      exact E.fin [] (.tmp (v:=.int _ _) rfl .nil) (.cons (.cl .int) .nil)
noncomputable def c71:Code:=Try.f71.body.getD .skip
theorem fn71:FnOk Try.prog 71 Try.f71 c71:=⟨Try.func71,rfl,by kernel_rfl,by kernel_rfl,mixed⟩
theorem nat_trimmed.cs {k:Nat} {l0:List Int} {r:List Int} (h:nat_trimmed.f k l0=some r):CS Try.prog 71 [.fi .u64 l0] .no [.agg [.fi .u64 r]]:=by
  unfold nat_trimmed.f at h
  refine E.pure fn71 rfl ?_
  refine X.seq ?_
  refine X.still ?_
  refine O.puE (v':=.op 2 (1) 0 0) (b':=⟨1, .own,(.vals [.agg [.fi .u64 []]]),_⟩) Pu.alloc rfl rfl ?_
  refine O.nil ?_
  refine X.seq ?_
  refine X.still ?_
  refine O.pu (Pu.move (.tmp (v:=.fi _ _) rfl)) ?_
  refine O.pu (Pu.lenI rfl (.tmp rfl)) ?_
  refine O.pu (Pu.assign (.tmp (v:=.int _ _) rfl)) ?_
  refine O.nil ?_
  refine X.seq ?_
  refine X.block ?_
  refine X.inv (fun k s=>∃ x0 x3 u2,s.t 0 = .fi .u64 x0∧s.t 3 = .int .i64 x3∧s.t 2 = .op 2 u2 0 0∧s.b 2=⟨u2, .own, .vals [.agg [.fi .u64 []]],26⟩∧nat_trimmed.l0 k x0 x3=some r) ?_ ?_ ⟨_,_,_,rfl,rfl,rfl,rfl,h⟩
  · rintro s ⟨_,_,_,_,_,_,_,h⟩;unfold nat_trimmed.l0 at h;cases h
  · rintro k1 s1 ⟨x0,x3,u2,e0,e1,e2,e3,h⟩
    unfold nat_trimmed.l0 at h
    rw [St.fixT e0,St.fixT e1,St.fixT e2,St.fixB e3]
    refine X.seq ?_
    refine X.seq ?_
    refine X.still ?_
    refine O.pu (Pu.move (.tmp (v:=.int _ _) rfl)) ?_
    refine O.pu (Pu.bin (.tmp rfl) .int .gtr) ?_
    refine O.pu (Pu.move (.tmp (v:=.bool _) rfl)) ?_
    refine O.splitP (fun c=>?_) (fun c=>?_)
    · rw [if_pos c] at h
      refine G.pu (W.t rfl rfl) (Pu.move (.tmp (v:=.fi _ _) rfl)) ?_
      refine G.pu (W.t rfl rfl) (Pu.move (.tmp (v:=.int _ _) rfl)) ?_
      refine G.pu (W.t rfl rfl) (Pu.bin (.tmp rfl) .int U.sub64) ?_
      repeat (rw [giff] at h;obtain ⟨_,h⟩:=h)
      refine G.pu (W.t rfl rfl) (U.rdI rfl rfl (.tmp rfl) (.tmp rfl) (by omega) (by omega)) ?_
      refine G.pu (W.t rfl rfl) (Pu.loadR (.tmp rfl) (U.self rfl rfl rfl)) ?_
      refine G.pu (W.t rfl rfl) (Pu.bin (.tmp rfl) .int .eql) ?_
      refine O.pu (Pu.pickT (.tmp rfl) (.tmp (v:=.bool _) rfl)) ?_
      refine O.nil ?_
      refine X.condE (.tmp rfl) (fun c=>?_) (fun c=>?_)
      · rw [if_pos c] at h
        refine X.skip ?_
        refine X.block ?_
        refine X.still ?_
        refine O.pu (Pu.move (.tmp (v:=.int _ _) rfl)) ?_
        refine O.pu (Pu.bin (.tmp rfl) .int U.sub64) ?_
        refine O.pu (Pu.assign (.tmp (v:=.int _ _) rfl)) ?_
        refine O.nil ?_
        exact ⟨_,(by omega),_,_,_,rfl,rfl,rfl,rfl,h⟩
      · rw [if_neg c] at h
        refine X.exit (B.out ?_)
        refine X.seq ?_
        refine X.still ?_
        refine O.pu (Pu.move (.tmp (v:=.fi _ _) rfl)) ?_
        refine O.pu (Pu.move (.tmp (v:=.int _ _) rfl)) ?_
        refine O.pu (Pu.move (.tmp (v:=.int _ _) rfl)) ?_
        repeat (rw [giff] at h;obtain ⟨_,h⟩:=h)
        refine O.pu (U.sliceH rfl rfl (.tmp rfl) .no (.yes (.tmp rfl) (by omega)) (.yes (.tmp rfl) (by omega) (by omega) (by omega)) (by omega) (by omega)) ?_
        refine O.pu (Pu.build rfl (.cons (.tmp (v:=.fi _ _) rfl) rfl rfl rfl (.put .done) .nil)) ?_
        refine O.ef0 (U.storeE (.tmp rfl) rfl rfl (.tmp (v:=.agg _) rfl) rfl rfl (.whole (notBad_ne rfl) rfl) .one) ?_
        refine O.nil ?_
        refine X.ret ?_
        cases h
        exact E.fin [] (.cell rfl rfl (Mode.live_ne rfl) (U.whole rfl rfl) .nil) (.cons (.cl (.aggL (.cons .fi .nil))) .nil)
    · rw [if_neg c] at h
      refine G.skip (W.f rfl rfl rfl) ?_
      refine G.skip (W.f rfl rfl rfl) ?_
      refine G.skip (W.f rfl rfl rfl) ?_
      refine G.skip (W.f rfl rfl rfl) ?_
      refine G.skip (W.f rfl rfl rfl) ?_
      refine G.skip (W.f rfl rfl rfl) ?_
      refine O.pu (Pu.pickF (.tmp rfl) .bool) ?_
      refine O.nil ?_
      refine X.condF (.tmp rfl) ?_
      refine X.exit (B.out ?_)
      refine X.seq ?_
      refine X.still ?_
      refine O.pu (Pu.move (.tmp (v:=.fi _ _) rfl)) ?_
      refine O.pu (Pu.move (.tmp (v:=.int _ _) rfl)) ?_
      refine O.pu (Pu.move (.tmp (v:=.int _ _) rfl)) ?_
      repeat (rw [giff] at h;obtain ⟨_,h⟩:=h)
      refine O.pu (U.sliceH rfl rfl (.tmp rfl) .no (.yes (.tmp rfl) (by omega)) (.yes (.tmp rfl) (by omega) (by omega) (by omega)) (by omega) (by omega)) ?_
      refine O.pu (Pu.build rfl (.cons (.tmp (v:=.fi _ _) rfl) rfl rfl rfl (.put .done) .nil)) ?_
      refine O.ef0 (U.storeE (.tmp rfl) rfl rfl (.tmp (v:=.agg _) rfl) rfl rfl (.whole (notBad_ne rfl) rfl) .one) ?_
      refine O.nil ?_
      refine X.ret ?_
      cases h
      exact E.fin [] (.cell rfl rfl (Mode.live_ne rfl) (U.whole rfl rfl) .nil) (.cons (.cl (.aggL (.cons .fi .nil))) .nil)
noncomputable def c72:Code:=Try.f72.body.getD .skip
theorem fn72:FnOk Try.prog 72 Try.f72 c72:=⟨Try.func72,rfl,by kernel_rfl,by kernel_rfl,mixed⟩
theorem slices_Clone_uint64_uint64.cs {l0:List Int} {r:List Int} (h:slices_Clone_uint64_uint64.f l0=some r):CS Try.prog 72 [.fi .u64 l0] ⟨none,some (.ints .u64 r,57)⟩ [.os FRS 1 0 (Row.ints .u64 r).len true]:=by
  unfold slices_Clone_uint64_uint64.f at h
  refine E.fresh fn72 rfl trivial ?_
  refine X.seq ?_
  refine X.still ?_
  refine O.ef (U.nilOE (u:=1) (row:=.ints .u64 []) (e:=57) rfl rfl) ?_
  refine O.nil ?_
  refine X.seq ?_
  refine X.seq ?_
  refine X.still ?_
  refine O.pu (Pu.move (.tmp (v:=.fi _ _) rfl)) ?_
  refine O.nilc rfl (.tmp rfl) .fi (fun c0 hc0=>?_)
  refine O.nil ?_
  repeat first|(rw [giff] at h;obtain ⟨_,h⟩:=h)|rw [bdff] at h
  refine X.cond (.tmp rfl) (fun c=>?_) (fun c=>?_)
  · obtain rfl:=List.eq_nil_of_length_eq_zero (hc0 c)
    refine X.seq ?_
    refine X.still ?_
    refine O.ef (U.nilOE (u:=2) (row:=.ints .u64 []) (e:=57) rfl rfl) ?_
    refine O.nil ?_
    refine X.ret ?_
    cases h
    exact E.finF (s:=2) (.tmp (v:=.os _ _ _ _ _) rfl .nil) rfl
  · refine X.skip ?_
    refine X.seq ?_
    refine X.still ?_
    refine O.puE (v':=.os 5 (1) 0 _ true) (b':=⟨1, .own,_,_⟩) (U.litI rfl rfl .nil rfl rfl) rfl rfl ?_
    refine O.pu (Pu.move (.tmp (v:=.fi _ _) rfl)) ?_
    refine O.ef (U.appendE (u':=1) rfl rfl (.tmp rfl) rfl (by first|rfl|(simp only [List.length_set];done)|(simp only [List.length_drop,List.length_take,List.length_append,List.length_set] at *;omega)) (.tmp rfl) (.cl (ss:=[]) .fi) rfl (by first|exact Nat.le_of_lt (by assumption)|(simp only [List.length_cons,List.length_nil];omega)) rfl) ?_
    refine O.ef (U.takeE (u':=2) (.tmp rfl) rfl (ne_of_beq rfl) rfl) ?_
    refine O.nil ?_
    refine X.ret ?_
    cases h
    exact E.finF (s:=2) (.tmp (v:=.os _ _ _ _ _) rfl .nil) rfl
noncomputable def c22:Code:=Try.f22.body.getD .skip
theorem fn22:FnOk Try.prog 22 Try.f22 c22:=⟨Try.func22,rfl,by kernel_rfl,by kernel_rfl,mixed⟩
theorem nat_Of.cs {k:Nat} {l0:List Int} {r:List Int} (h:nat_Of.f k l0=some r):CS Try.prog 22 [.fi .u64 l0] .no [.agg [.fi .u64 r]]:=by
  unfold nat_Of.f at h
  refine E.pure fn22 rfl ?_
  refine X.seq ?_
  refine X.still ?_
  refine O.puE (v':=.op 2 (1) 0 0) (b':=⟨1, .own,(.vals [.agg [.fi .u64 []]]),_⟩) Pu.alloc rfl rfl ?_
  refine O.nil ?_
  refine X.seq ?_
  refine X.still ?_
  refine O.pu (Pu.move (.tmp (v:=.fi _ _) rfl)) ?_
  obtain ⟨q1,Hq1,h⟩:=Option.bind_eq_some_iff.1 h
  refine O.puE (v':=.os 4 (1) 0 _ true) (b':=⟨1, .own,_,_⟩) (U.callF (ss:=[]) (.cons (.tmp (v:=.fi _ _) rfl) .nil) (.cons (.cl .fi) .nil) (slices_Clone_uint64_uint64.cs Hq1)) rfl rfl ?_
  obtain ⟨q2,Hq2,h⟩:=Option.bind_eq_some_iff.1 h
  refine O.ef (U.callZ (ss:=[4]) (.cons (.tmp (v:=.os _ _ _ _ _) rfl) .nil) (.cons (.osIf (by simp) rfl (Mode.live_ne rfl) rfl (by first|rfl|(simp only [List.length_set];done)|(simp only [List.length_drop,List.length_take,List.length_append,List.length_set] at *;omega))) .nil) (nat_trimmed.cs Hq2) (.aggL (.cons .fi .nil)) (nowin rfl)) ?_
  refine O.ef0 (U.storeE (.tmp rfl) rfl rfl (.tmp (v:=.agg _) rfl) rfl rfl (.whole (notBad_ne rfl) rfl) .one) ?_
  refine O.nil ?_
  refine X.ret ?_
  cases h
  exact E.fin [] (.cell rfl rfl (Mode.live_ne rfl) (U.whole rfl rfl) .nil) (.cons (.cl (.aggL (.cons .fi .nil))) .nil)
noncomputable def c59:Code:=Try.f59.body.getD .skip
theorem fn59:FnOk Try.prog 59 Try.f59 c59:=⟨Try.func59,rfl,by kernel_rfl,by kernel_rfl,mixed⟩
theorem nat_Nat_Limbs.cs {l0_0:List Int} {r:List Int} (h:nat_Nat_Limbs.f l0_0=some r):CS Try.prog 59 [.agg [.fi .u64 l0_0]] ⟨none,some (.ints .u64 r,57)⟩ [.os FRS 1 0 (Row.ints .u64 r).len true]:=by
  unfold nat_Nat_Limbs.f at h
  refine E.fresh fn59 rfl trivial ?_
  refine X.seq ?_
  refine X.still ?_
  refine O.puE (v':=.op 1 (1) 0 0) (b':=⟨1, .own,_,_⟩) (Pu.box (.tmp (v:=.agg _) rfl) rfl rfl) rfl rfl ?_
  refine O.ef (U.nilOE (u:=1) (row:=.ints .u64 []) (e:=57) rfl rfl) ?_
  refine O.nil ?_
  refine X.seq ?_
  refine X.still ?_
  refine O.pu (U.fieldA rfl rfl rfl (.tmp rfl)) ?_
  refine O.pu (U.load (.tmp rfl) rfl rfl (U.cell rfl rfl rfl)) ?_
  obtain ⟨q1,Hq1,h⟩:=Option.bind_eq_some_iff.1 h
  refine O.puE (v':=.os 5 (1) 0 _ true) (b':=⟨1, .own,_,_⟩) (U.callF (ss:=[]) (.cons (.tmp (v:=.fi _ _) rfl) .nil) (.cons (.cl .fi) .nil) (slices_Clone_uint64_uint64.cs Hq1)) rfl rfl ?_
  refine O.ef (U.takeE (u':=2) (.tmp rfl) rfl (ne_of_beq rfl) rfl) ?_
  refine O.nil ?_
  refine X.ret ?_
  cases h
  exact E.finF (s:=2) (.tmp (v:=.os _ _ _ _ _) rfl .nil) rfl
noncomputable def c106:Code:=Try.f106.body.getD .skip
theorem fn106:FnOk Try.prog 106 Try.f106 c106:=⟨Try.func106,rfl,by kernel_rfl,by kernel_rfl,mixed⟩
theorem cmp_isNaN_int.cs {a0:Int} {r:Bool} (h:cmp_isNaN_int.f a0=some r):CS Try.prog 106 [.int .i64 a0] .no [.bool r]:=by
  unfold cmp_isNaN_int.f at h
  refine E.pure fn106 rfl ?_
  refine X.seq ?_
  refine X.still ?_
  refine O.pu (Pu.assign .bool) ?_
  refine O.nil ?_
  refine X.seq ?_
  refine X.still ?_
  refine O.pu (Pu.move (.tmp (v:=.int _ _) rfl)) ?_
  refine O.pu (Pu.move (.tmp (v:=.int _ _) rfl)) ?_
  refine O.pu (Pu.bin (.tmp rfl) (.tmp rfl) .neq) ?_
  refine O.pu (Pu.assign (.tmp (v:=.bool _) rfl)) ?_
  refine O.nil ?_
  refine X.ret ?_
  cases h
  exact E.fin [] (.tmp (v:=.bool _) rfl .nil) (.cons (.cl .bool) .nil)
noncomputable def c74:Code:=Try.f74.body.getD .skip
theorem fn74:FnOk Try.prog 74 Try.f74 c74:=⟨Try.func74,rfl,by kernel_rfl,by kernel_rfl,mixed⟩
theorem cmp_Compare_int.cs {a0:Int} {a1:Int} {r:Int} (h:cmp_Compare_int.f a0 a1=some r):CS Try.prog 74 [.int .i64 a0, .int .i64 a1] .no [.int .i64 r]:=by
  unfold cmp_Compare_int.f at h
  refine E.pure fn74 rfl ?_
  refine X.seq ?_
  refine X.still ?_
  refine O.pu (Pu.assign .int) ?_
  refine O.nil ?_
  refine X.seq ?_
  refine X.still ?_
  refine O.pu (Pu.move (.tmp (v:=.int _ _) rfl)) ?_
  obtain ⟨q1,Hq1,h⟩:=Option.bind_eq_some_iff.1 h
  refine O.pu (U.call (ss:=[]) (.cons (.tmp (v:=.int _ _) rfl) .nil) (.cons (.cl .int) .nil) (cmp_isNaN_int.cs Hq1) (.inl rfl) (.bool)) ?_
  refine O.pu (Pu.assign (.tmp (v:=.bool _) rfl)) ?_
  refine O.nil ?_
  refine X.seq ?_
  refine X.still ?_
  refine O.pu (Pu.move (.tmp (v:=.int _ _) rfl)) ?_
  obtain ⟨q2,Hq2,h⟩:=Option.bind_eq_some_iff.1 h
  refine O.pu (U.call (ss:=[]) (.cons (.tmp (v:=.int _ _) rfl) .nil) (.cons (.cl .int) .nil) (cmp_isNaN_int.cs Hq2) (.inl rfl) (.bool)) ?_
  refine O.pu (Pu.assign (.tmp (v:=.bool _) rfl)) ?_
  refine O.nil ?_
  refine X.seq ?_
  refine X.seq ?_
  refine X.still ?_
  refine O.pu (Pu.move (.tmp (v:=.bool _) rfl)) ?_
  refine O.nil ?_
  refine X.cond (.tmp rfl) (fun c=>?_) (fun c=>?_)
  · rw [if_pos c] at h
    refine X.seq ?_
    refine X.seq ?_
    refine X.still ?_
    refine O.pu (Pu.move (.tmp (v:=.bool _) rfl)) ?_
    refine O.nil ?_
    refine X.cond (.tmp rfl) (fun c=>?_) (fun c=>?_)
    · rw [if_pos c] at h
      refine X.seq ?_
      refine X.still ?_
      refine O.pu (Pu.assign .int) ?_
      refine O.nil ?_
      refine X.ret ?_
      cases h
      exact E.fin [] (.tmp (v:=.int _ _) rfl .nil) (.cons (.cl .int) .nil)
    · rw [if_neg (bf c)] at h
      refine X.skip ?_
      refine X.seq ?_
      refine X.still ?_
      refine O.pu (Pu.assign .int) ?_
      refine O.nil ?_
      refine X.ret ?_
      cases h
      exact E.fin [] (.tmp (v:=.int _ _) rfl .nil) (.cons (.cl .int) .nil)
  · rw [if_neg (bf c)] at h
    refine X.skip ?_
    refine X.seq ?_
    refine X.seq ?_
    refine X.still ?_
    refine O.pu (Pu.move (.tmp (v:=.bool _) rfl)) ?_
    refine O.nil ?_
    refine X.cond (.tmp rfl) (fun c=>?_) (fun c=>?_)
    · rw [if_pos c] at h
      refine X.seq ?_
      refine X.still ?_
      refine O.pu (Pu.assign .int) ?_
      refine O.nil ?_
      refine X.ret ?_
      cases h
      exact E.fin [] (.tmp (v:=.int _ _) rfl .nil) (.cons (.cl .int) .nil)
    · rw [if_neg (bf c)] at h
      refine X.skip ?_
      refine X.seq ?_
      refine X.seq ?_
      refine X.still ?_
      refine O.pu (Pu.move (.tmp (v:=.int _ _) rfl)) ?_
      refine O.pu (Pu.move (.tmp (v:=.int _ _) rfl)) ?_
      refine O.pu (Pu.bin (.tmp rfl) (.tmp rfl) .lss) ?_
      refine O.nil ?_
      refine X.condP (.tmp rfl) (fun c=>?_) (fun c=>?_)
      · rw [if_pos c] at h
        refine X.seq ?_
        refine X.still ?_
        refine O.pu (Pu.assign .int) ?_
        refine O.nil ?_
        refine X.ret ?_
        cases h
        exact E.fin [] (.tmp (v:=.int _ _) rfl .nil) (.cons (.cl .int) .nil)
      · rw [if_neg c] at h
        refine X.skip ?_
        refine X.seq ?_
        refine X.seq ?_
        refine X.still ?_
        refine O.pu (Pu.move (.tmp (v:=.int _ _) rfl)) ?_
        refine O.pu (Pu.move (.tmp (v:=.int _ _) rfl)) ?_
        refine O.pu (Pu.bin (.tmp rfl) (.tmp rfl) .gtr) ?_
        refine O.nil ?_
        refine X.condP (.tmp rfl) (fun c=>?_) (fun c=>?_)
        · rw [if_pos c] at h
          refine X.seq ?_
          refine X.still ?_
          refine O.pu (Pu.assign .int) ?_
          refine O.nil ?_
          refine X.ret ?_
          cases h
          exact E.fin [] (.tmp (v:=.int _ _) rfl .nil) (.cons (.cl .int) .nil)
        · rw [if_neg c] at h
          refine X.skip ?_
          refine X.seq ?_
          refine X.still ?_
          refine O.pu (Pu.assign .int) ?_
          refine O.nil ?_
          refine X.ret ?_
          cases h
          exact E.fin [] (.tmp (v:=.int _ _) rfl .nil) (.cons (.cl .int) .nil)
noncomputable def c107:Code:=Try.f107.body.getD .skip
theorem fn107:FnOk Try.prog 107 Try.f107 c107:=⟨Try.func107,rfl,by kernel_rfl,by kernel_rfl,mixed⟩
theorem cmp_isNaN_uint64.cs {a0:Int} {r:Bool} (h:cmp_isNaN_uint64.f a0=some r):CS Try.prog 107 [.int .u64 a0] .no [.bool r]:=by
  unfold cmp_isNaN_uint64.f at h
  refine E.pure fn107 rfl ?_
  refine X.seq ?_
  refine X.still ?_
  refine O.pu (Pu.assign .bool) ?_
  refine O.nil ?_
  refine X.seq ?_
  refine X.still ?_
  refine O.pu (Pu.move (.tmp (v:=.int _ _) rfl)) ?_
  refine O.pu (Pu.move (.tmp (v:=.int _ _) rfl)) ?_
  refine O.pu (Pu.bin (.tmp rfl) (.tmp rfl) .neq) ?_
  refine O.pu (Pu.assign (.tmp (v:=.bool _) rfl)) ?_
  refine O.nil ?_
  refine X.ret ?_
  cases h
  exact E.fin [] (.tmp (v:=.bool _) rfl .nil) (.cons (.cl .bool) .nil)
noncomputable def c75:Code:=Try.f75.body.getD .skip
theorem fn75:FnOk Try.prog 75 Try.f75 c75:=⟨Try.func75,rfl,by kernel_rfl,by kernel_rfl,mixed⟩
theorem cmp_Compare_uint64.cs {a0:Int} {a1:Int} {r:Int} (h:cmp_Compare_uint64.f a0 a1=some r):CS Try.prog 75 [.int .u64 a0, .int .u64 a1] .no [.int .i64 r]:=by
  unfold cmp_Compare_uint64.f at h
  refine E.pure fn75 rfl ?_
  refine X.seq ?_
  refine X.still ?_
  refine O.pu (Pu.assign .int) ?_
  refine O.nil ?_
  refine X.seq ?_
  refine X.still ?_
  refine O.pu (Pu.move (.tmp (v:=.int _ _) rfl)) ?_
  obtain ⟨q1,Hq1,h⟩:=Option.bind_eq_some_iff.1 h
  refine O.pu (U.call (ss:=[]) (.cons (.tmp (v:=.int _ _) rfl) .nil) (.cons (.cl .int) .nil) (cmp_isNaN_uint64.cs Hq1) (.inl rfl) (.bool)) ?_
  refine O.pu (Pu.assign (.tmp (v:=.bool _) rfl)) ?_
  refine O.nil ?_
  refine X.seq ?_
  refine X.still ?_
  refine O.pu (Pu.move (.tmp (v:=.int _ _) rfl)) ?_
  obtain ⟨q2,Hq2,h⟩:=Option.bind_eq_some_iff.1 h
  refine O.pu (U.call (ss:=[]) (.cons (.tmp (v:=.int _ _) rfl) .nil) (.cons (.cl .int) .nil) (cmp_isNaN_uint64.cs Hq2) (.inl rfl) (.bool)) ?_
  refine O.pu (Pu.assign (.tmp (v:=.bool _) rfl)) ?_
  refine O.nil ?_
  refine X.seq ?_
  refine X.seq ?_
  refine X.still ?_
  refine O.pu (Pu.move (.tmp (v:=.bool _) rfl)) ?_
  refine O.nil ?_
  refine X.cond (.tmp rfl) (fun c=>?_) (fun c=>?_)
  · rw [if_pos c] at h
    refine X.seq ?_
    refine X.seq ?_
    refine X.still ?_
    refine O.pu (Pu.move (.tmp (v:=.bool _) rfl)) ?_
    refine O.nil ?_
    refine X.cond (.tmp rfl) (fun c=>?_) (fun c=>?_)
    · rw [if_pos c] at h
      refine X.seq ?_
      refine X.still ?_
      refine O.pu (Pu.assign .int) ?_
      refine O.nil ?_
      refine X.ret ?_
      cases h
      exact E.fin [] (.tmp (v:=.int _ _) rfl .nil) (.cons (.cl .int) .nil)
    · rw [if_neg (bf c)] at h
      refine X.skip ?_
      refine X.seq ?_
      refine X.still ?_
      refine O.pu (Pu.assign .int) ?_
      refine O.nil ?_
      refine X.ret ?_
      cases h
      exact E.fin [] (.tmp (v:=.int _ _) rfl .nil) (.cons (.cl .int) .nil)
  · rw [if_neg (bf c)] at h
    refine X.skip ?_
    refine X.seq ?_
    refine X.seq ?_
    refine X.still ?_
    refine O.pu (Pu.move (.tmp (v:=.bool _) rfl)) ?_
    refine O.nil ?_
    refine X.cond (.tmp rfl) (fun c=>?_) (fun c=>?_)
    · rw [if_pos c] at h
      refine X.seq ?_
      refine X.still ?_
      refine O.pu (Pu.assign .int) ?_
      refine O.nil ?_
      refine X.ret ?_
      cases h
      exact E.fin [] (.tmp (v:=.int _ _) rfl .nil) (.cons (.cl .int) .nil)
    · rw [if_neg (bf c)] at h
      refine X.skip ?_
      refine X.seq ?_
      refine X.seq ?_
      refine X.still ?_
      refine O.pu (Pu.move (.tmp (v:=.int _ _) rfl)) ?_
      refine O.pu (Pu.move (.tmp (v:=.int _ _) rfl)) ?_
      refine O.pu (Pu.bin (.tmp rfl) (.tmp rfl) .lss) ?_
      refine O.nil ?_
      refine X.condP (.tmp rfl) (fun c=>?_) (fun c=>?_)
      · rw [if_pos c] at h
        refine X.seq ?_
        refine X.still ?_
        refine O.pu (Pu.assign .int) ?_
        refine O.nil ?_
        refine X.ret ?_
        cases h
        exact E.fin [] (.tmp (v:=.int _ _) rfl .nil) (.cons (.cl .int) .nil)
      · rw [if_neg c] at h
        refine X.skip ?_
        refine X.seq ?_
        refine X.seq ?_
        refine X.still ?_
        refine O.pu (Pu.move (.tmp (v:=.int _ _) rfl)) ?_
        refine O.pu (Pu.move (.tmp (v:=.int _ _) rfl)) ?_
        refine O.pu (Pu.bin (.tmp rfl) (.tmp rfl) .gtr) ?_
        refine O.nil ?_
        refine X.condP (.tmp rfl) (fun c=>?_) (fun c=>?_)
        · rw [if_pos c] at h
          refine X.seq ?_
          refine X.still ?_
          refine O.pu (Pu.assign .int) ?_
          refine O.nil ?_
          refine X.ret ?_
          cases h
          exact E.fin [] (.tmp (v:=.int _ _) rfl .nil) (.cons (.cl .int) .nil)
        · rw [if_neg c] at h
          refine X.skip ?_
          refine X.seq ?_
          refine X.still ?_
          refine O.pu (Pu.assign .int) ?_
          refine O.nil ?_
          refine X.ret ?_
          cases h
          exact E.fin [] (.tmp (v:=.int _ _) rfl .nil) (.cons (.cl .int) .nil)
noncomputable def c31:Code:=Try.f31.body.getD .skip
theorem fn31:FnOk Try.prog 31 Try.f31 c31:=⟨Try.func31,rfl,by kernel_rfl,by kernel_rfl,mixed⟩
theorem nat_Nat_Cmp.cs {k:Nat} {l0_0:List Int} {l1_0:List Int} {r:Int} (h:nat_Nat_Cmp.f k l0_0 l1_0=some r):CS Try.prog 31 [.agg [.fi .u64 l0_0], .agg [.fi .u64 l1_0]] .no [.int .i64 r]:=by
  unfold nat_Nat_Cmp.f at h
  refine E.pure fn31 rfl ?_
  refine X.seq ?_
  refine X.still ?_
  refine O.puE (v':=.op 2 (1) 0 0) (b':=⟨1, .own,_,_⟩) (Pu.box (.tmp (v:=.agg _) rfl) rfl rfl) rfl rfl ?_
  refine O.puE (v':=.op 3 (1) 0 0) (b':=⟨1, .own,_,_⟩) (Pu.box (.tmp (v:=.agg _) rfl) rfl rfl) rfl rfl ?_
  refine O.pu (Pu.assign .int) ?_
  refine O.nil ?_
  refine X.seq ?_
  refine X.seq ?_
  refine X.still ?_
  refine O.pu (U.fieldA rfl rfl rfl (.tmp rfl)) ?_
  refine O.pu (U.load (.tmp rfl) rfl rfl (U.cell rfl rfl rfl)) ?_
  refine O.pu (Pu.lenI rfl (.tmp rfl)) ?_
  refine O.pu (U.fieldA rfl rfl rfl (.tmp rfl)) ?_
  refine O.pu (U.load (.tmp rfl) rfl rfl (U.cell rfl rfl rfl)) ?_
  refine O.pu (Pu.lenI rfl (.tmp rfl)) ?_
  obtain ⟨q1,Hq1,h⟩:=Option.bind_eq_some_iff.1 h
  refine O.pu (U.call (ss:=[]) (.cons (.tmp (v:=.int _ _) rfl) (.cons (.tmp (v:=.int _ _) rfl) .nil)) (.cons (.cl .int) (.cons (.cl .int) .nil)) (cmp_Compare_int.cs Hq1) (.inl rfl) (.int)) ?_
  refine O.pu (Pu.assign (.tmp (v:=.int _ _) rfl)) ?_
  refine O.nil ?_
  refine X.seq ?_
  refine X.still ?_
  refine O.pu (Pu.move (.tmp (v:=.int _ _) rfl)) ?_
  refine O.pu (Pu.bin (.tmp rfl) .int .neq) ?_
  refine O.nil ?_
  refine X.condN (.tmp rfl) (fun c=>?_) (fun c=>?_)
  · rw [if_neg c] at h
    refine X.seq ?_
    refine X.still ?_
    refine O.pu (Pu.move (.tmp (v:=.int _ _) rfl)) ?_
    refine O.pu (Pu.assign (.tmp (v:=.int _ _) rfl)) ?_
    refine O.nil ?_
    refine X.ret ?_
    cases h
    exact E.fin [] (.tmp (v:=.int _ _) rfl .nil) (.cons (.cl .int) .nil)
  · rw [if_pos c] at h
    refine X.skip ?_
    refine X.seq ?_
    refine X.seq ?_
    refine X.still ?_
    refine O.pu (U.fieldA rfl rfl rfl (.tmp rfl)) ?_
    refine O.pu (U.load (.tmp rfl) rfl rfl (U.cell rfl rfl rfl)) ?_
    refine O.pu (Pu.lenI rfl (.tmp rfl)) ?_
    refine O.pu (Pu.bin (.tmp rfl) .int U.sub64) ?_
    refine O.pu (Pu.assign (.tmp (v:=.int _ _) rfl)) ?_
    refine O.nil ?_
    refine X.block ?_
    refine X.inv (fun k s=>∃ x6 x145000 x146000 u2 u3,s.t 6 = .int .i64 x6∧s.t 2 = .op 2 u2 0 0∧s.b 2=⟨u2, .own, .vals [.agg [.fi .u64 x145000]],26⟩∧s.t 3 = .op 3 u3 0 0∧s.b 3=⟨u3, .own, .vals [.agg [.fi .u64 x146000]],26⟩∧nat_Nat_Cmp.l0 k x6 x145000 x146000=some r) ?_ ?_ ⟨_,_,_,_,_,rfl,rfl,rfl,rfl,rfl,h⟩
    · rintro s ⟨_,_,_,_,_,_,_,_,_,_,h⟩;unfold nat_Nat_Cmp.l0 at h;cases h
    · rintro k1 s1 ⟨x6,x145000,x146000,u2,u3,e0,e1,e2,e3,e4,h⟩
      unfold nat_Nat_Cmp.l0 at h
      rw [St.fixT e0,St.fixT e1,St.fixB e2,St.fixT e3,St.fixB e4]
      refine X.seq ?_
      refine X.seq ?_
      refine X.still ?_
      refine O.pu (Pu.move (.tmp (v:=.int _ _) rfl)) ?_
      refine O.pu (Pu.bin (.tmp rfl) .int .geq) ?_
      refine O.nil ?_
      refine X.condP (.tmp rfl) (fun c=>?_) (fun c=>?_)
      · rw [if_pos c] at h
        refine X.skip ?_
        refine X.seq ?_
        refine X.block ?_
        refine X.seq ?_
        refine X.drawn ?_
        refine D.pu (U.fieldA rfl rfl rfl (.tmp rfl)) ?_
        refine D.pu (U.load (.tmp rfl) rfl rfl (U.cell rfl rfl rfl)) ?_
        refine D.pu (Pu.move (.tmp (v:=.int _ _) rfl)) ?_
        repeat (rw [giff] at h;obtain ⟨_,h⟩:=h)
        refine D.pu (U.rdI rfl rfl (.tmp rfl) (.tmp rfl) (by omega) (by omega)) ?_
        refine D.pu (Pu.loadR (.tmp rfl) (U.self rfl rfl rfl)) ?_
        refine D.pu (U.fieldA rfl rfl rfl (.tmp rfl)) ?_
        refine D.pu (U.load (.tmp rfl) rfl rfl (U.cell rfl rfl rfl)) ?_
        refine D.pu (Pu.move (.tmp (v:=.int _ _) rfl)) ?_
        refine D.pu (U.rdI rfl rfl (.tmp rfl) (.tmp rfl) (by omega) (by omega)) ?_
        refine D.pu (Pu.loadR (.tmp rfl) (U.self rfl rfl rfl)) ?_
        obtain ⟨q2,Hq2,h⟩:=Option.bind_eq_some_iff.1 h
        refine D.pu (U.call (ss:=[]) (.cons (.tmp (v:=.int _ _) rfl) (.cons (.tmp (v:=.int _ _) rfl) .nil)) (.cons (.cl .int) (.cons (.cl .int) .nil)) (cmp_Compare_uint64.cs Hq2) (.inl rfl) (.int)) ?_
        refine D.pu (Pu.assign (.tmp (v:=.int _ _) rfl)) ?_
        refine D.nil (by kernel_rfl) ?_
        refine X.seq ?_
        refine X.still ?_
        refine O.pu (Pu.move (.tmp (v:=.int _ _) rfl)) ?_
        refine O.pu (Pu.bin (.tmp rfl) .int .neq) ?_
        refine O.nil ?_
        refine X.condN (.tmp rfl) (fun c=>?_) (fun c=>?_)
        · rw [if_neg c] at h
          refine X.seq ?_
          refine X.still ?_
          refine O.pu (Pu.move (.tmp (v:=.int _ _) rfl)) ?_
          refine O.pu (Pu.assign (.tmp (v:=.int _ _) rfl)) ?_
          refine O.nil ?_
          refine X.ret ?_
          cases h
          exact E.fin [] (.tmp (v:=.int _ _) rfl .nil) (.cons (.cl .int) .nil)
        · rw [if_pos c] at h
          refine X.skip ?_
          refine X.still ?_
          refine O.pu (Pu.move (.tmp (v:=.int _ _) rfl)) ?_
          refine O.pu (Pu.bin (.tmp rfl) .int U.sub64) ?_
          refine O.pu (Pu.assign (.tmp (v:=.int _ _) rfl)) ?_
          refine O.nil ?_
          exact ⟨_,(by omega),_,_,_,_,_,rfl,rfl,rfl,rfl,rfl,h⟩
      · rw [if_neg c] at h
        refine X.exit (B.out ?_)
        refine X.seq ?_
        refine X.still ?_
        refine O.pu (Pu.assign .int) ?_
        refine O.nil ?_
        refine X.ret ?_
        cases h
        exact E.fin [] (.tmp (v:=.int _ _) rfl .nil) (.cons (.cl .int) .nil)
theorem bits_Len64.j0_e {k y0 y1 r}:(bits_Len64.j0 k y0 y1=some r) = ∃ j,k=j + 1∧bits_Len64.j0 (j + 1) y0 y1=some r:=propext ⟨fun h=>by cases k with|zero=>(unfold bits_Len64.j0 at h;cases h)|succ k=>exact ⟨k,rfl,h⟩,fun ⟨j,hj,h⟩=>by subst hj;exact h⟩
noncomputable def c126:Code:=Try.f126.body.getD .skip
theorem fn126:FnOk Try.prog 126 Try.f126 c126:=⟨Try.func126,rfl,by kernel_rfl,by kernel_rfl,mixed⟩
theorem bits_Len64.cs {k:Nat} {a0:Int} {r:Int} (h:bits_Len64.f k a0=some r):CS Try.prog 126 [.int .u64 a0] .no [.int .i64 r]:=by
  unfold bits_Len64.f at h
  refine E.pure fn126 rfl ?_
  refine X.seq ?_
  refine X.still ?_
  refine O.pu (Pu.assign .int) ?_
  refine O.nil ?_
  refine X.seq ?_
  refine X.seq ?_
  refine X.still ?_
  refine O.pu (Pu.move (.tmp (v:=.int _ _) rfl)) ?_
  refine O.pu (Pu.bin (.tmp rfl) .int .geq) ?_
  refine O.nil ?_
  refine X.condP (.tmp rfl) (fun c=>?_) (fun c=>?_)
  · rw [if_pos c] at h
    refine X.seq ?_
    refine X.still ?_
    refine O.pu (Pu.move (.tmp (v:=.int _ _) rfl)) ?_
    refine O.pu (Pu.bin (.tmp rfl) .int (U.shrC 4294967296 (by decide) (by decide))) ?_
    refine O.pu (Pu.assign (.tmp (v:=.int _ _) rfl)) ?_
    refine O.nil ?_
    refine X.still ?_
    refine O.pu (Pu.assign .int) ?_
    refine O.nil ?_
    refine X.seq ?_
    refine X.seq ?_
    refine X.still ?_
    refine O.pu (Pu.move (.tmp (v:=.int _ _) rfl)) ?_
    refine O.pu (Pu.bin (.tmp rfl) .int .geq) ?_
    refine O.nil ?_
    repeat (rw [bits_Len64.j0_e] at h;obtain ⟨k,_,h⟩:=h;unfold bits_Len64.j0 at h;try dsimp only at h)
    refine X.condP (.tmp rfl) (fun c=>?_) (fun c=>?_)
    · rw [if_pos c] at h
      refine X.seq ?_
      refine X.still ?_
      refine O.pu (Pu.move (.tmp (v:=.int _ _) rfl)) ?_
      refine O.pu (Pu.bin (.tmp rfl) .int (U.shrC 65536 (by decide) (by decide))) ?_
      refine O.pu (Pu.assign (.tmp (v:=.int _ _) rfl)) ?_
      refine O.nil ?_
      refine X.still ?_
      refine O.pu (Pu.move (.tmp (v:=.int _ _) rfl)) ?_
      refine O.pu (Pu.bin (.tmp rfl) .int U.add64) ?_
      refine O.pu (Pu.assign (.tmp (v:=.int _ _) rfl)) ?_
      refine O.nil ?_
      refine X.seq ?_
      refine X.seq ?_
      refine X.still ?_
      refine O.pu (Pu.move (.tmp (v:=.int _ _) rfl)) ?_
      refine O.pu (Pu.bin (.tmp rfl) .int .geq) ?_
      refine O.nil ?_
      refine X.condP (.tmp rfl) (fun c=>?_) (fun c=>?_)
      · rw [if_pos c] at h
        refine X.seq ?_
        refine X.still ?_
        refine O.pu (Pu.move (.tmp (v:=.int _ _) rfl)) ?_
        refine O.pu (Pu.bin (.tmp rfl) .int (U.shrC 256 (by decide) (by decide))) ?_
        refine O.pu (Pu.assign (.tmp (v:=.int _ _) rfl)) ?_
        refine O.nil ?_
        refine X.still ?_
        refine O.pu (Pu.move (.tmp (v:=.int _ _) rfl)) ?_
        refine O.pu (Pu.bin (.tmp rfl) .int U.add64) ?_
        refine O.pu (Pu.assign (.tmp (v:=.int _ _) rfl)) ?_
        refine O.nil ?_
        refine X.seq ?_
        refine X.still ?_
        refine O.pu (Pu.move (.tmp (v:=.int _ _) rfl)) ?_
        refine O.pu (Pu.move (.tmp (v:=.int _ _) rfl)) ?_
        refine O.pu (U.conv8 rfl (.tmp rfl)) ?_
        repeat (rw [giff] at h;obtain ⟨_,h⟩:=h)
        refine O.pu (U.indexS rfl .str (.tmp rfl) (by omega) (Int.lt_of_lt_of_le (b:=256) (by omega) (Int.le_of_eq (by kernel_rfl)))) ?_
        refine O.pu (U.conv64 rfl (.tmp rfl)) ?_
        refine O.pu (Pu.bin (.tmp rfl) (.tmp rfl) U.add64) ?_
        refine O.pu (Pu.assign (.tmp (v:=.int _ _) rfl)) ?_
        refine O.nil ?_
        refine X.ret ?_
        cases h
        exact E.fin [] (.tmp (v:=.int _ _) rfl .nil) (.cons (.cl .int) .nil)
      · rw [if_neg c] at h
        refine X.skip ?_
        refine X.seq ?_
        refine X.still ?_
        refine O.pu (Pu.move (.tmp (v:=.int _ _) rfl)) ?_
        refine O.pu (Pu.move (.tmp (v:=.int _ _) rfl)) ?_
        refine O.pu (U.conv8 rfl (.tmp rfl)) ?_
        repeat (rw [giff] at h;obtain ⟨_,h⟩:=h)
        refine O.pu (U.indexS rfl .str (.tmp rfl) (by omega) (Int.lt_of_lt_of_le (b:=256) (by omega) (Int.le_of_eq (by kernel_rfl)))) ?_
        refine O.pu (U.conv64 rfl (.tmp rfl)) ?_
        refine O.pu (Pu.bin (.tmp rfl) (.tmp rfl) U.add64) ?_
        refine O.pu (Pu.assign (.tmp (v:=.int _ _) rfl)) ?_
        refine O.nil ?_
        refine X.ret ?_
        cases h
        exact E.fin [] (.tmp (v:=.int _ _) rfl .nil) (.cons (.cl .int) .nil)
    · rw [if_neg c] at h
      refine X.skip ?_
      refine X.seq ?_
      refine X.seq ?_
      refine X.still ?_
      refine O.pu (Pu.move (.tmp (v:=.int _ _) rfl)) ?_
      refine O.pu (Pu.bin (.tmp rfl) .int .geq) ?_
      refine O.nil ?_
      refine X.condP (.tmp rfl) (fun c=>?_) (fun c=>?_)
      · rw [if_pos c] at h
        refine X.seq ?_
        refine X.still ?_
        refine O.pu (Pu.move (.tmp (v:=.int _ _) rfl)) ?_
        refine O.pu (Pu.bin (.tmp rfl) .int (U.shrC 256 (by decide) (by decide))) ?_
        refine O.pu (Pu.assign (.tmp (v:=.int _ _) rfl)) ?_
        refine O.nil ?_
        refine X.still ?_
        refine O.pu (Pu.move (.tmp (v:=.int _ _) rfl)) ?_
        refine O.pu (Pu.bin (.tmp rfl) .int U.add64) ?_
        refine O.pu (Pu.assign (.tmp (v:=.int _ _) rfl)) ?_
        refine O.nil ?_
        refine X.seq ?_
        refine X.still ?_
        refine O.pu (Pu.move (.tmp (v:=.int _ _) rfl)) ?_
        refine O.pu (Pu.move (.tmp (v:=.int _ _) rfl)) ?_
        refine O.pu (U.conv8 rfl (.tmp rfl)) ?_
        repeat (rw [giff] at h;obtain ⟨_,h⟩:=h)
        refine O.pu (U.indexS rfl .str (.tmp rfl) (by omega) (Int.lt_of_lt_of_le (b:=256) (by omega) (Int.le_of_eq (by kernel_rfl)))) ?_
        refine O.pu (U.conv64 rfl (.tmp rfl)) ?_
        refine O.pu (Pu.bin (.tmp rfl) (.tmp rfl) U.add64) ?_
        refine O.pu (Pu.assign (.tmp (v:=.int _ _) rfl)) ?_
        refine O.nil ?_
        refine X.ret ?_
        cases h
        exact E.fin [] (.tmp (v:=.int _ _) rfl .nil) (.cons (.cl .int) .nil)
      · rw [if_neg c] at h
        refine X.skip ?_
        refine X.seq ?_
        refine X.still ?_
        refine O.pu (Pu.move (.tmp (v:=.int _ _) rfl)) ?_
        refine O.pu (Pu.move (.tmp (v:=.int _ _) rfl)) ?_
        refine O.pu (U.conv8 rfl (.tmp rfl)) ?_
        repeat (rw [giff] at h;obtain ⟨_,h⟩:=h)
        refine O.pu (U.indexS rfl .str (.tmp rfl) (by omega) (Int.lt_of_lt_of_le (b:=256) (by omega) (Int.le_of_eq (by kernel_rfl)))) ?_
        refine O.pu (U.conv64 rfl (.tmp rfl)) ?_
        refine O.pu (Pu.bin (.tmp rfl) (.tmp rfl) U.add64) ?_
        refine O.pu (Pu.assign (.tmp (v:=.int _ _) rfl)) ?_
        refine O.nil ?_
        refine X.ret ?_
        cases h
        exact E.fin [] (.tmp (v:=.int _ _) rfl .nil) (.cons (.cl .int) .nil)
  · rw [if_neg c] at h
    refine X.skip ?_
    refine X.seq ?_
    refine X.seq ?_
    refine X.still ?_
    refine O.pu (Pu.move (.tmp (v:=.int _ _) rfl)) ?_
    refine O.pu (Pu.bin (.tmp rfl) .int .geq) ?_
    refine O.nil ?_
    repeat (rw [bits_Len64.j0_e] at h;obtain ⟨k,_,h⟩:=h;unfold bits_Len64.j0 at h;try dsimp only at h)
    refine X.condP (.tmp rfl) (fun c=>?_) (fun c=>?_)
    · rw [if_pos c] at h
      refine X.seq ?_
      refine X.still ?_
      refine O.pu (Pu.move (.tmp (v:=.int _ _) rfl)) ?_
      refine O.pu (Pu.bin (.tmp rfl) .int (U.shrC 65536 (by decide) (by decide))) ?_
      refine O.pu (Pu.assign (.tmp (v:=.int _ _) rfl)) ?_
      refine O.nil ?_
      refine X.still ?_
      refine O.pu (Pu.move (.tmp (v:=.int _ _) rfl)) ?_
      refine O.pu (Pu.bin (.tmp rfl) .int U.add64) ?_
      refine O.pu (Pu.assign (.tmp (v:=.int _ _) rfl)) ?_
      refine O.nil ?_
      refine X.seq ?_
      refine X.seq ?_
      refine X.still ?_
      refine O.pu (Pu.move (.tmp (v:=.int _ _) rfl)) ?_
      refine O.pu (Pu.bin (.tmp rfl) .int .geq) ?_
      refine O.nil ?_
      refine X.condP (.tmp rfl) (fun c=>?_) (fun c=>?_)
      · rw [if_pos c] at h
        refine X.seq ?_
        refine X.still ?_
        refine O.pu (Pu.move (.tmp (v:=.int _ _) rfl)) ?_
        refine O.pu (Pu.bin (.tmp rfl) .int (U.shrC 256 (by decide) (by decide))) ?_
        refine O.pu (Pu.assign (.tmp (v:=.int _ _) rfl)) ?_
        refine O.nil ?_
        refine X.still ?_
        refine O.pu (Pu.move (.tmp (v:=.int _ _) rfl)) ?_
        refine O.pu (Pu.bin (.tmp rfl) .int U.add64) ?_
        refine O.pu (Pu.assign (.tmp (v:=.int _ _) rfl)) ?_
        refine O.nil ?_
        refine X.seq ?_
        refine X.still ?_
        refine O.pu (Pu.move (.tmp (v:=.int _ _) rfl)) ?_
        refine O.pu (Pu.move (.tmp (v:=.int _ _) rfl)) ?_
        refine O.pu (U.conv8 rfl (.tmp rfl)) ?_
        repeat (rw [giff] at h;obtain ⟨_,h⟩:=h)
        refine O.pu (U.indexS rfl .str (.tmp rfl) (by omega) (Int.lt_of_lt_of_le (b:=256) (by omega) (Int.le_of_eq (by kernel_rfl)))) ?_
        refine O.pu (U.conv64 rfl (.tmp rfl)) ?_
        refine O.pu (Pu.bin (.tmp rfl) (.tmp rfl) U.add64) ?_
        refine O.pu (Pu.assign (.tmp (v:=.int _ _) rfl)) ?_
        refine O.nil ?_
        refine X.ret ?_
        cases h
        exact E.fin [] (.tmp (v:=.int _ _) rfl .nil) (.cons (.cl .int) .nil)
      · rw [if_neg c] at h
        refine X.skip ?_
        refine X.seq ?_
        refine X.still ?_
        refine O.pu (Pu.move (.tmp (v:=.int _ _) rfl)) ?_
        refine O.pu (Pu.move (.tmp (v:=.int _ _) rfl)) ?_
        refine O.pu (U.conv8 rfl (.tmp rfl)) ?_
        repeat (rw [giff] at h;obtain ⟨_,h⟩:=h)
        refine O.pu (U.indexS rfl .str (.tmp rfl) (by omega) (Int.lt_of_lt_of_le (b:=256) (by omega) (Int.le_of_eq (by kernel_rfl)))) ?_
        refine O.pu (U.conv64 rfl (.tmp rfl)) ?_
        refine O.pu (Pu.bin (.tmp rfl) (.tmp rfl) U.add64) ?_
        refine O.pu (Pu.assign (.tmp (v:=.int _ _) rfl)) ?_
        refine O.nil ?_
        refine X.ret ?_
        cases h
        exact E.fin [] (.tmp (v:=.int _ _) rfl .nil) (.cons (.cl .int) .nil)
    · rw [if_neg c] at h
      refine X.skip ?_
      refine X.seq ?_
      refine X.seq ?_
      refine X.still ?_
      refine O.pu (Pu.move (.tmp (v:=.int _ _) rfl)) ?_
      refine O.pu (Pu.bin (.tmp rfl) .int .geq) ?_
      refine O.nil ?_
      refine X.condP (.tmp rfl) (fun c=>?_) (fun c=>?_)
      · rw [if_pos c] at h
        refine X.seq ?_
        refine X.still ?_
        refine O.pu (Pu.move (.tmp (v:=.int _ _) rfl)) ?_
        refine O.pu (Pu.bin (.tmp rfl) .int (U.shrC 256 (by decide) (by decide))) ?_
        refine O.pu (Pu.assign (.tmp (v:=.int _ _) rfl)) ?_
        refine O.nil ?_
        refine X.still ?_
        refine O.pu (Pu.move (.tmp (v:=.int _ _) rfl)) ?_
        refine O.pu (Pu.bin (.tmp rfl) .int U.add64) ?_
        refine O.pu (Pu.assign (.tmp (v:=.int _ _) rfl)) ?_
        refine O.nil ?_
        refine X.seq ?_
        refine X.still ?_
        refine O.pu (Pu.move (.tmp (v:=.int _ _) rfl)) ?_
        refine O.pu (Pu.move (.tmp (v:=.int _ _) rfl)) ?_
        refine O.pu (U.conv8 rfl (.tmp rfl)) ?_
        repeat (rw [giff] at h;obtain ⟨_,h⟩:=h)
        refine O.pu (U.indexS rfl .str (.tmp rfl) (by omega) (Int.lt_of_lt_of_le (b:=256) (by omega) (Int.le_of_eq (by kernel_rfl)))) ?_
        refine O.pu (U.conv64 rfl (.tmp rfl)) ?_
        refine O.pu (Pu.bin (.tmp rfl) (.tmp rfl) U.add64) ?_
        refine O.pu (Pu.assign (.tmp (v:=.int _ _) rfl)) ?_
        refine O.nil ?_
        refine X.ret ?_
        cases h
        exact E.fin [] (.tmp (v:=.int _ _) rfl .nil) (.cons (.cl .int) .nil)
      · rw [if_neg c] at h
        refine X.skip ?_
        refine X.seq ?_
        refine X.still ?_
        refine O.pu (Pu.move (.tmp (v:=.int _ _) rfl)) ?_
        refine O.pu (Pu.move (.tmp (v:=.int _ _) rfl)) ?_
        refine O.pu (U.conv8 rfl (.tmp rfl)) ?_
        repeat (rw [giff] at h;obtain ⟨_,h⟩:=h)
        refine O.pu (U.indexS rfl .str (.tmp rfl) (by omega) (Int.lt_of_lt_of_le (b:=256) (by omega) (Int.le_of_eq (by kernel_rfl)))) ?_
        refine O.pu (U.conv64 rfl (.tmp rfl)) ?_
        refine O.pu (Pu.bin (.tmp rfl) (.tmp rfl) U.add64) ?_
        refine O.pu (Pu.assign (.tmp (v:=.int _ _) rfl)) ?_
        refine O.nil ?_
        refine X.ret ?_
        cases h
        exact E.fin [] (.tmp (v:=.int _ _) rfl .nil) (.cons (.cl .int) .nil)
noncomputable def c119:Code:=Try.f119.body.getD .skip
theorem fn119:FnOk Try.prog 119 Try.f119 c119:=⟨Try.func119,rfl,by kernel_rfl,by kernel_rfl,mixed⟩
theorem bits_LeadingZeros64.cs {k:Nat} {a0:Int} {r:Int} (h:bits_LeadingZeros64.f k a0=some r):CS Try.prog 119 [.int .u64 a0] .no [.int .i64 r]:=by
  unfold bits_LeadingZeros64.f at h
  refine E.pure fn119 rfl ?_
  refine X.seq ?_
  refine X.still ?_
  refine O.pu (Pu.assign .int) ?_
  refine O.nil ?_
  refine X.seq ?_
  refine X.still ?_
  refine O.pu (Pu.move (.tmp (v:=.int _ _) rfl)) ?_
  obtain ⟨q1,Hq1,h⟩:=Option.bind_eq_some_iff.1 h
  refine O.pu (U.call (ss:=[]) (.cons (.tmp (v:=.int _ _) rfl) .nil) (.cons (.cl .int) .nil) (bits_Len64.cs Hq1) (.inl rfl) (.int)) ?_
  refine O.pu (Pu.bin .int (.tmp rfl) U.sub64) ?_
  refine O.pu (Pu.assign (.tmp (v:=.int _ _) rfl)) ?_
  refine O.nil ?_
  refine X.ret ?_
  cases h
  exact E.fin [] (.tmp (v:=.int _ _) rfl .nil) (.cons (.cl .int) .nil)
theorem bits_Div64.j1_e {k y0 y1 y2 y3 y4 y5 y6 y7 y8 y9 r}:(bits_Div64.j1 k y0 y1 y2 y3 y4 y5 y6 y7 y8 y9=some r) = ∃ j,k=j + 1∧bits_Div64.j1 (j + 1) y0 y1 y2 y3 y4 y5 y6 y7 y8 y9=some r:=propext ⟨fun h=>by cases k with|zero=>(unfold bits_Div64.j1 at h;cases h)|succ k=>exact ⟨k,rfl,h⟩,fun ⟨j,hj,h⟩=>by subst hj;exact h⟩
theorem bits_Div64.j2_e {k y0 y1 y2 y3 y4 y5 y6 y7 r}:(bits_Div64.j2 k y0 y1 y2 y3 y4 y5 y6 y7=some r) = ∃ j,k=j + 1∧bits_Div64.j2 (j + 1) y0 y1 y2 y3 y4 y5 y6 y7=some r:=propext ⟨fun h=>by cases k with|zero=>(unfold bits_Div64.j2 at h;cases h)|succ k=>exact ⟨k,rfl,h⟩,fun ⟨j,hj,h⟩=>by subst hj;exact h⟩
theorem bits_Div64.j4_e {k y0 y1 y2 y3 y4 y5 y6 y7 y8 y9 r}:(bits_Div64.j4 k y0 y1 y2 y3 y4 y5 y6 y7 y8 y9=some r) = ∃ j,k=j + 1∧bits_Div64.j4 (j + 1) y0 y1 y2 y3 y4 y5 y6 y7 y8 y9=some r:=propext ⟨fun h=>by cases k with|zero=>(unfold bits_Div64.j4 at h;cases h)|succ k=>exact ⟨k,rfl,h⟩,fun ⟨j,hj,h⟩=>by subst hj;exact h⟩
noncomputable def c118:Code:=Try.f118.body.getD .skip
theorem fn118:FnOk Try.prog 118 Try.f118 c118:=⟨Try.func118,rfl,by kernel_rfl,by kernel_rfl,mixed⟩
theorem bits_Div64.cs {k:Nat} {a0:Int} {a1:Int} {a2:Int} {r:Int×Int} (h:bits_Div64.f k a0 a1 a2=some r):CS Try.prog 118 [.int .u64 a0, .int .u64 a1, .int .u64 a2] .no [.int .u64 r.1, .int .u64 r.2]:=by
  unfold bits_Div64.f at h
  refine E.pure fn118 rfl ?_
  refine X.seq ?_
  refine X.still ?_
  refine O.pu (Pu.assign .int) ?_
  refine O.pu (Pu.assign .int) ?_
  refine O.nil ?_
  refine X.seq ?_
  refine X.seq ?_
  refine X.still ?_
  refine O.pu (Pu.move (.tmp (v:=.int _ _) rfl)) ?_
  refine O.pu (Pu.bin (.tmp rfl) .int .eql) ?_
  refine O.nil ?_
  repeat (rw [giffn] at h;obtain ⟨_,h⟩:=h)
  refine X.condE (.tmp rfl) (fun c=>?_) (fun c=>?_)
  · refine X.still ?_
    first|(cases h;done)|contradiction|omega
  · refine X.skip ?_
    refine X.seq ?_
    refine X.seq ?_
    refine X.still ?_
    refine O.pu (Pu.move (.tmp (v:=.int _ _) rfl)) ?_
    refine O.pu (Pu.move (.tmp (v:=.int _ _) rfl)) ?_
    refine O.pu (Pu.bin (.tmp rfl) (.tmp rfl) .leq) ?_
    refine O.nil ?_
    refine X.condP (.tmp rfl) (fun c=>?_) (fun c=>?_)
    · refine X.still ?_
      first|(cases h;done)|contradiction|omega
    · refine X.skip ?_
      refine X.seq ?_
      refine X.seq ?_
      refine X.still ?_
      refine O.pu (Pu.move (.tmp (v:=.int _ _) rfl)) ?_
      refine O.pu (Pu.bin (.tmp rfl) .int .eql) ?_
      refine O.nil ?_
      refine X.condE (.tmp rfl) (fun c=>?_) (fun c=>?_)
      · rw [if_pos c] at h
        refine X.seq ?_
        refine X.drawn ?_
        refine D.pu (Pu.move (.tmp (v:=.int _ _) rfl)) ?_
        refine D.pu (Pu.move (.tmp (v:=.int _ _) rfl)) ?_
        refine D.pu (Pu.bin (.tmp rfl) (.tmp rfl) (.quo (by omega))) ?_
        refine D.pu (Pu.move (.tmp (v:=.int _ _) rfl)) ?_
        refine D.pu (Pu.move (.tmp (v:=.int _ _) rfl)) ?_
        refine D.pu (Pu.bin (.tmp rfl) (.tmp rfl) (.rem (by omega))) ?_
        refine D.pu (Pu.assign (.tmp (v:=.int _ _) rfl)) ?_
        refine D.pu (Pu.assign (.tmp (v:=.int _ _) rfl)) ?_
        refine D.nil (by kernel_rfl) ?_
        refine X.ret ?_
        cases h
        exact E.fin [] (.tmp (v:=.int _ _) rfl (.tmp (v:=.int _ _) rfl .nil)) (.cons (.cl .int) (.cons (.cl .int) .nil))
      · rw [if_neg c] at h
        refine X.skip ?_
        refine X.seq ?_
        refine X.still ?_
        refine O.pu (Pu.move (.tmp (v:=.int _ _) rfl)) ?_
        obtain ⟨q1,Hq1,h⟩:=Option.bind_eq_some_iff.1 h
        refine O.pu (U.call (ss:=[]) (.cons (.tmp (v:=.int _ _) rfl) .nil) (.cons (.cl .int) .nil) (bits_LeadingZeros64.cs Hq1) (.inl rfl) (.int)) ?_
        refine O.pu (U.convI rfl (.tmp rfl)) ?_
        refine O.pu (Pu.assign (.tmp (v:=.int _ _) rfl)) ?_
        refine O.nil ?_
        refine X.seq ?_
        refine X.still ?_
        refine O.pu (Pu.move (.tmp (v:=.int _ _) rfl)) ?_
        refine O.pu (Pu.move (.tmp (v:=.int _ _) rfl)) ?_
        repeat first|(rw [giff] at h;obtain ⟨_,h⟩:=h)|(rw [giffn] at h;obtain ⟨_,h⟩:=h)
        refine O.pu (Pu.bin (.tmp rfl) (.tmp rfl) (U.shlW (by omega))) ?_
        refine O.pu (Pu.assign (.tmp (v:=.int _ _) rfl)) ?_
        refine O.nil ?_
        refine X.seq ?_
        refine X.still ?_
        refine O.pu (Pu.move (.tmp (v:=.int _ _) rfl)) ?_
        refine O.pu (Pu.bin (.tmp rfl) .int (U.shrC 4294967296 (by decide) (by decide))) ?_
        refine O.pu (Pu.assign (.tmp (v:=.int _ _) rfl)) ?_
        refine O.nil ?_
        refine X.seq ?_
        refine X.still ?_
        refine O.pu (Pu.move (.tmp (v:=.int _ _) rfl)) ?_
        refine O.pu (Pu.bin (.tmp rfl) .int .band) ?_
        refine O.pu (Pu.assign (.tmp (v:=.int _ _) rfl)) ?_
        refine O.nil ?_
        refine X.seq ?_
        refine X.still ?_
        refine O.pu (Pu.move (.tmp (v:=.int _ _) rfl)) ?_
        refine O.pu (Pu.move (.tmp (v:=.int _ _) rfl)) ?_
        refine O.pu (Pu.bin (.tmp rfl) (.tmp rfl) (U.shlW (by omega))) ?_
        refine O.pu (Pu.move (.tmp (v:=.int _ _) rfl)) ?_
        refine O.pu (Pu.move (.tmp (v:=.int _ _) rfl)) ?_
        refine O.pu (Pu.bin .int (.tmp rfl) .sub) ?_
        refine O.pu (Pu.bin (.tmp rfl) (.tmp rfl) (U.shrW (by omega))) ?_
        refine O.pu (Pu.bin (.tmp rfl) (.tmp rfl) .bor) ?_
        refine O.pu (Pu.assign (.tmp (v:=.int _ _) rfl)) ?_
        refine O.nil ?_
        refine X.seq ?_
        refine X.still ?_
        refine O.pu (Pu.move (.tmp (v:=.int _ _) rfl)) ?_
        refine O.pu (Pu.move (.tmp (v:=.int _ _) rfl)) ?_
        refine O.pu (Pu.bin (.tmp rfl) (.tmp rfl) (U.shlW (by omega))) ?_
        refine O.pu (Pu.assign (.tmp (v:=.int _ _) rfl)) ?_
        refine O.nil ?_
        refine X.seq ?_
        refine X.still ?_
        refine O.pu (Pu.move (.tmp (v:=.int _ _) rfl)) ?_
        refine O.pu (Pu.bin (.tmp rfl) .int (U.shrC 4294967296 (by decide) (by decide))) ?_
        refine O.pu (Pu.assign (.tmp (v:=.int _ _) rfl)) ?_
        refine O.nil ?_
        refine X.seq ?_
        refine X.still ?_
        refine O.pu (Pu.move (.tmp (v:=.int _ _) rfl)) ?_
        refine O.pu (Pu.bin (.tmp rfl) .int .band) ?_
        refine O.pu (Pu.assign (.tmp (v:=.int _ _) rfl)) ?_
        refine O.nil ?_
        refine X.seq ?_
        refine X.still ?_
        refine O.pu (Pu.move (.tmp (v:=.int _ _) rfl)) ?_
        refine O.pu (Pu.move (.tmp (v:=.int _ _) rfl)) ?_
        refine O.pu (Pu.bin (.tmp rfl) (.tmp rfl) (.quo (by omega))) ?_
        refine O.pu (Pu.assign (.tmp (v:=.int _ _) rfl)) ?_
        refine O.nil ?_
        refine X.seq ?_
        refine X.still ?_
        refine O.pu (Pu.move (.tmp (v:=.int _ _) rfl)) ?_
        refine O.pu (Pu.move (.tmp (v:=.int _ _) rfl)) ?_
        refine O.pu (Pu.move (.tmp (v:=.int _ _) rfl)) ?_
        refine O.pu (Pu.bin (.tmp rfl) (.tmp rfl) .mul) ?_
        refine O.pu (Pu.bin (.tmp rfl) (.tmp rfl) .sub) ?_
        refine O.pu (Pu.assign (.tmp (v:=.int _ _) rfl)) ?_
        refine O.nil ?_
        refine X.seq ?_
        refine X.block ?_
        refine X.inv (fun k s=>∃ x2 x8 x9 x10 x11 x13 x14 x15 x16,s.t 2 = .int .u64 x2∧s.t 8 = .int .u64 x8∧s.t 9 = .int .u64 x9∧s.t 10 = .int .u64 x10∧s.t 11 = .int .u64 x11∧s.t 13 = .int .u64 x13∧s.t 14 = .int .u64 x14∧s.t 15 = .int .u64 x15∧s.t 16 = .int .u64 x16∧bits_Div64.l0 k x2 x8 x9 x10 x11 x13 x14 x15 x16=some r) ?_ ?_ ⟨_,_,_,_,_,_,_,_,_,rfl,rfl,rfl,rfl,rfl,rfl,rfl,rfl,rfl,h⟩
        · rintro s ⟨_,_,_,_,_,_,_,_,_,_,_,_,_,_,_,_,_,_,h⟩;unfold bits_Div64.l0 at h;cases h
        · rintro k1 s1 ⟨x2,x8,x9,x10,x11,x13,x14,x15,x16,e0,e1,e2,e3,e4,e5,e6,e7,e8,h⟩
          unfold bits_Div64.l0 at h
          rw [St.fixT e0,St.fixT e1,St.fixT e2,St.fixT e3,St.fixT e4,St.fixT e5,St.fixT e6,St.fixT e7,St.fixT e8]
          refine X.seq ?_
          refine X.seq ?_
          refine X.still ?_
          refine O.pu (Pu.move (.tmp (v:=.int _ _) rfl)) ?_
          refine O.pu (Pu.bin (.tmp rfl) .int .geq) ?_
          refine O.pu (Pu.move (.tmp (v:=.bool _) rfl)) ?_
          refine O.splitP (fun c=>?_) (fun c=>?_)
          · rw [if_pos c] at h
            refine G.skip (W.f rfl rfl rfl) ?_
            refine G.skip (W.f rfl rfl rfl) ?_
            refine G.skip (W.f rfl rfl rfl) ?_
            refine G.skip (W.f rfl rfl rfl) ?_
            refine G.skip (W.f rfl rfl rfl) ?_
            refine G.skip (W.f rfl rfl rfl) ?_
            refine G.skip (W.f rfl rfl rfl) ?_
            refine G.skip (W.f rfl rfl rfl) ?_
            refine O.pu (Pu.pickT (.tmp rfl) .bool) ?_
            refine O.nil ?_
            repeat (rw [bits_Div64.j1_e] at h;obtain ⟨k,_,h⟩:=h;unfold bits_Div64.j1 at h;try dsimp only at h)
            rw [if_pos rfl] at h
            refine X.condT (.tmp rfl) ?_
            refine X.skip ?_
            refine X.block ?_
            refine X.seq ?_
            refine X.still ?_
            refine O.pu (Pu.move (.tmp (v:=.int _ _) rfl)) ?_
            refine O.pu (Pu.bin (.tmp rfl) .int .sub) ?_
            refine O.pu (Pu.assign (.tmp (v:=.int _ _) rfl)) ?_
            refine O.nil ?_
            refine X.seq ?_
            refine X.still ?_
            refine O.pu (Pu.move (.tmp (v:=.int _ _) rfl)) ?_
            refine O.pu (Pu.move (.tmp (v:=.int _ _) rfl)) ?_
            refine O.pu (Pu.bin (.tmp rfl) (.tmp rfl) .add) ?_
            refine O.pu (Pu.assign (.tmp (v:=.int _ _) rfl)) ?_
            refine O.nil ?_
            refine X.seq ?_
            refine X.still ?_
            refine O.pu (Pu.move (.tmp (v:=.int _ _) rfl)) ?_
            refine O.pu (Pu.bin (.tmp rfl) .int .geq) ?_
            refine O.nil ?_
            refine X.condP (.tmp rfl) (fun c=>?_) (fun c=>?_)
            · rw [if_pos c] at h
              refine X.exit (B.past rfl (B.out ?_))
              refine X.seq ?_
              refine X.still ?_
              refine O.pu (Pu.move (.tmp (v:=.int _ _) rfl)) ?_
              refine O.pu (Pu.bin (.tmp rfl) .int .mul) ?_
              refine O.pu (Pu.move (.tmp (v:=.int _ _) rfl)) ?_
              refine O.pu (Pu.bin (.tmp rfl) (.tmp rfl) .add) ?_
              refine O.pu (Pu.move (.tmp (v:=.int _ _) rfl)) ?_
              refine O.pu (Pu.move (.tmp (v:=.int _ _) rfl)) ?_
              refine O.pu (Pu.bin (.tmp rfl) (.tmp rfl) .mul) ?_
              refine O.pu (Pu.bin (.tmp rfl) (.tmp rfl) .sub) ?_
              refine O.pu (Pu.assign (.tmp (v:=.int _ _) rfl)) ?_
              refine O.nil ?_
              refine X.seq ?_
              refine X.still ?_
              refine O.pu (Pu.move (.tmp (v:=.int _ _) rfl)) ?_
              refine O.pu (Pu.move (.tmp (v:=.int _ _) rfl)) ?_
              repeat first|(rw [giffn] at h;obtain ⟨_,h⟩:=h)|(rw [bits_Div64.j2_e] at h;obtain ⟨k,_,h⟩:=h;unfold bits_Div64.j2 at h;try dsimp only at h)
              refine O.pu (Pu.bin (.tmp rfl) (.tmp rfl) (.quo (by omega))) ?_
              refine O.pu (Pu.assign (.tmp (v:=.int _ _) rfl)) ?_
              refine O.nil ?_
              refine X.seq ?_
              refine X.still ?_
              refine O.pu (Pu.move (.tmp (v:=.int _ _) rfl)) ?_
              refine O.pu (Pu.move (.tmp (v:=.int _ _) rfl)) ?_
              refine O.pu (Pu.move (.tmp (v:=.int _ _) rfl)) ?_
              refine O.pu (Pu.bin (.tmp rfl) (.tmp rfl) .mul) ?_
              refine O.pu (Pu.bin (.tmp rfl) (.tmp rfl) .sub) ?_
              refine O.pu (Pu.assign (.tmp (v:=.int _ _) rfl)) ?_
              refine O.nil ?_
              refine X.seq ?_
              refine X.block ?_
              refine X.inv (fun k s=>k≤k1∧∃ x2 x8 x9 x10 x14 x15 x16 x17 x18,s.t 2 = .int .u64 x2∧s.t 8 = .int .u64 x8∧s.t 9 = .int .u64 x9∧s.t 10 = .int .u64 x10∧s.t 14 = .int .u64 x14∧s.t 15 = .int .u64 x15∧s.t 16 = .int .u64 x16∧s.t 17 = .int .u64 x17∧s.t 18 = .int .u64 x18∧bits_Div64.l1 k x2 x8 x9 x10 x14 x15 x16 x17 x18=some r) ?_ ?_ ⟨(by omega),_,_,_,_,_,_,_,_,_,rfl,rfl,rfl,rfl,rfl,rfl,rfl,rfl,rfl,h⟩
              · rintro s ⟨_,_,_,_,_,_,_,_,_,_,_,_,_,_,_,_,_,_,_,h⟩;unfold bits_Div64.l1 at h;cases h
              · rintro k2 s2 ⟨kl2,x2,x8,x9,x10,x14,x15,x16,x17,x18,e0,e1,e2,e3,e4,e5,e6,e7,e8,h⟩
                unfold bits_Div64.l1 at h
                rw [St.fixT e0,St.fixT e1,St.fixT e2,St.fixT e3,St.fixT e4,St.fixT e5,St.fixT e6,St.fixT e7,St.fixT e8]
                refine X.seq ?_
                refine X.seq ?_
                refine X.still ?_
                refine O.pu (Pu.move (.tmp (v:=.int _ _) rfl)) ?_
                refine O.pu (Pu.bin (.tmp rfl) .int .geq) ?_
                refine O.pu (Pu.move (.tmp (v:=.bool _) rfl)) ?_
                refine O.splitP (fun c=>?_) (fun c=>?_)
                · rw [if_pos c] at h
                  refine G.skip (W.f rfl rfl rfl) ?_
                  refine G.skip (W.f rfl rfl rfl) ?_
                  refine G.skip (W.f rfl rfl rfl) ?_
                  refine G.skip (W.f rfl rfl rfl) ?_
                  refine G.skip (W.f rfl rfl rfl) ?_
                  refine G.skip (W.f rfl rfl rfl) ?_
                  refine G.skip (W.f rfl rfl rfl) ?_
                  refine G.skip (W.f rfl rfl rfl) ?_
                  refine O.pu (Pu.pickT (.tmp rfl) .bool) ?_
                  refine O.nil ?_
                  repeat (rw [bits_Div64.j4_e] at h;obtain ⟨k,_,h⟩:=h;unfold bits_Div64.j4 at h;try dsimp only at h)
                  rw [if_pos rfl] at h
                  refine X.condT (.tmp rfl) ?_
                  refine X.skip ?_
                  refine X.block ?_
                  refine X.seq ?_
                  refine X.still ?_
                  refine O.pu (Pu.move (.tmp (v:=.int _ _) rfl)) ?_
                  refine O.pu (Pu.bin (.tmp rfl) .int .sub) ?_
                  refine O.pu (Pu.assign (.tmp (v:=.int _ _) rfl)) ?_
                  refine O.nil ?_
                  refine X.seq ?_
                  refine X.still ?_
                  refine O.pu (Pu.move (.tmp (v:=.int _ _) rfl)) ?_
                  refine O.pu (Pu.move (.tmp (v:=.int _ _) rfl)) ?_
                  refine O.pu (Pu.bin (.tmp rfl) (.tmp rfl) .add) ?_
                  refine O.pu (Pu.assign (.tmp (v:=.int _ _) rfl)) ?_
                  refine O.nil ?_
                  refine X.seq ?_
                  refine X.still ?_
                  refine O.pu (Pu.move (.tmp (v:=.int _ _) rfl)) ?_
                  refine O.pu (Pu.bin (.tmp rfl) .int .geq) ?_
                  refine O.nil ?_
                  refine X.condP (.tmp rfl) (fun c=>?_) (fun c=>?_)
                  · rw [if_pos c] at h
                    refine X.exit (B.past rfl (B.out ?_))
                    refine X.seq ?_
                    refine X.still ?_
                    refine O.pu (Pu.move (.tmp (v:=.int _ _) rfl)) ?_
                    refine O.pu (Pu.bin (.tmp rfl) .int .mul) ?_
                    refine O.pu (Pu.move (.tmp (v:=.int _ _) rfl)) ?_
                    refine O.pu (Pu.bin (.tmp rfl) (.tmp rfl) .add) ?_
                    refine O.pu (Pu.move (.tmp (v:=.int _ _) rfl)) ?_
                    refine O.pu (Pu.bin (.tmp rfl) .int .mul) ?_
                    refine O.pu (Pu.move (.tmp (v:=.int _ _) rfl)) ?_
                    refine O.pu (Pu.bin (.tmp rfl) (.tmp rfl) .add) ?_
                    refine O.pu (Pu.move (.tmp (v:=.int _ _) rfl)) ?_
                    refine O.pu (Pu.move (.tmp (v:=.int _ _) rfl)) ?_
                    refine O.pu (Pu.bin (.tmp rfl) (.tmp rfl) .mul) ?_
                    refine O.pu (Pu.bin (.tmp rfl) (.tmp rfl) .sub) ?_
                    refine O.pu (Pu.move (.tmp (v:=.int _ _) rfl)) ?_
                    repeat (rw [giff] at h;obtain ⟨_,h⟩:=h)
                    refine O.pu (Pu.bin (.tmp rfl) (.tmp rfl) (U.shrW (by omega))) ?_
                    refine O.pu (Pu.assign (.tmp (v:=.int _ _) rfl)) ?_
                    refine O.pu (Pu.assign (.tmp (v:=.int _ _) rfl)) ?_
                    refine O.nil ?_
                    refine X.ret ?_
                    cases h
                    exact E.fin [] (.tmp (v:=.int _ _) rfl (.tmp (v:=.int _ _) rfl .nil)) (.cons (.cl .int) (.cons (.cl .int) .nil))
                  · rw [if_neg c] at h
                    refine X.skip ?_
                    exact ⟨_,(by omega),(by omega),_,_,_,_,_,_,_,_,_,rfl,rfl,rfl,rfl,rfl,rfl,rfl,rfl,rfl,h⟩
                · rw [if_neg c] at h
                  refine G.pu (W.t rfl rfl) (Pu.move (.tmp (v:=.int _ _) rfl)) ?_
                  refine G.pu (W.t rfl rfl) (Pu.move (.tmp (v:=.int _ _) rfl)) ?_
                  refine G.pu (W.t rfl rfl) (Pu.bin (.tmp rfl) (.tmp rfl) .mul) ?_
                  refine G.pu (W.t rfl rfl) (Pu.move (.tmp (v:=.int _ _) rfl)) ?_
                  refine G.pu (W.t rfl rfl) (Pu.bin .int (.tmp rfl) .mul) ?_
                  refine G.pu (W.t rfl rfl) (Pu.move (.tmp (v:=.int _ _) rfl)) ?_
                  refine G.pu (W.t rfl rfl) (Pu.bin (.tmp rfl) (.tmp rfl) .add) ?_
                  refine G.pu (W.t rfl rfl) (Pu.bin (.tmp rfl) (.tmp rfl) .gtr) ?_
                  refine O.pu (Pu.pickF (.tmp rfl) (.tmp (v:=.bool _) rfl)) ?_
                  refine O.nil ?_
                  repeat (rw [bits_Div64.j4_e] at h;obtain ⟨k,_,h⟩:=h;unfold bits_Div64.j4 at h;try dsimp only at h)
                  refine X.condP (.tmp rfl) (fun c=>?_) (fun c=>?_)
                  · rw [if_pos (decide_eq_true c)] at h
                    refine X.skip ?_
                    refine X.block ?_
                    refine X.seq ?_
                    refine X.still ?_
                    refine O.pu (Pu.move (.tmp (v:=.int _ _) rfl)) ?_
                    refine O.pu (Pu.bin (.tmp rfl) .int .sub) ?_
                    refine O.pu (Pu.assign (.tmp (v:=.int _ _) rfl)) ?_
                    refine O.nil ?_
                    refine X.seq ?_
                    refine X.still ?_
                    refine O.pu (Pu.move (.tmp (v:=.int _ _) rfl)) ?_
                    refine O.pu (Pu.move (.tmp (v:=.int _ _) rfl)) ?_
                    refine O.pu (Pu.bin (.tmp rfl) (.tmp rfl) .add) ?_
                    refine O.pu (Pu.assign (.tmp (v:=.int _ _) rfl)) ?_
                    refine O.nil ?_
                    refine X.seq ?_
                    refine X.still ?_
                    refine O.pu (Pu.move (.tmp (v:=.int _ _) rfl)) ?_
                    refine O.pu (Pu.bin (.tmp rfl) .int .geq) ?_
                    refine O.nil ?_
                    refine X.condP (.tmp rfl) (fun c=>?_) (fun c=>?_)
                    · rw [if_pos c] at h
                      refine X.exit (B.past rfl (B.out ?_))
                      refine X.seq ?_
                      refine X.still ?_
                      refine O.pu (Pu.move (.tmp (v:=.int _ _) rfl)) ?_
                      refine O.pu (Pu.bin (.tmp rfl) .int .mul) ?_
                      refine O.pu (Pu.move (.tmp (v:=.int _ _) rfl)) ?_
                      refine O.pu (Pu.bin (.tmp rfl) (.tmp rfl) .add) ?_
                      refine O.pu (Pu.move (.tmp (v:=.int _ _) rfl)) ?_
                      refine O.pu (Pu.bin (.tmp rfl) .int .mul) ?_
                      refine O.pu (Pu.move (.tmp (v:=.int _ _) rfl)) ?_
                      refine O.pu (Pu.bin (.tmp rfl) (.tmp rfl) .add) ?_
                      refine O.pu (Pu.move (.tmp (v:=.int _ _) rfl)) ?_
                      refine O.pu (Pu.move (.tmp (v:=.int _ _) rfl)) ?_
                      refine O.pu (Pu.bin (.tmp rfl) (.tmp rfl) .mul) ?_
                      refine O.pu (Pu.bin (.tmp rfl) (.tmp rfl) .sub) ?_
                      refine O.pu (Pu.move (.tmp (v:=.int _ _) rfl)) ?_
                      repeat (rw [giff] at h;obtain ⟨_,h⟩:=h)
                      refine O.pu (Pu.bin (.tmp rfl) (.tmp rfl) (U.shrW (by omega))) ?_
                      refine O.pu (Pu.assign (.tmp (v:=.int _ _) rfl)) ?_
                      refine O.pu (Pu.assign (.tmp (v:=.int _ _) rfl)) ?_
                      refine O.nil ?_
                      refine X.ret ?_
                      cases h
                      exact E.fin [] (.tmp (v:=.int _ _) rfl (.tmp (v:=.int _ _) rfl .nil)) (.cons (.cl .int) (.cons (.cl .int) .nil))
                    · rw [if_neg c] at h
                      refine X.skip ?_
                      exact ⟨_,(by omega),(by omega),_,_,_,_,_,_,_,_,_,rfl,rfl,rfl,rfl,rfl,rfl,rfl,rfl,rfl,h⟩
                  · rw [if_neg (nd c)] at h
                    refine X.exit (B.out ?_)
                    refine X.seq ?_
                    refine X.still ?_
                    refine O.pu (Pu.move (.tmp (v:=.int _ _) rfl)) ?_
                    refine O.pu (Pu.bin (.tmp rfl) .int .mul) ?_
                    refine O.pu (Pu.move (.tmp (v:=.int _ _) rfl)) ?_
                    refine O.pu (Pu.bin (.tmp rfl) (.tmp rfl) .add) ?_
                    refine O.pu (Pu.move (.tmp (v:=.int _ _) rfl)) ?_
                    refine O.pu (Pu.bin (.tmp rfl) .int .mul) ?_
                    refine O.pu (Pu.move (.tmp (v:=.int _ _) rfl)) ?_
                    refine O.pu (Pu.bin (.tmp rfl) (.tmp rfl) .add) ?_
                    refine O.pu (Pu.move (.tmp (v:=.int _ _) rfl)) ?_
                    refine O.pu (Pu.move (.tmp (v:=.int _ _) rfl)) ?_
                    refine O.pu (Pu.bin (.tmp rfl) (.tmp rfl) .mul) ?_
                    refine O.pu (Pu.bin (.tmp rfl) (.tmp rfl) .sub) ?_
                    refine O.pu (Pu.move (.tmp (v:=.int _ _) rfl)) ?_
                    repeat (rw [giff] at h;obtain ⟨_,h⟩:=h)
                    refine O.pu (Pu.bin (.tmp rfl) (.tmp rfl) (U.shrW (by omega))) ?_
                    refine O.pu (Pu.assign (.tmp (v:=.int _ _) rfl)) ?_
                    refine O.pu (Pu.assign (.tmp (v:=.int _ _) rfl)) ?_
                    refine O.nil ?_
                    refine X.ret ?_
                    cases h
                    exact E.fin [] (.tmp (v:=.int _ _) rfl (.tmp (v:=.int _ _) rfl .nil)) (.cons (.cl .int) (.cons (.cl .int) .nil))
            · rw [if_neg c] at h
              refine X.skip ?_
              exact ⟨_,(by omega),_,_,_,_,_,_,_,_,_,rfl,rfl,rfl,rfl,rfl,rfl,rfl,rfl,rfl,h⟩
          · rw [if_neg c] at h
            refine G.pu (W.t rfl rfl) (Pu.move (.tmp (v:=.int _ _) rfl)) ?_
            refine G.pu (W.t rfl rfl) (Pu.move (.tmp (v:=.int _ _) rfl)) ?_
            refine G.pu (W.t rfl rfl) (Pu.bin (.tmp rfl) (.tmp rfl) .mul) ?_
            refine G.pu (W.t rfl rfl) (Pu.move (.tmp (v:=.int _ _) rfl)) ?_
            refine G.pu (W.t rfl rfl) (Pu.bin .int (.tmp rfl) .mul) ?_
            refine G.pu (W.t rfl rfl) (Pu.move (.tmp (v:=.int _ _) rfl)) ?_
            refine G.pu (W.t rfl rfl) (Pu.bin (.tmp rfl) (.tmp rfl) .add) ?_
            refine G.pu (W.t rfl rfl) (Pu.bin (.tmp rfl) (.tmp rfl) .gtr) ?_
            refine O.pu (Pu.pickF (.tmp rfl) (.tmp (v:=.bool _) rfl)) ?_
            refine O.nil ?_
            repeat (rw [bits_Div64.j1_e] at h;obtain ⟨k,_,h⟩:=h;unfold bits_Div64.j1 at h;try dsimp only at h)
            refine X.condP (.tmp rfl) (fun c=>?_) (fun c=>?_)
            · rw [if_pos (decide_eq_true c)] at h
              refine X.skip ?_
              refine X.block ?_
              refine X.seq ?_
              refine X.still ?_
              refine O.pu (Pu.move (.tmp (v:=.int _ _) rfl)) ?_
              refine O.pu (Pu.bin (.tmp rfl) .int .sub) ?_
              refine O.pu (Pu.assign (.tmp (v:=.int _ _) rfl)) ?_
              refine O.nil ?_
              refine X.seq ?_
              refine X.still ?_
              refine O.pu (Pu.move (.tmp (v:=.int _ _) rfl)) ?_
              refine O.pu (Pu.move (.tmp (v:=.int _ _) rfl)) ?_
              refine O.pu (Pu.bin (.tmp rfl) (.tmp rfl) .add) ?_
              refine O.pu (Pu.assign (.tmp (v:=.int _ _) rfl)) ?_
              refine O.nil ?_
              refine X.seq ?_
              refine X.still ?_
              refine O.pu (Pu.move (.tmp (v:=.int _ _) rfl)) ?_
              refine O.pu (Pu.bin (.tmp rfl) .int .geq) ?_
              refine O.nil ?_
              refine X.condP (.tmp rfl) (fun c=>?_) (fun c=>?_)
              · rw [if_pos c] at h
                refine X.exit (B.past rfl (B.out ?_))
                refine X.seq ?_
                refine X.still ?_
                refine O.pu (Pu.move (.tmp (v:=.int _ _) rfl)) ?_
                refine O.pu (Pu.bin (.tmp rfl) .int .mul) ?_
                refine O.pu (Pu.move (.tmp (v:=.int _ _) rfl)) ?_
                refine O.pu (Pu.bin (.tmp rfl) (.tmp rfl) .add) ?_
                refine O.pu (Pu.move (.tmp (v:=.int _ _) rfl)) ?_
                refine O.pu (Pu.move (.tmp (v:=.int _ _) rfl)) ?_
                refine O.pu (Pu.bin (.tmp rfl) (.tmp rfl) .mul) ?_
                refine O.pu (Pu.bin (.tmp rfl) (.tmp rfl) .sub) ?_
                refine O.pu (Pu.assign (.tmp (v:=.int _ _) rfl)) ?_
                refine O.nil ?_
                refine X.seq ?_
                refine X.still ?_
                refine O.pu (Pu.move (.tmp (v:=.int _ _) rfl)) ?_
                refine O.pu (Pu.move (.tmp (v:=.int _ _) rfl)) ?_
                repeat first|(rw [giffn] at h;obtain ⟨_,h⟩:=h)|(rw [bits_Div64.j2_e] at h;obtain ⟨k,_,h⟩:=h;unfold bits_Div64.j2 at h;try dsimp only at h)
                refine O.pu (Pu.bin (.tmp rfl) (.tmp rfl) (.quo (by omega))) ?_
                refine O.pu (Pu.assign (.tmp (v:=.int _ _) rfl)) ?_
                refine O.nil ?_
                refine X.seq ?_
                refine X.still ?_
                refine O.pu (Pu.move (.tmp (v:=.int _ _) rfl)) ?_
                refine O.pu (Pu.move (.tmp (v:=.int _ _) rfl)) ?_
                refine O.pu (Pu.move (.tmp (v:=.int _ _) rfl)) ?_
                refine O.pu (Pu.bin (.tmp rfl) (.tmp rfl) .mul) ?_
                refine O.pu (Pu.bin (.tmp rfl) (.tmp rfl) .sub) ?_
                refine O.pu (Pu.assign (.tmp (v:=.int _ _) rfl)) ?_
                refine O.nil ?_
                refine X.seq ?_
                refine X.block ?_
                refine X.inv (fun k s=>k≤k1∧∃ x2 x8 x9 x10 x14 x15 x16 x17 x18,s.t 2 = .int .u64 x2∧s.t 8 = .int .u64 x8∧s.t 9 = .int .u64 x9∧s.t 10 = .int .u64 x10∧s.t 14 = .int .u64 x14∧s.t 15 = .int .u64 x15∧s.t 16 = .int .u64 x16∧s.t 17 = .int .u64 x17∧s.t 18 = .int .u64 x18∧bits_Div64.l1 k x2 x8 x9 x10 x14 x15 x16 x17 x18=some r) ?_ ?_ ⟨(by omega),_,_,_,_,_,_,_,_,_,rfl,rfl,rfl,rfl,rfl,rfl,rfl,rfl,rfl,h⟩
                · rintro s ⟨_,_,_,_,_,_,_,_,_,_,_,_,_,_,_,_,_,_,_,h⟩;unfold bits_Div64.l1 at h;cases h
                · rintro k2 s2 ⟨kl2,x2,x8,x9,x10,x14,x15,x16,x17,x18,e0,e1,e2,e3,e4,e5,e6,e7,e8,h⟩
                  unfold bits_Div64.l1 at h
                  rw [St.fixT e0,St.fixT e1,St.fixT e2,St.fixT e3,St.fixT e4,St.fixT e5,St.fixT e6,St.fixT e7,St.fixT e8]
                  refine X.seq ?_
                  refine X.seq ?_
                  refine X.still ?_
                  refine O.pu (Pu.move (.tmp (v:=.int _ _) rfl)) ?_
                  refine O.pu (Pu.bin (.tmp rfl) .int .geq) ?_
                  refine O.pu (Pu.move (.tmp (v:=.bool _) rfl)) ?_
                  refine O.splitP (fun c=>?_) (fun c=>?_)
                  · rw [if_pos c] at h
                    refine G.skip (W.f rfl rfl rfl) ?_
                    refine G.skip (W.f rfl rfl rfl) ?_
                    refine G.skip (W.f rfl rfl rfl) ?_
                    refine G.skip (W.f rfl rfl rfl) ?_
                    refine G.skip (W.f rfl rfl rfl) ?_
                    refine G.skip (W.f rfl rfl rfl) ?_
                    refine G.skip (W.f rfl rfl rfl) ?_
                    refine G.skip (W.f rfl rfl rfl) ?_
                    refine O.pu (Pu.pickT (.tmp rfl) .bool) ?_
                    refine O.nil ?_
                    repeat (rw [bits_Div64.j4_e] at h;obtain ⟨k,_,h⟩:=h;unfold bits_Div64.j4 at h;try dsimp only at h)
                    rw [if_pos rfl] at h
                    refine X.condT (.tmp rfl) ?_
                    refine X.skip ?_
                    refine X.block ?_
                    refine X.seq ?_
                    refine X.still ?_
                    refine O.pu (Pu.move (.tmp (v:=.int _ _) rfl)) ?_
                    refine O.pu (Pu.bin (.tmp rfl) .int .sub) ?_
                    refine O.pu (Pu.assign (.tmp (v:=.int _ _) rfl)) ?_
                    refine O.nil ?_
                    refine X.seq ?_
                    refine X.still ?_
                    refine O.pu (Pu.move (.tmp (v:=.int _ _) rfl)) ?_
                    refine O.pu (Pu.move (.tmp (v:=.int _ _) rfl)) ?_
                    refine O.pu (Pu.bin (.tmp rfl) (.tmp rfl) .add) ?_
                    refine O.pu (Pu.assign (.tmp (v:=.int _ _) rfl)) ?_
                    refine O.nil ?_
                    refine X.seq ?_
                    refine X.still ?_
                    refine O.pu (Pu.move (.tmp (v:=.int _ _) rfl)) ?_
                    refine O.pu (Pu.bin (.tmp rfl) .int .geq) ?_
                    refine O.nil ?_
                    refine X.condP (.tmp rfl) (fun c=>?_) (fun c=>?_)
                    · rw [if_pos c] at h
                      refine X.exit (B.past rfl (B.out ?_))
                      refine X.seq ?_
                      refine X.still ?_
                      refine O.pu (Pu.move (.tmp (v:=.int _ _) rfl)) ?_
                      refine O.pu (Pu.bin (.tmp rfl) .int .mul) ?_
                      refine O.pu (Pu.move (.tmp (v:=.int _ _) rfl)) ?_
                      refine O.pu (Pu.bin (.tmp rfl) (.tmp rfl) .add) ?_
                      refine O.pu (Pu.move (.tmp (v:=.int _ _) rfl)) ?_
                      refine O.pu (Pu.bin (.tmp rfl) .int .mul) ?_
                      refine O.pu (Pu.move (.tmp (v:=.int _ _) rfl)) ?_
                      refine O.pu (Pu.bin (.tmp rfl) (.tmp rfl) .add) ?_
                      refine O.pu (Pu.move (.tmp (v:=.int _ _) rfl)) ?_
                      refine O.pu (Pu.move (.tmp (v:=.int _ _) rfl)) ?_
                      refine O.pu (Pu.bin (.tmp rfl) (.tmp rfl) .mul) ?_
                      refine O.pu (Pu.bin (.tmp rfl) (.tmp rfl) .sub) ?_
                      refine O.pu (Pu.move (.tmp (v:=.int _ _) rfl)) ?_
                      repeat (rw [giff] at h;obtain ⟨_,h⟩:=h)
                      refine O.pu (Pu.bin (.tmp rfl) (.tmp rfl) (U.shrW (by omega))) ?_
                      refine O.pu (Pu.assign (.tmp (v:=.int _ _) rfl)) ?_
                      refine O.pu (Pu.assign (.tmp (v:=.int _ _) rfl)) ?_
                      refine O.nil ?_
                      refine X.ret ?_
                      cases h
                      exact E.fin [] (.tmp (v:=.int _ _) rfl (.tmp (v:=.int _ _) rfl .nil)) (.cons (.cl .int) (.cons (.cl .int) .nil))
                    · rw [if_neg c] at h
                      refine X.skip ?_
                      exact ⟨_,(by omega),(by omega),_,_,_,_,_,_,_,_,_,rfl,rfl,rfl,rfl,rfl,rfl,rfl,rfl,rfl,h⟩
                  · rw [if_neg c] at h
                    refine G.pu (W.t rfl rfl) (Pu.move (.tmp (v:=.int _ _) rfl)) ?_
                    refine G.pu (W.t rfl rfl) (Pu.move (.tmp (v:=.int _ _) rfl)) ?_
                    refine G.pu (W.t rfl rfl) (Pu.bin (.tmp rfl) (.tmp rfl) .mul) ?_
                    refine G.pu (W.t rfl rfl) (Pu.move (.tmp (v:=.int _ _) rfl)) ?_
                    refine G.pu (W.t rfl rfl) (Pu.bin .int (.tmp rfl) .mul) ?_
                    refine G.pu (W.t rfl rfl) (Pu.move (.tmp (v:=.int _ _) rfl)) ?_
                    refine G.pu (W.t rfl rfl) (Pu.bin (.tmp rfl) (.tmp rfl) .add) ?_
                    refine G.pu (W.t rfl rfl) (Pu.bin (.tmp rfl) (.tmp rfl) .gtr) ?_
                    refine O.pu (Pu.pickF (.tmp rfl) (.tmp (v:=.bool _) rfl)) ?_
                    refine O.nil ?_
                    repeat (rw [bits_Div64.j4_e] at h;obtain ⟨k,_,h⟩:=h;unfold bits_Div64.j4 at h;try dsimp only at h)
                    refine X.condP (.tmp rfl) (fun c=>?_) (fun c=>?_)
                    · rw [if_pos (decide_eq_true c)] at h
                      refine X.skip ?_
                      refine X.block ?_
                      refine X.seq ?_
                      refine X.still ?_
                      refine O.pu (Pu.move (.tmp (v:=.int _ _) rfl)) ?_
                      refine O.pu (Pu.bin (.tmp rfl) .int .sub) ?_
                      refine O.pu (Pu.assign (.tmp (v:=.int _ _) rfl)) ?_
                      refine O.nil ?_
                      refine X.seq ?_
                      refine X.still ?_
                      refine O.pu (Pu.move (.tmp (v:=.int _ _) rfl)) ?_
                      refine O.pu (Pu.move (.tmp (v:=.int _ _) rfl)) ?_
                      refine O.pu (Pu.bin (.tmp rfl) (.tmp rfl) .add) ?_
                      refine O.pu (Pu.assign (.tmp (v:=.int _ _) rfl)) ?_
                      refine O.nil ?_
                      refine X.seq ?_
                      refine X.still ?_
                      refine O.pu (Pu.move (.tmp (v:=.int _ _) rfl)) ?_
                      refine O.pu (Pu.bin (.tmp rfl) .int .geq) ?_
                      refine O.nil ?_
                      refine X.condP (.tmp rfl) (fun c=>?_) (fun c=>?_)
                      · rw [if_pos c] at h
                        refine X.exit (B.past rfl (B.out ?_))
                        refine X.seq ?_
                        refine X.still ?_
                        refine O.pu (Pu.move (.tmp (v:=.int _ _) rfl)) ?_
                        refine O.pu (Pu.bin (.tmp rfl) .int .mul) ?_
                        refine O.pu (Pu.move (.tmp (v:=.int _ _) rfl)) ?_
                        refine O.pu (Pu.bin (.tmp rfl) (.tmp rfl) .add) ?_
                        refine O.pu (Pu.move (.tmp (v:=.int _ _) rfl)) ?_
                        refine O.pu (Pu.bin (.tmp rfl) .int .mul) ?_
                        refine O.pu (Pu.move (.tmp (v:=.int _ _) rfl)) ?_
                        refine O.pu (Pu.bin (.tmp rfl) (.tmp rfl) .add) ?_
                        refine O.pu (Pu.move (.tmp (v:=.int _ _) rfl)) ?_
                        refine O.pu (Pu.move (.tmp (v:=.int _ _) rfl)) ?_
                        refine O.pu (Pu.bin (.tmp rfl) (.tmp rfl) .mul) ?_
                        refine O.pu (Pu.bin (.tmp rfl) (.tmp rfl) .sub) ?_
                        refine O.pu (Pu.move (.tmp (v:=.int _ _) rfl)) ?_
                        repeat (rw [giff] at h;obtain ⟨_,h⟩:=h)
                        refine O.pu (Pu.bin (.tmp rfl) (.tmp rfl) (U.shrW (by omega))) ?_
                        refine O.pu (Pu.assign (.tmp (v:=.int _ _) rfl)) ?_
                        refine O.pu (Pu.assign (.tmp (v:=.int _ _) rfl)) ?_
                        refine O.nil ?_
                        refine X.ret ?_
                        cases h
                        exact E.fin [] (.tmp (v:=.int _ _) rfl (.tmp (v:=.int _ _) rfl .nil)) (.cons (.cl .int) (.cons (.cl .int) .nil))
                      · rw [if_neg c] at h
                        refine X.skip ?_
                        exact ⟨_,(by omega),(by omega),_,_,_,_,_,_,_,_,_,rfl,rfl,rfl,rfl,rfl,rfl,rfl,rfl,rfl,h⟩
                    · rw [if_neg (nd c)] at h
                      refine X.exit (B.out ?_)
                      refine X.seq ?_
                      refine X.still ?_
                      refine O.pu (Pu.move (.tmp (v:=.int _ _) rfl)) ?_
                      refine O.pu (Pu.bin (.tmp rfl) .int .mul) ?_
                      refine O.pu (Pu.move (.tmp (v:=.int _ _) rfl)) ?_
                      refine O.pu (Pu.bin (.tmp rfl) (.tmp rfl) .add) ?_
                      refine O.pu (Pu.move (.tmp (v:=.int _ _) rfl)) ?_
                      refine O.pu (Pu.bin (.tmp rfl) .int .mul) ?_
                      refine O.pu (Pu.move (.tmp (v:=.int _ _) rfl)) ?_
                      refine O.pu (Pu.bin (.tmp rfl) (.tmp rfl) .add) ?_
                      refine O.pu (Pu.move (.tmp (v:=.int _ _) rfl)) ?_
                      refine O.pu (Pu.move (.tmp (v:=.int _ _) rfl)) ?_
                      refine O.pu (Pu.bin (.tmp rfl) (.tmp rfl) .mul) ?_
                      refine O.pu (Pu.bin (.tmp rfl) (.tmp rfl) .sub) ?_
                      refine O.pu (Pu.move (.tmp (v:=.int _ _) rfl)) ?_
                      repeat (rw [giff] at h;obtain ⟨_,h⟩:=h)
                      refine O.pu (Pu.bin (.tmp rfl) (.tmp rfl) (U.shrW (by omega))) ?_
                      refine O.pu (Pu.assign (.tmp (v:=.int _ _) rfl)) ?_
                      refine O.pu (Pu.assign (.tmp (v:=.int _ _) rfl)) ?_
                      refine O.nil ?_
                      refine X.ret ?_
                      cases h
                      exact E.fin [] (.tmp (v:=.int _ _) rfl (.tmp (v:=.int _ _) rfl .nil)) (.cons (.cl .int) (.cons (.cl .int) .nil))
              · rw [if_neg c] at h
                refine X.skip ?_
                exact ⟨_,(by omega),_,_,_,_,_,_,_,_,_,rfl,rfl,rfl,rfl,rfl,rfl,rfl,rfl,rfl,h⟩
            · rw [if_neg (nd c)] at h
              refine X.exit (B.out ?_)
              refine X.seq ?_
              refine X.still ?_
              refine O.pu (Pu.move (.tmp (v:=.int _ _) rfl)) ?_
              refine O.pu (Pu.bin (.tmp rfl) .int .mul) ?_
              refine O.pu (Pu.move (.tmp (v:=.int _ _) rfl)) ?_
              refine O.pu (Pu.bin (.tmp rfl) (.tmp rfl) .add) ?_
              refine O.pu (Pu.move (.tmp (v:=.int _ _) rfl)) ?_
              refine O.pu (Pu.move (.tmp (v:=.int _ _) rfl)) ?_
              refine O.pu (Pu.bin (.tmp rfl) (.tmp rfl) .mul) ?_
              refine O.pu (Pu.bin (.tmp rfl) (.tmp rfl) .sub) ?_
              refine O.pu (Pu.assign (.tmp (v:=.int _ _) rfl)) ?_
              refine O.nil ?_
              refine X.seq ?_
              refine X.still ?_
              refine O.pu (Pu.move (.tmp (v:=.int _ _) rfl)) ?_
              refine O.pu (Pu.move (.tmp (v:=.int _ _) rfl)) ?_
              repeat first|(rw [giffn] at h;obtain ⟨_,h⟩:=h)|(rw [bits_Div64.j2_e] at h;obtain ⟨k,_,h⟩:=h;unfold bits_Div64.j2 at h;try dsimp only at h)
              refine O.pu (Pu.bin (.tmp rfl) (.tmp rfl) (.quo (by omega))) ?_
              refine O.pu (Pu.assign (.tmp (v:=.int _ _) rfl)) ?_
              refine O.nil ?_
              refine X.seq ?_
              refine X.still ?_
              refine O.pu (Pu.move (.tmp (v:=.int _ _) rfl)) ?_
              refine O.pu (Pu.move (.tmp (v:=.int _ _) rfl)) ?_
              refine O.pu (Pu.move (.tmp (v:=.int _ _) rfl)) ?_
              refine O.pu (Pu.bin (.tmp rfl) (.tmp rfl) .mul) ?_
              refine O.pu (Pu.bin (.tmp rfl) (.tmp rfl) .sub) ?_
              refine O.pu (Pu.assign (.tmp (v:=.int _ _) rfl)) ?_
              refine O.nil ?_
              refine X.seq ?_
              refine X.block ?_
              refine X.inv (fun k s=>k≤k1∧∃ x2 x8 x9 x10 x14 x15 x16 x17 x18,s.t 2 = .int .u64 x2∧s.t 8 = .int .u64 x8∧s.t 9 = .int .u64 x9∧s.t 10 = .int .u64 x10∧s.t 14 = .int .u64 x14∧s.t 15 = .int .u64 x15∧s.t 16 = .int .u64 x16∧s.t 17 = .int .u64 x17∧s.t 18 = .int .u64 x18∧bits_Div64.l1 k x2 x8 x9 x10 x14 x15 x16 x17 x18=some r) ?_ ?_ ⟨(by omega),_,_,_,_,_,_,_,_,_,rfl,rfl,rfl,rfl,rfl,rfl,rfl,rfl,rfl,h⟩
              · rintro s ⟨_,_,_,_,_,_,_,_,_,_,_,_,_,_,_,_,_,_,_,h⟩;unfold bits_Div64.l1 at h;cases h
              · rintro k2 s2 ⟨kl2,x2,x8,x9,x10,x14,x15,x16,x17,x18,e0,e1,e2,e3,e4,e5,e6,e7,e8,h⟩
                unfold bits_Div64.l1 at h
                rw [St.fixT e0,St.fixT e1,St.fixT e2,St.fixT e3,St.fixT e4,St.fixT e5,St.fixT e6,St.fixT e7,St.fixT e8]
                refine X.seq ?_
                refine X.seq ?_
                refine X.still ?_
                refine O.pu (Pu.move (.tmp (v:=.int _ _) rfl)) ?_
                refine O.pu (Pu.bin (.tmp rfl) .int .geq) ?_
                refine O.pu (Pu.move (.tmp (v:=.bool _) rfl)) ?_
                refine O.splitP (fun c=>?_) (fun c=>?_)
                · rw [if_pos c] at h
                  refine G.skip (W.f rfl rfl rfl) ?_
                  refine G.skip (W.f rfl rfl rfl) ?_
                  refine G.skip (W.f rfl rfl rfl) ?_
                  refine G.skip (W.f rfl rfl rfl) ?_
                  refine G.skip (W.f rfl rfl rfl) ?_
                  refine G.skip (W.f rfl rfl rfl) ?_
                  refine G.skip (W.f rfl rfl rfl) ?_
                  refine G.skip (W.f rfl rfl rfl) ?_
                  refine O.pu (Pu.pickT (.tmp rfl) .bool) ?_
                  refine O.nil ?_
                  repeat (rw [bits_Div64.j4_e] at h;obtain ⟨k,_,h⟩:=h;unfold bits_Div64.j4 at h;try dsimp only at h)
                  rw [if_pos rfl] at h
                  refine X.condT (.tmp rfl) ?_
                  refine X.skip ?_
                  refine X.block ?_
                  refine X.seq ?_
                  refine X.still ?_
                  refine O.pu (Pu.move (.tmp (v:=.int _ _) rfl)) ?_
                  refine O.pu (Pu.bin (.tmp rfl) .int .sub) ?_
                  refine O.pu (Pu.assign (.tmp (v:=.int _ _) rfl)) ?_
                  refine O.nil ?_
                  refine X.seq ?_
                  refine X.still ?_
                  refine O.pu (Pu.move (.tmp (v:=.int _ _) rfl)) ?_
                  refine O.pu (Pu.move (.tmp (v:=.int _ _) rfl)) ?_
                  refine O.pu (Pu.bin (.tmp rfl) (.tmp rfl) .add) ?_
                  refine O.pu (Pu.assign (.tmp (v:=.int _ _) rfl)) ?_
                  refine O.nil ?_
                  refine X.seq ?_
                  refine X.still ?_
                  refine O.pu (Pu.move (.tmp (v:=.int _ _) rfl)) ?_
                  refine O.pu (Pu.bin (.tmp rfl) .int .geq) ?_
                  refine O.nil ?_
                  refine X.condP (.tmp rfl) (fun c=>?_) (fun c=>?_)
                  · rw [if_pos c] at h
                    refine X.exit (B.past rfl (B.out ?_))
                    refine X.seq ?_
                    refine X.still ?_
                    refine O.pu (Pu.move (.tmp (v:=.int _ _) rfl)) ?_
                    refine O.pu (Pu.bin (.tmp rfl) .int .mul) ?_
                    refine O.pu (Pu.move (.tmp (v:=.int _ _) rfl)) ?_
                    refine O.pu (Pu.bin (.tmp rfl) (.tmp rfl) .add) ?_
                    refine O.pu (Pu.move (.tmp (v:=.int _ _) rfl)) ?_
                    refine O.pu (Pu.bin (.tmp rfl) .int .mul) ?_
                    refine O.pu (Pu.move (.tmp (v:=.int _ _) rfl)) ?_
                    refine O.pu (Pu.bin (.tmp rfl) (.tmp rfl) .add) ?_
                    refine O.pu (Pu.move (.tmp (v:=.int _ _) rfl)) ?_
                    refine O.pu (Pu.move (.tmp (v:=.int _ _) rfl)) ?_
                    refine O.pu (Pu.bin (.tmp rfl) (.tmp rfl) .mul) ?_
                    refine O.pu (Pu.bin (.tmp rfl) (.tmp rfl) .sub) ?_
                    refine O.pu (Pu.move (.tmp (v:=.int _ _) rfl)) ?_
                    repeat (rw [giff] at h;obtain ⟨_,h⟩:=h)
                    refine O.pu (Pu.bin (.tmp rfl) (.tmp rfl) (U.shrW (by omega))) ?_
                    refine O.pu (Pu.assign (.tmp (v:=.int _ _) rfl)) ?_
                    refine O.pu (Pu.assign (.tmp (v:=.int _ _) rfl)) ?_
                    refine O.nil ?_
                    refine X.ret ?_
                    cases h
                    exact E.fin [] (.tmp (v:=.int _ _) rfl (.tmp (v:=.int _ _) rfl .nil)) (.cons (.cl .int) (.cons (.cl .int) .nil))
                  · rw [if_neg c] at h
                    refine X.skip ?_
                    exact ⟨_,(by omega),(by omega),_,_,_,_,_,_,_,_,_,rfl,rfl,rfl,rfl,rfl,rfl,rfl,rfl,rfl,h⟩
                · rw [if_neg c] at h
                  refine G.pu (W.t rfl rfl) (Pu.move (.tmp (v:=.int _ _) rfl)) ?_
                  refine G.pu (W.t rfl rfl) (Pu.move (.tmp (v:=.int _ _) rfl)) ?_
                  refine G.pu (W.t rfl rfl) (Pu.bin (.tmp rfl) (.tmp rfl) .mul) ?_
                  refine G.pu (W.t rfl rfl) (Pu.move (.tmp (v:=.int _ _) rfl)) ?_
                  refine G.pu (W.t rfl rfl) (Pu.bin .int (.tmp rfl) .mul) ?_
                  refine G.pu (W.t rfl rfl) (Pu.move (.tmp (v:=.int _ _) rfl)) ?_
                  refine G.pu (W.t rfl rfl) (Pu.bin (.tmp rfl) (.tmp rfl) .add) ?_
                  refine G.pu (W.t rfl rfl) (Pu.bin (.tmp rfl) (.tmp rfl) .gtr) ?_
                  refine O.pu (Pu.pickF (.tmp rfl) (.tmp (v:=.bool _) rfl)) ?_
                  refine O.nil ?_
                  repeat (rw [bits_Div64.j4_e] at h;obtain ⟨k,_,h⟩:=h;unfold bits_Div64.j4 at h;try dsimp only at h)
                  refine X.condP (.tmp rfl) (fun c=>?_) (fun c=>?_)
                  · rw [if_pos (decide_eq_true c)] at h
                    refine X.skip ?_
                    refine X.block ?_
                    refine X.seq ?_
                    refine X.still ?_
                    refine O.pu (Pu.move (.tmp (v:=.int _ _) rfl)) ?_
                    refine O.pu (Pu.bin (.tmp rfl) .int .sub) ?_
                    refine O.pu (Pu.assign (.tmp (v:=.int _ _) rfl)) ?_
                    refine O.nil ?_
                    refine X.seq ?_
                    refine X.still ?_
                    refine O.pu (Pu.move (.tmp (v:=.int _ _) rfl)) ?_
                    refine O.pu (Pu.move (.tmp (v:=.int _ _) rfl)) ?_
                    refine O.pu (Pu.bin (.tmp rfl) (.tmp rfl) .add) ?_
                    refine O.pu (Pu.assign (.tmp (v:=.int _ _) rfl)) ?_
                    refine O.nil ?_
                    refine X.seq ?_
                    refine X.still ?_
                    refine O.pu (Pu.move (.tmp (v:=.int _ _) rfl)) ?_
                    refine O.pu (Pu.bin (.tmp rfl) .int .geq) ?_
                    refine O.nil ?_
                    refine X.condP (.tmp rfl) (fun c=>?_) (fun c=>?_)
                    · rw [if_pos c] at h
                      refine X.exit (B.past rfl (B.out ?_))
                      refine X.seq ?_
                      refine X.still ?_
                      refine O.pu (Pu.move (.tmp (v:=.int _ _) rfl)) ?_
                      refine O.pu (Pu.bin (.tmp rfl) .int .mul) ?_
                      refine O.pu (Pu.move (.tmp (v:=.int _ _) rfl)) ?_
                      refine O.pu (Pu.bin (.tmp rfl) (.tmp rfl) .add) ?_
                      refine O.pu (Pu.move (.tmp (v:=.int _ _) rfl)) ?_
                      refine O.pu (Pu.bin (.tmp rfl) .int .mul) ?_
                      refine O.pu (Pu.move (.tmp (v:=.int _ _) rfl)) ?_
                      refine O.pu (Pu.bin (.tmp rfl) (.tmp rfl) .add) ?_
                      refine O.pu (Pu.move (.tmp (v:=.int _ _) rfl)) ?_
                      refine O.pu (Pu.move (.tmp (v:=.int _ _) rfl)) ?_
                      refine O.pu (Pu.bin (.tmp rfl) (.tmp rfl) .mul) ?_
                      refine O.pu (Pu.bin (.tmp rfl) (.tmp rfl) .sub) ?_
                      refine O.pu (Pu.move (.tmp (v:=.int _ _) rfl)) ?_
                      repeat (rw [giff] at h;obtain ⟨_,h⟩:=h)
                      refine O.pu (Pu.bin (.tmp rfl) (.tmp rfl) (U.shrW (by omega))) ?_
                      refine O.pu (Pu.assign (.tmp (v:=.int _ _) rfl)) ?_
                      refine O.pu (Pu.assign (.tmp (v:=.int _ _) rfl)) ?_
                      refine O.nil ?_
                      refine X.ret ?_
                      cases h
                      exact E.fin [] (.tmp (v:=.int _ _) rfl (.tmp (v:=.int _ _) rfl .nil)) (.cons (.cl .int) (.cons (.cl .int) .nil))
                    · rw [if_neg c] at h
                      refine X.skip ?_
                      exact ⟨_,(by omega),(by omega),_,_,_,_,_,_,_,_,_,rfl,rfl,rfl,rfl,rfl,rfl,rfl,rfl,rfl,h⟩
                  · rw [if_neg (nd c)] at h
                    refine X.exit (B.out ?_)
                    refine X.seq ?_
                    refine X.still ?_
                    refine O.pu (Pu.move (.tmp (v:=.int _ _) rfl)) ?_
                    refine O.pu (Pu.bin (.tmp rfl) .int .mul) ?_
                    refine O.pu (Pu.move (.tmp (v:=.int _ _) rfl)) ?_
                    refine O.pu (Pu.bin (.tmp rfl) (.tmp rfl) .add) ?_
                    refine O.pu (Pu.move (.tmp (v:=.int _ _) rfl)) ?_
                    refine O.pu (Pu.bin (.tmp rfl) .int .mul) ?_
                    refine O.pu (Pu.move (.tmp (v:=.int _ _) rfl)) ?_
                    refine O.pu (Pu.bin (.tmp rfl) (.tmp rfl) .add) ?_
                    refine O.pu (Pu.move (.tmp (v:=.int _ _) rfl)) ?_
                    refine O.pu (Pu.move (.tmp (v:=.int _ _) rfl)) ?_
                    refine O.pu (Pu.bin (.tmp rfl) (.tmp rfl) .mul) ?_
                    refine O.pu (Pu.bin (.tmp rfl) (.tmp rfl) .sub) ?_
                    refine O.pu (Pu.move (.tmp (v:=.int _ _) rfl)) ?_
                    repeat (rw [giff] at h;obtain ⟨_,h⟩:=h)
                    refine O.pu (Pu.bin (.tmp rfl) (.tmp rfl) (U.shrW (by omega))) ?_
                    refine O.pu (Pu.assign (.tmp (v:=.int _ _) rfl)) ?_
                    refine O.pu (Pu.assign (.tmp (v:=.int _ _) rfl)) ?_
                    refine O.nil ?_
                    refine X.ret ?_
                    cases h
                    exact E.fin [] (.tmp (v:=.int _ _) rfl (.tmp (v:=.int _ _) rfl .nil)) (.cons (.cl .int) (.cons (.cl .int) .nil))
noncomputable def c104:Code:=Try.f104.body.getD .skip
theorem fn104:FnOk Try.prog 104 Try.f104 c104:=⟨Try.func104,rfl,by kernel_rfl,by kernel_rfl,mixed⟩
theorem quot_by.cs {k:Nat} {l0:List Int} {a1:Int} {r:List Int×Int} (h:quot_by.f k l0 a1=some r):CS Try.prog 104 [.fi .u64 l0, .int .u64 a1] .no [.fi .u64 r.1, .int .u64 r.2]:=by
  unfold quot_by.f at h
  refine E.pure fn104 rfl ?_
  refine X.seq ?_
  refine X.still ?_
  refine O.pu (Pu.assign (.nilI (k:=.u64))) ?_
  refine O.pu (Pu.assign .int) ?_
  refine O.nil ?_
  refine X.seq ?_
  refine X.still ?_
  refine O.pu (Pu.move (.tmp (v:=.fi _ _) rfl)) ?_
  refine O.pu (Pu.lenI rfl (.tmp rfl)) ?_
  repeat (rw [giff] at h;obtain ⟨_,h⟩:=h)
  refine O.puE (v':=.os 11 (1) 0 _ true) (b':=⟨1, .own,_,_⟩) (U.makeI rfl rfl (.tmp rfl) (.tmp rfl) (by omega) (by omega) rfl (by omega)) rfl rfl ?_
  refine O.pu (Pu.assign (.tmp (v:=.os _ _ _ _ _) rfl)) ?_
  refine O.nil ?_
  refine X.seq ?_
  refine X.still ?_
  refine O.pu (Pu.assign .int) ?_
  refine O.nil ?_
  refine X.seq ?_
  refine X.seq ?_
  refine X.still ?_
  refine O.pu (Pu.move (.tmp (v:=.fi _ _) rfl)) ?_
  refine O.pu (Pu.lenI rfl (.tmp rfl)) ?_
  refine O.pu (Pu.bin (.tmp rfl) .int U.sub64) ?_
  refine O.pu (Pu.assign (.tmp (v:=.int _ _) rfl)) ?_
  refine O.nil ?_
  refine X.block ?_
  refine X.inv (fun k s=>∃ x0 x1 x6 x7 x8 n6 u11,s.t 0 = .fi .u64 x0∧s.t 1 = .int .u64 x1∧s.b 11=⟨u11, .own, .ints .u64 x6,57⟩∧s.t 6 = .os 11 u11 0 n6 true∧x6.length=n6∧s.t 7 = .int .u64 x7∧s.t 8 = .int .i64 x8∧quot_by.l0 k x0 x1 x6 x7 x8=some r) ?_ ?_ ⟨_,_,_,_,_,_,_,rfl,rfl,rfl,rfl,rfl,rfl,rfl,h⟩
  · rintro s ⟨_,_,_,_,_,_,_,_,_,_,_,_,_,_,h⟩;unfold quot_by.l0 at h;cases h
  · rintro k1 s1 ⟨x0,x1,x6,x7,x8,n6,u11,e0,e1,e2,e3,rfl,e5,e6,h⟩
    unfold quot_by.l0 at h
    rw [St.fixT e0,St.fixT e1,St.fixB e2,St.fixT e3,St.fixT e5,St.fixT e6]
    refine X.seq ?_
    refine X.seq ?_
    refine X.still ?_
    refine O.pu (Pu.move (.tmp (v:=.int _ _) rfl)) ?_
    refine O.pu (Pu.bin (.tmp rfl) .int .geq) ?_
    refine O.nil ?_
    refine X.condP (.tmp rfl) (fun c=>?_) (fun c=>?_)
    · rw [if_pos c] at h
      refine X.skip ?_
      refine X.seq ?_
      refine X.block ?_
      refine X.still ?_
      refine O.pu (Pu.move (.tmp (v:=.os _ _ _ _ _) rfl)) ?_
      refine O.pu (Pu.move (.tmp (v:=.int _ _) rfl)) ?_
      refine O.pu (Pu.move (.tmp (v:=.int _ _) rfl)) ?_
      refine O.pu (Pu.move (.tmp (v:=.fi _ _) rfl)) ?_
      refine O.pu (Pu.move (.tmp (v:=.int _ _) rfl)) ?_
      repeat (rw [giff] at h;obtain ⟨_,h⟩:=h)
      refine O.pu (U.rdI rfl rfl (.tmp rfl) (.tmp rfl) (by omega) (by omega)) ?_
      refine O.pu (Pu.loadR (.tmp rfl) (U.self rfl rfl rfl)) ?_
      refine O.pu (Pu.move (.tmp (v:=.int _ _) rfl)) ?_
      obtain ⟨q1,Hq1,h⟩:=Option.bind_eq_some_iff.1 h
      refine O.pu (U.call (ss:=[]) (.cons (.tmp (v:=.int _ _) rfl) (.cons (.tmp (v:=.int _ _) rfl) (.cons (.tmp (v:=.int _ _) rfl) .nil))) (.cons (.cl .int) (.cons (.cl .int) (.cons (.cl .int) .nil))) (bits_Div64.cs Hq1) (.inl rfl) (.tupL (.cons .int (.cons .int .nil)))) ?_
      refine O.pu (Pu.move (.tmp (v:=.tup _) rfl)) ?_
      refine O.pu (Pu.extract (.tmp rfl) rfl) ?_
      refine O.pu (Pu.extract (.tmp rfl) rfl) ?_
      repeat (rw [giff] at h;obtain ⟨_,h⟩:=h)
      refine O.pu (U.indexO0 rfl (.tmp rfl) rfl rfl (.tmp rfl) (by first|omega|(simp only [List.length_set] at *;omega)) (by first|omega|(simp only [List.length_set] at *;omega)) rfl rfl) ?_
      refine O.ef0 (U.storeE (.tmp rfl) rfl rfl (.tmp (v:=.int _ _) rfl) rfl rfl (.whole (notBad_ne rfl) rfl) .ints) ?_
      refine O.pu (Pu.assign (.tmp (v:=.int _ _) rfl)) ?_
      refine O.nil ?_
      refine X.still ?_
      refine O.pu (Pu.move (.tmp (v:=.int _ _) rfl)) ?_
      refine O.pu (Pu.bin (.tmp rfl) .int U.sub64) ?_
      refine O.pu (Pu.assign (.tmp (v:=.int _ _) rfl)) ?_
      refine O.nil ?_
      exact ⟨_,(by omega),_,_,_,_,_,_,_,rfl,rfl,rfl,rfl,(by first|rfl|(simp only [List.length_set];done)|(simp only [List.length_drop,List.length_take,List.length_append,List.length_set] at *;omega)),rfl,rfl,h⟩
    · rw [if_neg c] at h
      refine X.exit (B.out ?_)
      refine X.seq ?_
      refine X.still ?_
      refine O.pu (Pu.move (.tmp (v:=.os _ _ _ _ _) rfl)) ?_
      refine O.pu (Pu.move (.tmp (v:=.int _ _) rfl)) ?_
      refine O.pu (Pu.assign (.tmp (v:=.os _ _ _ _ _) rfl)) ?_
      refine O.pu (Pu.assign (.tmp (v:=.int _ _) rfl)) ?_
      refine O.nil ?_
      refine X.ret ?_
      cases h
      exact E.fin [11] (.tmp (v:=.os _ _ _ _ _) rfl (.tmp (v:=.int _ _) rfl .nil)) (.cons (.osIf (by simp) rfl (Mode.live_ne rfl) rfl (by first|rfl|(simp only [List.length_set];done)|(simp only [List.length_drop,List.length_take,List.length_append,List.length_set] at *;omega))) (.cons (.cl .int) .nil))
noncomputable def c120:Code:=Try.f120.body.getD .skip
theorem fn120:FnOk Try.prog 120 Try.f120 c120:=⟨Try.func120,rfl,by kernel_rfl,by kernel_rfl,mixed⟩
theorem quot_moved.cs {k:Nat} {l0:List Int} {a1:Int} {r:List Int} (h:quot_moved.f k l0 a1=some r):CS Try.prog 120 [.fi .u64 l0, .int .u64 a1] ⟨none,some (.ints .u64 r,57)⟩ [.os FRS 1 0 (Row.ints .u64 r).len true]:=by
  unfold quot_moved.f at h
  refine E.fresh fn120 rfl trivial ?_
  refine X.seq ?_
  refine X.still ?_
  refine O.ef (U.nilOE (u:=1) (row:=.ints .u64 []) (e:=57) rfl rfl) ?_
  refine O.nil ?_
  refine X.seq ?_
  refine X.still ?_
  refine O.pu (Pu.move (.tmp (v:=.fi _ _) rfl)) ?_
  refine O.pu (Pu.lenI rfl (.tmp rfl)) ?_
  refine O.pu (Pu.bin (.tmp rfl) .int U.add64) ?_
  repeat (rw [giff] at h;obtain ⟨_,h⟩:=h)
  refine O.puE (v':=.os 11 (1) 0 _ true) (b':=⟨1, .own,_,_⟩) (U.makeI rfl rfl (.tmp rfl) (.tmp rfl) (by omega) (by omega) rfl (by omega)) rfl rfl ?_
  refine O.pu (Pu.assign (.tmp (v:=.os _ _ _ _ _) rfl)) ?_
  refine O.nil ?_
  refine X.seq ?_
  refine X.seq ?_
  refine X.still ?_
  refine O.pu (Pu.move (.tmp (v:=.fi _ _) rfl)) ?_
  refine O.pu (Pu.lenI rfl (.tmp rfl)) ?_
  refine O.pu (Pu.move .int) ?_
  refine O.nil ?_
  refine X.block ?_
  refine X.inv (fun k s=>∃ x1 x5 x12 x13 x14 n5 u11,s.t 1 = .int .u64 x1∧s.b 11=⟨u11, .own, .ints .u64 x5,57⟩∧s.t 5 = .os 11 u11 0 n5 true∧x5.length=n5∧s.t 12 = .fi .u64 x12∧s.t 13 = .int .i64 x13∧s.t 14 = .int .i64 x14∧quot_moved.l0 k x1 x5 x12 x13 x14=some r) ?_ ?_ ⟨_,_,_,_,_,_,_,rfl,rfl,rfl,rfl,rfl,rfl,rfl,h⟩
  · rintro s ⟨_,_,_,_,_,_,_,_,_,_,_,_,_,_,h⟩;unfold quot_moved.l0 at h;cases h
  · rintro k1 s1 ⟨x1,x5,x12,x13,x14,n5,u11,e0,e1,e2,rfl,e4,e5,e6,h⟩
    unfold quot_moved.l0 at h
    rw [St.fixT e0,St.fixB e1,St.fixT e2,St.fixT e4,St.fixT e5,St.fixT e6]
    refine X.seq ?_
    refine X.still ?_
    refine O.pu (Pu.bin (.tmp rfl) (.tmp rfl) .lss) ?_
    refine O.nil ?_
    refine X.seq ?_
    refine X.condP (.tmp rfl) (fun c=>?_) (fun c=>?_)
    · rw [if_pos c] at h
      refine X.skip ?_
      refine X.seq ?_
      refine X.block ?_
      refine X.seq ?_
      refine X.still ?_
      refine O.pu (Pu.move (.tmp (v:=.int _ _) rfl)) ?_
      repeat (rw [giff] at h;obtain ⟨_,h⟩:=h)
      refine O.pu (U.rdI rfl rfl (.tmp rfl) (.tmp rfl) (by omega) (by omega)) ?_
      refine O.pu (Pu.loadR (.tmp rfl) (U.self rfl rfl rfl)) ?_
      refine O.pu (Pu.assign (.tmp (v:=.int _ _) rfl)) ?_
      refine O.pu (Pu.assign (.tmp (v:=.int _ _) rfl)) ?_
      refine O.nil ?_
      refine X.seq ?_
      refine X.still ?_
      refine O.pu (Pu.move (.tmp (v:=.os _ _ _ _ _) rfl)) ?_
      refine O.pu (Pu.move (.tmp (v:=.int _ _) rfl)) ?_
      refine O.pu (U.indexO0 rfl (.tmp rfl) rfl rfl (.tmp rfl) (by first|omega|(simp only [List.length_set] at *;omega)) (by first|omega|(simp only [List.length_set] at *;omega)) rfl rfl) ?_
      refine O.pu (U.rdO (.tmp rfl) rfl rfl rfl rfl rfl) ?_
      refine O.pu (Pu.move (.tmp (v:=.int _ _) rfl)) ?_
      refine O.pu (Pu.move (.tmp (v:=.int _ _) rfl)) ?_
      refine O.pu (Pu.bin (.tmp rfl) (.tmp rfl) (U.shlW (by omega))) ?_
      refine O.pu (Pu.bin (.tmp rfl) (.tmp rfl) .bor) ?_
      refine O.pu (U.indexO0 rfl (.tmp rfl) rfl rfl (.tmp rfl) (by first|omega|(simp only [List.length_set] at *;omega)) (by first|omega|(simp only [List.length_set] at *;omega)) rfl rfl) ?_
      refine O.ef0 (U.storeE (.tmp rfl) rfl rfl (.tmp (v:=.int _ _) rfl) rfl rfl (.whole (notBad_ne rfl) rfl) .ints) ?_
      refine O.nil ?_
      refine X.still ?_
      refine O.pu (Pu.move (.tmp (v:=.os _ _ _ _ _) rfl)) ?_
      refine O.pu (Pu.move (.tmp (v:=.int _ _) rfl)) ?_
      refine O.pu (Pu.bin (.tmp rfl) .int U.add64) ?_
      refine O.pu (Pu.move (.tmp (v:=.int _ _) rfl)) ?_
      refine O.pu (Pu.move (.tmp (v:=.int _ _) rfl)) ?_
      refine O.pu (Pu.bin .int (.tmp rfl) .sub) ?_
      refine O.pu (Pu.bin (.tmp rfl) (.tmp rfl) (U.shrW (by omega))) ?_
      refine O.pu (U.indexO0 rfl (.tmp rfl) rfl rfl (.tmp rfl) (by first|omega|(simp only [List.length_set] at *;omega)) (by first|omega|(simp only [List.length_set] at *;omega)) rfl rfl) ?_
      refine O.ef0 (U.storeE (.tmp rfl) rfl rfl (.tmp (v:=.int _ _) rfl) rfl rfl (.whole (notBad_ne rfl) rfl) .ints) ?_
      refine O.nil ?_
      refine X.still ?_
      refine O.pu (Pu.bin (.tmp rfl) .int U.add64) ?_
      refine O.pu (Pu.move (.tmp (v:=.int _ _) rfl)) ?_
      refine O.nil ?_
      exact ⟨_,(by omega),_,_,_,_,_,_,_,rfl,rfl,rfl,(by first|rfl|(simp only [List.length_set];done)|(simp only [List.length_drop,List.length_take,List.length_append,List.length_set] at *;omega)),rfl,rfl,rfl,h⟩
    · rw [if_neg c] at h
      refine X.exit (B.out ?_)
      refine X.seq ?_
      refine X.still ?_
      refine O.pu (Pu.move (.tmp (v:=.os _ _ _ _ _) rfl)) ?_
      refine O.ef (U.takeE (u':=(s1.b 4).ver + 1) (.tmp rfl) rfl (ne_of_beq rfl) rfl) ?_
      refine O.nil ?_
      refine X.ret ?_
      cases h
      exact E.finF (s:=4) (.tmp (v:=.os _ _ _ _ _) rfl .nil) rfl
noncomputable def c117:Code:=Try.f117.body.getD .skip
theorem fn117:FnOk Try.prog 117 Try.f117 c117:=⟨Try.func117,rfl,by kernel_rfl,by kernel_rfl,mixed⟩
theorem bits_Mul64.cs {a0:Int} {a1:Int} {r:Int×Int} (h:bits_Mul64.f a0 a1=some r):CS Try.prog 117 [.int .u64 a0, .int .u64 a1] .no [.int .u64 r.1, .int .u64 r.2]:=by
  unfold bits_Mul64.f at h
  refine E.pure fn117 rfl ?_
  refine X.seq ?_
  refine X.still ?_
  refine O.pu (Pu.assign .int) ?_
  refine O.pu (Pu.assign .int) ?_
  refine O.nil ?_
  refine X.seq ?_
  refine X.still ?_
  refine O.pu (Pu.move (.tmp (v:=.int _ _) rfl)) ?_
  refine O.pu (Pu.bin (.tmp rfl) .int .band) ?_
  refine O.pu (Pu.assign (.tmp (v:=.int _ _) rfl)) ?_
  refine O.nil ?_
  refine X.seq ?_
  refine X.still ?_
  refine O.pu (Pu.move (.tmp (v:=.int _ _) rfl)) ?_
  refine O.pu (Pu.bin (.tmp rfl) .int (U.shrC 4294967296 (by decide) (by decide))) ?_
  refine O.pu (Pu.assign (.tmp (v:=.int _ _) rfl)) ?_
  refine O.nil ?_
  refine X.seq ?_
  refine X.still ?_
  refine O.pu (Pu.move (.tmp (v:=.int _ _) rfl)) ?_
  refine O.pu (Pu.bin (.tmp rfl) .int .band) ?_
  refine O.pu (Pu.assign (.tmp (v:=.int _ _) rfl)) ?_
  refine O.nil ?_
  refine X.seq ?_
  refine X.still ?_
  refine O.pu (Pu.move (.tmp (v:=.int _ _) rfl)) ?_
  refine O.pu (Pu.bin (.tmp rfl) .int (U.shrC 4294967296 (by decide) (by decide))) ?_
  refine O.pu (Pu.assign (.tmp (v:=.int _ _) rfl)) ?_
  refine O.nil ?_
  refine X.seq ?_
  refine X.still ?_
  refine O.pu (Pu.move (.tmp (v:=.int _ _) rfl)) ?_
  refine O.pu (Pu.move (.tmp (v:=.int _ _) rfl)) ?_
  refine O.pu (Pu.bin (.tmp rfl) (.tmp rfl) .mul) ?_
  refine O.pu (Pu.assign (.tmp (v:=.int _ _) rfl)) ?_
  refine O.nil ?_
  refine X.seq ?_
  refine X.still ?_
  refine O.pu (Pu.move (.tmp (v:=.int _ _) rfl)) ?_
  refine O.pu (Pu.move (.tmp (v:=.int _ _) rfl)) ?_
  refine O.pu (Pu.bin (.tmp rfl) (.tmp rfl) .mul) ?_
  refine O.pu (Pu.move (.tmp (v:=.int _ _) rfl)) ?_
  refine O.pu (Pu.bin (.tmp rfl) .int (U.shrC 4294967296 (by decide) (by decide))) ?_
  refine O.pu (Pu.bin (.tmp rfl) (.tmp rfl) .add) ?_
  refine O.pu (Pu.assign (.tmp (v:=.int _ _) rfl)) ?_
  refine O.nil ?_
  refine X.seq ?_
  refine X.still ?_
  refine O.pu (Pu.move (.tmp (v:=.int _ _) rfl)) ?_
  refine O.pu (Pu.bin (.tmp rfl) .int .band) ?_
  refine O.pu (Pu.assign (.tmp (v:=.int _ _) rfl)) ?_
  refine O.nil ?_
  refine X.seq ?_
  refine X.still ?_
  refine O.pu (Pu.move (.tmp (v:=.int _ _) rfl)) ?_
  refine O.pu (Pu.bin (.tmp rfl) .int (U.shrC 4294967296 (by decide) (by decide))) ?_
  refine O.pu (Pu.assign (.tmp (v:=.int _ _) rfl)) ?_
  refine O.nil ?_
  refine X.seq ?_
  refine X.still ?_
  refine O.pu (Pu.move (.tmp (v:=.int _ _) rfl)) ?_
  refine O.pu (Pu.move (.tmp (v:=.int _ _) rfl)) ?_
  refine O.pu (Pu.move (.tmp (v:=.int _ _) rfl)) ?_
  refine O.pu (Pu.bin (.tmp rfl) (.tmp rfl) .mul) ?_
  refine O.pu (Pu.bin (.tmp rfl) (.tmp rfl) .add) ?_
  refine O.pu (Pu.assign (.tmp (v:=.int _ _) rfl)) ?_
  refine O.nil ?_
  refine X.seq ?_
  refine X.still ?_
  refine O.pu (Pu.move (.tmp (v:=.int _ _) rfl)) ?_
  refine O.pu (Pu.move (.tmp (v:=.int _ _) rfl)) ?_
  refine O.pu (Pu.bin (.tmp rfl) (.tmp rfl) .mul) ?_
  refine O.pu (Pu.move (.tmp (v:=.int _ _) rfl)) ?_
  refine O.pu (Pu.bin (.tmp rfl) (.tmp rfl) .add) ?_
  refine O.pu (Pu.move (.tmp (v:=.int _ _) rfl)) ?_
  refine O.pu (Pu.bin (.tmp rfl) .int (U.shrC 4294967296 (by decide) (by decide))) ?_
  refine O.pu (Pu.bin (.tmp rfl) (.tmp rfl) .add) ?_
  refine O.pu (Pu.assign (.tmp (v:=.int _ _) rfl)) ?_
  refine O.nil ?_
  refine X.seq ?_
  refine X.still ?_
  refine O.pu (Pu.move (.tmp (v:=.int _ _) rfl)) ?_
  refine O.pu (Pu.move (.tmp (v:=.int _ _) rfl)) ?_
  refine O.pu (Pu.bin (.tmp rfl) (.tmp rfl) .mul) ?_
  refine O.pu (Pu.assign (.tmp (v:=.int _ _) rfl)) ?_
  refine O.nil ?_
  refine X.ret ?_
  cases h
  exact E.fin [] (.tmp (v:=.int _ _) rfl (.tmp (v:=.int _ _) rfl .nil)) (.cons (.cl .int) (.cons (.cl .int) .nil))
theorem quot_guess.j1_e {k y0 y1 y2 y3 y4 y5 r}:(quot_guess.j1 k y0 y1 y2 y3 y4 y5=some r) = ∃ j,k=j + 1∧quot_guess.j1 (j + 1) y0 y1 y2 y3 y4 y5=some r:=propext ⟨fun h=>by cases k with|zero=>(unfold quot_guess.j1 at h;cases h)|succ k=>exact ⟨k,rfl,h⟩,fun ⟨j,hj,h⟩=>by subst hj;exact h⟩
theorem quot_guess.l0_e {k y0 y1 y2 y3 y4 r}:(quot_guess.l0 k y0 y1 y2 y3 y4=some r) = ∃ j,k=j + 1∧quot_guess.l0 (j + 1) y0 y1 y2 y3 y4=some r:=propext ⟨fun h=>by cases k with|zero=>(unfold quot_guess.l0 at h;cases h)|succ k=>exact ⟨k,rfl,h⟩,fun ⟨j,hj,h⟩=>by subst hj;exact h⟩
noncomputable def c121:Code:=Try.f121.body.getD .skip
theorem fn121:FnOk Try.prog 121 Try.f121 c121:=⟨Try.func121,rfl,by kernel_rfl,by kernel_rfl,mixed⟩
theorem quot_guess.cs {k:Nat} {l0:List Int} {l1:List Int} {r:Int} (h:quot_guess.f k l0 l1=some r):CS Try.prog 121 [.fi .u64 l0, .fi .u64 l1] .no [.int .u64 r]:=by
  unfold quot_guess.f at h
  refine E.pure fn121 rfl ?_
  refine X.seq ?_
  refine X.still ?_
  refine O.pu (Pu.assign .int) ?_
  refine O.nil ?_
  refine X.scope (fun k l s=>l=0∧∃ x1 x5 x8 x9 x10,s.t 1 = .fi .u64 x1∧s.t 5 = .int .i64 x5∧s.t 8 = .int .u64 x8∧s.t 9 = .int .u64 x9∧s.t 10 = .int .u64 x10∧quot_guess.l0 k x1 x5 x8 x9 x10=some r) ?_ ?_ ?_
  · rintro l s ⟨_,_,_,_,_,_,_,_,_,_,_,h⟩;unfold quot_guess.l0 at h;cases h
  · rintro k1 _ s1 ⟨rfl,x1,x5,x8,x9,x10,e0,e1,e2,e3,e4,h⟩
    unfold quot_guess.l0 at h;try dsimp only at h
    rw [St.fixT e0,St.fixT e1,St.fixT e2,St.fixT e3,St.fixT e4]
    refine L.right rfl ?_
    refine L.right rfl ?_
    refine L.right rfl ?_
    refine L.right rfl ?_
    refine L.left rfl ?_
    refine L.label ?_
    refine X.seq ?_
    refine X.still ?_
    refine O.pu (Pu.move (.tmp (v:=.int _ _) rfl)) ?_
    refine O.pu (Pu.move (.tmp (v:=.fi _ _) rfl)) ?_
    refine O.pu (Pu.move (.tmp (v:=.int _ _) rfl)) ?_
    refine O.pu (Pu.bin (.tmp rfl) .int U.sub64) ?_
    repeat (rw [giff] at h;obtain ⟨_,h⟩:=h)
    refine O.pu (U.rdI rfl rfl (.tmp rfl) (.tmp rfl) (by omega) (by omega)) ?_
    refine O.pu (Pu.loadR (.tmp rfl) (U.self rfl rfl rfl)) ?_
    obtain ⟨q1,Hq1,h⟩:=Option.bind_eq_some_iff.1 h
    refine O.pu (U.call (ss:=[]) (.cons (.tmp (v:=.int _ _) rfl) (.cons (.tmp (v:=.int _ _) rfl) .nil)) (.cons (.cl .int) (.cons (.cl .int) .nil)) (bits_Mul64.cs Hq1) (.inl rfl) (.tupL (.cons .int (.cons .int .nil)))) ?_
    refine O.pu (Pu.move (.tmp (v:=.tup _) rfl)) ?_
    refine O.pu (Pu.extract (.tmp rfl) rfl) ?_
    refine O.pu (Pu.extract (.tmp rfl) rfl) ?_
    refine O.pu (Pu.assign (.tmp (v:=.int _ _) rfl)) ?_
    refine O.pu (Pu.assign (.tmp (v:=.int _ _) rfl)) ?_
    refine O.nil ?_
    refine X.seq ?_
    refine X.seq ?_
    refine X.still ?_
    refine O.pu (Pu.move (.tmp (v:=.int _ _) rfl)) ?_
    refine O.pu (Pu.move (.tmp (v:=.int _ _) rfl)) ?_
    refine O.pu (Pu.bin (.tmp rfl) (.tmp rfl) .lss) ?_
    refine O.pu (Pu.move (.tmp (v:=.bool _) rfl)) ?_
    refine O.splitP (fun c=>?_) (fun c=>?_)
    · rw [if_pos c] at h
      refine G.skip (W.f rfl rfl rfl) ?_
      refine G.skip (W.f rfl rfl rfl) ?_
      refine G.skip (W.f rfl rfl rfl) ?_
      refine G.skipN (b:=true) (W.f rfl rfl rfl) ?_
      refine G.skip (W.n rfl rfl) ?_
      refine G.skip (W.n rfl rfl) ?_
      refine G.skip (W.n rfl rfl) ?_
      refine G.skip (W.f rfl rfl rfl) ?_
      refine O.pu (Pu.pickT (.tmp rfl) .bool) ?_
      refine O.nil ?_
      repeat (rw [quot_guess.j1_e] at h;obtain ⟨k,_,h⟩:=h;unfold quot_guess.j1 at h;try dsimp only at h)
      rw [if_pos rfl] at h
      refine X.condT (.tmp rfl) ?_
      refine X.seq ?_
      refine X.still ?_
      refine O.pu (Pu.move (.tmp (v:=.int _ _) rfl)) ?_
      refine O.pu (Pu.assign (.tmp (v:=.int _ _) rfl)) ?_
      refine O.nil ?_
      refine X.ret ?_
      cases h
      exact E.fin [] (.tmp (v:=.int _ _) rfl .nil) (.cons (.cl .int) .nil)
    · rw [if_neg c] at h
      refine G.pu (W.t rfl rfl) (Pu.move (.tmp (v:=.int _ _) rfl)) ?_
      refine G.pu (W.t rfl rfl) (Pu.move (.tmp (v:=.int _ _) rfl)) ?_
      refine G.pu (W.t rfl rfl) (Pu.bin (.tmp rfl) (.tmp rfl) .eql) ?_
      refine G.pu (W.t rfl rfl) (Pu.move (.tmp (v:=.bool _) rfl)) ?_
      refine O.splitE (fun c=>?_) (fun c=>?_)
      · rw [if_pos c] at h
        refine G.pu (W.t rfl rfl) (Pu.move (.tmp (v:=.int _ _) rfl)) ?_
        refine G.pu (W.t rfl rfl) (Pu.move (.tmp (v:=.int _ _) rfl)) ?_
        refine G.pu (W.t rfl rfl) (Pu.bin (.tmp rfl) (.tmp rfl) .leq) ?_
        refine G.pu (W.t rfl rfl) (Pu.pickT (.tmp rfl) (.tmp (v:=.bool _) rfl)) ?_
        refine O.pu (Pu.pickF (.tmp rfl) (.tmp (v:=.bool _) rfl)) ?_
        refine O.nil ?_
        repeat (rw [quot_guess.j1_e] at h;obtain ⟨k,_,h⟩:=h;unfold quot_guess.j1 at h;try dsimp only at h)
        refine X.condP (.tmp rfl) (fun c=>?_) (fun c=>?_)
        · rw [if_pos (decide_eq_true c)] at h
          refine X.seq ?_
          refine X.still ?_
          refine O.pu (Pu.move (.tmp (v:=.int _ _) rfl)) ?_
          refine O.pu (Pu.assign (.tmp (v:=.int _ _) rfl)) ?_
          refine O.nil ?_
          refine X.ret ?_
          cases h
          exact E.fin [] (.tmp (v:=.int _ _) rfl .nil) (.cons (.cl .int) .nil)
        · rw [if_neg (nd c)] at h
          refine X.skip ?_
          refine X.seq ?_
          refine X.still ?_
          refine O.pu (Pu.move (.tmp (v:=.int _ _) rfl)) ?_
          refine O.pu (Pu.bin (.tmp rfl) .int .sub) ?_
          refine O.pu (Pu.assign (.tmp (v:=.int _ _) rfl)) ?_
          refine O.nil ?_
          refine X.seq ?_
          refine X.still ?_
          refine O.pu (Pu.move (.tmp (v:=.int _ _) rfl)) ?_
          refine O.pu (Pu.move (.tmp (v:=.fi _ _) rfl)) ?_
          refine O.pu (Pu.move (.tmp (v:=.int _ _) rfl)) ?_
          refine O.pu (Pu.bin (.tmp rfl) .int U.sub64) ?_
          repeat (rw [giff] at h;obtain ⟨_,h⟩:=h)
          refine O.pu (U.rdI rfl rfl (.tmp rfl) (.tmp rfl) (by omega) (by omega)) ?_
          refine O.pu (Pu.loadR (.tmp rfl) (U.self rfl rfl rfl)) ?_
          refine O.pu (U.call (ss:=[]) (.cons (.tmp (v:=.int _ _) rfl) (.cons (.tmp (v:=.int _ _) rfl) (.cons .int .nil))) (.cons (.cl .int) (.cons (.cl .int) (.cons (.cl .int) .nil))) (add64_cs (by omega)) (.inl rfl) (.tupL (.cons .int (.cons .int .nil)))) ?_
          refine O.pu (Pu.move (.tmp (v:=.tup _) rfl)) ?_
          refine O.pu (Pu.extract (.tmp rfl) rfl) ?_
          refine O.pu (Pu.extract (.tmp rfl) rfl) ?_
          refine O.pu (Pu.assign (.tmp (v:=.int _ _) rfl)) ?_
          refine O.pu (Pu.assign (.tmp (v:=.int _ _) rfl)) ?_
          refine O.nil ?_
          refine X.seq ?_
          refine X.still ?_
          refine O.pu (Pu.move (.tmp (v:=.int _ _) rfl)) ?_
          refine O.pu (Pu.assign (.tmp (v:=.int _ _) rfl)) ?_
          refine O.nil ?_
          refine X.seq ?_
          refine X.seq ?_
          refine X.still ?_
          refine O.pu (Pu.move (.tmp (v:=.int _ _) rfl)) ?_
          refine O.pu (Pu.bin (.tmp rfl) .int .eql) ?_
          refine O.nil ?_
          refine X.condE (.tmp rfl) (fun c=>?_) (fun c=>?_)
          · rw [if_pos c] at h
            exact ⟨rfl,_,(by omega),rfl,_,_,_,_,_,rfl,rfl,rfl,rfl,rfl,h⟩
          · rw [if_neg c] at h
            refine X.skip ?_
            refine X.seq ?_
            refine X.still ?_
            refine O.pu (Pu.move (.tmp (v:=.int _ _) rfl)) ?_
            refine O.pu (Pu.assign (.tmp (v:=.int _ _) rfl)) ?_
            refine O.nil ?_
            refine X.ret ?_
            cases h
            exact E.fin [] (.tmp (v:=.int _ _) rfl .nil) (.cons (.cl .int) .nil)
      · rw [if_neg c] at h
        refine G.skip (W.f rfl rfl rfl) ?_
        refine G.skip (W.f rfl rfl rfl) ?_
        refine G.skip (W.f rfl rfl rfl) ?_
        refine G.pu (W.t rfl rfl) (Pu.pickF (.tmp rfl) .bool) ?_
        refine O.pu (Pu.pickF (.tmp rfl) (.tmp (v:=.bool _) rfl)) ?_
        refine O.nil ?_
        repeat (rw [quot_guess.j1_e] at h;obtain ⟨k,_,h⟩:=h;unfold quot_guess.j1 at h;try dsimp only at h)
        rw [if_neg Bool.false_ne_true] at h
        refine X.condF (.tmp rfl) ?_
        refine X.skip ?_
        refine X.seq ?_
        refine X.still ?_
        refine O.pu (Pu.move (.tmp (v:=.int _ _) rfl)) ?_
        refine O.pu (Pu.bin (.tmp rfl) .int .sub) ?_
        refine O.pu (Pu.assign (.tmp (v:=.int _ _) rfl)) ?_
        refine O.nil ?_
        refine X.seq ?_
        refine X.still ?_
        refine O.pu (Pu.move (.tmp (v:=.int _ _) rfl)) ?_
        refine O.pu (Pu.move (.tmp (v:=.fi _ _) rfl)) ?_
        refine O.pu (Pu.move (.tmp (v:=.int _ _) rfl)) ?_
        refine O.pu (Pu.bin (.tmp rfl) .int U.sub64) ?_
        repeat (rw [giff] at h;obtain ⟨_,h⟩:=h)
        refine O.pu (U.rdI rfl rfl (.tmp rfl) (.tmp rfl) (by omega) (by omega)) ?_
        refine O.pu (Pu.loadR (.tmp rfl) (U.self rfl rfl rfl)) ?_
        refine O.pu (U.call (ss:=[]) (.cons (.tmp (v:=.int _ _) rfl) (.cons (.tmp (v:=.int _ _) rfl) (.cons .int .nil))) (.cons (.cl .int) (.cons (.cl .int) (.cons (.cl .int) .nil))) (add64_cs (by omega)) (.inl rfl) (.tupL (.cons .int (.cons .int .nil)))) ?_
        refine O.pu (Pu.move (.tmp (v:=.tup _) rfl)) ?_
        refine O.pu (Pu.extract (.tmp rfl) rfl) ?_
        refine O.pu (Pu.extract (.tmp rfl) rfl) ?_
        refine O.pu (Pu.assign (.tmp (v:=.int _ _) rfl)) ?_
        refine O.pu (Pu.assign (.tmp (v:=.int _ _) rfl)) ?_
        refine O.nil ?_
        refine X.seq ?_
        refine X.still ?_
        refine O.pu (Pu.move (.tmp (v:=.int _ _) rfl)) ?_
        refine O.pu (Pu.assign (.tmp (v:=.int _ _) rfl)) ?_
        refine O.nil ?_
        refine X.seq ?_
        refine X.seq ?_
        refine X.still ?_
        refine O.pu (Pu.move (.tmp (v:=.int _ _) rfl)) ?_
        refine O.pu (Pu.bin (.tmp rfl) .int .eql) ?_
        refine O.nil ?_
        refine X.condE (.tmp rfl) (fun c=>?_) (fun c=>?_)
        · rw [if_pos c] at h
          exact ⟨rfl,_,(by omega),rfl,_,_,_,_,_,rfl,rfl,rfl,rfl,rfl,h⟩
        · rw [if_neg c] at h
          refine X.skip ?_
          refine X.seq ?_
          refine X.still ?_
          refine O.pu (Pu.move (.tmp (v:=.int _ _) rfl)) ?_
          refine O.pu (Pu.assign (.tmp (v:=.int _ _) rfl)) ?_
          refine O.nil ?_
          refine X.ret ?_
          cases h
          exact E.fin [] (.tmp (v:=.int _ _) rfl .nil) (.cons (.cl .int) .nil)
  · refine X.seq ?_
    refine X.still ?_
    refine O.pu (Pu.move (.tmp (v:=.fi _ _) rfl)) ?_
    refine O.pu (Pu.lenI rfl (.tmp rfl)) ?_
    refine O.pu (Pu.assign (.tmp (v:=.int _ _) rfl)) ?_
    refine O.nil ?_
    refine X.seq ?_
    refine X.drawn ?_
    refine D.pu (Pu.move (.tmp (v:=.fi _ _) rfl)) ?_
    refine D.pu (Pu.move (.tmp (v:=.int _ _) rfl)) ?_
    repeat (rw [giff] at h;obtain ⟨_,h⟩:=h)
    refine D.pu (U.rdI rfl rfl (.tmp rfl) (.tmp rfl) (by omega) (by omega)) ?_
    refine D.pu (Pu.loadR (.tmp rfl) (U.self rfl rfl rfl)) ?_
    refine D.pu (Pu.move (.tmp (v:=.fi _ _) rfl)) ?_
    refine D.pu (Pu.move (.tmp (v:=.int _ _) rfl)) ?_
    refine D.pu (Pu.bin (.tmp rfl) .int U.sub64) ?_
    refine D.pu (U.rdI rfl rfl (.tmp rfl) (.tmp rfl) (by omega) (by omega)) ?_
    refine D.pu (Pu.loadR (.tmp rfl) (U.self rfl rfl rfl)) ?_
    refine D.pu (Pu.move (.tmp (v:=.fi _ _) rfl)) ?_
    refine D.pu (Pu.move (.tmp (v:=.int _ _) rfl)) ?_
    refine D.pu (Pu.bin (.tmp rfl) .int U.sub64) ?_
    refine D.pu (U.rdI rfl rfl (.tmp rfl) (.tmp rfl) (by omega) (by omega)) ?_
    refine D.pu (Pu.loadR (.tmp rfl) (U.self rfl rfl rfl)) ?_
    refine D.pu (Pu.assign (.tmp (v:=.int _ _) rfl)) ?_
    refine D.pu (Pu.assign (.tmp (v:=.int _ _) rfl)) ?_
    refine D.pu (Pu.assign (.tmp (v:=.int _ _) rfl)) ?_
    refine D.nil (by kernel_rfl) ?_
    refine X.seq ?_
    refine X.seq ?_
    refine X.still ?_
    refine O.pu (Pu.move (.tmp (v:=.int _ _) rfl)) ?_
    refine O.pu (Pu.move (.tmp (v:=.fi _ _) rfl)) ?_
    refine O.pu (Pu.move (.tmp (v:=.int _ _) rfl)) ?_
    refine O.pu (Pu.bin (.tmp rfl) .int U.sub64) ?_
    refine O.pu (U.rdI rfl rfl (.tmp rfl) (.tmp rfl) (by omega) (by omega)) ?_
    refine O.pu (Pu.loadR (.tmp rfl) (U.self rfl rfl rfl)) ?_
    refine O.pu (Pu.bin (.tmp rfl) (.tmp rfl) .geq) ?_
    refine O.nil ?_
    refine X.condP (.tmp rfl) (fun c=>?_) (fun c=>?_)
    · rw [if_pos c] at h
      refine X.seq ?_
      refine X.still ?_
      refine O.pu (Pu.assign .int) ?_
      refine O.nil ?_
      refine X.ret ?_
      cases h
      exact E.fin [] (.tmp (v:=.int _ _) rfl .nil) (.cons (.cl .int) .nil)
    · rw [if_neg c] at h
      refine X.skip ?_
      refine X.seq ?_
      refine X.still ?_
      refine O.pu (Pu.move (.tmp (v:=.int _ _) rfl)) ?_
      refine O.pu (Pu.move (.tmp (v:=.int _ _) rfl)) ?_
      refine O.pu (Pu.move (.tmp (v:=.fi _ _) rfl)) ?_
      refine O.pu (Pu.move (.tmp (v:=.int _ _) rfl)) ?_
      refine O.pu (Pu.bin (.tmp rfl) .int U.sub64) ?_
      refine O.pu (U.rdI rfl rfl (.tmp rfl) (.tmp rfl) (by omega) (by omega)) ?_
      refine O.pu (Pu.loadR (.tmp rfl) (U.self rfl rfl rfl)) ?_
      obtain ⟨q4,Hq4,h⟩:=Option.bind_eq_some_iff.1 h
      refine O.pu (U.call (ss:=[]) (.cons (.tmp (v:=.int _ _) rfl) (.cons (.tmp (v:=.int _ _) rfl) (.cons (.tmp (v:=.int _ _) rfl) .nil))) (.cons (.cl .int) (.cons (.cl .int) (.cons (.cl .int) .nil))) (bits_Div64.cs Hq4) (.inl rfl) (.tupL (.cons .int (.cons .int .nil)))) ?_
      refine O.pu (Pu.move (.tmp (v:=.tup _) rfl)) ?_
      refine O.pu (Pu.extract (.tmp rfl) rfl) ?_
      refine O.pu (Pu.extract (.tmp rfl) rfl) ?_
      refine O.pu (Pu.assign (.tmp (v:=.int _ _) rfl)) ?_
      refine O.pu (Pu.assign (.tmp (v:=.int _ _) rfl)) ?_
      refine O.nil ?_
      refine X.seq ?_
      refine X.label ?_
      refine X.seq ?_
      refine X.still ?_
      refine O.pu (Pu.move (.tmp (v:=.int _ _) rfl)) ?_
      refine O.pu (Pu.move (.tmp (v:=.fi _ _) rfl)) ?_
      refine O.pu (Pu.move (.tmp (v:=.int _ _) rfl)) ?_
      refine O.pu (Pu.bin (.tmp rfl) .int U.sub64) ?_
      repeat first|(rw [giff] at h;obtain ⟨_,h⟩:=h)|(rw [quot_guess.l0_e] at h;obtain ⟨k,_,h⟩:=h;unfold quot_guess.l0 at h;try dsimp only at h)
      refine O.pu (U.rdI rfl rfl (.tmp rfl) (.tmp rfl) (by omega) (by omega)) ?_
      refine O.pu (Pu.loadR (.tmp rfl) (U.self rfl rfl rfl)) ?_
      obtain ⟨q5,Hq5,h⟩:=Option.bind_eq_some_iff.1 h
      refine O.pu (U.call (ss:=[]) (.cons (.tmp (v:=.int _ _) rfl) (.cons (.tmp (v:=.int _ _) rfl) .nil)) (.cons (.cl .int) (.cons (.cl .int) .nil)) (bits_Mul64.cs Hq5) (.inl rfl) (.tupL (.cons .int (.cons .int .nil)))) ?_
      refine O.pu (Pu.move (.tmp (v:=.tup _) rfl)) ?_
      refine O.pu (Pu.extract (.tmp rfl) rfl) ?_
      refine O.pu (Pu.extract (.tmp rfl) rfl) ?_
      refine O.pu (Pu.assign (.tmp (v:=.int _ _) rfl)) ?_
      refine O.pu (Pu.assign (.tmp (v:=.int _ _) rfl)) ?_
      refine O.nil ?_
      refine X.seq ?_
      refine X.seq ?_
      refine X.still ?_
      refine O.pu (Pu.move (.tmp (v:=.int _ _) rfl)) ?_
      refine O.pu (Pu.move (.tmp (v:=.int _ _) rfl)) ?_
      refine O.pu (Pu.bin (.tmp rfl) (.tmp rfl) .lss) ?_
      refine O.pu (Pu.move (.tmp (v:=.bool _) rfl)) ?_
      refine O.splitP (fun c=>?_) (fun c=>?_)
      · rw [if_pos c] at h
        refine G.skip (W.f rfl rfl rfl) ?_
        refine G.skip (W.f rfl rfl rfl) ?_
        refine G.skip (W.f rfl rfl rfl) ?_
        refine G.skipN (b:=true) (W.f rfl rfl rfl) ?_
        refine G.skip (W.n rfl rfl) ?_
        refine G.skip (W.n rfl rfl) ?_
        refine G.skip (W.n rfl rfl) ?_
        refine G.skip (W.f rfl rfl rfl) ?_
        refine O.pu (Pu.pickT (.tmp rfl) .bool) ?_
        refine O.nil ?_
        repeat (rw [quot_guess.j1_e] at h;obtain ⟨k,_,h⟩:=h;unfold quot_guess.j1 at h;try dsimp only at h)
        rw [if_pos rfl] at h
        refine X.condT (.tmp rfl) ?_
        refine X.seq ?_
        refine X.still ?_
        refine O.pu (Pu.move (.tmp (v:=.int _ _) rfl)) ?_
        refine O.pu (Pu.assign (.tmp (v:=.int _ _) rfl)) ?_
        refine O.nil ?_
        refine X.ret ?_
        cases h
        exact E.fin [] (.tmp (v:=.int _ _) rfl .nil) (.cons (.cl .int) .nil)
      · rw [if_neg c] at h
        refine G.pu (W.t rfl rfl) (Pu.move (.tmp (v:=.int _ _) rfl)) ?_
        refine G.pu (W.t rfl rfl) (Pu.move (.tmp (v:=.int _ _) rfl)) ?_
        refine G.pu (W.t rfl rfl) (Pu.bin (.tmp rfl) (.tmp rfl) .eql) ?_
        refine G.pu (W.t rfl rfl) (Pu.move (.tmp (v:=.bool _) rfl)) ?_
        refine O.splitE (fun c=>?_) (fun c=>?_)
        · rw [if_pos c] at h
          refine G.pu (W.t rfl rfl) (Pu.move (.tmp (v:=.int _ _) rfl)) ?_
          refine G.pu (W.t rfl rfl) (Pu.move (.tmp (v:=.int _ _) rfl)) ?_
          refine G.pu (W.t rfl rfl) (Pu.bin (.tmp rfl) (.tmp rfl) .leq) ?_
          refine G.pu (W.t rfl rfl) (Pu.pickT (.tmp rfl) (.tmp (v:=.bool _) rfl)) ?_
          refine O.pu (Pu.pickF (.tmp rfl) (.tmp (v:=.bool _) rfl)) ?_
          refine O.nil ?_
          repeat (rw [quot_guess.j1_e] at h;obtain ⟨k,_,h⟩:=h;unfold quot_guess.j1 at h;try dsimp only at h)
          refine X.condP (.tmp rfl) (fun c=>?_) (fun c=>?_)
          · rw [if_pos (decide_eq_true c)] at h
            refine X.seq ?_
            refine X.still ?_
            refine O.pu (Pu.move (.tmp (v:=.int _ _) rfl)) ?_
            refine O.pu (Pu.assign (.tmp (v:=.int _ _) rfl)) ?_
            refine O.nil ?_
            refine X.ret ?_
            cases h
            exact E.fin [] (.tmp (v:=.int _ _) rfl .nil) (.cons (.cl .int) .nil)
          · rw [if_neg (nd c)] at h
            refine X.skip ?_
            refine X.seq ?_
            refine X.still ?_
            refine O.pu (Pu.move (.tmp (v:=.int _ _) rfl)) ?_
            refine O.pu (Pu.bin (.tmp rfl) .int .sub) ?_
            refine O.pu (Pu.assign (.tmp (v:=.int _ _) rfl)) ?_
            refine O.nil ?_
            refine X.seq ?_
            refine X.still ?_
            refine O.pu (Pu.move (.tmp (v:=.int _ _) rfl)) ?_
            refine O.pu (Pu.move (.tmp (v:=.fi _ _) rfl)) ?_
            refine O.pu (Pu.move (.tmp (v:=.int _ _) rfl)) ?_
            refine O.pu (Pu.bin (.tmp rfl) .int U.sub64) ?_
            repeat (rw [giff] at h;obtain ⟨_,h⟩:=h)
            refine O.pu (U.rdI rfl rfl (.tmp rfl) (.tmp rfl) (by omega) (by omega)) ?_
            refine O.pu (Pu.loadR (.tmp rfl) (U.self rfl rfl rfl)) ?_
            refine O.pu (U.call (ss:=[]) (.cons (.tmp (v:=.int _ _) rfl) (.cons (.tmp (v:=.int _ _) rfl) (.cons .int .nil))) (.cons (.cl .int) (.cons (.cl .int) (.cons (.cl .int) .nil))) (add64_cs (by omega)) (.inl rfl) (.tupL (.cons .int (.cons .int .nil)))) ?_
            refine O.pu (Pu.move (.tmp (v:=.tup _) rfl)) ?_
            refine O.pu (Pu.extract (.tmp rfl) rfl) ?_
            refine O.pu (Pu.extract (.tmp rfl) rfl) ?_
            refine O.pu (Pu.assign (.tmp (v:=.int _ _) rfl)) ?_
            refine O.pu (Pu.assign (.tmp (v:=.int _ _) rfl)) ?_
            refine O.nil ?_
            refine X.seq ?_
            refine X.still ?_
            refine O.pu (Pu.move (.tmp (v:=.int _ _) rfl)) ?_
            refine O.pu (Pu.assign (.tmp (v:=.int _ _) rfl)) ?_
            refine O.nil ?_
            refine X.seq ?_
            refine X.seq ?_
            refine X.still ?_
            refine O.pu (Pu.move (.tmp (v:=.int _ _) rfl)) ?_
            refine O.pu (Pu.bin (.tmp rfl) .int .eql) ?_
            refine O.nil ?_
            refine X.condE (.tmp rfl) (fun c=>?_) (fun c=>?_)
            · rw [if_pos c] at h
              exact ⟨rfl,_,rfl,_,_,_,_,_,rfl,rfl,rfl,rfl,rfl,h⟩
            · rw [if_neg c] at h
              refine X.skip ?_
              refine X.seq ?_
              refine X.still ?_
              refine O.pu (Pu.move (.tmp (v:=.int _ _) rfl)) ?_
              refine O.pu (Pu.assign (.tmp (v:=.int _ _) rfl)) ?_
              refine O.nil ?_
              refine X.ret ?_
              cases h
              exact E.fin [] (.tmp (v:=.int _ _) rfl .nil) (.cons (.cl .int) .nil)
        · rw [if_neg c] at h
          refine G.skip (W.f rfl rfl rfl) ?_
          refine G.skip (W.f rfl rfl rfl) ?_
          refine G.skip (W.f rfl rfl rfl) ?_
          refine G.pu (W.t rfl rfl) (Pu.pickF (.tmp rfl) .bool) ?_
          refine O.pu (Pu.pickF (.tmp rfl) (.tmp (v:=.bool _) rfl)) ?_
          refine O.nil ?_
          repeat (rw [quot_guess.j1_e] at h;obtain ⟨k,_,h⟩:=h;unfold quot_guess.j1 at h;try dsimp only at h)
          rw [if_neg Bool.false_ne_true] at h
          refine X.condF (.tmp rfl) ?_
          refine X.skip ?_
          refine X.seq ?_
          refine X.still ?_
          refine O.pu (Pu.move (.tmp (v:=.int _ _) rfl)) ?_
          refine O.pu (Pu.bin (.tmp rfl) .int .sub) ?_
          refine O.pu (Pu.assign (.tmp (v:=.int _ _) rfl)) ?_
          refine O.nil ?_
          refine X.seq ?_
          refine X.still ?_
          refine O.pu (Pu.move (.tmp (v:=.int _ _) rfl)) ?_
          refine O.pu (Pu.move (.tmp (v:=.fi _ _) rfl)) ?_
          refine O.pu (Pu.move (.tmp (v:=.int _ _) rfl)) ?_
          refine O.pu (Pu.bin (.tmp rfl) .int U.sub64) ?_
          repeat (rw [giff] at h;obtain ⟨_,h⟩:=h)
          refine O.pu (U.rdI rfl rfl (.tmp rfl) (.tmp rfl) (by omega) (by omega)) ?_
          refine O.pu (Pu.loadR (.tmp rfl) (U.self rfl rfl rfl)) ?_
          refine O.pu (U.call (ss:=[]) (.cons (.tmp (v:=.int _ _) rfl) (.cons (.tmp (v:=.int _ _) rfl) (.cons .int .nil))) (.cons (.cl .int) (.cons (.cl .int) (.cons (.cl .int) .nil))) (add64_cs (by omega)) (.inl rfl) (.tupL (.cons .int (.cons .int .nil)))) ?_
          refine O.pu (Pu.move (.tmp (v:=.tup _) rfl)) ?_
          refine O.pu (Pu.extract (.tmp rfl) rfl) ?_
          refine O.pu (Pu.extract (.tmp rfl) rfl) ?_
          refine O.pu (Pu.assign (.tmp (v:=.int _ _) rfl)) ?_
          refine O.pu (Pu.assign (.tmp (v:=.int _ _) rfl)) ?_
          refine O.nil ?_
          refine X.seq ?_
          refine X.still ?_
          refine O.pu (Pu.move (.tmp (v:=.int _ _) rfl)) ?_
          refine O.pu (Pu.assign (.tmp (v:=.int _ _) rfl)) ?_
          refine O.nil ?_
          refine X.seq ?_
          refine X.seq ?_
          refine X.still ?_
          refine O.pu (Pu.move (.tmp (v:=.int _ _) rfl)) ?_
          refine O.pu (Pu.bin (.tmp rfl) .int .eql) ?_
          refine O.nil ?_
          refine X.condE (.tmp rfl) (fun c=>?_) (fun c=>?_)
          · rw [if_pos c] at h
            exact ⟨rfl,_,rfl,_,_,_,_,_,rfl,rfl,rfl,rfl,rfl,h⟩
          · rw [if_neg c] at h
            refine X.skip ?_
            refine X.seq ?_
            refine X.still ?_
            refine O.pu (Pu.move (.tmp (v:=.int _ _) rfl)) ?_
            refine O.pu (Pu.assign (.tmp (v:=.int _ _) rfl)) ?_
            refine O.nil ?_
            refine X.ret ?_
            cases h
            exact E.fin [] (.tmp (v:=.int _ _) rfl .nil) (.cons (.cl .int) .nil)
noncomputable def c122:Code:=Try.f122.body.getD .skip
theorem fn122:FnOk Try.prog 122 Try.f122 c122:=⟨Try.func122,rfl,by kernel_rfl,by kernel_rfl,mixed⟩
theorem quot_less.cs {k:Nat} {l0:List Int} {l1:List Int} {a2:Int} {r:Int×List Int} (h:quot_less.f k l0 l1 a2=some r):CS Try.prog 122 [.os 0 1 0 l0.length false, .fi .u64 l1, .int .u64 a2] ⟨some (0, .ints .u64 l0, .ints .u64 r.2,57),none⟩ [.int .u64 r.1]:=by
  have hl:=quot_less_len h
  unfold quot_less.f at h
  refine E.win fn122 rfl hl (.int) ?_
  refine X.seq ?_
  refine X.still ?_
  refine O.pu (Pu.assign .int) ?_
  refine O.nil ?_
  refine X.seq ?_
  refine X.still ?_
  refine O.pu (Pu.assign .int) ?_
  refine O.pu (Pu.assign .int) ?_
  refine O.nil ?_
  refine X.seq ?_
  refine X.seq ?_
  refine X.still ?_
  refine O.pu (Pu.move (.tmp (v:=.fi _ _) rfl)) ?_
  refine O.pu (Pu.lenI rfl (.tmp rfl)) ?_
  refine O.pu (Pu.move .int) ?_
  refine O.nil ?_
  refine X.block ?_
  refine X.inv (fun k s=>∃ x0 x1 x2 x7 x8 x14 x15 x16 n0,s.b 0=⟨1, .win, .ints .u64 x0,57⟩∧s.t 0 = .os 0 1 0 n0 false∧x0.length=n0∧s.t 1 = .fi .u64 x1∧s.t 2 = .int .u64 x2∧s.t 7 = .int .u64 x7∧s.t 8 = .int .u64 x8∧s.t 14 = .fi .u64 x14∧s.t 15 = .int .i64 x15∧s.t 16 = .int .i64 x16∧quot_less.l0 k x0 x1 x2 x7 x8 x14 x15 x16=some r) ?_ ?_ ⟨_,_,_,_,_,_,_,_,_,rfl,rfl,rfl,rfl,rfl,rfl,rfl,rfl,rfl,rfl,h⟩
  · rintro s ⟨_,_,_,_,_,_,_,_,_,_,_,_,_,_,_,_,_,_,_,h⟩;unfold quot_less.l0 at h;cases h
  · rintro k1 s1 ⟨x0,x1,x2,x7,x8,x14,x15,x16,n0,e0,e1,rfl,e3,e4,e5,e6,e7,e8,e9,h⟩
    unfold quot_less.l0 at h
    rw [St.fixB e0,St.fixT e1,St.fixT e3,St.fixT e4,St.fixT e5,St.fixT e6,St.fixT e7,St.fixT e8,St.fixT e9]
    refine X.seq ?_
    refine X.still ?_
    refine O.pu (Pu.bin (.tmp rfl) (.tmp rfl) .lss) ?_
    refine O.nil ?_
    refine X.seq ?_
    refine X.condP (.tmp rfl) (fun c=>?_) (fun c=>?_)
    · rw [if_pos c] at h
      refine X.skip ?_
      refine X.seq ?_
      refine X.block ?_
      refine X.seq ?_
      refine X.still ?_
      refine O.pu (Pu.move (.tmp (v:=.int _ _) rfl)) ?_
      repeat (rw [giff] at h;obtain ⟨_,h⟩:=h)
      refine O.pu (U.rdI rfl rfl (.tmp rfl) (.tmp rfl) (by omega) (by omega)) ?_
      refine O.pu (Pu.loadR (.tmp rfl) (U.self rfl rfl rfl)) ?_
      refine O.pu (Pu.assign (.tmp (v:=.int _ _) rfl)) ?_
      refine O.pu (Pu.assign (.tmp (v:=.int _ _) rfl)) ?_
      refine O.nil ?_
      refine X.seq ?_
      refine X.still ?_
      refine O.pu (Pu.move (.tmp (v:=.int _ _) rfl)) ?_
      refine O.pu (Pu.move (.tmp (v:=.int _ _) rfl)) ?_
      obtain ⟨q1,Hq1,h⟩:=Option.bind_eq_some_iff.1 h
      refine O.pu (U.call (ss:=[]) (.cons (.tmp (v:=.int _ _) rfl) (.cons (.tmp (v:=.int _ _) rfl) .nil)) (.cons (.cl .int) (.cons (.cl .int) .nil)) (bits_Mul64.cs Hq1) (.inl rfl) (.tupL (.cons .int (.cons .int .nil)))) ?_
      refine O.pu (Pu.move (.tmp (v:=.tup _) rfl)) ?_
      refine O.pu (Pu.extract (.tmp rfl) rfl) ?_
      refine O.pu (Pu.extract (.tmp rfl) rfl) ?_
      refine O.pu (Pu.assign (.tmp (v:=.int _ _) rfl)) ?_
      refine O.pu (Pu.assign (.tmp (v:=.int _ _) rfl)) ?_
      refine O.nil ?_
      refine X.seq ?_
      refine X.still ?_
      refine O.pu (Pu.assign .int) ?_
      refine O.nil ?_
      refine X.seq ?_
      refine X.still ?_
      refine O.pu (Pu.move (.tmp (v:=.int _ _) rfl)) ?_
      refine O.pu (Pu.move (.tmp (v:=.int _ _) rfl)) ?_
      repeat (rw [giff] at h;obtain ⟨_,h⟩:=h)
      refine O.pu (U.call (ss:=[]) (.cons (.tmp (v:=.int _ _) rfl) (.cons (.tmp (v:=.int _ _) rfl) (.cons .int .nil))) (.cons (.cl .int) (.cons (.cl .int) (.cons (.cl .int) .nil))) (add64_cs (by omega)) (.inl rfl) (.tupL (.cons .int (.cons .int .nil)))) ?_
      refine O.pu (Pu.move (.tmp (v:=.tup _) rfl)) ?_
      refine O.pu (Pu.extract (.tmp rfl) rfl) ?_
      refine O.pu (Pu.extract (.tmp rfl) rfl) ?_
      refine O.pu (Pu.assign (.tmp (v:=.int _ _) rfl)) ?_
      refine O.pu (Pu.assign (.tmp (v:=.int _ _) rfl)) ?_
      refine O.nil ?_
      refine X.seq ?_
      refine X.still ?_
      refine O.pu (Pu.move (.tmp (v:=.int _ _) rfl)) ?_
      refine O.pu (Pu.move (.tmp (v:=.int _ _) rfl)) ?_
      refine O.pu (Pu.bin (.tmp rfl) (.tmp rfl) .add) ?_
      refine O.pu (Pu.assign (.tmp (v:=.int _ _) rfl)) ?_
      refine O.nil ?_
      refine X.still ?_
      refine O.pu (Pu.move (.tmp (v:=.os _ _ _ _ _) rfl)) ?_
      refine O.pu (Pu.move (.tmp (v:=.int _ _) rfl)) ?_
      refine O.pu (Pu.move (.tmp (v:=.os _ _ _ _ _) rfl)) ?_
      refine O.pu (Pu.move (.tmp (v:=.int _ _) rfl)) ?_
      refine O.pu (U.indexO0 rfl (.tmp rfl) rfl rfl (.tmp rfl) (by first|omega|(simp only [List.length_set] at *;omega)) (by first|omega|(simp only [List.length_set] at *;omega)) rfl rfl) ?_
      refine O.pu (U.rdO (.tmp rfl) rfl rfl rfl rfl rfl) ?_
      refine O.pu (Pu.move (.tmp (v:=.int _ _) rfl)) ?_
      refine O.pu (Pu.move (.tmp (v:=.int _ _) rfl)) ?_
      refine O.pu (U.call (ss:=[]) (.cons (.tmp (v:=.int _ _) rfl) (.cons (.tmp (v:=.int _ _) rfl) (.cons (.tmp (v:=.int _ _) rfl) .nil))) (.cons (.cl .int) (.cons (.cl .int) (.cons (.cl .int) .nil))) (sub64_cs (by omega)) (.inl rfl) (.tupL (.cons .int (.cons .int .nil)))) ?_
      refine O.pu (Pu.move (.tmp (v:=.tup _) rfl)) ?_
      refine O.pu (Pu.extract (.tmp rfl) rfl) ?_
      refine O.pu (Pu.extract (.tmp rfl) rfl) ?_
      refine O.pu (U.indexO0 rfl (.tmp rfl) rfl rfl (.tmp rfl) (by first|omega|(simp only [List.length_set] at *;omega)) (by first|omega|(simp only [List.length_set] at *;omega)) rfl rfl) ?_
      refine O.ef0 (U.storeE (.tmp rfl) rfl rfl (.tmp (v:=.int _ _) rfl) rfl rfl (.whole (notBad_ne rfl) rfl) .ints) ?_
      refine O.pu (Pu.assign (.tmp (v:=.int _ _) rfl)) ?_
      refine O.nil ?_
      refine X.still ?_
      refine O.pu (Pu.bin (.tmp rfl) .int U.add64) ?_
      refine O.pu (Pu.move (.tmp (v:=.int _ _) rfl)) ?_
      refine O.nil ?_
      exact ⟨_,(by omega),_,_,_,_,_,_,_,_,_,rfl,rfl,(by first|rfl|(simp only [List.length_set];done)|(simp only [List.length_drop,List.length_take,List.length_append,List.length_set] at *;omega)),rfl,rfl,rfl,rfl,rfl,rfl,rfl,h⟩
    · rw [if_neg c] at h
      refine X.exit (B.out ?_)
      refine X.seq ?_
      refine X.still ?_
      refine O.pu (Pu.move (.tmp (v:=.os _ _ _ _ _) rfl)) ?_
      refine O.pu (Pu.move (.tmp (v:=.fi _ _) rfl)) ?_
      refine O.pu (Pu.lenI rfl (.tmp rfl)) ?_
      refine O.pu (Pu.move (.tmp (v:=.os _ _ _ _ _) rfl)) ?_
      refine O.pu (Pu.move (.tmp (v:=.fi _ _) rfl)) ?_
      refine O.pu (Pu.lenI rfl (.tmp rfl)) ?_
      repeat (rw [giff] at h;obtain ⟨_,h⟩:=h)
      refine O.pu (U.indexO0 rfl (.tmp rfl) rfl rfl (.tmp rfl) (by first|omega|(simp only [List.length_set] at *;omega)) (by first|omega|(simp only [List.length_set] at *;omega)) rfl rfl) ?_
      refine O.pu (U.rdO (.tmp rfl) rfl rfl rfl rfl rfl) ?_
      refine O.pu (Pu.move (.tmp (v:=.int _ _) rfl)) ?_
      refine O.pu (Pu.move (.tmp (v:=.int _ _) rfl)) ?_
      refine O.pu (U.call (ss:=[]) (.cons (.tmp (v:=.int _ _) rfl) (.cons (.tmp (v:=.int _ _) rfl) (.cons (.tmp (v:=.int _ _) rfl) .nil))) (.cons (.cl .int) (.cons (.cl .int) (.cons (.cl .int) .nil))) (sub64_cs (by omega)) (.inl rfl) (.tupL (.cons .int (.cons .int .nil)))) ?_
      refine O.pu (Pu.move (.tmp (v:=.tup _) rfl)) ?_
      refine O.pu (Pu.extract (.tmp rfl) rfl) ?_
      refine O.pu (Pu.extract (.tmp rfl) rfl) ?_
      refine O.pu (U.indexO0 rfl (.tmp rfl) rfl rfl (.tmp rfl) (by first|omega|(simp only [List.length_set] at *;omega)) (by first|omega|(simp only [List.length_set] at *;omega)) rfl rfl) ?_
      refine O.ef0 (U.storeE (.tmp rfl) rfl rfl (.tmp (v:=.int _ _) rfl) rfl rfl (.whole (notBad_ne rfl) rfl) .ints) ?_
      refine O.pu (Pu.assign (.tmp (v:=.int _ _) rfl)) ?_
      refine O.nil ?_
      refine X.seq ?_
      refine X.still ?_
      refine O.pu (Pu.move (.tmp (v:=.int _ _) rfl)) ?_
      refine O.pu (Pu.assign (.tmp (v:=.int _ _) rfl)) ?_
      refine O.nil ?_
      refine X.ret ?_
      cases h
      exact E.finW (.tmp (v:=.int _ _) rfl .nil) rfl
noncomputable def c123:Code:=Try.f123.body.getD .skip
theorem fn123:FnOk Try.prog 123 Try.f123 c123:=⟨Try.func123,rfl,by kernel_rfl,by kernel_rfl,mixed⟩
theorem quot_back.cs {k:Nat} {l0:List Int} {l1:List Int} {r:List Int} (h:quot_back.f k l0 l1=some r):CS Try.prog 123 [.os 0 1 0 l0.length false, .fi .u64 l1] ⟨some (0, .ints .u64 l0, .ints .u64 r,57),none⟩ []:=by
  have hl:=quot_back_len h
  unfold quot_back.f at h
  refine E.win fn123 rfl hl (.tupL .nil) ?_
  refine X.seq ?_
  refine X.still ?_
  refine O.pu (Pu.assign .int) ?_
  refine O.nil ?_
  refine X.seq ?_
  refine X.seq ?_
  refine X.still ?_
  refine O.pu (Pu.move (.tmp (v:=.fi _ _) rfl)) ?_
  refine O.pu (Pu.lenI rfl (.tmp rfl)) ?_
  refine O.pu (Pu.move .int) ?_
  refine O.nil ?_
  refine X.block ?_
  refine X.inv (fun k s=>∃ x0 x1 x4 x7 x8 x9 n0,s.b 0=⟨1, .win, .ints .u64 x0,57⟩∧s.t 0 = .os 0 1 0 n0 false∧x0.length=n0∧s.t 1 = .fi .u64 x1∧s.t 4 = .int .u64 x4∧s.t 7 = .fi .u64 x7∧s.t 8 = .int .i64 x8∧s.t 9 = .int .i64 x9∧quot_back.l0 k x0 x1 x4 x7 x8 x9=some r) ?_ ?_ ⟨_,_,_,_,_,_,_,rfl,rfl,rfl,rfl,rfl,rfl,rfl,rfl,h⟩
  · rintro s ⟨_,_,_,_,_,_,_,_,_,_,_,_,_,_,_,h⟩;unfold quot_back.l0 at h;cases h
  · rintro k1 s1 ⟨x0,x1,x4,x7,x8,x9,n0,e0,e1,rfl,e3,e4,e5,e6,e7,h⟩
    unfold quot_back.l0 at h
    rw [St.fixB e0,St.fixT e1,St.fixT e3,St.fixT e4,St.fixT e5,St.fixT e6,St.fixT e7]
    refine X.seq ?_
    refine X.still ?_
    refine O.pu (Pu.bin (.tmp rfl) (.tmp rfl) .lss) ?_
    refine O.nil ?_
    refine X.seq ?_
    refine X.condP (.tmp rfl) (fun c=>?_) (fun c=>?_)
    · rw [if_pos c] at h
      refine X.skip ?_
      refine X.seq ?_
      refine X.block ?_
      refine X.seq ?_
      refine X.still ?_
      refine O.pu (Pu.move (.tmp (v:=.int _ _) rfl)) ?_
      repeat (rw [giff] at h;obtain ⟨_,h⟩:=h)
      refine O.pu (U.rdI rfl rfl (.tmp rfl) (.tmp rfl) (by omega) (by omega)) ?_
      refine O.pu (Pu.loadR (.tmp rfl) (U.self rfl rfl rfl)) ?_
      refine O.pu (Pu.assign (.tmp (v:=.int _ _) rfl)) ?_
      refine O.pu (Pu.assign (.tmp (v:=.int _ _) rfl)) ?_
      refine O.nil ?_
      refine X.still ?_
      refine O.pu (Pu.move (.tmp (v:=.os _ _ _ _ _) rfl)) ?_
      refine O.pu (Pu.move (.tmp (v:=.int _ _) rfl)) ?_
      refine O.pu (Pu.move (.tmp (v:=.os _ _ _ _ _) rfl)) ?_
      refine O.pu (Pu.move (.tmp (v:=.int _ _) rfl)) ?_
      refine O.pu (U.indexO0 rfl (.tmp rfl) rfl rfl (.tmp rfl) (by first|omega|(simp only [List.length_set] at *;omega)) (by first|omega|(simp only [List.length_set] at *;omega)) rfl rfl) ?_
      refine O.pu (U.rdO (.tmp rfl) rfl rfl rfl rfl rfl) ?_
      refine O.pu (Pu.move (.tmp (v:=.int _ _) rfl)) ?_
      refine O.pu (Pu.move (.tmp (v:=.int _ _) rfl)) ?_
      refine O.pu (U.call (ss:=[]) (.cons (.tmp (v:=.int _ _) rfl) (.cons (.tmp (v:=.int _ _) rfl) (.cons (.tmp (v:=.int _ _) rfl) .nil))) (.cons (.cl .int) (.cons (.cl .int) (.cons (.cl .int) .nil))) (add64_cs (by omega)) (.inl rfl) (.tupL (.cons .int (.cons .int .nil)))) ?_
      refine O.pu (Pu.move (.tmp (v:=.tup _) rfl)) ?_
      refine O.pu (Pu.extract (.tmp rfl) rfl) ?_
      refine O.pu (Pu.extract (.tmp rfl) rfl) ?_
      refine O.pu (U.indexO0 rfl (.tmp rfl) rfl rfl (.tmp rfl) (by first|omega|(simp only [List.length_set] at *;omega)) (by first|omega|(simp only [List.length_set] at *;omega)) rfl rfl) ?_
      refine O.ef0 (U.storeE (.tmp rfl) rfl rfl (.tmp (v:=.int _ _) rfl) rfl rfl (.whole (notBad_ne rfl) rfl) .ints) ?_
      refine O.pu (Pu.assign (.tmp (v:=.int _ _) rfl)) ?_
      refine O.nil ?_
      refine X.still ?_
      refine O.pu (Pu.bin (.tmp rfl) .int U.add64) ?_
      refine O.pu (Pu.move (.tmp (v:=.int _ _) rfl)) ?_
      refine O.nil ?_
      exact ⟨_,(by omega),_,_,_,_,_,_,_,rfl,rfl,(by first|rfl|(simp only [List.length_set];done)|(simp only [List.length_drop,List.length_take,List.length_append,List.length_set] at *;omega)),rfl,rfl,rfl,rfl,rfl,h⟩
    · rw [if_neg c] at h
      refine X.exit (B.out ?_)
      refine X.still ?_
      refine O.pu (Pu.move (.tmp (v:=.os _ _ _ _ _) rfl)) ?_
      refine O.pu (Pu.move (.tmp (v:=.fi _ _) rfl)) ?_
      refine O.pu (Pu.lenI rfl (.tmp rfl)) ?_
      repeat (rw [giff] at h;obtain ⟨_,h⟩:=h)
      refine O.pu (U.indexO0 rfl (.tmp rfl) rfl rfl (.tmp rfl) (by first|omega|(simp only [List.length_set] at *;omega)) (by first|omega|(simp only [List.length_set] at *;omega)) rfl rfl) ?_
      refine O.pu (U.rdO (.tmp rfl) rfl rfl rfl rfl rfl) ?_
      refine O.pu (Pu.move (.tmp (v:=.int _ _) rfl)) ?_
      refine O.pu (Pu.bin (.tmp rfl) (.tmp rfl) .add) ?_
      refine O.pu (U.indexO0 rfl (.tmp rfl) rfl rfl (.tmp rfl) (by first|omega|(simp only [List.length_set] at *;omega)) (by first|omega|(simp only [List.length_set] at *;omega)) rfl rfl) ?_
      refine O.ef0 (U.storeE (.tmp rfl) rfl rfl (.tmp (v:=.int _ _) rfl) rfl rfl (.whole (notBad_ne rfl) rfl) .ints) ?_
      refine O.nil ?_
      cases h
      exact E.finW .nil rfl
noncomputable def c127:Code:=Try.f127.body.getD .skip
theorem fn127:FnOk Try.prog 127 Try.f127 c127:=⟨Try.func127,rfl,by kernel_rfl,by kernel_rfl,mixed⟩
theorem quot_wrong.cs {a0:Int} {r:Bool} (h:quot_wrong.f a0=some r):CS Try.prog 127 [.int .i64 a0] .no [.bool r]:=by
  unfold quot_wrong.f at h
  refine E.pure fn127 rfl ?_
  refine X.seq ?_
  refine X.still ?_
  refine O.pu (Pu.assign .bool) ?_
  refine O.nil ?_
  refine X.seq ?_
  refine X.still ?_
  refine O.pu (Pu.move (.tmp (v:=.int _ _) rfl)) ?_
  refine O.pu (Pu.bin (.tmp rfl) .int .lss) ?_
  refine O.pu (Pu.move (.tmp (v:=.bool _) rfl)) ?_
  refine O.splitP (fun c=>?_) (fun c=>?_)
  · rw [if_pos c] at h
    refine G.skip (W.f rfl rfl rfl) ?_
    refine G.skip (W.f rfl rfl rfl) ?_
    refine O.pu (Pu.pickT (.tmp rfl) .bool) ?_
    refine O.pu (Pu.assign (.tmp (v:=.bool _) rfl)) ?_
    refine O.nil ?_
    refine X.ret ?_
    cases h
    exact E.fin [] (.tmp (v:=.bool _) rfl .nil) (.cons (.cl .bool) .nil)
  · rw [if_neg c] at h
    refine G.pu (W.t rfl rfl) (Pu.move (.tmp (v:=.int _ _) rfl)) ?_
    refine G.pu (W.t rfl rfl) (Pu.bin (.tmp rfl) .int .gtr) ?_
    refine O.pu (Pu.pickF (.tmp rfl) (.tmp (v:=.bool _) rfl)) ?_
    refine O.pu (Pu.assign (.tmp (v:=.bool _) rfl)) ?_
    refine O.nil ?_
    refine X.ret ?_
    cases h
    exact E.fin [] (.tmp (v:=.bool _) rfl .nil) (.cons (.cl .bool) .nil)
noncomputable def c124:Code:=Try.f124.body.getD .skip
theorem fn124:FnOk Try.prog 124 Try.f124 c124:=⟨Try.func124,rfl,by kernel_rfl,by kernel_rfl,mixed⟩
theorem quot_Shr.cs {k:Nat} {l0_0:List Int} {a1:Int} {r:List Int×Int} (h:quot_Shr.f k l0_0 a1=some r):CS Try.prog 124 [.agg [.fi .u64 l0_0], .int .i64 a1] .no [.agg [.fi .u64 r.1], .int .i64 r.2]:=by
  unfold quot_Shr.f at h
  refine E.pure fn124 rfl ?_
  refine X.seq ?_
  refine X.still ?_
  refine O.puE (v':=.op 2 (1) 0 0) (b':=⟨1, .own,_,_⟩) (Pu.box (.tmp (v:=.agg _) rfl) rfl rfl) rfl rfl ?_
  refine O.puE (v':=.op 4 (1) 0 0) (b':=⟨1, .own,(.vals [.agg [.fi .u64 []]]),_⟩) Pu.alloc rfl rfl ?_
  refine O.pu (Pu.assign .int) ?_
  refine O.nil ?_
  refine X.seq ?_
  refine X.seq ?_
  refine X.still ?_
  refine O.pu (Pu.move (.tmp (v:=.int _ _) rfl)) ?_
  obtain ⟨q1,Hq1,h⟩:=Option.bind_eq_some_iff.1 h
  refine O.pu (U.call (ss:=[]) (.cons (.tmp (v:=.int _ _) rfl) .nil) (.cons (.cl .int) .nil) (quot_wrong.cs Hq1) (.inl rfl) (.bool)) ?_
  refine O.nil ?_
  refine X.cond (.tmp rfl) (fun c=>?_) (fun c=>?_)
  · rw [if_pos c] at h
    refine X.seq ?_
    refine X.still ?_
    refine O.pu (Pu.build rfl .nil) ?_
    refine O.ef0 (U.storeE (.tmp rfl) rfl rfl (.tmp (v:=.agg _) rfl) rfl rfl (.whole (notBad_ne rfl) rfl) .one) ?_
    refine O.pu (Pu.assign .int) ?_
    refine O.nil ?_
    refine X.ret ?_
    cases h
    exact E.fin [] (.cell rfl rfl (Mode.live_ne rfl) (U.whole rfl rfl) (.tmp (v:=.int _ _) rfl .nil)) (.cons (.cl (.aggL (.cons .fi .nil))) (.cons (.cl .int) .nil))
  · rw [if_neg (bf c)] at h
    refine X.skip ?_
    refine X.seq ?_
    refine X.still ?_
    refine O.pu (U.load (.tmp rfl) rfl rfl (U.whole rfl rfl)) ?_
    obtain ⟨q2,Hq2,h⟩:=Option.bind_eq_some_iff.1 h
    refine O.puE (v':=.os 13 (1) 0 _ true) (b':=⟨1, .own,_,_⟩) (U.callF (ss:=[]) (.cons (.tmp (v:=.agg _) rfl) .nil) (.cons (.cl (.aggL (.cons .fi .nil))) .nil) (nat_Nat_Limbs.cs Hq2)) rfl rfl ?_
    refine O.pu (Pu.assign (.tmp (v:=.os _ _ _ _ _) rfl)) ?_
    refine O.nil ?_
    refine X.seq ?_
    refine X.still ?_
    refine O.pu (Pu.move (.tmp (v:=.os _ _ _ _ _) rfl)) ?_
    refine O.pu (Pu.move (.tmp (v:=.int _ _) rfl)) ?_
    repeat first|(rw [giff] at h;obtain ⟨_,h⟩:=h)|rw [bdff] at h
    refine O.pu (Pu.bin (.tmp rfl) .int (U.quo64 (by omega))) ?_
    refine O.pu (Pu.move (.tmp (v:=.os _ _ _ _ _) rfl)) ?_
    refine O.pu (Pu.lenO rfl (.tmp rfl)) ?_
    refine O.pu (U.mn (.tmp rfl) (.tmp rfl)) ?_
    refine O.pu (U.sliceO0 rfl (.tmp rfl) rfl rfl ⟨rfl,rfl⟩ (.yes (.tmp rfl) (by omega)) .no .no (by omega) (by omega)) ?_
    refine O.ef (U.cutL (u':=1) (.tmp rfl) rfl (List.take_of_length_le (by simp only [List.length_drop];omega)) (by simp only [List.length_drop,List.length_take] <;> omega) rfl) ?_
    refine O.nil ?_
    refine X.seq ?_
    refine X.still ?_
    refine O.pu (Pu.move (.tmp (v:=.int _ _) rfl)) ?_
    refine O.pu (Pu.bin (.tmp rfl) .int (.rem (by omega))) ?_
    refine O.pu (U.convI rfl (.tmp rfl)) ?_
    refine O.pu (Pu.assign (.tmp (v:=.int _ _) rfl)) ?_
    refine O.nil ?_
    refine X.seq ?_
    refine X.seq ?_
    refine X.still ?_
    refine O.pu (Pu.move (.tmp (v:=.os _ _ _ _ _) rfl)) ?_
    refine O.pu (Pu.lenO rfl (.tmp rfl)) ?_
    refine O.pu (Pu.move .int) ?_
    refine O.nil ?_
    refine X.block ?_
    refine X.inv (fun k s=>∃ x6 x7 x25 x26 n6 u2 u4 u6 z2_0,s.b 6=⟨u6, .own, .ints .u64 x6,57⟩∧s.t 6 = .os 6 u6 0 n6 false∧x6.length=n6∧s.t 7 = .int .u64 x7∧s.t 25 = .int .i64 x25∧s.t 26 = .int .i64 x26∧s.t 2 = .op 2 u2 0 0∧s.b 2=⟨u2, .own, .vals [.agg [.fi .u64 z2_0]],26⟩∧s.t 4 = .op 4 u4 0 0∧s.b 4=⟨u4, .own, .vals [.agg [.fi .u64 []]],26⟩∧quot_Shr.l0 k x6 x7 x25 x26=some r) ?_ ?_ ⟨_,_,_,_,_,_,_,_,_,rfl,rfl,rfl,rfl,rfl,rfl,rfl,rfl,rfl,rfl,h⟩
    · rintro s ⟨_,_,_,_,_,_,_,_,_,_,_,_,_,_,_,_,_,_,_,h⟩;unfold quot_Shr.l0 at h;cases h
    · rintro k1 s1 ⟨x6,x7,x25,x26,n6,u2,u4,u6,z2_0,e0,e1,rfl,e3,e4,e5,e6,e7,e8,e9,h⟩
      unfold quot_Shr.l0 at h
      rw [St.fixB e0,St.fixT e1,St.fixT e3,St.fixT e4,St.fixT e5,St.fixT e6,St.fixB e7,St.fixT e8,St.fixB e9]
      refine X.seq ?_
      refine X.still ?_
      refine O.pu (Pu.bin (.tmp rfl) (.tmp rfl) .lss) ?_
      refine O.nil ?_
      refine X.seq ?_
      refine X.condP (.tmp rfl) (fun c=>?_) (fun c=>?_)
      · rw [if_pos c] at h
        refine X.skip ?_
        refine X.seq ?_
        refine X.block ?_
        refine X.seq ?_
        refine X.still ?_
        refine O.pu (Pu.move (.tmp (v:=.int _ _) rfl)) ?_
        refine O.pu (Pu.assign (.tmp (v:=.int _ _) rfl)) ?_
        refine O.nil ?_
        refine X.seq ?_
        refine X.still ?_
        refine O.pu (Pu.move (.tmp (v:=.os _ _ _ _ _) rfl)) ?_
        refine O.pu (Pu.move (.tmp (v:=.int _ _) rfl)) ?_
        repeat first|(rw [giff] at h;obtain ⟨_,h⟩:=h)|rw [bdff] at h
        refine O.pu (U.indexO0 rfl (.tmp rfl) rfl rfl (.tmp rfl) (by first|omega|(simp only [List.length_set] at *;omega)) (by first|omega|(simp only [List.length_set] at *;omega)) rfl rfl) ?_
        refine O.pu (U.rdO (.tmp rfl) rfl rfl rfl rfl rfl) ?_
        refine O.pu (Pu.move (.tmp (v:=.int _ _) rfl)) ?_
        refine O.pu (Pu.bin (.tmp rfl) (.tmp rfl) (U.shrW (by omega))) ?_
        refine O.pu (U.indexO0 rfl (.tmp rfl) rfl rfl (.tmp rfl) (by first|omega|(simp only [List.length_set] at *;omega)) (by first|omega|(simp only [List.length_set] at *;omega)) rfl rfl) ?_
        refine O.ef0 (U.storeE (.tmp rfl) rfl rfl (.tmp (v:=.int _ _) rfl) rfl rfl (.whole (notBad_ne rfl) rfl) .ints) ?_
        refine O.nil ?_
        refine X.seq ?_
        refine X.still ?_
        refine O.pu (Pu.move (.tmp (v:=.int _ _) rfl)) ?_
        refine O.pu (Pu.bin (.tmp rfl) .int U.add64) ?_
        refine O.pu (Pu.move (.tmp (v:=.os _ _ _ _ _) rfl)) ?_
        refine O.pu (Pu.lenO rfl (.tmp rfl)) ?_
        refine O.pu (Pu.bin (.tmp rfl) (.tmp rfl) .lss) ?_
        refine O.nil ?_
        refine X.condP (.tmp rfl) (fun c=>?_) (fun c=>?_)
        · rw [if_pos c] at h
          refine X.drawn ?_
          refine D.pu (Pu.move (.tmp (v:=.os _ _ _ _ _) rfl)) ?_
          refine D.pu (Pu.move (.tmp (v:=.int _ _) rfl)) ?_
          repeat (rw [giff] at h;obtain ⟨_,h⟩:=h)
          refine D.pu (U.indexO0 rfl (.tmp rfl) rfl rfl (.tmp rfl) (by first|omega|(simp only [List.length_set] at *;omega)) (by first|omega|(simp only [List.length_set] at *;omega)) rfl rfl) ?_
          refine D.pu (U.rdO (.tmp rfl) rfl rfl rfl rfl rfl) ?_
          refine D.pu (Pu.move (.tmp (v:=.os _ _ _ _ _) rfl)) ?_
          refine D.pu (Pu.move (.tmp (v:=.int _ _) rfl)) ?_
          refine D.pu (Pu.bin (.tmp rfl) .int U.add64) ?_
          refine D.pu (U.indexO0 rfl (.tmp rfl) rfl rfl (.tmp rfl) (by first|omega|(simp only [List.length_set] at *;omega)) (by first|omega|(simp only [List.length_set] at *;omega)) rfl rfl) ?_
          refine D.pu (U.rdO (.tmp rfl) rfl rfl rfl rfl rfl) ?_
          refine D.pu (Pu.move (.tmp (v:=.int _ _) rfl)) ?_
          refine D.pu (Pu.bin .int (.tmp rfl) .sub) ?_
          refine D.pu (Pu.bin (.tmp rfl) (.tmp rfl) (U.shlW (by omega))) ?_
          refine D.pu (Pu.bin (.tmp rfl) (.tmp rfl) .bor) ?_
          refine D.pu (U.indexO0 rfl (.tmp rfl) rfl rfl (.tmp rfl) (by first|omega|(simp only [List.length_set] at *;omega)) (by first|omega|(simp only [List.length_set] at *;omega)) rfl rfl) ?_
          refine D.ef0 (C.storeE (.tmp rfl) rfl rfl (.tmp (v:=.int _ _) rfl) rfl rfl (.whole (notBad_ne rfl) rfl) .ints) ?_
          refine D.nil (by kernel_rfl) ?_
          refine X.still ?_
          refine O.pu (Pu.bin (.tmp rfl) .int U.add64) ?_
          refine O.pu (Pu.move (.tmp (v:=.int _ _) rfl)) ?_
          refine O.nil ?_
          exact ⟨_,(by omega),_,_,_,_,_,_,_,_,_,rfl,rfl,(by first|rfl|(simp only [List.length_set];done)|(simp only [List.length_drop,List.length_take,List.length_append,List.length_set] at *;omega)),rfl,rfl,rfl,rfl,rfl,rfl,rfl,h⟩
        · rw [if_neg c] at h
          refine X.skip ?_
          refine X.still ?_
          refine O.pu (Pu.bin (.tmp rfl) .int U.add64) ?_
          refine O.pu (Pu.move (.tmp (v:=.int _ _) rfl)) ?_
          refine O.nil ?_
          exact ⟨_,(by omega),_,_,_,_,_,_,_,_,_,rfl,rfl,(by first|rfl|(simp only [List.length_set];done)|(simp only [List.length_drop,List.length_take,List.length_append,List.length_set] at *;omega)),rfl,rfl,rfl,rfl,rfl,rfl,rfl,h⟩
      · rw [if_neg c] at h
        refine X.exit (B.out ?_)
        refine X.seq ?_
        refine X.still ?_
        refine O.pu (Pu.move (.tmp (v:=.os _ _ _ _ _) rfl)) ?_
        obtain ⟨q3,Hq3,h⟩:=Option.bind_eq_some_iff.1 h
        refine O.ef (U.callZ (ss:=[6]) (.cons (.tmp (v:=.os _ _ _ _ _) rfl) .nil) (.cons (.osIf (by simp) rfl (Mode.live_ne rfl) rfl (by first|rfl|(simp only [List.length_set];done)|(simp only [List.length_drop,List.length_take,List.length_append,List.length_set] at *;omega))) .nil) (nat_Of.cs Hq3) (.aggL (.cons .fi .nil)) (nowin rfl)) ?_
        refine O.ef0 (U.storeE (.tmp rfl) rfl rfl (.tmp (v:=.agg _) rfl) rfl rfl (.whole (notBad_ne rfl) rfl) .one) ?_
        refine O.pu (Pu.assign .int) ?_
        refine O.nil ?_
        refine X.ret ?_
        cases h
        exact E.fin [] (.cell rfl rfl (Mode.live_ne rfl) (U.whole rfl rfl) (.tmp (v:=.int _ _) rfl .nil)) (.cons (.cl (.aggL (.cons .fi .nil))) (.cons (.cl .int) .nil))
noncomputable def c105:Code:=Try.f105.body.getD .skip
theorem fn105:FnOk Try.prog 105 Try.f105 c105:=⟨Try.func105,rfl,by kernel_rfl,by kernel_rfl,mixed⟩
theorem quot_long.cs {k:Nat} {l0:List Int} {l1:List Int} {r:List Int×List Int} (h:quot_long.f k l0 l1=some r):CS Try.prog 105 [.fi .u64 l0, .fi .u64 l1] .no [.fi .u64 r.1, .fi .u64 r.2]:=by
  unfold quot_long.f at h
  refine E.pure fn105 rfl ?_
  refine X.seq ?_
  refine X.still ?_
  refine O.pu (Pu.assign (.nilI (k:=.u64))) ?_
  refine O.pu (Pu.assign (.nilI (k:=.u64))) ?_
  refine O.nil ?_
  refine X.seq ?_
  refine X.still ?_
  refine O.pu (Pu.move (.tmp (v:=.fi _ _) rfl)) ?_
  refine O.pu (Pu.move (.tmp (v:=.fi _ _) rfl)) ?_
  refine O.pu (Pu.lenI rfl (.tmp rfl)) ?_
  refine O.pu (Pu.bin (.tmp rfl) .int U.sub64) ?_
  repeat (rw [giff] at h;obtain ⟨_,h⟩:=h)
  refine O.pu (U.rdI rfl rfl (.tmp rfl) (.tmp rfl) (by omega) (by omega)) ?_
  refine O.pu (Pu.loadR (.tmp rfl) (U.self rfl rfl rfl)) ?_
  obtain ⟨q1,Hq1,h⟩:=Option.bind_eq_some_iff.1 h
  refine O.pu (U.call (ss:=[]) (.cons (.tmp (v:=.int _ _) rfl) .nil) (.cons (.cl .int) .nil) (bits_LeadingZeros64.cs Hq1) (.inl rfl) (.int)) ?_
  refine O.pu (U.convI rfl (.tmp rfl)) ?_
  refine O.pu (Pu.assign (.tmp (v:=.int _ _) rfl)) ?_
  refine O.nil ?_
  refine X.seq ?_
  refine X.drawn ?_
  refine D.pu (Pu.move (.tmp (v:=.fi _ _) rfl)) ?_
  refine D.pu (Pu.move (.tmp (v:=.int _ _) rfl)) ?_
  obtain ⟨q2,Hq2,h⟩:=Option.bind_eq_some_iff.1 h
  refine D.puE (v':=.os 24 (1) 0 _ true) (b':=⟨1, .own,_,_⟩) (U.callF (ss:=[]) (.cons (.tmp (v:=.fi _ _) rfl) (.cons (.tmp (v:=.int _ _) rfl) .nil)) (.cons (.cl .fi) (.cons (.cl .int) .nil)) (quot_moved.cs Hq2)) rfl rfl ?_
  refine D.pu (Pu.move (.tmp (v:=.fi _ _) rfl)) ?_
  refine D.pu (Pu.move (.tmp (v:=.int _ _) rfl)) ?_
  obtain ⟨q3,Hq3,h⟩:=Option.bind_eq_some_iff.1 h
  refine D.puE (v':=.os 27 (1) 0 _ true) (b':=⟨1, .own,_,_⟩) (U.callF (ss:=[]) (.cons (.tmp (v:=.fi _ _) rfl) (.cons (.tmp (v:=.int _ _) rfl) .nil)) (.cons (.cl .fi) (.cons (.cl .int) .nil)) (quot_moved.cs Hq3)) rfl rfl ?_
  refine D.pu (Pu.move (.tmp (v:=.fi _ _) rfl)) ?_
  refine D.pu (Pu.lenI rfl (.tmp rfl)) ?_
  repeat first|(rw [giff] at h;obtain ⟨_,h⟩:=h)|rw [bdff] at h
  refine D.pu (U.sliceO0 rfl (.tmp rfl) rfl rfl ⟨rfl,rfl⟩ .no (.yes (.tmp rfl) (by omega)) .no (by omega) (by omega)) ?_
  refine D.pu (Pu.assign (.tmp (v:=.os _ _ _ _ _) rfl)) ?_
  refine D.any (U.cutL (u':=1) (.tmp rfl) rfl cutH (by simp only [List.length_drop,List.length_take] <;> omega) rfl) ?_
  refine D.nil (by kernel_rfl) ?_
  refine X.seq ?_
  refine X.still ?_
  refine O.pu (Pu.move (.tmp (v:=.os _ _ _ _ _) rfl)) ?_
  refine O.pu (Pu.lenO rfl (.tmp rfl)) ?_
  refine O.pu (Pu.move (.tmp (v:=.os _ _ _ _ _) rfl)) ?_
  refine O.pu (Pu.lenO rfl (.tmp rfl)) ?_
  refine O.pu (Pu.bin (.tmp rfl) (.tmp rfl) U.sub64) ?_
  refine O.puE (v':=.os 36 (1) 0 _ true) (b':=⟨1, .own,_,_⟩) (U.makeI rfl rfl (.tmp rfl) (.tmp rfl) (by omega) (by omega) rfl (by omega)) rfl rfl ?_
  refine O.pu (Pu.assign (.tmp (v:=.os _ _ _ _ _) rfl)) ?_
  refine O.nil ?_
  refine X.seq ?_
  refine X.seq ?_
  refine X.still ?_
  refine O.pu (Pu.move (.tmp (v:=.os _ _ _ _ _) rfl)) ?_
  refine O.pu (Pu.lenO rfl (.tmp rfl)) ?_
  refine O.pu (Pu.bin (.tmp rfl) .int U.sub64) ?_
  refine O.pu (Pu.assign (.tmp (v:=.int _ _) rfl)) ?_
  refine O.nil ?_
  refine X.block ?_
  refine X.inv (fun k s=>∃ x0 x1 x6 x7 x8 n0 n1 n7 u1 u24 u36,s.b 24=⟨u24, .own, .ints .u64 x0,57⟩∧s.t 0 = .os 24 u24 0 n0 true∧x0.length=n0∧s.b 1=⟨u1, .own, .ints .u64 x1,57⟩∧s.t 1 = .os 1 u1 0 n1 false∧x1.length=n1∧s.t 6 = .int .u64 x6∧s.b 36=⟨u36, .own, .ints .u64 x7,57⟩∧s.t 7 = .os 36 u36 0 n7 true∧x7.length=n7∧s.t 8 = .int .i64 x8∧quot_long.l0 k x0 x1 x6 x7 x8=some r) ?_ ?_ ⟨_,_,_,_,_,_,_,_,_,_,_,rfl,rfl,rfl,rfl,rfl,rfl,rfl,rfl,rfl,rfl,rfl,h⟩
  · rintro s ⟨_,_,_,_,_,_,_,_,_,_,_,_,_,_,_,_,_,_,_,_,_,_,h⟩;unfold quot_long.l0 at h;cases h
  · rintro k1 s1 ⟨x0,x1,x6,x7,x8,n0,n1,n7,u1,u24,u36,e0,e1,rfl,e3,e4,rfl,e6,e7,e8,rfl,e10,h⟩
    unfold quot_long.l0 at h
    rw [St.fixB e0,St.fixT e1,St.fixB e3,St.fixT e4,St.fixT e6,St.fixB e7,St.fixT e8,St.fixT e10]
    refine X.seq ?_
    refine X.seq ?_
    refine X.still ?_
    refine O.pu (Pu.move (.tmp (v:=.int _ _) rfl)) ?_
    refine O.pu (Pu.bin (.tmp rfl) .int .geq) ?_
    refine O.nil ?_
    refine X.condP (.tmp rfl) (fun c=>?_) (fun c=>?_)
    · rw [if_pos c] at h
      refine X.skip ?_
      refine X.seq ?_
      refine X.block ?_
      refine X.seq ?_
      refine X.still ?_
      refine O.pu (Pu.move (.tmp (v:=.os _ _ _ _ _) rfl)) ?_
      refine O.pu (Pu.move (.tmp (v:=.int _ _) rfl)) ?_
      refine O.pu (Pu.move (.tmp (v:=.int _ _) rfl)) ?_
      refine O.pu (Pu.move (.tmp (v:=.os _ _ _ _ _) rfl)) ?_
      refine O.pu (Pu.lenO rfl (.tmp rfl)) ?_
      refine O.pu (Pu.bin (.tmp rfl) (.tmp rfl) U.add64) ?_
      refine O.pu (Pu.bin (.tmp rfl) .int U.add64) ?_
      repeat (rw [giff] at h;obtain ⟨_,h⟩:=h)
      refine O.pu (U.sliceO0 rfl (.tmp rfl) rfl rfl ⟨rfl,rfl⟩ (.yes (.tmp rfl) (by omega)) (.yes (.tmp rfl) (by omega)) .no (by omega) (by omega)) ?_
      refine O.pu (Pu.assign (.tmp (v:=.os _ _ _ _ _) rfl)) ?_
      refine O.nil ?_
      refine X.seq ?_
      refine X.still ?_
      refine O.pu (Pu.move (.tmp (v:=.os _ _ _ _ _) rfl)) ?_
      refine O.pu (Pu.move (.tmp (v:=.os _ _ _ _ _) rfl)) ?_
      obtain ⟨q4,Hq4,h⟩:=Option.bind_eq_some_iff.1 h
      obtain ⟨⟨_,_,_⟩,Hq4⟩:=gi Hq4
      refine O.pu (U.call (ss:=[1,24]) (.cons (.tmp (v:=.os _ _ _ _ _) rfl) (.cons (.tmp (v:=.os _ _ _ _ _) rfl) .nil)) (.cons (Snap.osW (by simp) rfl (Mode.live_ne rfl) rfl (by omega)) (.cons (.osIf (by simp) rfl (Mode.live_ne rfl) rfl (by first|rfl|(simp only [List.length_set];done)|(simp only [List.length_drop,List.length_take,List.length_append,List.length_set] at *;omega))) .nil)) (quot_guess.cs Hq4) (.inr (.int)) (.int)) ?_
      refine O.pu (Pu.assign (.tmp (v:=.int _ _) rfl)) ?_
      refine O.nil ?_
      refine X.seq ?_
      refine X.seq ?_
      refine X.still ?_
      refine O.pu (Pu.move (.tmp (v:=.os _ _ _ _ _) rfl)) ?_
      refine O.pu (Pu.move (.tmp (v:=.os _ _ _ _ _) rfl)) ?_
      refine O.pu (Pu.move (.tmp (v:=.int _ _) rfl)) ?_
      obtain ⟨q5,Hq5,h⟩:=Option.bind_eq_some_iff.1 h
      obtain ⟨⟨_,_,_⟩,q6,Hq6,rfl⟩:=win_e Hq5
      have hlq6:=quot_less_len Hq6
      refine O.ef (U.callW (res:=[.int _ _]) (ss:=[1]) (.cons (.tmp (v:=.os _ _ _ _ _) rfl) (.cons (.tmp (v:=.os _ _ _ _ _) rfl) (.cons (.tmp (v:=.int _ _) rfl) .nil))) (.hole (.cons (.osIf (by simp) rfl (Mode.live_ne rfl) rfl (by first|rfl|(simp only [List.length_set];done)|(simp only [List.length_drop,List.length_take,List.length_append,List.length_set] at *;omega))) (.cons (.cl .int) .nil))) rfl rfl rfl rfl rfl (by simp only [List.length_drop,List.length_take,List.length_append,List.length_set] at *;omega) (by simp only [List.length_drop,List.length_take,List.length_append,List.length_set] at *;omega) (by simp only [List.length_drop,List.length_take,List.length_append,List.length_set] at *;omega) (by simp only [List.length_drop,List.length_take,List.length_append,List.length_set] at *;omega) (.int) (quot_less.cs Hq6)) ?_
      refine O.pu (Pu.assign (.tmp (v:=.int _ _) rfl)) ?_
      refine O.nil ?_
      refine X.block ?_
      refine X.inv (fun k s=>k≤k1∧∃ x0 x1 x6 x7 x8 x10 x11 n0 n1 n7 u1 u24 u36,s.b 24=⟨u24, .own, .ints .u64 x0,57⟩∧s.t 0 = .os 24 u24 0 n0 true∧x0.length=n0∧s.b 1=⟨u1, .own, .ints .u64 x1,57⟩∧s.t 1 = .os 1 u1 0 n1 false∧x1.length=n1∧s.t 6 = .int .u64 x6∧s.b 36=⟨u36, .own, .ints .u64 x7,57⟩∧s.t 7 = .os 36 u36 0 n7 true∧x7.length=n7∧s.t 8 = .int .i64 x8∧s.t 10 = .int .u64 x10∧s.t 11 = .int .u64 x11∧s.t 9 = .os 24 u24 x8.toNat ((wrap64 ((wrap64 (x8 + (x1.length:Int))) + 1)).toNat - x8.toNat) false∧0≤x8∧x8 < wrap64 ((wrap64 (x8 + (x1.length:Int))) + 1)∧wrap64 ((wrap64 (x8 + (x1.length:Int))) + 1)≤(x0.length:Int)∧quot_long.l1 k x0 x1 x6 x7 x8 x10 x11=some r) ?_ ?_ ⟨(by omega),_,_,_,_,_,_,_,_,_,_,_,_,_,rfl,rfl,(by first|rfl|(simp only [List.length_set];done)|(simp only [List.length_drop,List.length_take,List.length_append,List.length_set] at *;omega)),rfl,rfl,(by first|rfl|(simp only [List.length_set];done)|(simp only [List.length_drop,List.length_take,List.length_append,List.length_set] at *;omega)),rfl,rfl,rfl,(by first|rfl|(simp only [List.length_set];done)|(simp only [List.length_drop,List.length_take,List.length_append,List.length_set] at *;omega)),rfl,rfl,rfl,rfl,(by first|omega|(simp only [List.length_drop,List.length_take,List.length_append,List.length_set] at *;omega)),(by first|omega|(simp only [List.length_drop,List.length_take,List.length_append,List.length_set] at *;omega)),(by first|omega|(simp only [List.length_drop,List.length_take,List.length_append,List.length_set] at *;omega)),h⟩
      · rintro s ⟨_,_,_,_,_,_,_,_,_,_,_,_,_,_,_,_,_,_,_,_,_,_,_,_,_,_,_,_,_,_,_,h⟩;unfold quot_long.l1 at h;cases h
      · rintro k2 s2 ⟨kl2,x0,x1,x6,x7,x8,x10,x11,n0,n1,n7,u1,u24,u36,e0,e1,rfl,e3,e4,rfl,e6,e7,e8,rfl,e10,e11,e12,e13,_,_,_,h⟩
        unfold quot_long.l1 at h
        rw [St.fixB e0,St.fixT e1,St.fixB e3,St.fixT e4,St.fixT e6,St.fixB e7,St.fixT e8,St.fixT e10,St.fixT e11,St.fixT e12,St.fixT e13]
        refine X.seq ?_
        refine X.seq ?_
        refine X.still ?_
        refine O.pu (Pu.move (.tmp (v:=.int _ _) rfl)) ?_
        refine O.pu (Pu.bin (.tmp rfl) .int .neq) ?_
        refine O.nil ?_
        refine X.condN (.tmp rfl) (fun c=>?_) (fun c=>?_)
        · rw [if_neg c] at h
          refine X.skip ?_
          refine X.block ?_
          refine X.seq ?_
          refine X.still ?_
          refine O.pu (Pu.move (.tmp (v:=.int _ _) rfl)) ?_
          refine O.pu (Pu.bin (.tmp rfl) .int .sub) ?_
          refine O.pu (Pu.assign (.tmp (v:=.int _ _) rfl)) ?_
          refine O.nil ?_
          refine X.seq ?_
          refine X.still ?_
          refine O.pu (Pu.move (.tmp (v:=.os _ _ _ _ _) rfl)) ?_
          refine O.pu (Pu.move (.tmp (v:=.os _ _ _ _ _) rfl)) ?_
          obtain ⟨q7,Hq7,h⟩:=Option.bind_eq_some_iff.1 h
          obtain ⟨⟨_,_,_⟩,q8,Hq8,rfl⟩:=win_e Hq7
          have hlq8:=quot_back_len Hq8
          refine O.ef (U.callW (res:=[]) (ss:=[1]) (.cons (.tmp (v:=.os _ _ _ _ _) rfl) (.cons (.tmp (v:=.os _ _ _ _ _) rfl) .nil)) (.hole (.cons (.osIf (by simp) rfl (Mode.live_ne rfl) rfl (by first|rfl|(simp only [List.length_set];done)|(simp only [List.length_drop,List.length_take,List.length_append,List.length_set] at *;omega))) .nil)) rfl rfl rfl rfl rfl (by simp only [List.length_drop,List.length_take,List.length_append,List.length_set] at *;omega) (by simp only [List.length_drop,List.length_take,List.length_append,List.length_set] at *;omega) (by simp only [List.length_drop,List.length_take,List.length_append,List.length_set] at *;omega) (by simp only [List.length_drop,List.length_take,List.length_append,List.length_set] at *;omega) (.tupL .nil) (quot_back.cs Hq8)) ?_
          refine O.nil ?_
          refine X.seq ?_
          refine X.still ?_
          refine O.pu (Pu.move (.tmp (v:=.os _ _ _ _ _) rfl)) ?_
          refine O.pu (Pu.move (.tmp (v:=.os _ _ _ _ _) rfl)) ?_
          refine O.pu (Pu.lenO rfl (.tmp rfl)) ?_
          repeat (rw [giff] at h;obtain ⟨_,h⟩:=h)
          refine O.pu (U.indexW (n:=((x1.length:Int) + x8)) rfl (.tmp rfl) rfl rfl (.tmp rfl) (by omega) (by omega) rfl rfl (by omega)) ?_
          refine O.pu (U.rdO (.tmp rfl) rfl rfl rfl rfl rfl) ?_
          refine O.pu (Pu.bin (.tmp rfl) .int .eql) ?_
          refine O.nil ?_
          refine X.condE (.tmp rfl) (fun c=>?_) (fun c=>?_)
          · rw [if_pos c] at h
            refine X.still ?_
            refine O.pu (Pu.assign .int) ?_
            refine O.nil ?_
            exact ⟨_,(by omega),(by omega),_,_,_,_,_,_,_,_,_,_,_,_,_,rfl,rfl,(by first|rfl|(simp only [List.length_set];done)|(simp only [List.length_drop,List.length_take,List.length_append,List.length_set] at *;omega)),rfl,rfl,(by first|rfl|(simp only [List.length_set];done)|(simp only [List.length_drop,List.length_take,List.length_append,List.length_set] at *;omega)),rfl,rfl,rfl,(by first|rfl|(simp only [List.length_set];done)|(simp only [List.length_drop,List.length_take,List.length_append,List.length_set] at *;omega)),rfl,rfl,rfl,rfl,(by first|omega|(simp only [List.length_drop,List.length_take,List.length_append,List.length_set] at *;omega)),(by first|omega|(simp only [List.length_drop,List.length_take,List.length_append,List.length_set] at *;omega)),(by first|omega|(simp only [List.length_drop,List.length_take,List.length_append,List.length_set] at *;omega)),h⟩
          · rw [if_neg c] at h
            refine X.skip ?_
            exact ⟨_,(by omega),(by omega),_,_,_,_,_,_,_,_,_,_,_,_,_,rfl,rfl,(by first|rfl|(simp only [List.length_set];done)|(simp only [List.length_drop,List.length_take,List.length_append,List.length_set] at *;omega)),rfl,rfl,(by first|rfl|(simp only [List.length_set];done)|(simp only [List.length_drop,List.length_take,List.length_append,List.length_set] at *;omega)),rfl,rfl,rfl,(by first|rfl|(simp only [List.length_set];done)|(simp only [List.length_drop,List.length_take,List.length_append,List.length_set] at *;omega)),rfl,rfl,rfl,rfl,(by first|omega|(simp only [List.length_drop,List.length_take,List.length_append,List.length_set] at *;omega)),(by first|omega|(simp only [List.length_drop,List.length_take,List.length_append,List.length_set] at *;omega)),(by first|omega|(simp only [List.length_drop,List.length_take,List.length_append,List.length_set] at *;omega)),h⟩
        · rw [if_pos c] at h
          refine X.exit (B.out ?_)
          refine X.still ?_
          refine O.pu (Pu.move (.tmp (v:=.os _ _ _ _ _) rfl)) ?_
          refine O.pu (Pu.move (.tmp (v:=.int _ _) rfl)) ?_
          refine O.pu (Pu.move (.tmp (v:=.int _ _) rfl)) ?_
          repeat (rw [giff] at h;obtain ⟨_,h⟩:=h)
          refine O.pu (U.indexO0 rfl (.tmp rfl) rfl rfl (.tmp rfl) (by first|omega|(simp only [List.length_set] at *;omega)) (by first|omega|(simp only [List.length_set] at *;omega)) rfl rfl) ?_
          refine O.ef0 (U.storeE (.tmp rfl) rfl rfl (.tmp (v:=.int _ _) rfl) rfl rfl (.whole (notBad_ne rfl) rfl) .ints) ?_
          refine O.nil ?_
          refine X.still ?_
          refine O.pu (Pu.move (.tmp (v:=.int _ _) rfl)) ?_
          refine O.pu (Pu.bin (.tmp rfl) .int U.sub64) ?_
          refine O.pu (Pu.assign (.tmp (v:=.int _ _) rfl)) ?_
          refine O.nil ?_
          exact ⟨_,(by omega),_,_,_,_,_,_,_,_,_,_,_,rfl,rfl,(by first|rfl|(simp only [List.length_set];done)|(simp only [List.length_drop,List.length_take,List.length_append,List.length_set] at *;omega)),rfl,rfl,(by first|rfl|(simp only [List.length_set];done)|(simp only [List.length_drop,List.length_take,List.length_append,List.length_set] at *;omega)),rfl,rfl,rfl,(by first|rfl|(simp only [List.length_set];done)|(simp only [List.length_drop,List.length_take,List.length_append,List.length_set] at *;omega)),rfl,h⟩
    · rw [if_neg c] at h
      refine X.exit (B.out ?_)
      refine X.seq ?_
      refine X.still ?_
      refine O.pu (Pu.move (.tmp (v:=.os _ _ _ _ _) rfl)) ?_
      obtain ⟨q9,Hq9,h⟩:=Option.bind_eq_some_iff.1 h
      refine O.ef (U.callZ (ss:=[24]) (.cons (.tmp (v:=.os _ _ _ _ _) rfl) .nil) (.cons (.osIf (by simp) rfl (Mode.live_ne rfl) rfl (by first|rfl|(simp only [List.length_set];done)|(simp only [List.length_drop,List.length_take,List.length_append,List.length_set] at *;omega))) .nil) (nat_Of.cs Hq9) (.aggL (.cons .fi .nil)) (nowin rfl)) ?_
      refine O.pu (Pu.move (.tmp (v:=.int _ _) rfl)) ?_
      refine O.pu (U.conv64 rfl (.tmp rfl)) ?_
      obtain ⟨q10,Hq10,h⟩:=Option.bind_eq_some_iff.1 h
      refine O.pu (U.call (ss:=[]) (.cons (.tmp (v:=.agg _) rfl) (.cons (.tmp (v:=.int _ _) rfl) .nil)) (.cons (.cl (.aggL (.cons .fi .nil))) (.cons (.cl .int) .nil)) (quot_Shr.cs Hq10) (.inl rfl) (.tupL (.cons (.aggL (.cons .fi .nil)) (.cons .int .nil)))) ?_
      refine O.pu (Pu.move (.tmp (v:=.tup _) rfl)) ?_
      refine O.pu (Pu.extract (.tmp rfl) rfl) ?_
      refine O.pu (Pu.extract (.tmp rfl) rfl) ?_
      refine O.puE (v':=.op 12 ((s1.b 12).ver + 1) 0 0) (b':=⟨(s1.b 12).ver + 1, .own,(.vals [.agg [.fi .u64 []]]),_⟩) Pu.alloc rfl rfl ?_
      refine O.ef0 (U.storeE (.tmp rfl) rfl rfl (.tmp (v:=.agg _) rfl) rfl rfl (.whole (notBad_ne rfl) rfl) .one) ?_
      refine O.pu (Pu.assign (.tmp (v:=.int _ _) rfl)) ?_
      refine O.nil ?_
      refine X.seq ?_
      refine X.still ?_
      refine O.pu (Pu.move (.tmp (v:=.os _ _ _ _ _) rfl)) ?_
      refine O.pu (U.load (.tmp rfl) rfl rfl (U.whole rfl rfl)) ?_
      obtain ⟨q11,Hq11,h⟩:=Option.bind_eq_some_iff.1 h
      refine O.puE (v':=.os 86 ((s1.b 86).ver + 1) 0 _ true) (b':=⟨(s1.b 86).ver + 1, .own,_,_⟩) (U.callF (ss:=[]) (.cons (.tmp (v:=.agg _) rfl) .nil) (.cons (.cl (.aggL (.cons .fi .nil))) .nil) (nat_Nat_Limbs.cs Hq11)) rfl rfl ?_
      refine O.pu (Pu.assign (.tmp (v:=.os _ _ _ _ _) rfl)) ?_
      refine O.pu (Pu.assign (.tmp (v:=.os _ _ _ _ _) rfl)) ?_
      refine O.nil ?_
      refine X.ret ?_
      cases h
      exact E.fin [36,86] (.tmp (v:=.os _ _ _ _ _) rfl (.tmp (v:=.os _ _ _ _ _) rfl .nil)) (.cons (.osIf (by simp) rfl (Mode.live_ne rfl) rfl (by first|rfl|(simp only [List.length_set];done)|(simp only [List.length_drop,List.length_take,List.length_append,List.length_set] at *;omega))) (.cons (.osIf (by simp) rfl (Mode.live_ne rfl) rfl (by first|rfl|(simp only [List.length_set];done)|(simp only [List.length_drop,List.length_take,List.length_append,List.length_set] at *;omega))) .nil))
noncomputable def c73:Code:=Try.f73.body.getD .skip
theorem fn73:FnOk Try.prog 73 Try.f73 c73:=⟨Try.func73,rfl,by kernel_rfl,by kernel_rfl,mixed⟩
theorem quot_Div.cs {k:Nat} {l0_0:List Int} {l1_0:List Int} {r:List Int×List Int×Int} (h:quot_Div.f k l0_0 l1_0=some r):CS Try.prog 73 [.agg [.fi .u64 l0_0], .agg [.fi .u64 l1_0]] .no [.agg [.fi .u64 r.1], .agg [.fi .u64 r.2.1], .int .i64 r.2.2]:=by
  unfold quot_Div.f at h
  refine E.pure fn73 rfl ?_
  refine X.seq ?_
  refine X.still ?_
  refine O.puE (v':=.op 2 (1) 0 0) (b':=⟨1, .own,_,_⟩) (Pu.box (.tmp (v:=.agg _) rfl) rfl rfl) rfl rfl ?_
  refine O.puE (v':=.op 3 (1) 0 0) (b':=⟨1, .own,_,_⟩) (Pu.box (.tmp (v:=.agg _) rfl) rfl rfl) rfl rfl ?_
  refine O.puE (v':=.op 4 (1) 0 0) (b':=⟨1, .own,(.vals [.agg [.fi .u64 []]]),_⟩) Pu.alloc rfl rfl ?_
  refine O.puE (v':=.op 5 (1) 0 0) (b':=⟨1, .own,(.vals [.agg [.fi .u64 []]]),_⟩) Pu.alloc rfl rfl ?_
  refine O.pu (Pu.assign .int) ?_
  refine O.nil ?_
  refine X.seq ?_
  refine X.seq ?_
  refine X.still ?_
  refine O.pu (U.load (.tmp rfl) rfl rfl (U.whole rfl rfl)) ?_
  obtain ⟨q1,Hq1,h⟩:=Option.bind_eq_some_iff.1 h
  refine O.pu (U.call (ss:=[]) (.cons (.tmp (v:=.agg _) rfl) .nil) (.cons (.cl (.aggL (.cons .fi .nil))) .nil) (nat_Nat_Zero.cs Hq1) (.inl rfl) (.bool)) ?_
  refine O.nil ?_
  refine X.cond (.tmp rfl) (fun c=>?_) (fun c=>?_)
  · rw [if_pos c] at h
    refine X.seq ?_
    refine X.still ?_
    refine O.pu (Pu.build rfl .nil) ?_
    refine O.pu (Pu.build rfl .nil) ?_
    refine O.ef0 (U.storeE (.tmp rfl) rfl rfl (.tmp (v:=.agg _) rfl) rfl rfl (.whole (notBad_ne rfl) rfl) .one) ?_
    refine O.ef0 (U.storeE (.tmp rfl) rfl rfl (.tmp (v:=.agg _) rfl) rfl rfl (.whole (notBad_ne rfl) rfl) .one) ?_
    refine O.pu (Pu.assign .int) ?_
    refine O.nil ?_
    refine X.ret ?_
    cases h
    exact E.fin [] (.cell rfl rfl (Mode.live_ne rfl) (U.whole rfl rfl) (.cell rfl rfl (Mode.live_ne rfl) (U.whole rfl rfl) (.tmp (v:=.int _ _) rfl .nil))) (.cons (.cl (.aggL (.cons .fi .nil))) (.cons (.cl (.aggL (.cons .fi .nil))) (.cons (.cl .int) .nil)))
  · rw [if_neg (bf c)] at h
    refine X.skip ?_
    refine X.seq ?_
    refine X.seq ?_
    refine X.still ?_
    refine O.pu (U.load (.tmp rfl) rfl rfl (U.whole rfl rfl)) ?_
    refine O.pu (U.load (.tmp rfl) rfl rfl (U.whole rfl rfl)) ?_
    obtain ⟨q2,Hq2,h⟩:=Option.bind_eq_some_iff.1 h
    refine O.pu (U.call (ss:=[]) (.cons (.tmp (v:=.agg _) rfl) (.cons (.tmp (v:=.agg _) rfl) .nil)) (.cons (.cl (.aggL (.cons .fi .nil))) (.cons (.cl (.aggL (.cons .fi .nil))) .nil)) (nat_Nat_Cmp.cs Hq2) (.inl rfl) (.int)) ?_
    refine O.pu (Pu.bin (.tmp rfl) .int .lss) ?_
    refine O.nil ?_
    refine X.condP (.tmp rfl) (fun c=>?_) (fun c=>?_)
    · rw [if_pos c] at h
      refine X.seq ?_
      refine X.drawn ?_
      refine D.pu (Pu.build rfl .nil) ?_
      refine D.pu (U.load (.tmp rfl) rfl rfl (U.whole rfl rfl)) ?_
      refine D.ef0 (C.storeE (.tmp rfl) rfl rfl (.tmp (v:=.agg _) rfl) rfl rfl (.whole (notBad_ne rfl) rfl) .one) ?_
      refine D.ef0 (C.storeE (.tmp rfl) rfl rfl (.tmp (v:=.agg _) rfl) rfl rfl (.whole (notBad_ne rfl) rfl) .one) ?_
      refine D.pu (Pu.assign .int) ?_
      refine D.nil (by kernel_rfl) ?_
      refine X.ret ?_
      cases h
      exact E.fin [] (.cell rfl rfl (Mode.live_ne rfl) (U.whole rfl rfl) (.cell rfl rfl (Mode.live_ne rfl) (U.whole rfl rfl) (.tmp (v:=.int _ _) rfl .nil))) (.cons (.cl (.aggL (.cons .fi .nil))) (.cons (.cl (.aggL (.cons .fi .nil))) (.cons (.cl .int) .nil)))
    · rw [if_neg c] at h
      refine X.skip ?_
      refine X.seq ?_
      refine X.drawn ?_
      refine D.pu (U.load (.tmp rfl) rfl rfl (U.whole rfl rfl)) ?_
      obtain ⟨q3,Hq3,h⟩:=Option.bind_eq_some_iff.1 h
      refine D.puE (v':=.os 24 (1) 0 _ true) (b':=⟨1, .own,_,_⟩) (U.callF (ss:=[]) (.cons (.tmp (v:=.agg _) rfl) .nil) (.cons (.cl (.aggL (.cons .fi .nil))) .nil) (nat_Nat_Limbs.cs Hq3)) rfl rfl ?_
      refine D.pu (U.load (.tmp rfl) rfl rfl (U.whole rfl rfl)) ?_
      obtain ⟨q4,Hq4,h⟩:=Option.bind_eq_some_iff.1 h
      refine D.puE (v':=.os 26 (1) 0 _ true) (b':=⟨1, .own,_,_⟩) (U.callF (ss:=[]) (.cons (.tmp (v:=.agg _) rfl) .nil) (.cons (.cl (.aggL (.cons .fi .nil))) .nil) (nat_Nat_Limbs.cs Hq4)) rfl rfl ?_
      refine D.pu (Pu.assign (.tmp (v:=.os _ _ _ _ _) rfl)) ?_
      refine D.pu (Pu.assign (.tmp (v:=.os _ _ _ _ _) rfl)) ?_
      refine D.nil (by kernel_rfl) ?_
      refine X.seq ?_
      refine X.seq ?_
      refine X.still ?_
      refine O.pu (Pu.move (.tmp (v:=.os _ _ _ _ _) rfl)) ?_
      refine O.pu (Pu.lenO rfl (.tmp rfl)) ?_
      refine O.pu (Pu.bin (.tmp rfl) .int .eql) ?_
      refine O.nil ?_
      refine X.condE (.tmp rfl) (fun c=>?_) (fun c=>?_)
      · rw [if_pos c] at h
        refine X.seq ?_
        refine X.still ?_
        refine O.pu (Pu.move (.tmp (v:=.os _ _ _ _ _) rfl)) ?_
        refine O.pu (Pu.move (.tmp (v:=.os _ _ _ _ _) rfl)) ?_
        repeat (rw [giff] at h;obtain ⟨_,h⟩:=h)
        refine O.pu (U.indexO0 rfl (.tmp rfl) rfl rfl .int (by first|omega|(simp only [List.length_set] at *;omega)) (by first|omega|(simp only [List.length_set] at *;omega)) rfl rfl) ?_
        refine O.pu (U.rdO (.tmp rfl) rfl rfl rfl rfl rfl) ?_
        obtain ⟨q5,Hq5,h⟩:=Option.bind_eq_some_iff.1 h
        refine O.ef (U.callZ (ss:=[24]) (.cons (.tmp (v:=.os _ _ _ _ _) rfl) (.cons (.tmp (v:=.int _ _) rfl) .nil)) (.cons (.osIf (by simp) rfl (Mode.live_ne rfl) rfl (by first|rfl|(simp only [List.length_set];done)|(simp only [List.length_drop,List.length_take,List.length_append,List.length_set] at *;omega))) (.cons (.cl .int) .nil)) (quot_by.cs Hq5) (.tupL (.cons .fi (.cons .int .nil))) (nowin rfl)) ?_
        refine O.pu (Pu.move (.tmp (v:=.tup _) rfl)) ?_
        refine O.pu (Pu.extract (.tmp rfl) rfl) ?_
        refine O.pu (Pu.extract (.tmp rfl) rfl) ?_
        refine O.pu (Pu.assign (.tmp (v:=.fi _ _) rfl)) ?_
        refine O.pu (Pu.assign (.tmp (v:=.int _ _) rfl)) ?_
        refine O.nil ?_
        refine X.seq ?_
        refine X.still ?_
        refine O.pu (Pu.move (.tmp (v:=.fi _ _) rfl)) ?_
        obtain ⟨q6,Hq6,h⟩:=Option.bind_eq_some_iff.1 h
        refine O.pu (U.call (ss:=[]) (.cons (.tmp (v:=.fi _ _) rfl) .nil) (.cons (.cl .fi) .nil) (nat_Of.cs Hq6) (.inl rfl) (.aggL (.cons .fi .nil))) ?_
        refine O.pu (Pu.move (.tmp (v:=.int _ _) rfl)) ?_
        refine O.puE (v':=.os 41 (1) 0 _ true) (b':=⟨1, .own,_,_⟩) (U.litI rfl rfl (.cons (.tmp (v:=.int _ _) rfl) .nil) rfl rfl) rfl rfl ?_
        obtain ⟨q7,Hq7,h⟩:=Option.bind_eq_some_iff.1 h
        refine O.ef (U.callZ (ss:=[41]) (.cons (.tmp (v:=.os _ _ _ _ _) rfl) .nil) (.cons (.osIf (by simp) rfl (Mode.live_ne rfl) rfl (by first|rfl|(simp only [List.length_set];done)|(simp only [List.length_drop,List.length_take,List.length_append,List.length_set] at *;omega))) .nil) (nat_Of.cs Hq7) (.aggL (.cons .fi .nil)) (nowin rfl)) ?_
        refine O.ef0 (U.storeE (.tmp rfl) rfl rfl (.tmp (v:=.agg _) rfl) rfl rfl (.whole (notBad_ne rfl) rfl) .one) ?_
        refine O.ef0 (U.storeE (.tmp rfl) rfl rfl (.tmp (v:=.agg _) rfl) rfl rfl (.whole (notBad_ne rfl) rfl) .one) ?_
        refine O.pu (Pu.assign .int) ?_
        refine O.nil ?_
        refine X.ret ?_
        cases h
        exact E.fin [] (.cell rfl rfl (Mode.live_ne rfl) (U.whole rfl rfl) (.cell rfl rfl (Mode.live_ne rfl) (U.whole rfl rfl) (.tmp (v:=.int _ _) rfl .nil))) (.cons (.cl (.aggL (.cons .fi .nil))) (.cons (.cl (.aggL (.cons .fi .nil))) (.cons (.cl .int) .nil)))
      · rw [if_neg c] at h
        refine X.skip ?_
        refine X.seq ?_
        refine X.still ?_
        refine O.pu (Pu.move (.tmp (v:=.os _ _ _ _ _) rfl)) ?_
        refine O.pu (Pu.move (.tmp (v:=.os _ _ _ _ _) rfl)) ?_
        obtain ⟨q8,Hq8,h⟩:=Option.bind_eq_some_iff.1 h
        refine O.ef (U.callZ (ss:=[24,26]) (.cons (.tmp (v:=.os _ _ _ _ _) rfl) (.cons (.tmp (v:=.os _ _ _ _ _) rfl) .nil)) (.cons (.osIf (by simp) rfl (Mode.live_ne rfl) rfl (by first|rfl|(simp only [List.length_set];done)|(simp only [List.length_drop,List.length_take,List.length_append,List.length_set] at *;omega))) (.cons (.osIf (by simp) rfl (Mode.live_ne rfl) rfl (by first|rfl|(simp only [List.length_set];done)|(simp only [List.length_drop,List.length_take,List.length_append,List.length_set] at *;omega))) .nil)) (quot_long.cs Hq8) (.tupL (.cons .fi (.cons .fi .nil))) (nowin rfl)) ?_
        refine O.pu (Pu.move (.tmp (v:=.tup _) rfl)) ?_
        refine O.pu (Pu.extract (.tmp rfl) rfl) ?_
        refine O.pu (Pu.extract (.tmp rfl) rfl) ?_
        refine O.pu (Pu.assign (.tmp (v:=.fi _ _) rfl)) ?_
        refine O.pu (Pu.assign (.tmp (v:=.fi _ _) rfl)) ?_
        refine O.nil ?_
        refine X.seq ?_
        refine X.still ?_
        refine O.pu (Pu.move (.tmp (v:=.fi _ _) rfl)) ?_
        obtain ⟨q9,Hq9,h⟩:=Option.bind_eq_some_iff.1 h
        refine O.pu (U.call (ss:=[]) (.cons (.tmp (v:=.fi _ _) rfl) .nil) (.cons (.cl .fi) .nil) (nat_Of.cs Hq9) (.inl rfl) (.aggL (.cons .fi .nil))) ?_
        refine O.pu (Pu.move (.tmp (v:=.fi _ _) rfl)) ?_
        obtain ⟨q10,Hq10,h⟩:=Option.bind_eq_some_iff.1 h
        refine O.pu (U.call (ss:=[]) (.cons (.tmp (v:=.fi _ _) rfl) .nil) (.cons (.cl .fi) .nil) (nat_Of.cs Hq10) (.inl rfl) (.aggL (.cons .fi .nil))) ?_
        refine O.ef0 (U.storeE (.tmp rfl) rfl rfl (.tmp (v:=.agg _) rfl) rfl rfl (.whole (notBad_ne rfl) rfl) .one) ?_
        refine O.ef0 (U.storeE (.tmp rfl) rfl rfl (.tmp (v:=.agg _) rfl) rfl rfl (.whole (notBad_ne rfl) rfl) .one) ?_
        refine O.pu (Pu.assign .int) ?_
        refine O.nil ?_
        refine X.ret ?_
        cases h
        exact E.fin [] (.cell rfl rfl (Mode.live_ne rfl) (U.whole rfl rfl) (.cell rfl rfl (Mode.live_ne rfl) (U.whole rfl rfl) (.tmp (v:=.int _ _) rfl .nil))) (.cons (.cl (.aggL (.cons .fi .nil))) (.cons (.cl (.aggL (.cons .fi .nil))) (.cons (.cl .int) .nil)))
end Go.Proofs.Ytkoccekiojhidaa
end

section
namespace Go.AVL
open Go.RowKit
set_option linter.unusedVariables false
section
variable {P : Program} {c : Ctx P} {I : Nat → Prop} {m : Nat → Reg} {w w' : World} {st : St} {a : Act} {ops : Array Oper} {K : Act → World → Prop} {Q : Exit → Act → World → Prop}
def keeps (ds:List Nat) (a a':Act):Prop:=a'.defers=a.defers∧a'.tmps.size=a.tmps.size∧∀ x,x ∉ ds→a'.tmps.getD x undef=a.tmps.getD x undef
theorem keeps.refl {ds:List Nat} (a:Act):keeps ds a a:=⟨rfl,rfl,fun _ _=>rfl⟩
theorem keeps.trans {ds:List Nat} {a b d:Act} (h:keeps ds a b) (h':keeps ds b d):keeps ds a d:=⟨h'.1.trans h.1,h'.2.1.trans h.2.1,fun x hx=>(h'.2.2 x hx).trans (h.2.2 x hx)⟩
theorem keeps.put {ds:List Nat} {a:Act} {d:Nat} {V:Value} (hd:d ∈ ds):keeps ds a (a.put (some d) V):=by
  refine ⟨rfl,by rw [Act.put_tmps,Array.size_setIfInBounds],fun x hx=>?_⟩
  have hne:d≠x:=fun e=>hx (e ▸ hd)
  rw [Act.put_tmps]
  simp only [Array.getD_eq_getD_getElem?]
  rw [Array.getElem?_setIfInBounds_ne hne]
theorem put_at {a:Act} {d:Nat} {V:Value} (hd:d < a.tmps.size):(a.put (some d) V).tmps.getD d undef=V:=by rw [Act.put_tmps,getD_set hd,if_pos rfl]
theorem T.step {i:Nat} {rest:List Nat} {o:Oper} (hi:ops[i]?=some o) (hg:o.guard=none) (h:o.wp P a w (wpOps P ops Q rest) Q):wpOps P ops Q (i :: rest) a w:=by
  unfold wpOps
  simp only [hi]
  rw [if_pos (by simp [Region.wanted,hg])]
  exact .inl h
theorem T.pu {i:Nat} {rest:List Nat} {o:Oper} {d:Nat} {v:AV} {R:List Nat} {ds:List Nat} (hx:SRx c I m st a w) (hi:ops[i]?=some o) (hg:o.guard=none) (hd:o.dst=some d) (hn:d < c.n) (hds:d ∈ ds) (hp:Pu P st d o.op v none R)
    (hk : ∀ a' w' I' m',keeps ds a a'→SRx c I' m' (st.put d v) a' w'→wpOps P ops Q rest a' w'):wpOps P ops Q (i :: rest) a w:=by
  refine T.step hi hg (Pu.sound hx hp _ _ fun V w' I' m' h1 h2=>?_)
  rw [hd]
  exact hk _ w' I' m' (.put hds) (h1.put h2 (some d) (fun x hx=>by cases hx;exact hn))
theorem T.call {i:Nat} {rest:List Nat} {o:Oper} {f:FuncId} {fn:Func} {code:Code} {args:Array Operand} {ats:Array TypeId} {V:Array Value} {G:Ending→World→Prop} (hi:ops[i]?=some o) (hg:o.guard=none) (ho:o.op = .call ⟨.value (.func f),args,ats⟩) (hf:FnOk P f fn code)
    (hv:args.map a.eval=V) (hc:Calls P f V w G) (hk : ∀ e w',G e w'→∃ v,e = .returned v∧wpOps P ops Q rest (a.put o.dst v) w'):wpOps P ops Q (i :: rest) a w:=by
  refine T.step hi hg (wp_call (f:=f) (V:=V) ?_ (callW_of_calls hf (hc.mono fun e w' he=>?_)))
  · rw [exec_call (f:=f) (cv:=#[]) ho rfl,hv,Array.append_empty]
  · obtain ⟨v,rfl,h⟩:=hk e w' he
    exact h
theorem T.enter {n:Nat} (hs:a.tmps.size=n) (hd:a.defers = []) (hst : ∀ x,VR (fun k=>k < w.heap.size) w noB m (st.t x) (a.tmps.getD x undef)) (hb:st.b=noB) :
    SRx (⟨n,w,fun k=>k < w.heap.size,none⟩:Ctx P) (fun k=>k < w.heap.size) m st a w:=by
  refine ⟨?_,hd,hs,by rw [hb];exact hst⟩
  rw [hb]
  have h:=WR.fresh (P:=P) (fun k=>k < w.heap.size) w m fun k hk=>hk
  exact ⟨h.os,h.tape,h.output,h.size,h.frame,h.frameW,h.imm,h.blk,h.inj⟩
theorem T.below {n:Nat} {w0:World} {A:Nat→Prop} (hx:SRx (⟨n,w0,A,none⟩:Ctx P) I m st a w):Below w0.heap.size w0 w :=
  ⟨hx.wr.os,hx.wr.tape,hx.wr.output,hx.wr.size,fun k hk=>hx.wr.frame k hk (by simp)⟩
end
end Go.AVL
end

section
namespace Go.Proofs.Ytkoccekiojhidaa
open Go.AVL Go.RowKit Go.Proofs.Ytkoccekiojhidaa.F Go.Proofs.YtkoccekiojhidaaX Go.Proofs.YtkoccekiojhidaaW.PrintWords Go.Proofs.YtkoccekiojhidaaW.PrintLast Go.Proofs.YtkoccekiojhidaaW.PrintMore
set_option linter.unusedVariables false
set_option maxRecDepth 100000
noncomputable def c32:Code:=Try.f32.body.getD .skip
theorem fn32:FnOk Try.prog 32 Try.f32 c32:=⟨Try.func32,rfl,by kernel_rfl,by kernel_rfl,mixed⟩
noncomputable def tl32:Code:=match c32 with | .seq _ (.seq _ (.seq _ (.seq _ t)))=>t|_=>.skip
theorem info107:(Try.prog.info? 107).map (fun i=>(i.zero,i.size,i.bytes))=some (some (.agg #[.pointer none, .slice none 0 0]),2,32):=by kernel_rfl
theorem bgrow {B b:Nat} {bs:List Value} {w w':World} (h:Lib.IsBuilder 107 5 B b bs w) (hb:Below w.heap.size w w'):Lib.IsBuilder 107 5 B b bs w':=by
  have one : ∀ p,Lib.BuilderAt 107 5 B b p bs w→Lib.BuilderAt 107 5 B b p bs w':=by
    rintro p ⟨h1,v,h2,⟨h3,h4⟩,h5⟩
    refine ⟨h1,v,(hb.block b (lt_of_some h2)).trans h2,⟨h3,h4.imp (fun h=>h) ?_⟩,h5⟩
    rintro ⟨g,cap,cur,e1,e2,e3,e4⟩
    exact ⟨g,cap,cur,e1,e2,(hb.block g (lt_of_some e3)).trans e3,e4⟩
  exact h.imp (one _) (one _)
theorem bjoin {w w1 w2:World} (h:Below w.heap.size w w1) (h':Below w1.heap.size w1 w2):Below w.heap.size w w2 :=
  h.trans ⟨h'.os,h'.tape,h'.output,h'.size,fun k hk=>h'.block k (Nat.lt_of_lt_of_le hk h.size)⟩
noncomputable def c77:Code:=Try.f77.body.getD .skip
theorem fn77:FnOk Try.prog 77 Try.f77 c77:=⟨Try.func77,rfl,by kernel_rfl,by kernel_rfl,mixed⟩
noncomputable def c78:Code:=Try.f78.body.getD .skip
theorem fn78:FnOk Try.prog 78 Try.f78 c78:=⟨Try.func78,rfl,by kernel_rfl,by kernel_rfl,mixed⟩
theorem and_r {x y:Bool} (h:(x && y)=true):y=true:=(Bool.and_eq_true_iff.1 h).2
theorem and_l {x y:Bool} (h:(x && y)=true):x=true:=(Bool.and_eq_true_iff.1 h).1
def grp (l:List ByteArray):Nat→AV:=upd (fun _=>.bad) 3 (.fv (l.map .str))
def grp2 (l:List ByteArray) (i:Int):Nat→AV:=upd (grp l) 12 (.int .i64 i)
theorem grp_vr {l:List ByteArray} {w0 w:World} {m:Nat→Reg} {V3:Value} {f:Nat→Value} (hv:VR (fun k=>k < w0.heap.size) w0 noB m (.fv (l.map .str)) V3) (hb:Below w0.heap.size w0 w) (h3:f 3=V3) (x:Nat) :
    VR (fun k=>k < w.heap.size) w noB m (grp l x) (f x):=by
  unfold grp
  by_cases hx:x=3
  · subst hx
    rw [upd_same,h3]
    exact hv.grow (fun k hk=>Nat.lt_of_lt_of_le hk hb.size) fun k hk=>hb.block k hk
  · rw [upd_ne _ _ hx];exact .bad _
theorem grp2_vr {l:List ByteArray} {i:Int} {w0 w:World} {m:Nat→Reg} {V3:Value} {f:Nat→Value} (hv:VR (fun k=>k < w0.heap.size) w0 noB m (.fv (l.map .str)) V3) (hb:Below w0.heap.size w0 w) (h3:f 3=V3) (h12:f 12 = .int .i64 i) (x:Nat) :
    VR (fun k=>k < w.heap.size) w noB m (grp2 l i x) (f x):=by
  unfold grp2
  by_cases hx:x=12
  · subst hx
    rw [upd_same,h12]
    exact .int _ _
  · rw [upd_ne _ _ hx];exact grp_vr hv hb h3 x
def ds32:List Nat:=[12,44,45,46,47,48,49,50,51,52,53,54,55]
theorem tail32 {st:St} {Q:Out→St→Prop} {l:List ByteArray} {r:ByteArray} {u n e:Nat} (h3:st.t 3 = .os 3 u 0 n true) (hb:st.b 3=⟨u, .own, .vals (l.map .str),e⟩) (hn:l.length=n)
    (h:digits_joined.f l=some r) (hQ : ∀ s,s.t 2 = .str r→Q .ret s):ByHand Try.prog tl32 st Q:=by
  intro c Qc hd hq a w ⟨I,m,hx⟩
  obtain ⟨hl1,hl2,rfl⟩:=digits_joined.told h
  have hsz:57≤c.n:=by
    have h1:(Nat.blt 56 c.n && _)=true:=and_l (and_r (and_r hd))
    exact Nat.le_of_ble_eq_true (and_l h1)
  have hv3:VR (fun k=>k < w.heap.size) w noB m (.fv (l.map .str)) (a.tmps.getD 3 undef):=by
    have h1:=hx.tmp 3
    rw [h3] at h1
    have h2:=os_vals (B':=noB) (m':=m) hx.wr h1 (by rw [hb]) (by rw [hb];simp) (by rw [hb]) (fun i hi=>by
      rw [List.length_map] at hi
      rw [List.getD_eq_getElem?_getD,List.getElem?_map,List.getElem?_eq_getElem hi]
      exact .str) (J:=fun k=>k < w.heap.size) (fun k hk=>(hx.wr.imm k hk).1) (fun hz=>by
        rcases hx.wr.blk 3 (by rw [hb];simp) with h0|⟨cur,h3,_⟩
        · exact absurd h0 hz
        · exact lt_of_some h3)
    rwa [List.drop_zero,List.take_of_length_le (by rw [List.length_map];omega)] at h2
  generalize hV3:a.tmps.getD 3 undef=V3 at hv3
  have hs0:a.tmps.size=c.n:=hx.sz
  refine wp_seq ?_
  refine wp_region ?_
  refine T.step rfl rfl ?_
  unfold Oper.wp
  have he : ∀ o:Oper,o.op = .alloc 107→(execOp a.eval o).run Try.prog w = .ok (.value (.pointer (some ⟨w.heap.size,0,none⟩))) (w.alloc (.cells #[.pointer none, .slice none 0 0] 107)):=by
    intro o ho
    obtain ⟨i0,hi,h1,h2,_⟩:=info_parts info107
    simp [execOp,ho,Instr.alloc,zeroValue,typeInfo,hi,h1,run_newVar,Value.cells]
  rw [he _ rfl]
  have hg:(a.put (some 11) (.pointer (some ⟨w.heap.size,0,none⟩))).tmps.getD 11 undef = .pointer (some ⟨w.heap.size,0,none⟩):=put_at (by omega)
  have hk:=keeps.put (ds:=[11]) (a:=a) (V:=.pointer (some ⟨w.heap.size,0,none⟩)) (List.mem_singleton.2 rfl)
  have hBu:=bfresh w
  have hBe:=below_alloc (Below.refl w.heap.size w) (.cells #[.pointer none, .slice none 0 0] 107)
  show Code.wp Try.prog _ _ (a.put (some 11) (.pointer (some ⟨w.heap.size,0,none⟩))) (w.alloc (.cells #[.pointer none, .slice none 0 0] 107))
  generalize a.put (some 11) (.pointer (some ⟨w.heap.size,0,none⟩))=a1 at hg hk ⊢
  generalize (w.alloc (.cells #[.pointer none, .slice none 0 0] 107))=w1 at hBu hBe ⊢
  refine wp_seq (wp_seq (wp_region ?_))
  have hx1:=T.enter (P:=Try.prog) (st:=⟨grp l,noB⟩) (hk.2.1.trans hs0) (hk.1.trans hx.def0) (grp_vr hv3 hBe ((hk.2.2 3 (by simp)).trans hV3)) rfl
  have hlt : ∀ d,d≤56→d < c.n:=fun d hd=>by omega
  have hkk : ∀ {a':Act} (x:Nat),keeps ds32 a1 a'→x ∉ ds32→a'.tmps.getD x undef=a1.tmps.getD x undef:=fun x h hx=>h.2.2 x hx
  refine T.pu (ds:=ds32) hx1 rfl rfl rfl (hlt _ (by decide)) (by simp [ds32]) (.move (.tmp (v:=.fv _) rfl)) fun a2 w2 I2 m2 k2 hx2=>?_
  refine T.pu (ds:=ds32) hx2 rfl rfl rfl (hlt _ (by decide)) (by simp [ds32]) (.lenV rfl (.tmp rfl)) fun a3 w3 I3 m3 k3 hx3=>?_
  refine T.pu (ds:=ds32) hx3 rfl rfl rfl (hlt _ (by decide)) (by simp [ds32]) (.bin (.tmp rfl) .int U.sub64) fun a4 w4 I4 m4 k4 hx4=>?_
  refine T.pu (ds:=ds32) hx4 rfl rfl rfl (hlt _ (by decide)) (by simp [ds32]) (.assign (.tmp (v:=.int _ _) rfl)) fun a5 w5 I5 m5 k5 hx5=>?_
  have hk5:=((k2.trans k3).trans k4).trans k5
  have h12:a5.tmps.getD 12 undef = .int .i64 ((l.length:Int) - 1):=by
    have h1:=(show VR I5 w5 noB m5 (.int .i64 (wrap64 (((l.map AV.str).length:Int) - 1))) (a5.tmps.getD 12 undef) from hx5.tmp 12).int_inv
    rw [h1,List.length_map]
    congr 1
    unfold wrap64
    omega
  have hb5:=T.below hx5
  have hB5:=bgrow hBu hb5
  have hbb5:=bjoin hBe hb5
  clear hx1 hx2 hx3 hx4 hx5 k2 k3 k4 k5
  show Code.wp Try.prog _ _ a5 w5
  refine wp_block (wp_loop (fun a' w'=>keeps ds32 a1 a'∧Below w.heap.size w w'∧∃ k:Nat,k≤l.length∧a'.tmps.getD 12 undef = .int .i64 ((k:Int) - 1)∧Lib.IsBuilder 107 5 w.heap.size w.heap.size (Lib.byteCells (digits_joined.go l k)) w')
    (fun a' _=>match a'.tmps.getD 12 undef with | .int _ i=>(i + 1).toNat|_=>0) ?_ ?_)
  · exact ⟨hk5,hbb5,l.length,Nat.le_refl _,h12,by rw [digits_joined.end_];exact hB5⟩
  · clear h12 hB5 hb5 hbb5 hk5
    rintro a6 w6 ⟨k6,hb6,k,hkl,h12,hB6⟩
    have hx6:=T.enter (P:=Try.prog) (st:=⟨grp2 l ((k:Int) - 1),noB⟩) (w:=w6) (m:=m) ((k6.2.1.trans hk.2.1).trans hs0) ((k6.1.trans hk.1).trans hx.def0) (grp2_vr hv3 hb6 (((hkk 3 k6 (by simp [ds32])).trans (hk.2.2 3 (by simp))).trans hV3) h12) rfl
    rw [h12]
    refine wp_seq (wp_seq (wp_region ?_))
    refine T.pu (ds:=ds32) hx6 rfl rfl rfl (hlt _ (by decide)) (by simp [ds32]) (.move (.tmp (v:=.int _ _) rfl)) fun a7 w7 I7 m7 k7 hx7=>?_
    refine T.pu (ds:=ds32) hx7 rfl rfl rfl (hlt _ (by decide)) (by simp [ds32]) (.bin (.tmp rfl) .int .geq) fun a8 w8 I8 m8 k8 hx8=>?_
    show Code.wp Try.prog _ _ a8 w8
    have k68:=(k6.trans k7).trans k8
    have hB8:=bgrow hB6 (T.below hx8)
    refine wp_cond_split (hx8.tmp 48).bool_inv (fun hc=>?_) fun hc=>?_
    · have hc:=of_decide_eq_true hc
      obtain ⟨k,rfl⟩ : ∃ j,k=j + 1:=⟨k - 1,by omega⟩
      have hn:(((k + 1:Nat):Int) - 1).toNat=k:=by omega
      have hes:(l.map AV.str).getD (((k + 1:Nat):Int) - 1).toNat .bad = .str (rdOf ByteArray.empty l (k:Int)):=by
        rw [hn]
        unfold rdOf
        rw [Int.toNat_natCast,List.getD_eq_getElem?_getD,List.getElem?_map,List.getD_eq_getElem?_getD,List.getElem?_eq_getElem (show k < l.length by omega)]
        rfl
      refine wp_skip ?_
      show Code.wp Try.prog _ _ a8 w8
      refine wp_seq (wp_block (wp_region ?_))
      refine T.pu (ds:=ds32) hx8 rfl rfl rfl (hlt _ (by decide)) (by simp [ds32]) (.move (.tmp (v:=.fv _) rfl)) fun a9 w9 I9 m9 k9 hx9=>?_
      refine T.pu (ds:=ds32) hx9 rfl rfl rfl (hlt _ (by decide)) (by simp [ds32]) (.move (.tmp (v:=.int _ _) rfl)) fun a10 w10 I10 m10 k10 hx10=>?_
      refine T.pu (ds:=ds32) hx10 rfl rfl rfl (hlt _ (by decide)) (by simp [ds32]) (.indexV rfl (by rw [hes];exact ⟨rfl,rfl⟩) (.tmp rfl) (.tmp rfl) hc (by rw [List.length_map];omega)) fun a11 w11 I11 m11 k11 hx11=>?_
      refine T.pu (ds:=ds32) hx11 rfl rfl rfl (hlt _ (by decide)) (by simp [ds32]) (.loadR (r:=.str (rdOf ByteArray.empty l (k:Int))) (.tmp rfl) (by rw [hes];exact U.self rfl rfl rfl)) fun a12 w12 I12 m12 k12 hx12=>?_
      have k912:=((k9.trans k10).trans k11).trans k12
      have hb12:=T.below hx12
      have hB12:=bgrow hB6 hb12
      have h54:=(show VR I12 w12 noB m12 (.str (rdOf ByteArray.empty l (k:Int))) (a12.tmps.getD 54 undef) from hx12.tmp 54).str_inv
      have h11:a12.tmps.getD 11 undef = .pointer (some ⟨w.heap.size,0,none⟩):=(hkk 11 (k68.trans k912) (by simp [ds32])).trans hg
      have hb612:=bjoin hb6 hb12
      refine T.call rfl rfl rfl fn77 (V:=#[.pointer (some ⟨w.heap.size,0,none⟩), .string (rdOf ByteArray.empty l (k:Int))]) (by have e1:a12.eval (.tmp 11)=_:=h11;have e2:a12.eval (.tmp 54)=_:=h54;simp only [List.map_toArray,List.map_cons,List.map_nil,e1,e2]) (bwrite _ _ _ _ _ hB12 (digits_joined.fits (by omega) hl2) hb612.size) ?_
      rintro e w13 ⟨rfl,hB13,hb13⟩
      refine ⟨_,rfl,?_⟩
      rw [← digits_joined.step l k (by omega)] at hB13
      have k13:keeps ds32 a1 (a12.put (some 55) (.tuple #[.int .i64 (rdOf ByteArray.empty l (k:Int)).size, .nilIface])):=(k68.trans k912).trans (.put (by simp [ds32]))
      have h12':(a12.put (some 55) (.tuple #[.int .i64 (rdOf ByteArray.empty l (k:Int)).size, .nilIface])).tmps.getD 12 undef = .int .i64 (((k + 1:Nat):Int) - 1):=by
        rw [(keeps.put (ds:=[55]) (a:=a12) (List.mem_singleton.2 rfl)).2.2 12 (by simp)]
        exact (show VR I12 w12 noB m12 (.int .i64 (((k + 1:Nat):Int) - 1)) (a12.tmps.getD 12 undef) from hx12.tmp 12).int_inv
      show Code.wp Try.prog _ _ (a12.put (some 55) (.tuple #[.int .i64 (rdOf ByteArray.empty l (k:Int)).size, .nilIface])) w13
      generalize a12.put (some 55) (.tuple #[.int .i64 (rdOf ByteArray.empty l (k:Int)).size, .nilIface])=a13 at k13 h12'
      have hb1:Below w.heap.size w w13:=hb612.trans hb13
      clear hx12 hx11 hx10 hx9 hx8 hx7 hx6
      have hx13:=T.enter (P:=Try.prog) (st:=⟨grp2 l (((k + 1:Nat):Int) - 1),noB⟩) (w:=w13) (m:=m) ((k13.2.1.trans hk.2.1).trans hs0) ((k13.1.trans hk.1).trans hx.def0) (grp2_vr hv3 hb1 (((hkk 3 k13 (by simp [ds32])).trans (hk.2.2 3 (by simp))).trans hV3) h12') rfl
      refine wp_region ?_
      refine T.pu (ds:=ds32) hx13 rfl rfl rfl (hlt _ (by decide)) (by simp [ds32]) (.move (.tmp (v:=.int _ _) rfl)) fun a14 w14 I14 m14 k14 hx14=>?_
      refine T.pu (ds:=ds32) hx14 rfl rfl rfl (hlt _ (by decide)) (by simp [ds32]) (.bin (.tmp rfl) .int U.sub64) fun a15 w15 I15 m15 k15 hx15=>?_
      refine T.pu (ds:=ds32) hx15 rfl rfl rfl (hlt _ (by decide)) (by simp [ds32]) (.assign (.tmp (v:=.int _ _) rfl)) fun a16 w16 I16 m16 k16 hx16=>?_
      have h12'':a16.tmps.getD 12 undef = .int .i64 ((k:Int) - 1):=by
        have h1:=(show VR I16 w16 noB m16 (.int .i64 (wrap64 (((k + 1:Nat):Int) - 1 - 1))) (a16.tmps.getD 12 undef) from hx16.tmp 12).int_inv
        rw [h1]
        congr 1
        unfold wrap64
        omega
      refine ⟨⟨((k13.trans k14).trans k15).trans k16,bjoin hb1 (T.below hx16),k,by omega,h12'',bgrow hB13 (T.below hx16)⟩,?_⟩
      rw [h12'']
      show ((k:Int) - 1 + 1).toNat < (((k + 1:Nat):Int) - 1 + 1).toNat
      omega
    · have hc:=of_decide_eq_false hc
      obtain rfl:k=0:=by omega
      refine wp_exit ?_
      show Code.wp Try.prog _ _ a8 w8
      have hb8:=bjoin hb6 (T.below hx8)
      have h11:a8.tmps.getD 11 undef = .pointer (some ⟨w.heap.size,0,none⟩):=(hkk 11 k68 (by simp [ds32])).trans hg
      refine wp_seq (wp_region ?_)
      refine T.call rfl rfl rfl fn78 (V:=#[.pointer (some ⟨w.heap.size,0,none⟩)]) (by have e1:a8.eval (.tmp 11)=_:=h11;simp only [List.map_toArray,List.map_cons,List.map_nil,e1]) (bstring _ _ _ _ hB8 hb8.size) ?_
      rintro e w9 ⟨rfl,hb9⟩
      refine ⟨_,rfl,?_⟩
      have hb:=hb8.trans hb9
      have hx9:=hx.grow (a:=a) hb
      have hz:((a8.put (some 56) (.string ⟨(digits_joined.go l 0).toArray⟩))).tmps.size=c.n:=by rw [Act.put_tmps,Array.size_setIfInBounds];exact (k68.2.1.trans hk.2.1).trans hs0
      have hd8:(a8.put (some 56) (.string ⟨(digits_joined.go l 0).toArray⟩)).defers = []:=(k68.1.trans hk.1).trans hx.def0
      have hv:(a8.put (some 56) (.string ⟨(digits_joined.go l 0).toArray⟩)).tmps.getD 56 undef = .string ⟨(digits_joined.go l 0).toArray⟩:=put_at (by have:=(k68.2.1.trans hk.2.1).trans hs0;omega)
      have hx10:SRx c I m ⟨upd (fun _=>.bad) 56 (.str ⟨(digits_joined.go l 0).toArray⟩),st.b⟩ (a8.put (some 56) (.string ⟨(digits_joined.go l 0).toArray⟩)) w9:=by
        refine ⟨hx9.wr,hd8,hz,fun x=>?_⟩
        show VR I w9 st.b m (upd (fun _=>.bad) 56 (.str _) x) _
        by_cases hx:x=56
        · subst hx;rw [upd_same,hv];exact .str _
        · rw [upd_ne _ _ hx];exact .bad _
      refine T.pu (ds:=[2]) hx10 rfl rfl rfl (hlt _ (by decide)) (by simp) (.assign (.tmp (v:=.str _) rfl)) fun a11 w11 I11 m11 k11 hx11=>?_
      show Code.wp Try.prog _ _ a11 w11
      exact wp_ret (hq .ret _ a11 w11 (hQ _ rfl) ⟨I11,m11,hx11⟩)
end Go.Proofs.Ytkoccekiojhidaa
end

section
namespace Go.Proofs.Ytkoccekiojhidaa.F
open Go.RowKit Go.Proofs.YtkoccekiojhidaaW.PrintWords Go.Proofs.YtkoccekiojhidaaW.PrintLast Go.Proofs.YtkoccekiojhidaaW.PrintMore Go.Proofs.YtkoccekiojhidaaX
attribute [local go_sem] max2_int cell_some xrun_add64 xrun_sub64
attribute [local go_sem] max2_int min2_int max_two min_two max_three min_three max_four min_four
set_option linter.unusedVariables false
set_option linter.unusedSimpArgs false
theorem digits_small.cells_at (acc:List Int) (h:acc.length < 20):(digits_small.cells acc)[19 - acc.length]?=some (Value.int .u8 0):=by
  unfold digits_small.cells
  rw [List.getElem?_toArray,List.getElem?_append_left (by simp;omega),List.getElem?_replicate,if_pos (by omega)]
theorem digits_small.cells_put (acc:List Int) (h:acc.length < 20) (x:Int):(digits_small.cells acc).setIfInBounds (19 - acc.length) (Value.int .u8 x)=digits_small.cells (x :: acc):=by
  unfold digits_small.cells
  rw [List.setIfInBounds_toArray]
  congr 1
  have e1:20 - acc.length=(19 - acc.length) + 1:=by omega
  have e2:20 - (x :: acc).length=19 - acc.length:=by simp
  rw [e2,e1,List.replicate_succ',List.append_assoc,List.set_append_right _ _ (by simp)]
  simp
theorem digits_small.step {n:Int} (h0:0≤n) (h1:n < 18446744073709551616):IntKind.u64.wrap (n.tdiv 10)=n / 10:=by
  rw [Int.tdiv_eq_ediv_of_nonneg h0]
  simp only [IntKind.wrap,IntKind.bits,IntKind.signed]
  simp
  omega
theorem digits_small.digit {n:Int} (h0:0≤n):IntKind.u64.wrap (48 + n.tmod 10) % 256=48 + n % 10:=by
  rw [Int.tmod_eq_emod_of_nonneg h0]
  simp only [IntKind.wrap,IntKind.bits,IntKind.signed]
  simp
  omega
theorem info5:(Try.prog.info? 5).map (fun i=>(i.zero,i.size,i.bytes))=some (some (.int .u8 0),1,1):=by kernel_rfl
theorem m0 {p:Prop} (h:p):Aside0 p:=⟨h⟩
set_option maxHeartbeats 1000000 in
set_option maxRecDepth 100000 in
theorem digits_small.calls (a0 a1:Int) (r:ByteArray) (w:World) (h:digits_small.f a0 a1=some r) :
    Calls Try.prog 76 #[.int .u64 a0, .int .i64 a1] w fun e w'=>e = .returned (.string r)∧Below w.heap.size w w':=by
  unfold digits_small.f at h
  by_cases hc:0≤a0∧a0 < 18446744073709551616
  rotate_left
  · rw [if_neg hc] at h
    cases h
  rw [if_pos hc] at h
  obtain ⟨R,hR,hr⟩:=Option.map_eq_some_iff.mp h
  clear h
  have HB:=m0 (Below.refl w.heap.size w)
  have HR:=m0 hR
  have HC:=m0 hc
  have HS:=m0 hr
  clear hR hc hr
  go_enter Try.func76,Try.ntmps76
  go_wp2
  go_loopg [0,6] 21 (fun kq v0 v6 w'=>∃ (n i:Int) (acc:List Int),v0 = .int .u64 n∧v6 = .int .i64 i∧Aside0 (i=20 - acc.length∧acc.length≤20∧0≤n∧n < 18446744073709551616)∧Aside0 (digits_small.l0 kq n a1 acc=some R)∧Aside0 (kq≤21)∧Aside0 (w'.heap[w.heap.size]?=some (.cells (digits_small.cells acc) 141 (0,0)))∧Aside0 (Below w.heap.size w w'))
  case atStart=>exact ⟨a0,20,[],rfl,rfl,⟨rfl,by simp,HC.out.1,HC.out.2⟩,HR,⟨Nat.le_refl _⟩,⟨blk_new w (.cells (digits_small.cells []) 141 (0,0))⟩,⟨below_alloc HB.out _⟩⟩
  case round =>
    clear HR HC
    obtain ⟨n,i,acc,rfl,rfl,HI,HA,HK1,BK,HB⟩:=hrel
    cases gk with
    | zero=>exact absurd HA.out (by simp [digits_small.l0])
    | succ k1 =>
      have H:=HA.out
      clear HA
      simp only [digits_small.l0] at H
      by_cases c:0 < n∨(acc.length:Int) < a1
      · rw [if_pos c] at H
        by_cases c3:acc.length < 20
        rotate_left
        · rw [if_neg c3] at H
          cases H
        rw [if_pos c3] at H
        have hw:wrap64 (i - 1)=((19 - acc.length:Nat):Int):=by have:=HI.out;unfold wrap64;omega
        have hw2:wrap64 (20 - i)=(acc.length:Int):=by have:=HI.out;unfold wrap64;omega
        have hb:0≤wrap64 (i - 1)∧wrap64 (i - 1) < 20:=by rw [hw];omega
        have hn:(wrap64 (i - 1)).toNat=19 - acc.length:=by rw [hw];simp
        have hcell:wr.cell? ⟨w.heap.size,(wrap64 (i - 1)).toNat,none⟩=some (.int .u8 0):=by rw [hn,blk_cell BK.out];exact digits_small.cells_at acc c3
        have hfro:wr.frozen? ⟨w.heap.size,(wrap64 (i - 1)).toNat,none⟩=false:=blk_frozen BK.out _
        have hput:(wr.setCell ⟨w.heap.size,(wrap64 (i - 1)).toNat,none⟩ (.int .u8 (IntKind.u64.wrap (48 + n.tmod 10) % 256))).heap[w.heap.size]?=some (.cells (digits_small.cells ((48 + n % 10) :: acc)) 141 (0,0)):=by
          rw [hn,digits_small.digit HI.out.2.2.1]
          exact blk_put BK.out _ _ (digits_small.cells_put acc c3 _)
        have hout:Below w.heap.size w (wr.setCell ⟨w.heap.size,(wrap64 (i - 1)).toNat,none⟩ (.int .u8 (IntKind.u64.wrap (48 + n.tmod 10) % 256))):=below_set HB.out (Nat.le_refl _)
        have HP:=m0 hput
        have HO:=m0 hout
        have HH:=m0 H
        have HN:=m0 hn
        clear hput hout H hn
        have hq:=digits_small.step HI.out.2.2.1 HI.out.2.2.2
        have HT:=m0 c
        have rel : ∀ W:World,W=wr.setCell ⟨w.heap.size,(wrap64 (i - 1)).toNat,none⟩ (.int .u8 (IntKind.u64.wrap (48 + n.tmod 10) % 256))→∃ (n' i':Int) (acc':List Int),Value.int .u64 (n / 10) = .int .u64 n'∧Value.int .i64 (wrap64 (i - 1)) = .int .i64 i'∧Aside0 (i'=20 - acc'.length∧acc'.length≤20∧0≤n'∧n' < 18446744073709551616)∧Aside0 (digits_small.l0 k1 n' a1 acc'=some R)∧Aside0 (k1≤21)∧Aside0 (W.heap[w.heap.size]?=some (.cells (digits_small.cells acc') 141 (0,0)))∧Aside0 (Below w.heap.size w W):=by
          rintro W rfl
          have h1:=HI.out
          exact ⟨n / 10,wrap64 (i - 1),(48 + n % 10) :: acc,rfl,rfl,⟨by rw [hw,List.length_cons];omega,by rw [List.length_cons];omega,by omega,by omega⟩,HH,⟨by have:=HK1.out;omega⟩,HP,HO⟩
        have HREL:=m0 rel
        clear rel hw c
        by_cases c1:0 < n
        · have c1b:decide (0 < n)=true:=decide_eq_true c1
          clear c1 hw2
          go_wp2
          go_roundg k1
          case measure=>have:=HK1.out;omega
          case rel=>exact HREL.out _ rfl
        · have c1b:decide (0 < n)=false:=decide_eq_false c1
          have c2b:decide (wrap64 (20 - i) < a1)=true:=decide_eq_true (by rw [hw2];exact HT.out.resolve_left c1)
          clear c1 hw2
          go_wp2
          go_roundg k1
          case measure=>have:=HK1.out;omega
          case rel=>exact HREL.out _ rfl
      · rw [if_neg c] at H
        obtain rfl:=Option.some.inj H
        have c1b:decide (0 < n)=false:=decide_eq_false (fun h=>c (Or.inl h))
        have hw2:wrap64 (20 - i)=(acc.length:Int):=by have:=HI.out;unfold wrap64;omega
        have c2b:decide (wrap64 (20 - i) < a1)=false:=decide_eq_false (fun h=>c (Or.inr (by rw [← hw2];exact h)))
        have hi0:i.toNat=20 - acc.length:=by have:=HI.out;omega
        have hi1:0≤i∧i≤20:=by have:=HI.out;omega
        have hlen:acc.length≤20:=HI.out.2.1
        have hal:Try.prog.arrayLen 141=20:=by kernel_rfl
        have hel:Try.prog.elem 141=5:=by kernel_rfl
        have hut:Try.prog.underlying 141=some (.array (Try.prog.arrayLen 141) (Try.prog.elem 141)):=by kernel_rfl
        obtain ⟨ad,hsl,had⟩ : ∃ ad:Addr,(∀ W:World,(Instr.sliceAt 141 (.pointer (some ⟨w.heap.size,0,none⟩)) (some (.int .i64 i)) none none).run Try.prog W = .ok (.slice (some ad) acc.length acc.length) W)∧(0 < acc.length→ad=⟨w.heap.size,20 - acc.length,none⟩):=by
          refine ⟨if 20=i.toNat then ⟨w.heap.size,0,none⟩ else (⟨w.heap.size,0,none⟩:Addr).add (i.toNat * 1),fun W=>?_,fun h=>?_⟩
          · rw [Go.run_sliceAt_array_l W 141 _ hut .i64 i hi1.1 (by rw [hal];exact hi1.2),hal,hel]
            obtain ⟨i0,hi,_,hsz,_⟩:=info_parts info5
            simp [sizeOf,typeInfo,hi,hsz,Result.andThen,Go.slicedAt]
            omega
          · rw [if_neg (by omega),hi0]
            simp [add_plain]
        have hrd:ReadsInt wr .u8 (some ad) acc.length acc:=by
          refine ⟨rfl,by omega,fun h=>⟨ad,rfl,fun j hj=>?_⟩⟩
          rw [had h,show (⟨w.heap.size,20 - acc.length,none⟩:Addr).add j=⟨w.heap.size,20 - acc.length + j,none⟩ by unfold Addr.add;split <;> simp_all,blk_cell BK.out]
          unfold digits_small.cells
          rw [List.getElem?_toArray,List.getElem?_append_right (by simp)]
          simp [hj]
        have hconv:=string_of_reads (P:=Try.prog) (src:=105) (dst:=9) (e:=5) (c:=acc.length) Try.underlying105 Try.underlying5 Try.underlying9 hrd
        obtain rfl:=HS.out
        clear HS
        clear hw2 c H hi0 hi1 hlen hal hel hut hrd had
        go_wp2
        go_ret
        exact ⟨rfl,HB.out⟩
end Go.Proofs.Ytkoccekiojhidaa.F
namespace Go.Proofs.Ytkoccekiojhidaa
open Go.AVL Go.RowKit Go.Proofs.Ytkoccekiojhidaa.F
theorem int2_args {A:Nat→Prop} {w:World} {B:Nat→Blk} {m:Nat→Reg} {V:Array Value} {k k':IntKind} {a b:Int} (hs:V.size=2) (hv : ∀ i,i < 2→VR A w B m ([AV.int k a,AV.int k' b].getD i .bad) (V.getD i undef)):V = #[.int k a, .int k' b]:=by
  have h0:=(hv 0 (by omega)).int_inv
  have h1:=(hv 1 (by omega)).int_inv
  apply Array.ext
  · exact hs
  · intro i hi1 hi2
    rw [hs] at hi1
    rcases i with _|_|i
    · simpa [Array.getD,hs] using h0
    · simpa [Array.getD,hs] using h1
    · omega
noncomputable def c76:Code:=Try.f76.body.getD .skip
set_option maxRecDepth 100000
theorem fn76:FnOk Try.prog 76 Try.f76 c76:=⟨Try.func76,rfl,by kernel_rfl,by kernel_rfl,mixed⟩
theorem digits_small.cs {a0:Int} {a1:Int} {r:ByteArray} (h:digits_small.f a0 a1=some r):CS Try.prog 76 [.int .u64 a0, .int .i64 a1] .no [.str r]:=by
  intro A wg w m V hwg hw hs hv
  rw [int2_args hs hv]
  refine callW_of_calls fn76 ((digits_small.calls a0 a1 r w h).mono ?_)
  rintro e w' ⟨rfl,hb⟩
  exact ⟨A,m,hw.grow hb,(fun p r1 r2 e h=>by cases h), .str r⟩
end Go.Proofs.Ytkoccekiojhidaa
end

section
namespace Go.Proofs.Ytkoccekiojhidaa
open Go.AVL Go.RowKit Go.Proofs.Ytkoccekiojhidaa.F Go.Proofs.YtkoccekiojhidaaX Go.Proofs.YtkoccekiojhidaaW.PrintWords Go.Proofs.YtkoccekiojhidaaW.PrintLast Go.Proofs.YtkoccekiojhidaaW.PrintMore
set_option linter.unusedVariables false
set_option linter.unusedSimpArgs false
set_option maxRecDepth 100000
set_option maxHeartbeats 4000000
theorem digits_Print.cs {k:Nat} {l0_0:List Int} {r:ByteArray} (h:digits_Print.f k l0_0=some r):CS Try.prog 32 [.agg [.fi .u64 l0_0]] .no [.str r]:=by
  unfold digits_Print.f at h
  refine E.pure fn32 rfl ?_
  refine X.seq ?_
  refine X.still ?_
  refine O.puE (v':=.op 1 (1) 0 0) (b':=⟨1, .own,_,_⟩) (Pu.box (.tmp (v:=.agg _) rfl) rfl rfl) rfl rfl ?_
  refine O.pu (Pu.assign .str) ?_
  refine O.nil ?_
  refine X.seq ?_
  refine X.seq ?_
  refine X.still ?_
  refine O.pu (U.load (.tmp rfl) rfl rfl (U.whole rfl rfl)) ?_
  obtain ⟨q1,Hq1,h⟩:=Option.bind_eq_some_iff.1 h
  refine O.pu (U.call (ss:=[]) (.cons (.tmp (v:=.agg _) rfl) .nil) (.cons (.cl (.aggL (.cons .fi .nil))) .nil) (nat_Nat_Zero.cs Hq1) (.inl rfl) (.bool)) ?_
  refine O.nil ?_
  refine X.cond (.tmp rfl) (fun c=>?_) (fun c=>?_)
  · rw [if_pos c] at h
    refine X.seq ?_
    refine X.still ?_
    refine O.pu (Pu.assign .str) ?_
    refine O.nil ?_
    refine X.ret ?_
    cases h
    exact E.fin [] (.tmp (v:=.str _) rfl .nil) (.cons (.cl .str) .nil)
  · rw [if_neg (bf c)] at h
    refine X.skip ?_
    refine X.seq ?_
    refine X.still ?_
    refine O.ef (U.nilOE (u:=1) (row:=.vals (List.map AV.str [])) (e:=9) rfl rfl) ?_
    refine O.nil ?_
    refine X.seq ?_
    refine X.block ?_
    refine X.inv (fun k s=>∃ x3 x812000 n3 u1 u3,s.b 3=⟨u3, .own, .vals (List.map AV.str x3),9⟩∧s.t 3 = .os 3 u3 0 n3 true∧x3.length=n3∧s.t 1 = .op 1 u1 0 0∧s.b 1=⟨u1, .own, .vals [.agg [.fi .u64 x812000]],26⟩∧digits_Print.l0 k x3 x812000=some r) ?_ ?_ ⟨_,_,_,_,_,rfl,rfl,rfl,rfl,rfl,h⟩
    · rintro s ⟨_,_,_,_,_,_,_,_,_,_,h⟩;unfold digits_Print.l0 at h;cases h
    · rintro k1 s1 ⟨x3,x812000,n3,u1,u3,e0,e1,rfl,e3,e4,h⟩
      unfold digits_Print.l0 at h
      rw [St.fixB e0,St.fixT e1,St.fixT e3,St.fixB e4]
      refine X.seq ?_
      refine X.seq ?_
      refine X.still ?_
      refine O.pu (U.load (.tmp rfl) rfl rfl (U.whole rfl rfl)) ?_
      obtain ⟨q2,Hq2,h⟩:=Option.bind_eq_some_iff.1 h
      refine O.pu (U.call (ss:=[]) (.cons (.tmp (v:=.agg _) rfl) .nil) (.cons (.cl (.aggL (.cons .fi .nil))) .nil) (nat_Nat_Zero.cs Hq2) (.inl rfl) (.bool)) ?_
      refine O.pu (Pu.un (.tmp rfl) .not) ?_
      refine O.nil ?_
      refine X.condNot (.tmp rfl) (fun c=>?_) (fun c=>?_)
      · rw [if_neg (bf c)] at h
        refine X.skip ?_
        refine X.block ?_
        refine X.seq ?_
        refine X.drawn ?_
        refine D.pu (U.load (.tmp rfl) rfl rfl (U.whole rfl rfl)) ?_
        refine D.puE (v':=.os 20 ((s1.b 20).ver + 1) 0 _ true) (b':=⟨(s1.b 20).ver + 1, .own,_,_⟩) (U.litI rfl rfl (.cons .int .nil) rfl rfl) rfl rfl ?_
        obtain ⟨q3,Hq3,h⟩:=Option.bind_eq_some_iff.1 h
        refine D.ef (C.callZ (ss:=[20]) (.cons (.tmp (v:=.os _ _ _ _ _) rfl) .nil) (.cons (.osIf (by simp) rfl (Mode.live_ne rfl) rfl (by first|rfl|(simp only [List.length_set];done)|(simp only [List.length_drop,List.length_take,List.length_append,List.length_set] at *;omega))) .nil) (nat_Of.cs Hq3) (.aggL (.cons .fi .nil)) (nowin rfl)) ?_
        obtain ⟨q4,Hq4,h⟩:=Option.bind_eq_some_iff.1 h
        refine D.pu (U.call (ss:=[]) (.cons (.tmp (v:=.agg _) rfl) (.cons (.tmp (v:=.agg _) rfl) .nil)) (.cons (.cl (.aggL (.cons .fi .nil))) (.cons (.cl (.aggL (.cons .fi .nil))) .nil)) (quot_Div.cs Hq4) (.inl rfl) (.tupL (.cons (.aggL (.cons .fi .nil)) (.cons (.aggL (.cons .fi .nil)) (.cons .int .nil))))) ?_
        refine D.pu (Pu.move (.tmp (v:=.tup _) rfl)) ?_
        refine D.pu (Pu.extract (.tmp rfl) rfl) ?_
        refine D.pu (Pu.extract (.tmp rfl) rfl) ?_
        refine D.pu (Pu.extract (.tmp rfl) rfl) ?_
        refine D.puE (v':=.op 4 ((s1.b 4).ver + 1) 0 0) (b':=⟨(s1.b 4).ver + 1, .own,(.vals [.agg [.fi .u64 []]]),_⟩) Pu.alloc rfl rfl ?_
        refine D.puE (v':=.op 5 ((s1.b 5).ver + 1) 0 0) (b':=⟨(s1.b 5).ver + 1, .own,(.vals [.agg [.fi .u64 []]]),_⟩) Pu.alloc rfl rfl ?_
        refine D.ef0 (C.storeE (.tmp rfl) rfl rfl (.tmp (v:=.agg _) rfl) rfl rfl (.whole (notBad_ne rfl) rfl) .one) ?_
        refine D.ef0 (C.storeE (.tmp rfl) rfl rfl (.tmp (v:=.agg _) rfl) rfl rfl (.whole (notBad_ne rfl) rfl) .one) ?_
        refine D.pu (Pu.assign (.tmp (v:=.int _ _) rfl)) ?_
        refine D.nil (by kernel_rfl) ?_
        refine X.seq ?_
        refine X.still ?_
        refine O.pu (Pu.assign .int) ?_
        refine O.nil ?_
        refine X.seq ?_
        refine X.seq ?_
        refine X.still ?_
        refine O.pu (U.load (.tmp rfl) rfl rfl (U.whole rfl rfl)) ?_
        obtain ⟨q5,Hq5,h⟩:=Option.bind_eq_some_iff.1 h
        refine O.puE (v':=.os 27 ((s1.b 27).ver + 1) 0 _ true) (b':=⟨(s1.b 27).ver + 1, .own,_,_⟩) (U.callF (ss:=[]) (.cons (.tmp (v:=.agg _) rfl) .nil) (.cons (.cl (.aggL (.cons .fi .nil))) .nil) (nat_Nat_Limbs.cs Hq5)) rfl rfl ?_
        refine O.pu (Pu.lenO rfl (.tmp rfl)) ?_
        refine O.pu (Pu.move .int) ?_
        refine O.nil ?_
        refine X.block ?_
        refine X.inv (fun k s=>k≤k1∧∃ x3 x7 x27 x28 x29 x829000 n27 n3 u1 u27 u3 u4 u5 z1_0 z5_0,s.b 3=⟨u3, .own, .vals (List.map AV.str x3),9⟩∧s.t 3 = .os 3 u3 0 n3 true∧x3.length=n3∧s.t 7 = .int .u64 x7∧s.b 27=⟨u27, .own, .ints .u64 x27,57⟩∧s.t 27 = .os 27 u27 0 n27 true∧x27.length=n27∧s.t 28 = .int .i64 x28∧s.t 29 = .int .i64 x29∧s.t 1 = .op 1 u1 0 0∧s.b 1=⟨u1, .own, .vals [.agg [.fi .u64 z1_0]],26⟩∧s.t 4 = .op 4 u4 0 0∧s.b 4=⟨u4, .own, .vals [.agg [.fi .u64 x829000]],26⟩∧s.t 5 = .op 5 u5 0 0∧s.b 5=⟨u5, .own, .vals [.agg [.fi .u64 z5_0]],26⟩∧digits_Print.l1 k x3 x7 x27 x28 x29 x829000=some r) ?_ ?_ ⟨(by omega),_,_,_,_,_,_,_,_,_,_,_,_,_,_,_,rfl,rfl,(by first|rfl|(simp only [List.length_set];done)|(simp only [List.length_drop,List.length_take,List.length_append,List.length_set] at *;omega)),rfl,rfl,rfl,(by first|rfl|(simp only [List.length_set];done)|(simp only [List.length_drop,List.length_take,List.length_append,List.length_set] at *;omega)),rfl,rfl,rfl,rfl,rfl,rfl,rfl,rfl,h⟩
        · rintro s ⟨_,_,_,_,_,_,_,_,_,_,_,_,_,_,_,_,_,_,_,_,_,_,_,_,_,_,_,_,_,_,_,h⟩;unfold digits_Print.l1 at h;cases h
        · rintro k2 s2 ⟨kl2,x3,x7,x27,x28,x29,x829000,n27,n3,u1,u27,u3,u4,u5,z1_0,z5_0,e0,e1,rfl,e3,e4,e5,rfl,e7,e8,e9,e10,e11,e12,e13,e14,h⟩
          unfold digits_Print.l1 at h
          rw [St.fixB e0,St.fixT e1,St.fixT e3,St.fixB e4,St.fixT e5,St.fixT e7,St.fixT e8,St.fixT e9,St.fixB e10,St.fixT e11,St.fixB e12,St.fixT e13,St.fixB e14]
          refine X.seq ?_
          refine X.still ?_
          refine O.pu (Pu.bin (.tmp rfl) (.tmp rfl) .lss) ?_
          refine O.nil ?_
          refine X.seq ?_
          refine X.condP (.tmp rfl) (fun c=>?_) (fun c=>?_)
          · rw [if_pos c] at h
            refine X.skip ?_
            refine X.seq ?_
            refine X.block ?_
            refine X.seq ?_
            refine X.still ?_
            repeat (rw [giff] at h;obtain ⟨_,h⟩:=h)
            refine O.pu (U.indexO0 rfl (.tmp rfl) rfl rfl (.tmp rfl) (by first|omega|(simp only [List.length_set] at *;omega)) (by first|omega|(simp only [List.length_set] at *;omega)) rfl rfl) ?_
            refine O.pu (U.rdO (.tmp rfl) rfl rfl rfl rfl rfl) ?_
            refine O.pu (Pu.assign (.tmp (v:=.int _ _) rfl)) ?_
            refine O.nil ?_
            refine X.still ?_
            refine O.pu (Pu.move (.tmp (v:=.int _ _) rfl)) ?_
            refine O.pu (Pu.assign (.tmp (v:=.int _ _) rfl)) ?_
            refine O.nil ?_
            refine X.still ?_
            refine O.pu (Pu.bin (.tmp rfl) .int U.add64) ?_
            refine O.pu (Pu.move (.tmp (v:=.int _ _) rfl)) ?_
            refine O.nil ?_
            exact ⟨_,(by omega),(by omega),_,_,_,_,_,_,_,_,_,_,_,_,_,_,_,rfl,rfl,(by first|rfl|(simp only [List.length_set];done)|(simp only [List.length_drop,List.length_take,List.length_append,List.length_set] at *;omega)),rfl,rfl,rfl,(by first|rfl|(simp only [List.length_set];done)|(simp only [List.length_drop,List.length_take,List.length_append,List.length_set] at *;omega)),rfl,rfl,rfl,rfl,rfl,rfl,rfl,rfl,h⟩
          · rw [if_neg c] at h
            refine X.exit (B.out ?_)
            refine X.seq ?_
            refine X.still ?_
            refine O.pu (Pu.assign .int) ?_
            refine O.nil ?_
            refine X.seq ?_
            refine X.seq ?_
            refine X.still ?_
            refine O.pu (U.load (.tmp rfl) rfl rfl (U.whole rfl rfl)) ?_
            obtain ⟨q6,Hq6,h⟩:=Option.bind_eq_some_iff.1 h
            refine O.pu (U.call (ss:=[]) (.cons (.tmp (v:=.agg _) rfl) .nil) (.cons (.cl (.aggL (.cons .fi .nil))) .nil) (nat_Nat_Zero.cs Hq6) (.inl rfl) (.bool)) ?_
            refine O.nil ?_
            refine X.cond (.tmp rfl) (fun c=>?_) (fun c=>?_)
            · rw [if_pos c] at h
              refine X.still ?_
              refine O.pu (Pu.assign .int) ?_
              refine O.nil ?_
              refine X.seq ?_
              refine X.still ?_
              refine O.pu (Pu.move (.tmp (v:=.os _ _ _ _ _) rfl)) ?_
              refine O.pu (Pu.move (.tmp (v:=.int _ _) rfl)) ?_
              refine O.pu (Pu.move (.tmp (v:=.int _ _) rfl)) ?_
              obtain ⟨q7,Hq7,h⟩:=Option.bind_eq_some_iff.1 h
              refine O.pu (U.call (ss:=[]) (.cons (.tmp (v:=.int _ _) rfl) (.cons (.tmp (v:=.int _ _) rfl) .nil)) (.cons (.cl .int) (.cons (.cl .int) .nil)) (digits_small.cs Hq7) (.inl rfl) (.str)) ?_
              refine O.puE (v':=.os 41 ((s2.b 41).ver + 1) 0 _ true) (b':=⟨(s2.b 41).ver + 1, .own,_,_⟩) (U.litS (en:=AV.str) (l:=[_]) rfl (.cons (.tmp (v:=.str _) rfl) rfl .nil) rfl rfl rfl (fun _=>rfl)) rfl rfl ?_
              repeat (rw [giff] at h;obtain ⟨_,h⟩:=h)
              refine O.ef (U.appendSE (en:=AV.str) (u':=(s2.b 42).ver + 1) rfl (.tmp rfl) rfl (by first|rfl|(simp only [List.length_append,List.length_cons,List.length_nil] at *;omega)) (.tmp rfl) (.osVf (List.mem_singleton.2 rfl) rfl (Mode.live_ne rfl) rfl (ClL.map fun _=>.str) (by simp)) rfl (fun _=>⟨rfl,rfl⟩) (by simp only [maxLen,List.length_cons,List.length_nil];omega) (by simp only [List.length_cons,List.length_nil];omega) rfl) ?_
              refine O.ef (U.takeE (u':=u3 + 1) (.tmp rfl) rfl (ne_of_beq rfl) rfl) ?_
              refine O.nil ?_
              refine X.still ?_
              refine O.pu (U.load (.tmp rfl) rfl rfl (U.whole rfl rfl)) ?_
              refine O.ef0 (U.storeE (.tmp rfl) rfl rfl (.tmp (v:=.agg _) rfl) rfl rfl (.whole (notBad_ne rfl) rfl) .one) ?_
              refine O.nil ?_
              exact ⟨_,(by omega),_,_,_,_,_,rfl,rfl,(by first|rfl|(simp only [List.length_set];done)|(simp only [List.length_drop,List.length_take,List.length_append,List.length_set] at *;omega)),rfl,rfl,h⟩
            · rw [if_neg (bf c)] at h
              refine X.skip ?_
              refine X.seq ?_
              refine X.still ?_
              refine O.pu (Pu.move (.tmp (v:=.os _ _ _ _ _) rfl)) ?_
              refine O.pu (Pu.move (.tmp (v:=.int _ _) rfl)) ?_
              refine O.pu (Pu.move (.tmp (v:=.int _ _) rfl)) ?_
              obtain ⟨q8,Hq8,h⟩:=Option.bind_eq_some_iff.1 h
              refine O.pu (U.call (ss:=[]) (.cons (.tmp (v:=.int _ _) rfl) (.cons (.tmp (v:=.int _ _) rfl) .nil)) (.cons (.cl .int) (.cons (.cl .int) .nil)) (digits_small.cs Hq8) (.inl rfl) (.str)) ?_
              refine O.puE (v':=.os 41 ((s2.b 41).ver + 1) 0 _ true) (b':=⟨(s2.b 41).ver + 1, .own,_,_⟩) (U.litS (en:=AV.str) (l:=[_]) rfl (.cons (.tmp (v:=.str _) rfl) rfl .nil) rfl rfl rfl (fun _=>rfl)) rfl rfl ?_
              repeat (rw [giff] at h;obtain ⟨_,h⟩:=h)
              refine O.ef (U.appendSE (en:=AV.str) (u':=(s2.b 42).ver + 1) rfl (.tmp rfl) rfl (by first|rfl|(simp only [List.length_append,List.length_cons,List.length_nil] at *;omega)) (.tmp rfl) (.osVf (List.mem_singleton.2 rfl) rfl (Mode.live_ne rfl) rfl (ClL.map fun _=>.str) (by simp)) rfl (fun _=>⟨rfl,rfl⟩) (by simp only [maxLen,List.length_cons,List.length_nil];omega) (by simp only [List.length_cons,List.length_nil];omega) rfl) ?_
              refine O.ef (U.takeE (u':=u3 + 1) (.tmp rfl) rfl (ne_of_beq rfl) rfl) ?_
              refine O.nil ?_
              refine X.still ?_
              refine O.pu (U.load (.tmp rfl) rfl rfl (U.whole rfl rfl)) ?_
              refine O.ef0 (U.storeE (.tmp rfl) rfl rfl (.tmp (v:=.agg _) rfl) rfl rfl (.whole (notBad_ne rfl) rfl) .one) ?_
              refine O.nil ?_
              exact ⟨_,(by omega),_,_,_,_,_,rfl,rfl,(by first|rfl|(simp only [List.length_set];done)|(simp only [List.length_drop,List.length_take,List.length_append,List.length_set] at *;omega)),rfl,rfl,h⟩
      · rw [if_pos c] at h
        refine X.exit (B.out ?_)
        obtain ⟨qt,Hqt,h⟩:=Option.bind_eq_some_iff.1 h
        cases h
        exact X.sem (tail32 rfl rfl rfl Hqt fun s hs=>E.fin [] (.tmp (v:=.str _) hs .nil) (.cons (.cl .str) .nil))
noncomputable def c30:Code:=Try.f30.body.getD .skip
theorem fn30:FnOk Try.prog 30 Try.f30 c30:=⟨Try.func30,rfl,by kernel_rfl,by kernel_rfl,mixed⟩
theorem whole_Int_Print.cs {k:Nat} {l0_0:List Int} {a0_1:Bool} {r:ByteArray} (h:whole_Int_Print.f k l0_0 a0_1=some r):CS Try.prog 30 [.agg [.fi .u64 l0_0, .bool a0_1]] .no [.str r]:=by
  unfold whole_Int_Print.f at h
  refine E.pure fn30 rfl ?_
  refine X.seq ?_
  refine X.still ?_
  refine O.puE (v':=.op 1 (1) 0 0) (b':=⟨1, .own,_,_⟩) (Pu.box (.tmp (v:=.agg _) rfl) rfl rfl) rfl rfl ?_
  refine O.pu (Pu.assign .str) ?_
  refine O.nil ?_
  refine X.seq ?_
  refine X.seq ?_
  refine X.still ?_
  refine O.pu (U.fieldA rfl rfl rfl (.tmp rfl)) ?_
  refine O.pu (U.load (.tmp rfl) rfl rfl (U.cell rfl rfl rfl)) ?_
  refine O.nil ?_
  refine X.cond (.tmp rfl) (fun c=>?_) (fun c=>?_)
  · rw [if_pos c] at h
    refine X.seq ?_
    refine X.still ?_
    refine O.pu (U.fieldA rfl rfl rfl (.tmp rfl)) ?_
    refine O.pu (U.load (.tmp rfl) rfl rfl (U.sub rfl (.take .done))) ?_
    obtain ⟨q1,Hq1,h⟩:=Option.bind_eq_some_iff.1 h
    refine O.pu (U.call (ss:=[]) (.cons (.tmp (v:=.agg _) rfl) .nil) (.cons (.cl (.aggL (.cons .fi .nil))) .nil) (digits_Print.cs Hq1) (.inl rfl) (.str)) ?_
    repeat (rw [giff] at h;obtain ⟨_,h⟩:=h)
    refine O.pu (Pu.bin .str (.tmp rfl) (U.sadd (by first|assumption|omega))) ?_
    refine O.pu (Pu.assign (.tmp (v:=.str _) rfl)) ?_
    refine O.nil ?_
    refine X.ret ?_
    cases h
    exact E.fin [] (.tmp (v:=.str _) rfl .nil) (.cons (.cl .str) .nil)
  · rw [if_neg (bf c)] at h
    refine X.skip ?_
    refine X.seq ?_
    refine X.still ?_
    refine O.pu (U.fieldA rfl rfl rfl (.tmp rfl)) ?_
    refine O.pu (U.load (.tmp rfl) rfl rfl (U.sub rfl (.take .done))) ?_
    obtain ⟨q2,Hq2,h⟩:=Option.bind_eq_some_iff.1 h
    refine O.pu (U.call (ss:=[]) (.cons (.tmp (v:=.agg _) rfl) .nil) (.cons (.cl (.aggL (.cons .fi .nil))) .nil) (digits_Print.cs Hq2) (.inl rfl) (.str)) ?_
    refine O.pu (Pu.assign (.tmp (v:=.str _) rfl)) ?_
    refine O.nil ?_
    refine X.ret ?_
    cases h
    exact E.fin [] (.tmp (v:=.str _) rfl .nil) (.cons (.cl .str) .nil)
noncomputable def c79:Code:=Try.f79.body.getD .skip
theorem fn79:FnOk Try.prog 79 Try.f79 c79:=⟨Try.func79,rfl,by kernel_rfl,by kernel_rfl,mixed⟩
theorem chattelref01_Print.cs {k:Nat} {l0:List Int} {r:ByteArray} (h:chattelref01_Print.f k l0=some r):CS Try.prog 79 [.fi .i64 l0] .no [.str r]:=by
  unfold chattelref01_Print.f at h
  refine E.pure fn79 rfl ?_
  refine X.seq ?_
  refine X.still ?_
  refine O.pu (Pu.assign .str) ?_
  refine O.nil ?_
  refine X.seq ?_
  refine X.seq ?_
  refine X.still ?_
  refine O.pu (Pu.move (.tmp (v:=.fi _ _) rfl)) ?_
  refine O.pu (Pu.lenI rfl (.tmp rfl)) ?_
  refine O.pu (Pu.bin (.tmp rfl) .int .eql) ?_
  refine O.nil ?_
  refine X.condE (.tmp rfl) (fun c=>?_) (fun c=>?_)
  · rw [if_pos c] at h
    refine X.seq ?_
    refine X.still ?_
    refine O.pu (Pu.assign .str) ?_
    refine O.nil ?_
    refine X.ret ?_
    cases h
    exact E.fin [] (.tmp (v:=.str _) rfl .nil) (.cons (.cl .str) .nil)
  · rw [if_neg c] at h
    refine X.skip ?_
    refine X.seq ?_
    refine X.still ?_
    refine O.pu (Pu.assign .str) ?_
    refine O.nil ?_
    refine X.seq ?_
    refine X.seq ?_
    refine X.still ?_
    refine O.pu (Pu.assign .int) ?_
    refine O.nil ?_
    refine X.block ?_
    refine X.inv (fun k s=>∃ x0 x3 x4,s.t 0 = .fi .i64 x0∧s.t 3 = .str x3∧s.t 4 = .int .i64 x4∧chattelref01_Print.l0 k x0 x3 x4=some r) ?_ ?_ ⟨_,_,_,rfl,rfl,rfl,h⟩
    · rintro s ⟨_,_,_,_,_,_,h⟩;unfold chattelref01_Print.l0 at h;cases h
    · rintro k1 s1 ⟨x0,x3,x4,e0,e1,e2,h⟩
      unfold chattelref01_Print.l0 at h
      rw [St.fixT e0,St.fixT e1,St.fixT e2]
      refine X.seq ?_
      refine X.seq ?_
      refine X.still ?_
      refine O.pu (Pu.move (.tmp (v:=.int _ _) rfl)) ?_
      refine O.pu (Pu.move (.tmp (v:=.fi _ _) rfl)) ?_
      refine O.pu (Pu.lenI rfl (.tmp rfl)) ?_
      refine O.pu (Pu.bin (.tmp rfl) (.tmp rfl) .lss) ?_
      refine O.nil ?_
      refine X.condP (.tmp rfl) (fun c=>?_) (fun c=>?_)
      · rw [if_pos c] at h
        refine X.skip ?_
        refine X.seq ?_
        refine X.block ?_
        refine X.seq ?_
        refine X.still ?_
        refine O.pu (Pu.move (.tmp (v:=.fi _ _) rfl)) ?_
        refine O.pu (Pu.move (.tmp (v:=.int _ _) rfl)) ?_
        repeat (rw [giff] at h;obtain ⟨_,h⟩:=h)
        refine O.pu (U.rdI rfl rfl (.tmp rfl) (.tmp rfl) (by omega) (by omega)) ?_
        refine O.pu (Pu.loadR (.tmp rfl) (U.self rfl rfl rfl)) ?_
        refine O.pu (Pu.assign (.tmp (v:=.int _ _) rfl)) ?_
        refine O.nil ?_
        refine X.seq ?_
        refine X.still ?_
        refine O.pu (Pu.assign .int) ?_
        refine O.nil ?_
        refine X.block ?_
        refine X.inv (fun k s=>k≤k1∧∃ x0 x3 x4 x5 x6,s.t 0 = .fi .i64 x0∧s.t 3 = .str x3∧s.t 4 = .int .i64 x4∧s.t 5 = .int .i64 x5∧s.t 6 = .int .i64 x6∧chattelref01_Print.l1 k x0 x3 x4 x5 x6=some r) ?_ ?_ ⟨(by omega),_,_,_,_,_,rfl,rfl,rfl,rfl,rfl,h⟩
        · rintro s ⟨_,_,_,_,_,_,_,_,_,_,_,h⟩;unfold chattelref01_Print.l1 at h;cases h
        · rintro k2 s2 ⟨kl2,x0,x3,x4,x5,x6,e0,e1,e2,e3,e4,h⟩
          unfold chattelref01_Print.l1 at h
          rw [St.fixT e0,St.fixT e1,St.fixT e2,St.fixT e3,St.fixT e4]
          refine X.seq ?_
          refine X.seq ?_
          refine X.still ?_
          refine O.pu (Pu.move (.tmp (v:=.int _ _) rfl)) ?_
          refine O.pu (Pu.bin (.tmp rfl) .int .lss) ?_
          refine O.nil ?_
          refine X.condP (.tmp rfl) (fun c=>?_) (fun c=>?_)
          · rw [if_pos c] at h
            refine X.skip ?_
            refine X.seq ?_
            refine X.block ?_
            refine X.seq ?_
            refine X.still ?_
            refine O.pu (Pu.move (.tmp (v:=.int _ _) rfl)) ?_
            repeat first|(rw [giff] at h;obtain ⟨_,h⟩:=h)|rw [bdff] at h
            refine O.pu (Pu.bin (.tmp rfl) .int (.rem (by omega))) ?_
            refine O.pu (Pu.bin .int (.tmp rfl) U.add64) ?_
            refine O.pu (U.conv8 rfl (.tmp rfl)) ?_
            refine O.puE (v':=.os 29 ((s2.b 29).ver + 1) 0 _ true) (b':=⟨(s2.b 29).ver + 1, .own,_,_⟩) (U.litI rfl rfl (.cons (.tmp (v:=.int _ _) rfl) .nil) rfl rfl) rfl rfl ?_
            refine O.pu (U.convB rfl rfl rfl (.tmp rfl) rfl rfl rfl (by first|rfl|omega) rfl (by first|(simp only [List.length_cons,List.length_nil];omega)|omega)) ?_
            refine O.pu (Pu.move (.tmp (v:=.str _) rfl)) ?_
            refine O.pu (Pu.bin (.tmp rfl) (.tmp rfl) (U.sadd (by first|assumption|omega))) ?_
            refine O.pu (Pu.assign (.tmp (v:=.str _) rfl)) ?_
            refine O.nil ?_
            refine X.still ?_
            refine O.pu (Pu.move (.tmp (v:=.int _ _) rfl)) ?_
            refine O.pu (Pu.bin (.tmp rfl) .int (U.quo64 (by omega))) ?_
            refine O.pu (Pu.assign (.tmp (v:=.int _ _) rfl)) ?_
            refine O.nil ?_
            refine X.still ?_
            refine O.pu (Pu.move (.tmp (v:=.int _ _) rfl)) ?_
            refine O.pu (Pu.bin (.tmp rfl) .int U.add64) ?_
            refine O.pu (Pu.assign (.tmp (v:=.int _ _) rfl)) ?_
            refine O.nil ?_
            exact ⟨_,(by omega),(by omega),_,_,_,_,_,rfl,rfl,rfl,rfl,rfl,h⟩
          · rw [if_neg c] at h
            refine X.exit (B.out ?_)
            refine X.still ?_
            refine O.pu (Pu.move (.tmp (v:=.int _ _) rfl)) ?_
            refine O.pu (Pu.bin (.tmp rfl) .int U.add64) ?_
            refine O.pu (Pu.assign (.tmp (v:=.int _ _) rfl)) ?_
            refine O.nil ?_
            exact ⟨_,(by omega),_,_,_,rfl,rfl,rfl,h⟩
      · rw [if_neg c] at h
        refine X.exit (B.out ?_)
        refine X.seq ?_
        refine X.still ?_
        refine O.pu (Pu.assign .int) ?_
        refine O.nil ?_
        refine X.seq ?_
        refine X.block ?_
        refine X.inv (fun k s=>k≤k1∧∃ x3 x7,s.t 3 = .str x3∧s.t 7 = .int .i64 x7∧chattelref01_Print.l2 k x3 x7=some r) ?_ ?_ ⟨(by omega),_,_,rfl,rfl,h⟩
        · rintro s ⟨_,_,_,_,_,h⟩;unfold chattelref01_Print.l2 at h;cases h
        · rintro k2 s2 ⟨kl2,x3,x7,e0,e1,h⟩
          unfold chattelref01_Print.l2 at h
          rw [St.fixT e0,St.fixT e1]
          refine X.seq ?_
          refine X.seq ?_
          refine X.still ?_
          refine O.pu (Pu.move (.tmp (v:=.str _) rfl)) ?_
          refine O.pu (Pu.move (.tmp (v:=.int _ _) rfl)) ?_
          repeat (rw [giff] at h;obtain ⟨_,h⟩:=h)
          refine O.pu (U.indexS rfl (.tmp rfl) (.tmp rfl) (by omega) (by omega)) ?_
          refine O.pu (Pu.bin (.tmp rfl) .int .eql) ?_
          refine O.nil ?_
          refine X.condE (.tmp rfl) (fun c=>?_) (fun c=>?_)
          · rw [if_pos c] at h
            refine X.skip ?_
            refine X.block ?_
            refine X.still ?_
            refine O.pu (Pu.move (.tmp (v:=.int _ _) rfl)) ?_
            refine O.pu (Pu.bin (.tmp rfl) .int U.add64) ?_
            refine O.pu (Pu.assign (.tmp (v:=.int _ _) rfl)) ?_
            refine O.nil ?_
            exact ⟨_,(by omega),(by omega),_,_,rfl,rfl,h⟩
          · rw [if_neg c] at h
            refine X.exit (B.out ?_)
            refine X.seq ?_
            refine X.still ?_
            refine O.pu (Pu.move (.tmp (v:=.str _) rfl)) ?_
            refine O.pu (Pu.move (.tmp (v:=.int _ _) rfl)) ?_
            repeat (rw [giff] at h;obtain ⟨_,h⟩:=h)
            refine O.pu (Pu.sliceS rfl (.tmp rfl) (.yes (.tmp rfl) (by omega)) .no (by omega) (by omega)) ?_
            refine O.pu (Pu.assign (.tmp (v:=.str _) rfl)) ?_
            refine O.nil ?_
            refine X.ret ?_
            cases h
            exact E.fin [] (.tmp (v:=.str _) rfl .nil) (.cons (.cl .str) .nil)
noncomputable def c46:Code:=Try.f46.body.getD .skip
theorem fn46:FnOk Try.prog 46 Try.f46 c46:=⟨Try.func46,rfl,by kernel_rfl,by kernel_rfl,mixed⟩
theorem chattelref04_Print.cs {k:Nat} {l0_0:List Int} {a0_1:Bool} {r:ByteArray} (h:chattelref04_Print.f k l0_0 a0_1=some r):CS Try.prog 46 [.agg [.fi .i64 l0_0, .bool a0_1]] .no [.str r]:=by
  unfold chattelref04_Print.f at h
  refine E.pure fn46 rfl ?_
  refine X.seq ?_
  refine X.still ?_
  refine O.puE (v':=.op 1 (1) 0 0) (b':=⟨1, .own,_,_⟩) (Pu.box (.tmp (v:=.agg _) rfl) rfl rfl) rfl rfl ?_
  refine O.pu (Pu.assign .str) ?_
  refine O.nil ?_
  refine X.seq ?_
  refine X.still ?_
  refine O.pu (U.fieldA rfl rfl rfl (.tmp rfl)) ?_
  refine O.pu (U.load (.tmp rfl) rfl rfl (U.cell rfl rfl rfl)) ?_
  obtain ⟨q1,Hq1,h⟩:=Option.bind_eq_some_iff.1 h
  refine O.pu (U.call (ss:=[]) (.cons (.tmp (v:=.fi _ _) rfl) .nil) (.cons (.cl .fi) .nil) (chattelref01_Print.cs Hq1) (.inl rfl) (.str)) ?_
  refine O.pu (Pu.assign (.tmp (v:=.str _) rfl)) ?_
  refine O.nil ?_
  refine X.seq ?_
  refine X.seq ?_
  refine X.still ?_
  refine O.pu (U.fieldA rfl rfl rfl (.tmp rfl)) ?_
  refine O.pu (U.load (.tmp rfl) rfl rfl (U.cell rfl rfl rfl)) ?_
  refine O.nil ?_
  refine X.cond (.tmp rfl) (fun c=>?_) (fun c=>?_)
  · rw [if_pos c] at h
    refine X.seq ?_
    refine X.still ?_
    refine O.pu (Pu.move (.tmp (v:=.str _) rfl)) ?_
    repeat (rw [giff] at h;obtain ⟨_,h⟩:=h)
    refine O.pu (Pu.bin .str (.tmp rfl) (U.sadd (by first|assumption|omega))) ?_
    refine O.pu (Pu.assign (.tmp (v:=.str _) rfl)) ?_
    refine O.nil ?_
    refine X.ret ?_
    cases h
    exact E.fin [] (.tmp (v:=.str _) rfl .nil) (.cons (.cl .str) .nil)
  · rw [if_neg (bf c)] at h
    refine X.skip ?_
    refine X.seq ?_
    refine X.still ?_
    refine O.pu (Pu.move (.tmp (v:=.str _) rfl)) ?_
    refine O.pu (Pu.assign (.tmp (v:=.str _) rfl)) ?_
    refine O.nil ?_
    refine X.ret ?_
    cases h
    exact E.fin [] (.tmp (v:=.str _) rfl .nil) (.cons (.cl .str) .nil)
noncomputable def c21:Code:=Try.f21.body.getD .skip
theorem fn21:FnOk Try.prog 21 Try.f21 c21:=⟨Try.func21,rfl,by kernel_rfl,by kernel_rfl,mixed⟩
theorem whole_Of.cs {l0_0:List Int} {a1:Bool} {r:List Int×Bool} (h:whole_Of.f l0_0 a1=some r):CS Try.prog 21 [.agg [.fi .u64 l0_0], .bool a1] .no [.agg [.fi .u64 r.1, .bool r.2]]:=by
  unfold whole_Of.f at h
  refine E.pure fn21 rfl ?_
  refine X.seq ?_
  refine X.still ?_
  refine O.puE (v':=.op 2 (1) 0 0) (b':=⟨1, .own,_,_⟩) (Pu.box (.tmp (v:=.agg _) rfl) rfl rfl) rfl rfl ?_
  refine O.puE (v':=.op 4 (1) 0 0) (b':=⟨1, .own,(.vals [.agg [.fi .u64 [], .bool false]]),_⟩) Pu.alloc rfl rfl ?_
  refine O.nil ?_
  refine X.seq ?_
  refine X.drawn ?_
  refine D.pu (U.load (.tmp rfl) rfl rfl (U.whole rfl rfl)) ?_
  refine D.pu (Pu.move (.tmp (v:=.bool _) rfl)) ?_
  refine D.pu (Pu.move (.tmp (v:=.bool _) rfl)) ?_
  refine D.split (fun c=>?_) (fun c=>?_)
  · rw [if_pos c] at h
    refine D.gpu (W.t rfl rfl) (U.load (.tmp rfl) rfl rfl (U.whole rfl rfl)) ?_
    obtain ⟨q1,Hq1,h⟩:=Option.bind_eq_some_iff.1 h
    refine D.gpu (W.t rfl rfl) (U.call (ss:=[]) (.cons (.tmp (v:=.agg _) rfl) .nil) (.cons (.cl (.aggL (.cons .fi .nil))) .nil) (nat_Nat_Zero.cs Hq1) (.inl rfl) (.bool)) ?_
    refine D.gpu (W.t rfl rfl) (Pu.un (.tmp rfl) .not) ?_
    refine D.pu (Pu.pickT (.tmp rfl) (.tmp (v:=.bool _) rfl)) ?_
    refine D.pu (Pu.build rfl (.cons (.tmp (v:=.agg _) rfl) rfl rfl rfl (.put .done) (.cons (.tmp (v:=.bool _) rfl) rfl rfl rfl (.skip (.put .done)) .nil))) ?_
    refine D.ef0 (C.storeE (.tmp rfl) rfl rfl (.tmp (v:=.agg _) rfl) rfl rfl (.whole (notBad_ne rfl) rfl) .one) ?_
    refine D.nil (by kernel_rfl) ?_
    refine X.ret ?_
    cases h
    exact E.fin [] (.cell rfl rfl (Mode.live_ne rfl) (U.whole rfl rfl) .nil) (.cons (.cl (.aggL (.cons .fi (.cons .bool .nil)))) .nil)
  · rw [if_neg (bf c)] at h
    refine D.gskip (W.f rfl rfl rfl) ?_
    refine D.gskip (W.f rfl rfl rfl) ?_
    refine D.gskip (W.f rfl rfl rfl) ?_
    refine D.pu (Pu.pickF (.tmp rfl) .bool) ?_
    refine D.pu (Pu.build rfl (.cons (.tmp (v:=.agg _) rfl) rfl rfl rfl (.put .done) (.cons (.tmp (v:=.bool _) rfl) rfl rfl rfl (.skip (.put .done)) .nil))) ?_
    refine D.ef0 (C.storeE (.tmp rfl) rfl rfl (.tmp (v:=.agg _) rfl) rfl rfl (.whole (notBad_ne rfl) rfl) .one) ?_
    refine D.nil (by kernel_rfl) ?_
    refine X.ret ?_
    cases h
    exact E.fin [] (.cell rfl rfl (Mode.live_ne rfl) (U.whole rfl rfl) .nil) (.cons (.cl (.aggL (.cons .fi (.cons .bool .nil)))) .nil)
end Go.Proofs.Ytkoccekiojhidaa
end
