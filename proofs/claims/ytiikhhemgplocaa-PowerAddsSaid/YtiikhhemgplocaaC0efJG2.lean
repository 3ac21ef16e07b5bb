-- Joined of: TI X1 X2 X3 X4 X5 G12 G37 G36 G31 G62 G63 G35 G61 G104 G90 G105 G91 G72 G45 G65 G59 G97 G96 G83 G98 G92 G99 G100 G101 G106 G102 G84 G64 G80 G54 G55 G28 G29 G76 G81 G57 G86 G87
import Derived.Test.YtiikhhemgplocaaC0efJV1
import Derived.Test.YtiikhhemgplocaaProg
import Derived.KernelRfl
import Derived.Test.YtiikhhemgplocaaC0efX
import Derived.Test.YtiikhhemgplocaaC0efD
import Derived.Test.YtiikhhemgplocaaC0efWWords
import Derived.Test.YtiikhhemgplocaaC0efWMore
section
namespace Go.Proofs.Ytiikhhemgplocaa
open Go.AVL
instance:TI Try.prog 2 ⟨false,1,8,[.int .i64 0], .int .i64⟩:=⟨by kernel_rfl⟩
instance:TI Try.prog 3 ⟨false,1,8,[.int .i64 0], .int .i64⟩:=⟨by kernel_rfl⟩
instance:TI Try.prog 4 ⟨false,1,1,[.bool false], .bool⟩:=⟨by kernel_rfl⟩
instance:TI Try.prog 5 ⟨false,1,1,[.int .u8 0], .int .u8⟩:=⟨by kernel_rfl⟩
instance:TI Try.prog 6 ⟨false,1,1,[.int .u8 0], .int .u8⟩:=⟨by kernel_rfl⟩
instance:TI Try.prog 7 ⟨true,4,24,[.int .i64 0, .int .i64 0, .bool false, .int .u8 0], .st [(0,2,1),(1,3,1),(2,4,1),(3,6,1)]⟩:=⟨by kernel_rfl⟩
instance:TI Try.prog 8 ⟨true,4,24,[.int .i64 0, .int .i64 0, .bool false, .int .u8 0], .st [(0,2,1),(1,3,1),(2,4,1),(3,6,1)]⟩:=⟨by kernel_rfl⟩
instance:TI Try.prog 9 ⟨false,1,16,[.str .empty], .str⟩:=⟨by kernel_rfl⟩
instance:TI Try.prog 10 ⟨false,1,16,[.str .empty], .str⟩:=⟨by kernel_rfl⟩
instance:TI Try.prog 11 ⟨false,1,16,[.str .empty], .str⟩:=⟨by kernel_rfl⟩
instance:TI Try.prog 12 ⟨false,1,8,[.int .u64 0], .int .u64⟩:=⟨by kernel_rfl⟩
instance:TI Try.prog 13 ⟨true,2,24,[.str .empty, .int .u64 0], .st [(0,9,1),(1,12,1)]⟩:=⟨by kernel_rfl⟩
instance:TI Try.prog 14 ⟨true,2,24,[.str .empty, .int .u64 0], .st [(0,9,1),(1,12,1)]⟩:=⟨by kernel_rfl⟩
instance:TI Try.prog 15 ⟨false,1,8,[.bad], .ptr 147⟩:=⟨by kernel_rfl⟩
instance:TI Try.prog 16 ⟨false,1,8,[.bad], .ptr 150⟩:=⟨by kernel_rfl⟩
instance:TI Try.prog 17 ⟨false,1,8,[.bad], .ptr 157⟩:=⟨by kernel_rfl⟩
instance:TI Try.prog 18 ⟨true,1,8,[.bad], .st [(0,17,1)]⟩:=⟨by kernel_rfl⟩
instance:TI Try.prog 19 ⟨true,1,8,[.bad], .st [(0,17,1)]⟩:=⟨by kernel_rfl⟩
instance:TI Try.prog 21 ⟨false,1,4,[.int .i32 0], .int .i32⟩:=⟨by kernel_rfl⟩
instance:TI Try.prog 22 ⟨false,1,24,[.fi .u64 []], .sl 77⟩:=⟨by kernel_rfl⟩
instance:TI Try.prog 23 ⟨true,1,24,[.fi .u64 []], .st [(0,22,1)]⟩:=⟨by kernel_rfl⟩
instance:TI Try.prog 24 ⟨true,1,24,[.fi .u64 []], .st [(0,22,1)]⟩:=⟨by kernel_rfl⟩
instance:TI Try.prog 25 ⟨true,2,32,[.fi .u64 [], .bool false], .st [(0,24,1),(1,4,1)]⟩:=⟨by kernel_rfl⟩
instance:TI Try.prog 26 ⟨true,2,32,[.fi .u64 [], .bool false], .st [(0,24,1),(1,4,1)]⟩:=⟨by kernel_rfl⟩
instance:TI Try.prog 27 ⟨true,3,56,[.fi .u64 [], .bool false, .fi .u64 []], .st [(0,26,2),(2,24,1)]⟩:=⟨by kernel_rfl⟩
instance:TI Try.prog 28 ⟨true,3,56,[.fi .u64 [], .bool false, .fi .u64 []], .st [(0,26,2),(2,24,1)]⟩:=⟨by kernel_rfl⟩
instance:TI Try.prog 29 ⟨false,1,24,[.fi .i64 []], .sl 3⟩:=⟨by kernel_rfl⟩
instance:TI Try.prog 30 ⟨true,2,32,[.fi .i64 [], .bool false], .st [(0,29,1),(1,4,1)]⟩:=⟨by kernel_rfl⟩
instance:TI Try.prog 31 ⟨true,2,32,[.fi .i64 [], .bool false], .st [(0,29,1),(1,4,1)]⟩:=⟨by kernel_rfl⟩
instance:TI Try.prog 32 ⟨true,3,56,[.fi .i64 [], .bool false, .fi .i64 []], .st [(0,31,2),(2,29,1)]⟩:=⟨by kernel_rfl⟩
instance:TI Try.prog 33 ⟨true,3,56,[.fi .i64 [], .bool false, .fi .i64 []], .st [(0,31,2),(2,29,1)]⟩:=⟨by kernel_rfl⟩
instance:TI Try.prog 36 ⟨false,1,8,[.int .i64 0], .int .i64⟩:=⟨by kernel_rfl⟩
instance:TI Try.prog 49 ⟨false,1,2,[.int .i16 0], .int .i16⟩:=⟨by kernel_rfl⟩
instance:TI Try.prog 50 ⟨true,2,4,[.int .i16 0, .int .i16 0], .arr 2 49⟩:=⟨by kernel_rfl⟩
instance:TI Try.prog 54 ⟨false,1,24,[.fi .i16 []], .sl 49⟩:=⟨by kernel_rfl⟩
instance:TI Try.prog 55 ⟨false,1,24,[.fv []], .sl 28⟩:=⟨by kernel_rfl⟩
instance:TI Try.prog 56 ⟨false,1,24,[.fv []], .sl 33⟩:=⟨by kernel_rfl⟩
instance:TI Try.prog 61 ⟨true,6,10,[.int .i16 0, .int .i16 0, .int .i16 0, .int .i16 0, .int .u8 0, .int .u8 0], .st [(0,50,2),(2,50,2),(4,5,1),(5,5,1)]⟩:=⟨by kernel_rfl⟩
instance:TI Try.prog 62 ⟨true,6,10,[.int .i16 0, .int .i16 0, .int .i16 0, .int .i16 0, .int .u8 0, .int .u8 0], .st [(0,50,2),(2,50,2),(4,5,1),(5,5,1)]⟩:=⟨by kernel_rfl⟩
instance:TI Try.prog 66 ⟨false,1,4,[.int .u32 0], .int .u32⟩:=⟨by kernel_rfl⟩
instance:TI Try.prog 67 ⟨false,1,2,[.int .u16 0], .int .u16⟩:=⟨by kernel_rfl⟩
instance:TI Try.prog 68 ⟨true,2,4,[.int .u16 0, .int .u16 0], .arr 2 67⟩:=⟨by kernel_rfl⟩
instance:TI Try.prog 77 ⟨false,1,8,[.int .u64 0], .int .u64⟩:=⟨by kernel_rfl⟩
instance:TI Try.prog 93 ⟨false,1,8,[.int .u64 0], .int .u64⟩:=⟨by kernel_rfl⟩
instance:TI Try.prog 99 ⟨false,1,24,[.fv []], .sl 9⟩:=⟨by kernel_rfl⟩
instance:TI Try.prog 104 ⟨false,1,8,[.bad], .ptr 107⟩:=⟨by kernel_rfl⟩
instance:TI Try.prog 105 ⟨false,1,24,[.fi .u8 []], .sl 5⟩:=⟨by kernel_rfl⟩
instance:TI Try.prog 106 ⟨true,2,32,[.bad, .fi .u8 []], .st [(0,104,1),(1,105,1)]⟩:=⟨by kernel_rfl⟩
instance:TI Try.prog 107 ⟨true,2,32,[.bad, .fi .u8 []], .st [(0,104,1),(1,105,1)]⟩:=⟨by kernel_rfl⟩
instance:TI Try.prog 127 ⟨true,20,20,[.int .u8 0, .int .u8 0, .int .u8 0, .int .u8 0, .int .u8 0, .int .u8 0, .int .u8 0, .int .u8 0, .int .u8 0, .int .u8 0, .int .u8 0, .int .u8 0, .int .u8 0, .int .u8 0, .int .u8 0, .int .u8 0, .int .u8 0, .int .u8 0, .int .u8 0, .int .u8 0], .arr 20 5⟩:=⟨by kernel_rfl⟩
instance:TI Try.prog 128 ⟨false,1,8,[.bad], .ptr 5⟩:=⟨by kernel_rfl⟩
instance:TI Try.prog 145 ⟨false,1,8,[.bad], .ptr 159⟩:=⟨by kernel_rfl⟩
instance:TI Try.prog 146 ⟨true,4,40,[.bad, .bad, .bad, .str .empty], .st [(0,17,1),(1,17,1),(2,17,1),(3,9,1)]⟩:=⟨by kernel_rfl⟩
instance:TI Try.prog 147 ⟨true,4,40,[.bad, .bad, .bad, .str .empty], .st [(0,17,1),(1,17,1),(2,17,1),(3,9,1)]⟩:=⟨by kernel_rfl⟩
instance:TI Try.prog 148 ⟨true,0,0,[], .arr 0 16⟩:=⟨by kernel_rfl⟩
instance:TI Try.prog 149 ⟨true,0,0,[], .st [(0,148,0)]⟩:=⟨by kernel_rfl⟩
instance:TI Try.prog 150 ⟨true,0,0,[], .st [(0,148,0)]⟩:=⟨by kernel_rfl⟩
instance:TI Try.prog 151 ⟨false,1,1,[.int .u8 0], .int .u8⟩:=⟨by kernel_rfl⟩
instance:TI Try.prog 152 ⟨false,1,1,[.int .u8 0], .int .u8⟩:=⟨by kernel_rfl⟩
instance:TI Try.prog 154 ⟨false,1,4,[.int .i32 0], .int .i32⟩:=⟨by kernel_rfl⟩
instance:TI Try.prog 155 ⟨false,1,4,[.int .i32 0], .int .i32⟩:=⟨by kernel_rfl⟩
instance:TI Try.prog 158 ⟨true,1,16,[.str .empty], .st [(0,9,1)]⟩:=⟨by kernel_rfl⟩
instance:TI Try.prog 159 ⟨true,1,16,[.str .empty], .st [(0,9,1)]⟩:=⟨by kernel_rfl⟩
theorem mixed:Try.prog.follows .mixedOrders=true:=by kernel_rfl
end Go.Proofs.Ytiikhhemgplocaa
end

section
namespace Go.AVL
open Go.RowKit Go.Proofs.YtiikhhemgplocaaX Go.Proofs.YtiikhhemgplocaaW.PrintWords Go.Proofs.YtiikhhemgplocaaW.PrintLast Go.Proofs.YtiikhhemgplocaaW.PrintMore
set_option linter.unusedVariables false
section
variable {P : Program} {st : St} {Q : Out → St → Prop} {K : St → Prop}
variable {ops : Array Oper} {os : List Oper} {d ty : Nat} {op : Op} {pos : String} {aft : Array Edge} {v : AV} {R : List Nat} {b : Blk} {n1 k j : Nat}
theorem U.whole {a:Bool} {n:Nat} {cs:List AV} (ha:a=true) (hn:cs.length=n):Part a n 0 (.agg cs) (.agg cs):=by subst ha;exact .whole hn
theorem U.sub {a:Bool} {n o:Nat} {cs r:List AV} (ha:a=true) (h:Ext cs o n r):Part a n o (.agg cs) (.agg r):=by subst ha;exact .sub h
theorem U.cell {a:Bool} {n o:Nat} {cs:List AV} {v:AV} (ha:a=false) (hn:n=1) (h:cs[o]?=some v):Part a n o (.agg cs) v:=by subst ha;subst hn;exact .cell h
theorem U.self {a:Bool} {n:Nat} {v:AV} (ha:a=false) (hn:n=1) (h:v.one=true):Part a n 0 v v:=by subst ha;subst hn;exact .self h
theorem W.t {x:Nat} {want:Bool} (hd:dstAt ops j=some x) (ht:st.t x = .bool want):Wt ops st (some (j,want)) true:=by
  have h:Wt ops st (some (j,want)) (want == want):=.yes hd ht
  rwa [show (want == want)=true by cases want <;> rfl] at h
theorem W.f {x:Nat} {p want:Bool} (hd:dstAt ops j=some x) (ht:st.t x = .bool p) (hn:(p == want)=false):Wt ops st (some (j,want)) false:=by
  have h:Wt ops st (some (j,want)) (p == want):=.yes hd ht
  rwa [hn] at h
theorem U.rdI {t i e ie x y k l k' n} [h:TI P t i] [h':TI P e ie] (hd:i.d = .sl e) (h1:ie.size=1) (hx:Ev st x (.fi k l)) (hy:Ev st y (.int k' n)) (h0:0≤n) (hn:n < (l.length:Int)) :
    Pu P st d (.indexAddr t x y) (.fp (.int k (rd l n)) 0) none []:=.indexI hd h1 hx hy h0 hn
theorem U.rdO {t i x s u n k l} [h:TI P t i] (hx:Ev st x (.op s u (Int.toNat n) 0)) (hu:(st.b s).ver=u) (hm:(st.b s).mode.live=true) (hr:(st.b s).row = .ints k l) (ha:i.agg=false) (hs:i.size=1) :
    Pu P st d (.load t x) (.int k (rd l n)) none [s]:=.load hx hu (Mode.live_ne hm) (by rw [hr];exact U.self ha hs rfl)
theorem U.shrW {t k k' a b} (h:0≤b):BinR P .shr t (.int k a) (.int k' b) (.int k (shr k a b)):=U.shrV h
theorem U.shlW {t k k' a b} (h:0≤b):BinR P .shl t (.int k a) (.int k' b) (.int k (shl k a b)):=.shl h
theorem U.mx {x y k k' p q ts} (hx:Ev st x (.int k p)) (hy:Ev st y (.int k' q)):Pu P st d (.call ⟨.builtin .max,#[x,y],ts⟩) (.int k (mx p q)) none []:=.max hx hy
theorem U.mn {x y k k' p q ts} (hx:Ev st x (.int k p)) (hy:Ev st y (.int k' q)):Pu P st d (.call ⟨.builtin .min,#[x,y],ts⟩) (.int k (mn p q)) none []:=.min hx hy
theorem U.sadd {t a b} (h:a.size + b.size≤9223372036854775807):BinR P .add t (.str a) (.str b) (.str (a ++ b)):=.sadd h
end
end Go.AVL
end

section
namespace Go.Proofs.Ytiikhhemgplocaa
open Go.AVL Go.RowKit Go.Proofs.YtiikhhemgplocaaX Go.Proofs.YtiikhhemgplocaaW.PrintWords Go.Proofs.YtiikhhemgplocaaW.PrintLast Go.Proofs.YtiikhhemgplocaaW.PrintMore
set_option maxRecDepth 100000
theorem cs_u64x3 {f:FuncId} {x y c a b:Int} (hr : ∀ w,(callFunc f #[.int .u64 x, .int .u64 y, .int .u64 c]).run Try.prog w = .ok (.value (.tuple #[.int .u64 a, .int .u64 b])) w) :
    CS Try.prog f [.int .u64 x, .int .u64 y, .int .u64 c] .no [.int .u64 a, .int .u64 b]:=by
  intro A wg w m V hwg hw hs hv
  have h0:=(hv 0 (by simp)).int_inv
  have h1:=(hv 1 (by simp)).int_inv
  have h2:=(hv 2 (by simp)).int_inv
  have hV:V = #[.int .u64 x, .int .u64 y, .int .u64 c]:=by
    have h3:V.size=3:=hs
    apply Array.ext
    · exact h3
    · intro i hi1 hi2
      rw [h3] at hi1
      rcases i with _|_|_|i
      · simpa [Array.getD,h3] using h0
      · simpa [Array.getD,h3] using h1
      · simpa [Array.getD,h3] using h2
      · omega
  subst hV
  unfold CallW
  rw [hr w]
  exact ⟨A,m,hw,(fun p r1 r2 e h=>by cases h), .tup [_,_] #[_,_] rfl fun i hi=>by
    rcases i with _|_|i
    · exact .int _ _
    · exact .int _ _
    · simp at hi;omega⟩
theorem add64_cs {x y c:Int} (hc:c≤1):CS Try.prog 60 [.int .u64 x, .int .u64 y, .int .u64 c] .no [.int .u64 (add64s x y c), .int .u64 (add64c x y c)]:=cs_u64x3 (xrun_add64 x y c hc)
theorem sub64_cs {x y c:Int} (hc:c≤1):CS Try.prog 73 [.int .u64 x, .int .u64 y, .int .u64 c] .no [.int .u64 (sub64d x y c), .int .u64 (sub64b x y c)]:=cs_u64x3 (xrun_sub64 x y c hc)
end Go.Proofs.Ytiikhhemgplocaa
end

section
namespace Go.Proofs.Ytiikhhemgplocaa
open Go.AVL Go.RowKit Go.Proofs.Ytiikhhemgplocaa.F Go.Proofs.YtiikhhemgplocaaX Go.Proofs.YtiikhhemgplocaaW.PrintWords Go.Proofs.YtiikhhemgplocaaW.PrintLast Go.Proofs.YtiikhhemgplocaaW.PrintMore
theorem row_l : ∀ (k:Nat) {x1 x2 x6 x13 x14 x15 y r},nat_Nat_row.l0 k x1 x2 x6 x13 x14 x15 y=some r→r.length=x2.length
  | 0,_,_,_,_,_,_,_,_,h=>by unfold nat_Nat_row.l0 at h;cases h
  | k + 1,_,_,_,_,_,_,_,_,h=>by
    unfold nat_Nat_row.l0 at h
    split at h
    · repeat first|(rw [giff] at h;obtain ⟨_,h⟩:=h)
      obtain ⟨_,_,h⟩:=Option.bind_eq_some_iff.1 h
      repeat first|(rw [giff] at h;obtain ⟨_,h⟩:=h)
      rw [row_l k h,List.length_set]
    · repeat first|(rw [giff] at h;obtain ⟨_,h⟩:=h)
      cases h
      rw [List.length_set]
theorem nat_Nat_row_len {k l a x r} (h:nat_Nat_row.f k l a x=some r):r.length=x.length:=row_l k h
theorem back_l : ∀ (k:Nat) {x0 x1 x4 x7 x8 x9 r},quot_back.l0 k x0 x1 x4 x7 x8 x9=some r→r.length=x0.length
  | 0,_,_,_,_,_,_,_,h=>by unfold quot_back.l0 at h;cases h
  | k + 1,_,_,_,_,_,_,_,h=>by
    unfold quot_back.l0 at h
    split at h
    · repeat first|(rw [giff] at h;obtain ⟨_,h⟩:=h)
      rw [back_l k h,List.length_set]
    · repeat first|(rw [giff] at h;obtain ⟨_,h⟩:=h)
      cases h
      rw [List.length_set]
theorem quot_back_len {k l x r} (h:quot_back.f k l x=some r):r.length=l.length:=back_l k h
theorem less_l : ∀ (k:Nat) {x0 x1 x2 x7 x8 x14 x15 x16 r},quot_less.l0 k x0 x1 x2 x7 x8 x14 x15 x16=some r→r.2.length=x0.length
  | 0,_,_,_,_,_,_,_,_,_,h=>by unfold quot_less.l0 at h;cases h
  | k + 1,_,_,_,_,_,_,_,_,_,h=>by
    unfold quot_less.l0 at h
    split at h
    · repeat first|(rw [giff] at h;obtain ⟨_,h⟩:=h)
      obtain ⟨_,_,h⟩:=Option.bind_eq_some_iff.1 h
      repeat first|(rw [giff] at h;obtain ⟨_,h⟩:=h)
      rw [less_l k h,List.length_set]
    · repeat first|(rw [giff] at h;obtain ⟨_,h⟩:=h)
      cases h
      show (List.set _ _ _).length=_
      rw [List.length_set]
theorem quot_less_len {k l x a r} (h:quot_less.f k l x a=some r):r.2.length=l.length:=less_l k h
end Go.Proofs.Ytiikhhemgplocaa
end

section
namespace Go.AVL
open Go.RowKit
set_option linter.unusedVariables false
inductive SnapH (st:St) (ss:List Nat):Nat→List AV→List AV→Prop
  | hole {v a vs bs}:SnapL st ss vs bs→SnapH st ss 0 (v :: vs) (a :: bs)
  | cons {p v a vs bs}:Snap st ss v a→SnapH st ss p vs bs→SnapH st ss (p + 1) (v :: vs) (a :: bs)
theorem SnapH.spec {st:St} {ss:List Nat} {p:Nat} {vs bs:List AV} (h:SnapH st ss p vs bs):vs.length=bs.length∧p < vs.length∧∀ i,i < bs.length→i≠p→Snap st ss (vs.getD i .bad) (bs.getD i .bad):=by
  induction h with
  | hole hs =>
    refine ⟨by simp [hs.1],by simp,fun i hi hn=>?_⟩
    cases i with
    | zero=>exact absurd rfl hn
    | succ i=>exact hs.2 i (by have:=hs.1;simp at hi;omega)
  | cons hs _ ih =>
    obtain ⟨h1,h2,h3⟩:=ih
    refine ⟨by simp [h1],by simpa using h2,fun i hi hn=>?_⟩
    cases i with
    | zero=>exact hs
    | succ i=>exact h3 i (by simpa using hi) (fun e=>hn (by rw [e]))
section
variable {P : Program} {st : St} {d : Nat}
theorem U.sliceO0 {t i e ie x s u len full lo hi mx a b} [h:TI P t i] [h':TI P e ie] (hd:i.d = .sl e) (hx:Ev st x (.os s u 0 len full)) (hu:(st.b s).ver=u) (hm:(st.b s).mode.live=true) (hz:szOk ie.size ((st.b s).row.get 0))
    (hlo:Bd st lo 0 a) (hhi:Bd st hi len b) (hmx:Mx st b len hi mx) (hab:a≤b) (hb:b≤len):Pu P st d (.slice t x lo hi mx) (.os s u a (b - a) false) none [s]:=.sliceO hd hx hu (Mode.live_ne hm) (.inr hz) hlo hhi hmx hab hb (Nat.zero_add a).symm rfl
theorem U.callW {args ats f vs bs res ss p s u off hi len len2 full k l l' e m} (hv:EvL st args.toList vs) (hs:SnapH st ss p vs bs) (hp:vs.getD p .bad = .os s u off len full) (hap:bs.getD p .bad = .os p 1 0 len2 false)
    (hss:memB ss s=false) (hB:st.b s=⟨u,m, .ints k l,e⟩) (hm:m.wr=true) (hhi:hi=off + len) (hle:hi≤l.length) (hl2:len=len2) (hl':l'.length=len) (hf:Flat (AV.mk res))
    (hc:CS P f bs ⟨some (p, .ints k ((l.take hi).drop off), .ints k l',e),none⟩ res) :
    Ef P st d (.call ⟨.value (.func f),args,ats⟩) (AV.mk res) (upd st.b s ⟨u,m, .ints k (l.take off ++ l' ++ l.drop hi),e⟩):=by
  obtain ⟨h1,h2,h3⟩:=hs.spec
  subst hl2
  subst hhi
  have h4:Ef P st d (.call ⟨.value (.func f),args,ats⟩) (AV.mk res) (upd st.b s ((st.b s).setRow (.ints k (l.take off ++ l' ++ l.drop (off + len))))):=by
    refine .callI (caps:=[]) (ss:=ss) (p:=p) (s:=s) (u:=u) (off:=off) (len:=len) (full:=full) (rin:=.ints k ((l.take (off + len)).drop off)) (rout:=.ints k l') (e:=e) .fn hv (by rw [List.append_nil];exact h2) (by rw [List.append_nil];exact hp) (by rw [← h1];rfl)
      (fun i hi hn=>by rw [List.append_nil];exact h3 i hi hn) hap (fun hm=>by rw [memB_iff.2 hm] at hss;cases hss) (by rw [hB]) (by rw [hB];exact Mode.wr_or hm) (by rw [hB]) ?_ (by rw [hB];exact .ints hl') hc hf
    rw [hB]
    have:(l.take (off + len)).drop off=(l.drop off).take len:=by rw [List.drop_take,Nat.add_sub_cancel_left]
    rw [this]
    exact .ints
  rw [hB] at h4
  exact h4
end
theorem win_e {α β:Type} {c:Prop} [Decidable c] {x:Option α} {g:α→β} {q:β} (h:(if c then x.map g else none)=some q):c∧∃ r,x=some r∧q=g r:=by
  by_cases hc:c
  · rw [if_pos hc] at h
    obtain ⟨r,h1,h2⟩:=Option.map_eq_some_iff.1 h
    exact ⟨hc,r,h1,h2.symm⟩
  · rw [if_neg hc] at h;cases h
theorem Snap.osW {st:St} {ss:List Nat} {s u off len full k l hi} (hs:s ∈ ss) (hu:(st.b s).ver=u) (hm:(st.b s).mode≠.dead) (hr:(st.b s).row = .ints k l) (hh:hi=off + len) :
    Snap st ss (.os s u off len full) (.fi k ((l.take hi).drop off)):=by
  have h:(l.take hi).drop off=(l.drop off).take len:=by rw [hh,List.drop_take,Nat.add_sub_cancel_left]
  rw [h]
  exact .osI hs hu hm hr
theorem U.indexW {P:Program} {st:St} {d:Nat} {t i e ie x y s u off len full k' j n} [h:TI P t i] [h':TI P e ie] (hd:i.d = .sl e) (hx:Ev st x (.os s u off len full)) (hu:(st.b s).ver=u) (hm:(st.b s).mode.live=true) (hy:Ev st y (.int k' j)) (h0:0≤j) (hj:j < (len:Int))
    (hs:((st.b s).row.get (Int.toNat n)).cells.length=ie.size) (hb:notBad ((st.b s).row.get (Int.toNat n))=true) (hn:off + j.toNat=Int.toNat n):Pu P st d (.indexAddr t x y) (.op s u (Int.toNat n) 0) none [s] :=
  .indexO hd hx hu (Mode.live_ne hm) hy h0 hj hn.symm ⟨hs,notBad_ne hb⟩
theorem U.cutL {P:Program} {st:St} {d:Nat} {x s u u' off len full k l e row} (hx:Ev st x (.os s u off len full)) (hB:st.b s=⟨u, .own, .ints k l,e⟩) (hr:(l.drop off).take len=row) (hl:row.length=len) (hu:(st.b d).ver + 1=u'):Ef P st d (.assign x) (.os d u' 0 row.length false) (upd (upd st.b s ⟨u, .dead, .ints k l,e⟩) d ⟨u', .own, .ints k row,e⟩):=by
  rw [hl]
  exact U.cutE hx hB hr hu
theorem cutH {l:List Int} {n:Nat}:(l.drop 0).take (n - 0)=l.take n:=rfl
end Go.AVL
end

section
namespace Go.AVL
open Go.RowKit
set_option linter.unusedVariables false
theorem ClL.map {α:Type} {en:α→AV} {l:List α} (h : ∀ x,Cl (en x)):ClL (l.map en):=by
  intro i hi
  rw [List.length_map] at hi
  rw [List.getD_eq_getElem?_getD,List.getElem?_map,List.getElem?_eq_getElem hi]
  exact h _
theorem map_at {α:Type} {en:α→AV} {l:List α} {p:AV→Prop} (h : ∀ x,p (en x)) {i:Nat} (hi:i < l.length):p ((l.map en).getD i .bad):=by
  rw [List.getD_eq_getElem?_getD,List.getElem?_map,List.getElem?_eq_getElem hi]
  exact h _
section
variable {P : Program} {st : St} {d : Nat}
theorem U.litS {α:Type} {en:α→AV} {t i e ie len parts} {l:List α} [h:TI P t i] [h':TI P e ie] (hd:i.d = .sl e) (hp:PartsR st 0 parts.toList (l.map en)) (hl:len=l.length) (hs:Nat.ble (len * ie.size) 16777216=true) (h0:Nat.blt 0 ie.size=true)
    (hc : ∀ x,(en x).cells.length=ie.size):Pu P st d (.buildSlice t len parts) (.os d ((st.b d).ver + 1) 0 l.length true) (some ⟨(st.b d).ver + 1, .own, .vals (l.map en),e⟩) []:=by
  subst hl
  exact .litO hd hp (by simp) (Nat.le_of_ble_eq_true hs) (Nat.le_of_ble_eq_true h0) (fun j hj=>map_at (p:=fun v=>v.cells.length=ie.size) hc (by simpa using hj)) .vals
theorem U.appendSE {α:Type} {en:α→AV} {t i e ie x y s u u' len ss v} {l l2:List α} [h:TI P t i] [h':TI P e ie] (hd:i.d = .sl e) (hx:Ev st x (.os s u 0 len true)) (hB:st.b s=⟨u, .own, .vals (l.map en),e⟩) (hl:len=l.length)
    (hy:Ev st y v) (hsn:Snap st ss v (.fv (l2.map en))) (h0:Nat.blt 0 ie.size=true) (hc : ∀ x,szOk ie.size (en x)) (hm:l.length + l2.length≤maxLen) (hb:(l.length + l2.length) * ie.bytes≤140737488355328) (hu:(st.b d).ver + 1=u') :
    Ef P st d (.call ⟨.builtin .append,#[x,y],#[t,t]⟩) (.os d u' 0 (l ++ l2).length true) (upd (upd st.b s ⟨u, .dead, .vals (l.map en),e⟩) d ⟨u', .own, .vals ((l ++ l2).map en),e⟩):=by
  have h1:(Row.vals ((l ++ l2).map en)).len=l.length + l2.length:=by simp [Row.len]
  have h2:Ef P st d (.call ⟨.builtin .append,#[x,y],#[t,t]⟩) _ _:=.append (row:=.vals ((l ++ l2).map en)) (r2:=.vals (l2.map en)) (e:=e) (i:=i) (ie:=ie) hd (Nat.le_of_ble_eq_true h0) hx (by rw [hB]) (by rw [hB]) (by rw [hB]) (by rw [hB,hl];simp [Row.len]) hy hsn .fv
    (fun j hj=>map_at (p:=szOk ie.size) hc (by simpa [Row.len] using hj)) (by rw [hB,List.map_append];exact .vals) (by rw [h1];exact hm) (by rw [h1];exact hb)
  rw [hB,hu,h1] at h2
  rw [List.length_append]
  exact h2
theorem U.indexS {t i x y s k n} [h:TI P t i] (hd:i.d = .str) (hx:Ev st x (.str s)) (hy:Ev st y (.int k n)) (h0:0≤n) (hn:n < (s.size:Int)):Pu P st d (.index t x y) (.int .u8 (Go.Proofs.YtiikhhemgplocaaW.PrintWords.bt s n)) none []:=.indexS hd hx hy h0 hn
theorem U.lenS {α:Type} {en:α→AV} {t i e x} {l:List α} [h:TI P t i] (hd:i.d = .sl e) (hx:Ev st x (.fv (l.map en))):Pu P st d (.call ⟨.builtin .len,#[x],#[t]⟩) (.int .i64 l.length) none []:=by
  have:=Pu.lenV (P:=P) (d:=d) (t:=t) hd hx
  rwa [List.length_map] at this
theorem U.seqV {t x y t'} {a b:ByteArray} {l:List UInt8} (hx:Ev st x (.str a)) (hy:Ev st y (.str b)) (hl:b.toList=l):Pu P st d (.binOp .eql t x y t') (.bool (a.toList == l)) none []:=by
  subst hl
  exact .bin hx hy .seql
theorem map_z {α:Type} {en:α→AV} {l:List α} (z:α) {i:Nat} (hi:i < l.length):(l.map en).getD i .bad=en (l.getD i z):=by
  rw [List.getD_eq_getElem?_getD,List.getElem?_map,List.getD_eq_getElem?_getD,List.getElem?_eq_getElem hi]
  rfl
theorem U.rdVS {α:Type} {en:α→AV} {t i e ie x y k n} {l:List α} [h:TI P t i] [h':TI P e ie] (z:α) (hd:i.d = .sl e) (hc : ∀ x,szOk ie.size (en x)) (hx:Ev st x (.fv (l.map en))) (hy:Ev st y (.int k n)) (h0:0≤n) (hn:n < (l.length:Int)) :
    Pu P st d (.indexAddr t x y) (.fp (en (l.getD n.toNat z)) 0) none []:=by
  have he:=map_z (en:=en) z (show n.toNat < l.length by omega)
  have:=Pu.indexV (P:=P) (d:=d) (t:=t) (e:=e) hd (by rw [he];exact hc _) hx hy h0 (by rw [List.length_map];exact hn)
  rwa [he] at this
theorem U.indexAr {t i e ie N x y s u j q k n b} [h1:TI P t i] [h2:TI P e ie] (hd:i.d = .arr N e) (hz:ie.size=1) (hx:Ev st x (.op s u j q)) (hB:st.b s=b) (hu:b.ver=u) (hm:b.mode.live=true) (hy:Ev st y (.int k n)) (h0:0≤n) (hn:n < (N:Int)) :
    Pu P st d (.indexAddr t x y) (.op s u j (q + n.toNat)) none [s]:=by
  refine .ext fun st' ha hb c I m a w o hop hs=>?_
  have hb':=hb s (List.mem_singleton.2 rfl)
  obtain ⟨_,_,_,F1⟩:=h1.facts
  obtain ⟨_,_,_,F2⟩:=h2.facts
  have u1:=F1.und
  rw [td_arr (F1.dd.symm.trans hd)] at u1
  obtain ⟨ad,e1,k1,k2⟩:=((ha x (by simp [Op.operands]) _ hx).vr hs).op_inv
  have e2:=((ha y (by simp [Op.operands]) _ hy).vr hs).int_inv
  obtain ⟨rfl,k4⟩:=k2 (by rw [hb',hB,hu]) (by rw [hb',hB];exact Mode.live_ne hm)
  refine ⟨.pointer (some ⟨(m s).g,((m s).base + j) * (m s).sz + (q + n.toNat),none⟩),?_, .op s u j (q + n.toNat) _ k1 fun _ _=>⟨rfl,k4⟩⟩
  have ha:=addr_add ⟨(m s).g,((m s).base + j) * (m s).sz + q,none⟩ (n.toNat * ie.size) rfl
  have hr:(Instr.indexAt t (.pointer (some ⟨(m s).g,((m s).base + j) * (m s).sz + q,none⟩)) (.int k n)).run P w = .ok (.pointer (some ⟨(m s).g,((m s).base + j) * (m s).sz + (q + n.toNat),none⟩)) w:=by
    rw [hz,Nat.mul_one] at ha
    simp [Instr.indexAt,Instr.sureAddr,asIntOf,run_underlying u1,h0,hn,run_size F2.info,F2.size,hz,ha,Nat.add_assoc]
  simp [execOp,hop,e1,e2,hr]
theorem C.appendSE {α:Type} {en:α→AV} {t i e ie x y s u u' len ss v} {l l2:List α} [h:TI P t i] [h':TI P e ie] (hd:i.d = .sl e) (hx:Ev st x (.os s u 0 len true)) (hB:st.b s=⟨u, .own, .vals (l.map en),e⟩) (hl:len=l.length)
    (hy:Ev st y v) (hsn:Snap st ss v (.fv (l2.map en))) (h0:Nat.blt 0 ie.size=true) (hc : ∀ x,szOk ie.size (en x)) (hm:l.length + l2.length≤maxLen) (hb:(l.length + l2.length) * ie.bytes≤140737488355328) (hu:(st.b d).ver + 1=u') :
    EfC P st d (.call ⟨.builtin .append,#[x,y],#[t,t]⟩) (.os d u' 0 (l ++ l2).length true) (fun B=>upd (upd B s ⟨u, .dead, .vals (l.map en),e⟩) d ⟨u', .own, .vals ((l ++ l2).map en),e⟩) [s,d] (s :: d :: ss):=by
  refine ⟨fun q ha hbb=>?_,fun B z=>?_⟩
  · unfold Ag at ha
    exact U.appendSE hd (ha x (by simp [Op.operands,Call.operands]) _ hx) (by rw [hbb s (by simp)];exact hB) hl (ha y (by simp [Op.operands,Call.operands]) _ hy) (hsn.congr fun z hz=>hbb z (by simp [hz])) h0 hc hm hb (by rw [hbb d (by simp)];exact hu)
  · by_cases e1:z=d
    · subst e1;simp [upd_same]
    · rw [upd_ne _ _ e1]
      by_cases e2:z=s
      · subst e2;rw [upd_same,if_pos (by simp),upd_ne _ _ e1,upd_same]
      · rw [upd_ne _ _ e2,if_neg (by simp [e1,e2])]
theorem C.takeE {x s u u' len row e} (hx:Ev st x (.os s u 0 len true)) (hB:st.b s=⟨u, .own,row,e⟩) (hn:s≠d) (hu:(st.b d).ver + 1=u') :
    EfC P st d (.assign x) (.os d u' 0 len true) (fun B=>upd (upd B s ⟨u, .dead,row,e⟩) d ⟨u', .own,row,e⟩) [s,d] [s,d]:=by
  refine ⟨fun q ha hbb=>?_,fun B z=>?_⟩
  · unfold Ag at ha
    exact U.takeE (ha x (by simp [Op.operands]) _ hx) (by rw [hbb s (by simp)];exact hB) hn (by rw [hbb d (by simp)];exact hu)
  · by_cases e1:z=d
    · subst e1;simp [upd_same]
    · rw [upd_ne _ _ e1]
      by_cases e2:z=s
      · subst e2;rw [upd_same,if_pos (by simp),upd_ne _ _ e1,upd_same]
      · rw [upd_ne _ _ e2,if_neg (by simp [e1,e2])]
end
end Go.AVL
end

section
namespace Go.Proofs.Ytiikhhemgplocaa
open Go.AVL Go.RowKit Go.Proofs.Ytiikhhemgplocaa.F Go.Proofs.YtiikhhemgplocaaX Go.Proofs.YtiikhhemgplocaaW.PrintWords Go.Proofs.YtiikhhemgplocaaW.PrintLast Go.Proofs.YtiikhhemgplocaaW.PrintMore
set_option linter.unusedVariables false
set_option linter.unusedSimpArgs false
set_option maxRecDepth 100000
set_option maxHeartbeats 16000000
noncomputable def c12:Code:=Try.f12.body.getD .skip
theorem fn12:FnOk Try.prog 12 Try.f12 c12:=⟨Try.func12,rfl,by kernel_rfl,by kernel_rfl,mixed⟩
theorem whole_Int_Abs.cs {l0_0:List Int} {a0_1:Bool} {r:List Int} (h:whole_Int_Abs.f l0_0 a0_1=some r):CS Try.prog 12 [.agg [.fi .u64 l0_0, .bool a0_1]] .no [.agg [.fi .u64 r]]:=by
  unfold whole_Int_Abs.f at h
  refine E.pure fn12 rfl ?_
  refine X.seq ?_
  refine X.still ?_
  refine O.puE (v':=.op 1 (1) 0 0) (b':=⟨1, .own,_,_⟩) (Pu.box (.tmp (v:=.agg _) rfl) rfl rfl) rfl rfl ?_
  refine O.puE (v':=.op 2 (1) 0 0) (b':=⟨1, .own,(.vals [.agg [.fi .u64 []]]),_⟩) Pu.alloc rfl rfl ?_
  refine O.nil ?_
  refine X.seq ?_
  refine X.still ?_
  refine O.pu (U.fieldA rfl rfl rfl (.tmp rfl)) ?_
  refine O.pu (U.load (.tmp rfl) rfl rfl (U.sub rfl (.take .done))) ?_
  refine O.ef0 (U.storeE (.tmp rfl) rfl rfl (.tmp (v:=.agg _) rfl) rfl rfl (.whole (notBad_ne rfl) rfl) .one) ?_
  refine O.nil ?_
  refine X.ret ?_
  cases h
  exact E.fin [] (.cell rfl rfl (Mode.live_ne rfl) (U.whole rfl rfl) .nil) (.cons (.cl (.aggL (.cons .fi .nil))) .nil)
noncomputable def c37:Code:=Try.f37.body.getD .skip
theorem fn37:FnOk Try.prog 37 Try.f37 c37:=⟨Try.func37,rfl,by kernel_rfl,by kernel_rfl,mixed⟩
theorem nat_Nat_Zero.cs {l0_0:List Int} {r:Bool} (h:nat_Nat_Zero.f l0_0=some r):CS Try.prog 37 [.agg [.fi .u64 l0_0]] .no [.bool r]:=by
  unfold nat_Nat_Zero.f at h
  refine E.pure fn37 rfl ?_
  refine X.seq ?_
  refine X.still ?_
  refine O.puE (v':=.op 1 (1) 0 0) (b':=⟨1, .own,_,_⟩) (Pu.box (.tmp (v:=.agg _) rfl) rfl rfl) rfl rfl ?_
  refine O.pu (Pu.assign .bool) ?_
  refine O.nil ?_
  refine X.seq ?_
  refine X.still ?_
  refine O.pu (U.fieldA rfl rfl rfl (.tmp rfl)) ?_
  refine O.pu (U.load (.tmp rfl) rfl rfl (U.cell rfl rfl rfl)) ?_
  refine O.pu (Pu.lenI rfl (.tmp rfl)) ?_
  refine O.pu (Pu.bin (.tmp rfl) .int .eql) ?_
  refine O.pu (Pu.assign (.tmp (v:=.bool _) rfl)) ?_
  refine O.nil ?_
  refine X.ret ?_
  cases h
  exact E.fin [] (.tmp (v:=.bool _) rfl .nil) (.cons (.cl .bool) .nil)
noncomputable def c36:Code:=Try.f36.body.getD .skip
theorem fn36:FnOk Try.prog 36 Try.f36 c36:=⟨Try.func36,rfl,by kernel_rfl,by kernel_rfl,mixed⟩
theorem whole_Int_Sign.cs {l0_0:List Int} {a0_1:Bool} {r:Int} (h:whole_Int_Sign.f l0_0 a0_1=some r):CS Try.prog 36 [.agg [.fi .u64 l0_0, .bool a0_1]] .no [.int .i64 r]:=by
  unfold whole_Int_Sign.f at h
  refine E.pure fn36 rfl ?_
  refine X.seq ?_
  refine X.still ?_
  refine O.puE (v':=.op 1 (1) 0 0) (b':=⟨1, .own,_,_⟩) (Pu.box (.tmp (v:=.agg _) rfl) rfl rfl) rfl rfl ?_
  refine O.pu (Pu.assign .int) ?_
  refine O.nil ?_
  refine X.seq ?_
  refine X.block ?_
  refine X.seq ?_
  refine X.still ?_
  refine O.pu (U.fieldA rfl rfl rfl (.tmp rfl)) ?_
  refine O.pu (U.load (.tmp rfl) rfl rfl (U.sub rfl (.take .done))) ?_
  obtain ⟨q1,Hq1,h⟩:=Option.bind_eq_some_iff.1 h
  refine O.pu (U.call (ss:=[]) (.cons (.tmp (v:=.agg _) rfl) .nil) (.cons (.cl (.aggL (.cons .fi .nil))) .nil) (nat_Nat_Zero.cs Hq1) (.inl rfl) (.bool)) ?_
  refine O.pu (Pu.assign (.tmp (v:=.bool _) rfl)) ?_
  refine O.nil ?_
  refine X.cond (.tmp rfl) (fun c=>?_) (fun c=>?_)
  · rw [if_pos c] at h
    refine X.seq ?_
    refine X.still ?_
    refine O.pu (Pu.assign .int) ?_
    refine O.nil ?_
    refine X.ret ?_
    cases h
    exact E.fin [] (.tmp (v:=.int _ _) rfl .nil) (.cons (.cl .int) .nil)
  · rw [if_neg (bf c)] at h
    refine X.seq ?_
    refine X.still ?_
    refine O.pu (U.fieldA rfl rfl rfl (.tmp rfl)) ?_
    refine O.pu (U.load (.tmp rfl) rfl rfl (U.cell rfl rfl rfl)) ?_
    refine O.pu (Pu.assign (.tmp (v:=.bool _) rfl)) ?_
    refine O.nil ?_
    refine X.cond (.tmp rfl) (fun c=>?_) (fun c=>?_)
    · rw [if_pos c] at h
      refine X.seq ?_
      refine X.still ?_
      refine O.pu (Pu.assign .int) ?_
      refine O.nil ?_
      refine X.ret ?_
      cases h
      exact E.fin [] (.tmp (v:=.int _ _) rfl .nil) (.cons (.cl .int) .nil)
    · rw [if_neg (bf c)] at h
      refine X.skip ?_
      refine X.seq ?_
      refine X.still ?_
      refine O.pu (Pu.assign .int) ?_
      refine O.nil ?_
      refine X.ret ?_
      cases h
      exact E.fin [] (.tmp (v:=.int _ _) rfl .nil) (.cons (.cl .int) .nil)
noncomputable def c31:Code:=Try.f31.body.getD .skip
theorem fn31:FnOk Try.prog 31 Try.f31 c31:=⟨Try.func31,rfl,by kernel_rfl,by kernel_rfl,mixed⟩
theorem whole_Of.cs {l0_0:List Int} {a1:Bool} {r:List Int×Bool} (h:whole_Of.f l0_0 a1=some r):CS Try.prog 31 [.agg [.fi .u64 l0_0], .bool a1] .no [.agg [.fi .u64 r.1, .bool r.2]]:=by
  unfold whole_Of.f at h
  refine E.pure fn31 rfl ?_
  refine X.seq ?_
  refine X.still ?_
  refine O.puE (v':=.op 2 (1) 0 0) (b':=⟨1, .own,_,_⟩) (Pu.box (.tmp (v:=.agg _) rfl) rfl rfl) rfl rfl ?_
  refine O.puE (v':=.op 4 (1) 0 0) (b':=⟨1, .own,(.vals [.agg [.fi .u64 [], .bool false]]),_⟩) Pu.alloc rfl rfl ?_
  refine O.nil ?_
  refine X.seq ?_
  refine X.drawn ?_
  refine D.pu (U.load (.tmp rfl) rfl rfl (U.whole rfl rfl)) ?_
  refine D.pu (Pu.move (.tmp (v:=.bool _) rfl)) ?_
  refine D.pu (Pu.move (.tmp (v:=.bool _) rfl)) ?_
  refine D.split (fun c=>?_) (fun c=>?_)
  · rw [if_pos c] at h
    refine D.gpu (W.t rfl rfl) (U.load (.tmp rfl) rfl rfl (U.whole rfl rfl)) ?_
    obtain ⟨q1,Hq1,h⟩:=Option.bind_eq_some_iff.1 h
    refine D.gpu (W.t rfl rfl) (U.call (ss:=[]) (.cons (.tmp (v:=.agg _) rfl) .nil) (.cons (.cl (.aggL (.cons .fi .nil))) .nil) (nat_Nat_Zero.cs Hq1) (.inl rfl) (.bool)) ?_
    refine D.gpu (W.t rfl rfl) (Pu.un (.tmp rfl) .not) ?_
    refine D.pu (Pu.pickT (.tmp rfl) (.tmp (v:=.bool _) rfl)) ?_
    refine D.pu (Pu.build rfl (.cons (.tmp (v:=.agg _) rfl) rfl rfl rfl (.put .done) (.cons (.tmp (v:=.bool _) rfl) rfl rfl rfl (.skip (.put .done)) .nil))) ?_
    refine D.ef0 (C.storeE (.tmp rfl) rfl rfl (.tmp (v:=.agg _) rfl) rfl rfl (.whole (notBad_ne rfl) rfl) .one) ?_
    refine D.nil (by kernel_rfl) ?_
    refine X.ret ?_
    cases h
    exact E.fin [] (.cell rfl rfl (Mode.live_ne rfl) (U.whole rfl rfl) .nil) (.cons (.cl (.aggL (.cons .fi (.cons .bool .nil)))) .nil)
  · rw [if_neg (bf c)] at h
    refine D.gskip (W.f rfl rfl rfl) ?_
    refine D.gskip (W.f rfl rfl rfl) ?_
    refine D.gskip (W.f rfl rfl rfl) ?_
    refine D.pu (Pu.pickF (.tmp rfl) .bool) ?_
    refine D.pu (Pu.build rfl (.cons (.tmp (v:=.agg _) rfl) rfl rfl rfl (.put .done) (.cons (.tmp (v:=.bool _) rfl) rfl rfl rfl (.skip (.put .done)) .nil))) ?_
    refine D.ef0 (C.storeE (.tmp rfl) rfl rfl (.tmp (v:=.agg _) rfl) rfl rfl (.whole (notBad_ne rfl) rfl) .one) ?_
    refine D.nil (by kernel_rfl) ?_
    refine X.ret ?_
    cases h
    exact E.fin [] (.cell rfl rfl (Mode.live_ne rfl) (U.whole rfl rfl) .nil) (.cons (.cl (.aggL (.cons .fi (.cons .bool .nil)))) .nil)
noncomputable def c62:Code:=Try.f62.body.getD .skip
theorem fn62:FnOk Try.prog 62 Try.f62 c62:=⟨Try.func62,rfl,by kernel_rfl,by kernel_rfl,mixed⟩
theorem nat_trimmed.cs {k:Nat} {l0:List Int} {r:List Int} (h:nat_trimmed.f k l0=some r):CS Try.prog 62 [.fi .u64 l0] .no [.agg [.fi .u64 r]]:=by
  unfold nat_trimmed.f at h
  refine E.pure fn62 rfl ?_
  refine X.seq ?_
  refine X.still ?_
  refine O.puE (v':=.op 2 (1) 0 0) (b':=⟨1, .own,(.vals [.agg [.fi .u64 []]]),_⟩) Pu.alloc rfl rfl ?_
  refine O.nil ?_
  refine X.seq ?_
  refine X.still ?_
  refine O.pu (Pu.move (.tmp (v:=.fi _ _) rfl)) ?_
  refine O.pu (Pu.lenI rfl (.tmp rfl)) ?_
  refine O.pu (Pu.assign (.tmp (v:=.int _ _) rfl)) ?_
  refine O.nil ?_
  refine X.seq ?_
  refine X.block ?_
  refine X.inv (fun k s=>∃ x0 x3 u2,s.t 0 = .fi .u64 x0∧s.t 3 = .int .i64 x3∧s.t 2 = .op 2 u2 0 0∧s.b 2=⟨u2, .own, .vals [.agg [.fi .u64 []]],24⟩∧nat_trimmed.l0 k x0 x3=some r) ?_ ?_ ⟨_,_,_,rfl,rfl,rfl,rfl,h⟩
  · rintro s ⟨_,_,_,_,_,_,_,h⟩;unfold nat_trimmed.l0 at h;cases h
  · rintro k1 s1 ⟨x0,x3,u2,e0,e1,e2,e3,h⟩
    unfold nat_trimmed.l0 at h
    rw [St.fixT e0,St.fixT e1,St.fixT e2,St.fixB e3]
    refine X.seq ?_
    refine X.seq ?_
    refine X.still ?_
    refine O.pu (Pu.move (.tmp (v:=.int _ _) rfl)) ?_
    refine O.pu (Pu.bin (.tmp rfl) .int .gtr) ?_
    refine O.pu (Pu.move (.tmp (v:=.bool _) rfl)) ?_
    refine O.splitP (fun c=>?_) (fun c=>?_)
    · rw [if_pos c] at h
      refine G.pu (W.t rfl rfl) (Pu.move (.tmp (v:=.fi _ _) rfl)) ?_
      refine G.pu (W.t rfl rfl) (Pu.move (.tmp (v:=.int _ _) rfl)) ?_
      refine G.pu (W.t rfl rfl) (Pu.bin (.tmp rfl) .int U.sub64) ?_
      repeat (rw [giff] at h;obtain ⟨_,h⟩:=h)
      refine G.pu (W.t rfl rfl) (U.rdI rfl rfl (.tmp rfl) (.tmp rfl) (by omega) (by omega)) ?_
      refine G.pu (W.t rfl rfl) (Pu.loadR (.tmp rfl) (U.self rfl rfl rfl)) ?_
      refine G.pu (W.t rfl rfl) (Pu.bin (.tmp rfl) .int .eql) ?_
      refine O.pu (Pu.pickT (.tmp rfl) (.tmp (v:=.bool _) rfl)) ?_
      refine O.nil ?_
      refine X.condE (.tmp rfl) (fun c=>?_) (fun c=>?_)
      · rw [if_pos c] at h
        refine X.skip ?_
        refine X.block ?_
        refine X.still ?_
        refine O.pu (Pu.move (.tmp (v:=.int _ _) rfl)) ?_
        refine O.pu (Pu.bin (.tmp rfl) .int U.sub64) ?_
        refine O.pu (Pu.assign (.tmp (v:=.int _ _) rfl)) ?_
        refine O.nil ?_
        exact ⟨_,(by omega),_,_,_,rfl,rfl,rfl,rfl,h⟩
      · rw [if_neg c] at h
        refine X.exit (B.out ?_)
        refine X.seq ?_
        refine X.still ?_
        refine O.pu (Pu.move (.tmp (v:=.fi _ _) rfl)) ?_
        refine O.pu (Pu.move (.tmp (v:=.int _ _) rfl)) ?_
        refine O.pu (Pu.move (.tmp (v:=.int _ _) rfl)) ?_
        repeat (rw [giff] at h;obtain ⟨_,h⟩:=h)
        refine O.pu (U.sliceH rfl rfl (.tmp rfl) .no (.yes (.tmp rfl) (by omega)) (.yes (.tmp rfl) (by omega) (by omega) (by omega)) (by omega) (by omega)) ?_
        refine O.pu (Pu.build rfl (.cons (.tmp (v:=.fi _ _) rfl) rfl rfl rfl (.put .done) .nil)) ?_
        refine O.ef0 (U.storeE (.tmp rfl) rfl rfl (.tmp (v:=.agg _) rfl) rfl rfl (.whole (notBad_ne rfl) rfl) .one) ?_
        refine O.nil ?_
        refine X.ret ?_
        cases h
        exact E.fin [] (.cell rfl rfl (Mode.live_ne rfl) (U.whole rfl rfl) .nil) (.cons (.cl (.aggL (.cons .fi .nil))) .nil)
    · rw [if_neg c] at h
      refine G.skip (W.f rfl rfl rfl) ?_
      refine G.skip (W.f rfl rfl rfl) ?_
      refine G.skip (W.f rfl rfl rfl) ?_
      refine G.skip (W.f rfl rfl rfl) ?_
      refine G.skip (W.f rfl rfl rfl) ?_
      refine G.skip (W.f rfl rfl rfl) ?_
      refine O.pu (Pu.pickF (.tmp rfl) .bool) ?_
      refine O.nil ?_
      refine X.condF (.tmp rfl) ?_
      refine X.exit (B.out ?_)
      refine X.seq ?_
      refine X.still ?_
      refine O.pu (Pu.move (.tmp (v:=.fi _ _) rfl)) ?_
      refine O.pu (Pu.move (.tmp (v:=.int _ _) rfl)) ?_
      refine O.pu (Pu.move (.tmp (v:=.int _ _) rfl)) ?_
      repeat (rw [giff] at h;obtain ⟨_,h⟩:=h)
      refine O.pu (U.sliceH rfl rfl (.tmp rfl) .no (.yes (.tmp rfl) (by omega)) (.yes (.tmp rfl) (by omega) (by omega) (by omega)) (by omega) (by omega)) ?_
      refine O.pu (Pu.build rfl (.cons (.tmp (v:=.fi _ _) rfl) rfl rfl rfl (.put .done) .nil)) ?_
      refine O.ef0 (U.storeE (.tmp rfl) rfl rfl (.tmp (v:=.agg _) rfl) rfl rfl (.whole (notBad_ne rfl) rfl) .one) ?_
      refine O.nil ?_
      refine X.ret ?_
      cases h
      exact E.fin [] (.cell rfl rfl (Mode.live_ne rfl) (U.whole rfl rfl) .nil) (.cons (.cl (.aggL (.cons .fi .nil))) .nil)
noncomputable def c63:Code:=Try.f63.body.getD .skip
theorem fn63:FnOk Try.prog 63 Try.f63 c63:=⟨Try.func63,rfl,by kernel_rfl,by kernel_rfl,mixed⟩
theorem slices_Clone_uint64_uint64.cs {l0:List Int} {r:List Int} (h:slices_Clone_uint64_uint64.f l0=some r):CS Try.prog 63 [.fi .u64 l0] ⟨none,some (.ints .u64 r,77)⟩ [.os FRS 1 0 (Row.ints .u64 r).len true]:=by
  unfold slices_Clone_uint64_uint64.f at h
  refine E.fresh fn63 rfl trivial ?_
  refine X.seq ?_
  refine X.still ?_
  refine O.ef (U.nilOE (u:=1) (row:=.ints .u64 []) (e:=77) rfl rfl) ?_
  refine O.nil ?_
  refine X.seq ?_
  refine X.seq ?_
  refine X.still ?_
  refine O.pu (Pu.move (.tmp (v:=.fi _ _) rfl)) ?_
  refine O.nilc rfl (.tmp rfl) .fi (fun c0 hc0=>?_)
  refine O.nil ?_
  repeat first|(rw [giff] at h;obtain ⟨_,h⟩:=h)|rw [bdff] at h
  refine X.cond (.tmp rfl) (fun c=>?_) (fun c=>?_)
  · obtain rfl:=List.eq_nil_of_length_eq_zero (hc0 c)
    refine X.seq ?_
    refine X.still ?_
    refine O.ef (U.nilOE (u:=2) (row:=.ints .u64 []) (e:=77) rfl rfl) ?_
    refine O.nil ?_
    refine X.ret ?_
    cases h
    exact E.finF (s:=2) (.tmp (v:=.os _ _ _ _ _) rfl .nil) rfl
  · refine X.skip ?_
    refine X.seq ?_
    refine X.still ?_
    refine O.puE (v':=.os 5 (1) 0 _ true) (b':=⟨1, .own,_,_⟩) (U.litI rfl rfl .nil rfl rfl) rfl rfl ?_
    refine O.pu (Pu.move (.tmp (v:=.fi _ _) rfl)) ?_
    refine O.ef (U.appendE (u':=1) rfl rfl (.tmp rfl) rfl (by first|rfl|(simp only [List.length_set];done)|(simp only [List.length_drop,List.length_take,List.length_append,List.length_set] at *;omega)) (.tmp rfl) (.cl (ss:=[]) .fi) rfl (by first|exact Nat.le_of_lt (by assumption)|(simp only [List.length_cons,List.length_nil];omega)) rfl) ?_
    refine O.ef (U.takeE (u':=2) (.tmp rfl) rfl (ne_of_beq rfl) rfl) ?_
    refine O.nil ?_
    refine X.ret ?_
    cases h
    exact E.finF (s:=2) (.tmp (v:=.os _ _ _ _ _) rfl .nil) rfl
noncomputable def c35:Code:=Try.f35.body.getD .skip
theorem fn35:FnOk Try.prog 35 Try.f35 c35:=⟨Try.func35,rfl,by kernel_rfl,by kernel_rfl,mixed⟩
theorem nat_Of.cs {k:Nat} {l0:List Int} {r:List Int} (h:nat_Of.f k l0=some r):CS Try.prog 35 [.fi .u64 l0] .no [.agg [.fi .u64 r]]:=by
  unfold nat_Of.f at h
  refine E.pure fn35 rfl ?_
  refine X.seq ?_
  refine X.still ?_
  refine O.puE (v':=.op 2 (1) 0 0) (b':=⟨1, .own,(.vals [.agg [.fi .u64 []]]),_⟩) Pu.alloc rfl rfl ?_
  refine O.nil ?_
  refine X.seq ?_
  refine X.still ?_
  refine O.pu (Pu.move (.tmp (v:=.fi _ _) rfl)) ?_
  obtain ⟨q1,Hq1,h⟩:=Option.bind_eq_some_iff.1 h
  refine O.puE (v':=.os 4 (1) 0 _ true) (b':=⟨1, .own,_,_⟩) (U.callF (ss:=[]) (.cons (.tmp (v:=.fi _ _) rfl) .nil) (.cons (.cl .fi) .nil) (slices_Clone_uint64_uint64.cs Hq1)) rfl rfl ?_
  obtain ⟨q2,Hq2,h⟩:=Option.bind_eq_some_iff.1 h
  refine O.ef (U.callZ (ss:=[4]) (.cons (.tmp (v:=.os _ _ _ _ _) rfl) .nil) (.cons (.osIf (by simp) rfl (Mode.live_ne rfl) rfl (by first|rfl|(simp only [List.length_set];done)|(simp only [List.length_drop,List.length_take,List.length_append,List.length_set] at *;omega))) .nil) (nat_trimmed.cs Hq2) (.aggL (.cons .fi .nil)) (nowin rfl)) ?_
  refine O.ef0 (U.storeE (.tmp rfl) rfl rfl (.tmp (v:=.agg _) rfl) rfl rfl (.whole (notBad_ne rfl) rfl) .one) ?_
  refine O.nil ?_
  refine X.ret ?_
  cases h
  exact E.fin [] (.cell rfl rfl (Mode.live_ne rfl) (U.whole rfl rfl) .nil) (.cons (.cl (.aggL (.cons .fi .nil))) .nil)
noncomputable def c61:Code:=Try.f61.body.getD .skip
theorem fn61:FnOk Try.prog 61 Try.f61 c61:=⟨Try.func61,rfl,by kernel_rfl,by kernel_rfl,mixed⟩
theorem nat_Nat_limb.cs {l0_0:List Int} {a1:Int} {r:Int} (h:nat_Nat_limb.f l0_0 a1=some r):CS Try.prog 61 [.agg [.fi .u64 l0_0], .int .i64 a1] .no [.int .u64 r]:=by
  unfold nat_Nat_limb.f at h
  refine E.pure fn61 rfl ?_
  refine X.seq ?_
  refine X.still ?_
  refine O.puE (v':=.op 2 (1) 0 0) (b':=⟨1, .own,_,_⟩) (Pu.box (.tmp (v:=.agg _) rfl) rfl rfl) rfl rfl ?_
  refine O.pu (Pu.assign .int) ?_
  refine O.nil ?_
  refine X.seq ?_
  refine X.seq ?_
  refine X.still ?_
  refine O.pu (Pu.move (.tmp (v:=.int _ _) rfl)) ?_
  refine O.pu (U.fieldA rfl rfl rfl (.tmp rfl)) ?_
  refine O.pu (U.load (.tmp rfl) rfl rfl (U.cell rfl rfl rfl)) ?_
  refine O.pu (Pu.lenI rfl (.tmp rfl)) ?_
  refine O.pu (Pu.bin (.tmp rfl) (.tmp rfl) .geq) ?_
  refine O.nil ?_
  refine X.condP (.tmp rfl) (fun c=>?_) (fun c=>?_)
  · rw [if_pos c] at h
    refine X.seq ?_
    refine X.still ?_
    refine O.pu (Pu.assign .int) ?_
    refine O.nil ?_
    refine X.ret ?_
    cases h
    exact E.fin [] (.tmp (v:=.int _ _) rfl .nil) (.cons (.cl .int) .nil)
  · rw [if_neg c] at h
    refine X.skip ?_
    refine X.seq ?_
    refine X.still ?_
    refine O.pu (U.fieldA rfl rfl rfl (.tmp rfl)) ?_
    refine O.pu (U.load (.tmp rfl) rfl rfl (U.cell rfl rfl rfl)) ?_
    refine O.pu (Pu.move (.tmp (v:=.int _ _) rfl)) ?_
    repeat (rw [giff] at h;obtain ⟨_,h⟩:=h)
    refine O.pu (U.rdI rfl rfl (.tmp rfl) (.tmp rfl) (by omega) (by omega)) ?_
    refine O.pu (Pu.loadR (.tmp rfl) (U.self rfl rfl rfl)) ?_
    refine O.pu (Pu.assign (.tmp (v:=.int _ _) rfl)) ?_
    refine O.nil ?_
    refine X.ret ?_
    cases h
    exact E.fin [] (.tmp (v:=.int _ _) rfl .nil) (.cons (.cl .int) .nil)
noncomputable def c104:Code:=Try.f104.body.getD .skip
theorem fn104:FnOk Try.prog 104 Try.f104 c104:=⟨Try.func104,rfl,by kernel_rfl,by kernel_rfl,mixed⟩
theorem cmp_isNaN_int.cs {a0:Int} {r:Bool} (h:cmp_isNaN_int.f a0=some r):CS Try.prog 104 [.int .i64 a0] .no [.bool r]:=by
  unfold cmp_isNaN_int.f at h
  refine E.pure fn104 rfl ?_
  refine X.seq ?_
  refine X.still ?_
  refine O.pu (Pu.assign .bool) ?_
  refine O.nil ?_
  refine X.seq ?_
  refine X.still ?_
  refine O.pu (Pu.move (.tmp (v:=.int _ _) rfl)) ?_
  refine O.pu (Pu.move (.tmp (v:=.int _ _) rfl)) ?_
  refine O.pu (Pu.bin (.tmp rfl) (.tmp rfl) .neq) ?_
  refine O.pu (Pu.assign (.tmp (v:=.bool _) rfl)) ?_
  refine O.nil ?_
  refine X.ret ?_
  cases h
  exact E.fin [] (.tmp (v:=.bool _) rfl .nil) (.cons (.cl .bool) .nil)
noncomputable def c90:Code:=Try.f90.body.getD .skip
theorem fn90:FnOk Try.prog 90 Try.f90 c90:=⟨Try.func90,rfl,by kernel_rfl,by kernel_rfl,mixed⟩
theorem cmp_Compare_int.cs {a0:Int} {a1:Int} {r:Int} (h:cmp_Compare_int.f a0 a1=some r):CS Try.prog 90 [.int .i64 a0, .int .i64 a1] .no [.int .i64 r]:=by
  unfold cmp_Compare_int.f at h
  refine E.pure fn90 rfl ?_
  refine X.seq ?_
  refine X.still ?_
  refine O.pu (Pu.assign .int) ?_
  refine O.nil ?_
  refine X.seq ?_
  refine X.still ?_
  refine O.pu (Pu.move (.tmp (v:=.int _ _) rfl)) ?_
  obtain ⟨q1,Hq1,h⟩:=Option.bind_eq_some_iff.1 h
  refine O.pu (U.call (ss:=[]) (.cons (.tmp (v:=.int _ _) rfl) .nil) (.cons (.cl .int) .nil) (cmp_isNaN_int.cs Hq1) (.inl rfl) (.bool)) ?_
  refine O.pu (Pu.assign (.tmp (v:=.bool _) rfl)) ?_
  refine O.nil ?_
  refine X.seq ?_
  refine X.still ?_
  refine O.pu (Pu.move (.tmp (v:=.int _ _) rfl)) ?_
  obtain ⟨q2,Hq2,h⟩:=Option.bind_eq_some_iff.1 h
  refine O.pu (U.call (ss:=[]) (.cons (.tmp (v:=.int _ _) rfl) .nil) (.cons (.cl .int) .nil) (cmp_isNaN_int.cs Hq2) (.inl rfl) (.bool)) ?_
  refine O.pu (Pu.assign (.tmp (v:=.bool _) rfl)) ?_
  refine O.nil ?_
  refine X.seq ?_
  refine X.seq ?_
  refine X.still ?_
  refine O.pu (Pu.move (.tmp (v:=.bool _) rfl)) ?_
  refine O.nil ?_
  refine X.cond (.tmp rfl) (fun c=>?_) (fun c=>?_)
  · rw [if_pos c] at h
    refine X.seq ?_
    refine X.seq ?_
    refine X.still ?_
    refine O.pu (Pu.move (.tmp (v:=.bool _) rfl)) ?_
    refine O.nil ?_
    refine X.cond (.tmp rfl) (fun c=>?_) (fun c=>?_)
    · rw [if_pos c] at h
      refine X.seq ?_
      refine X.still ?_
      refine O.pu (Pu.assign .int) ?_
      refine O.nil ?_
      refine X.ret ?_
      cases h
      exact E.fin [] (.tmp (v:=.int _ _) rfl .nil) (.cons (.cl .int) .nil)
    · rw [if_neg (bf c)] at h
      refine X.skip ?_
      refine X.seq ?_
      refine X.still ?_
      refine O.pu (Pu.assign .int) ?_
      refine O.nil ?_
      refine X.ret ?_
      cases h
      exact E.fin [] (.tmp (v:=.int _ _) rfl .nil) (.cons (.cl .int) .nil)
  · rw [if_neg (bf c)] at h
    refine X.skip ?_
    refine X.seq ?_
    refine X.seq ?_
    refine X.still ?_
    refine O.pu (Pu.move (.tmp (v:=.bool _) rfl)) ?_
    refine O.nil ?_
    refine X.cond (.tmp rfl) (fun c=>?_) (fun c=>?_)
    · rw [if_pos c] at h
      refine X.seq ?_
      refine X.still ?_
      refine O.pu (Pu.assign .int) ?_
      refine O.nil ?_
      refine X.ret ?_
      cases h
      exact E.fin [] (.tmp (v:=.int _ _) rfl .nil) (.cons (.cl .int) .nil)
    · rw [if_neg (bf c)] at h
      refine X.skip ?_
      refine X.seq ?_
      refine X.seq ?_
      refine X.still ?_
      refine O.pu (Pu.move (.tmp (v:=.int _ _) rfl)) ?_
      refine O.pu (Pu.move (.tmp (v:=.int _ _) rfl)) ?_
      refine O.pu (Pu.bin (.tmp rfl) (.tmp rfl) .lss) ?_
      refine O.nil ?_
      refine X.condP (.tmp rfl) (fun c=>?_) (fun c=>?_)
      · rw [if_pos c] at h
        refine X.seq ?_
        refine X.still ?_
        refine O.pu (Pu.assign .int) ?_
        refine O.nil ?_
        refine X.ret ?_
        cases h
        exact E.fin [] (.tmp (v:=.int _ _) rfl .nil) (.cons (.cl .int) .nil)
      · rw [if_neg c] at h
        refine X.skip ?_
        refine X.seq ?_
        refine X.seq ?_
        refine X.still ?_
        refine O.pu (Pu.move (.tmp (v:=.int _ _) rfl)) ?_
        refine O.pu (Pu.move (.tmp (v:=.int _ _) rfl)) ?_
        refine O.pu (Pu.bin (.tmp rfl) (.tmp rfl) .gtr) ?_
        refine O.nil ?_
        refine X.condP (.tmp rfl) (fun c=>?_) (fun c=>?_)
        · rw [if_pos c] at h
          refine X.seq ?_
          refine X.still ?_
          refine O.pu (Pu.assign .int) ?_
          refine O.nil ?_
          refine X.ret ?_
          cases h
          exact E.fin [] (.tmp (v:=.int _ _) rfl .nil) (.cons (.cl .int) .nil)
        · rw [if_neg c] at h
          refine X.skip ?_
          refine X.seq ?_
          refine X.still ?_
          refine O.pu (Pu.assign .int) ?_
          refine O.nil ?_
          refine X.ret ?_
          cases h
          exact E.fin [] (.tmp (v:=.int _ _) rfl .nil) (.cons (.cl .int) .nil)
noncomputable def c105:Code:=Try.f105.body.getD .skip
theorem fn105:FnOk Try.prog 105 Try.f105 c105:=⟨Try.func105,rfl,by kernel_rfl,by kernel_rfl,mixed⟩
theorem cmp_isNaN_uint64.cs {a0:Int} {r:Bool} (h:cmp_isNaN_uint64.f a0=some r):CS Try.prog 105 [.int .u64 a0] .no [.bool r]:=by
  unfold cmp_isNaN_uint64.f at h
  refine E.pure fn105 rfl ?_
  refine X.seq ?_
  refine X.still ?_
  refine O.pu (Pu.assign .bool) ?_
  refine O.nil ?_
  refine X.seq ?_
  refine X.still ?_
  refine O.pu (Pu.move (.tmp (v:=.int _ _) rfl)) ?_
  refine O.pu (Pu.move (.tmp (v:=.int _ _) rfl)) ?_
  refine O.pu (Pu.bin (.tmp rfl) (.tmp rfl) .neq) ?_
  refine O.pu (Pu.assign (.tmp (v:=.bool _) rfl)) ?_
  refine O.nil ?_
  refine X.ret ?_
  cases h
  exact E.fin [] (.tmp (v:=.bool _) rfl .nil) (.cons (.cl .bool) .nil)
noncomputable def c91:Code:=Try.f91.body.getD .skip
theorem fn91:FnOk Try.prog 91 Try.f91 c91:=⟨Try.func91,rfl,by kernel_rfl,by kernel_rfl,mixed⟩
theorem cmp_Compare_uint64.cs {a0:Int} {a1:Int} {r:Int} (h:cmp_Compare_uint64.f a0 a1=some r):CS Try.prog 91 [.int .u64 a0, .int .u64 a1] .no [.int .i64 r]:=by
  unfold cmp_Compare_uint64.f at h
  refine E.pure fn91 rfl ?_
  refine X.seq ?_
  refine X.still ?_
  refine O.pu (Pu.assign .int) ?_
  refine O.nil ?_
  refine X.seq ?_
  refine X.still ?_
  refine O.pu (Pu.move (.tmp (v:=.int _ _) rfl)) ?_
  obtain ⟨q1,Hq1,h⟩:=Option.bind_eq_some_iff.1 h
  refine O.pu (U.call (ss:=[]) (.cons (.tmp (v:=.int _ _) rfl) .nil) (.cons (.cl .int) .nil) (cmp_isNaN_uint64.cs Hq1) (.inl rfl) (.bool)) ?_
  refine O.pu (Pu.assign (.tmp (v:=.bool _) rfl)) ?_
  refine O.nil ?_
  refine X.seq ?_
  refine X.still ?_
  refine O.pu (Pu.move (.tmp (v:=.int _ _) rfl)) ?_
  obtain ⟨q2,Hq2,h⟩:=Option.bind_eq_some_iff.1 h
  refine O.pu (U.call (ss:=[]) (.cons (.tmp (v:=.int _ _) rfl) .nil) (.cons (.cl .int) .nil) (cmp_isNaN_uint64.cs Hq2) (.inl rfl) (.bool)) ?_
  refine O.pu (Pu.assign (.tmp (v:=.bool _) rfl)) ?_
  refine O.nil ?_
  refine X.seq ?_
  refine X.seq ?_
  refine X.still ?_
  refine O.pu (Pu.move (.tmp (v:=.bool _) rfl)) ?_
  refine O.nil ?_
  refine X.cond (.tmp rfl) (fun c=>?_) (fun c=>?_)
  · rw [if_pos c] at h
    refine X.seq ?_
    refine X.seq ?_
    refine X.still ?_
    refine O.pu (Pu.move (.tmp (v:=.bool _) rfl)) ?_
    refine O.nil ?_
    refine X.cond (.tmp rfl) (fun c=>?_) (fun c=>?_)
    · rw [if_pos c] at h
      refine X.seq ?_
      refine X.still ?_
      refine O.pu (Pu.assign .int) ?_
      refine O.nil ?_
      refine X.ret ?_
      cases h
      exact E.fin [] (.tmp (v:=.int _ _) rfl .nil) (.cons (.cl .int) .nil)
    · rw [if_neg (bf c)] at h
      refine X.skip ?_
      refine X.seq ?_
      refine X.still ?_
      refine O.pu (Pu.assign .int) ?_
      refine O.nil ?_
      refine X.ret ?_
      cases h
      exact E.fin [] (.tmp (v:=.int _ _) rfl .nil) (.cons (.cl .int) .nil)
  · rw [if_neg (bf c)] at h
    refine X.skip ?_
    refine X.seq ?_
    refine X.seq ?_
    refine X.still ?_
    refine O.pu (Pu.move (.tmp (v:=.bool _) rfl)) ?_
    refine O.nil ?_
    refine X.cond (.tmp rfl) (fun c=>?_) (fun c=>?_)
    · rw [if_pos c] at h
      refine X.seq ?_
      refine X.still ?_
      refine O.pu (Pu.assign .int) ?_
      refine O.nil ?_
      refine X.ret ?_
      cases h
      exact E.fin [] (.tmp (v:=.int _ _) rfl .nil) (.cons (.cl .int) .nil)
    · rw [if_neg (bf c)] at h
      refine X.skip ?_
      refine X.seq ?_
      refine X.seq ?_
      refine X.still ?_
      refine O.pu (Pu.move (.tmp (v:=.int _ _) rfl)) ?_
      refine O.pu (Pu.move (.tmp (v:=.int _ _) rfl)) ?_
      refine O.pu (Pu.bin (.tmp rfl) (.tmp rfl) .lss) ?_
      refine O.nil ?_
      refine X.condP (.tmp rfl) (fun c=>?_) (fun c=>?_)
      · rw [if_pos c] at h
        refine X.seq ?_
        refine X.still ?_
        refine O.pu (Pu.assign .int) ?_
        refine O.nil ?_
        refine X.ret ?_
        cases h
        exact E.fin [] (.tmp (v:=.int _ _) rfl .nil) (.cons (.cl .int) .nil)
      · rw [if_neg c] at h
        refine X.skip ?_
        refine X.seq ?_
        refine X.seq ?_
        refine X.still ?_
        refine O.pu (Pu.move (.tmp (v:=.int _ _) rfl)) ?_
        refine O.pu (Pu.move (.tmp (v:=.int _ _) rfl)) ?_
        refine O.pu (Pu.bin (.tmp rfl) (.tmp rfl) .gtr) ?_
        refine O.nil ?_
        refine X.condP (.tmp rfl) (fun c=>?_) (fun c=>?_)
        · rw [if_pos c] at h
          refine X.seq ?_
          refine X.still ?_
          refine O.pu (Pu.assign .int) ?_
          refine O.nil ?_
          refine X.ret ?_
          cases h
          exact E.fin [] (.tmp (v:=.int _ _) rfl .nil) (.cons (.cl .int) .nil)
        · rw [if_neg c] at h
          refine X.skip ?_
          refine X.seq ?_
          refine X.still ?_
          refine O.pu (Pu.assign .int) ?_
          refine O.nil ?_
          refine X.ret ?_
          cases h
          exact E.fin [] (.tmp (v:=.int _ _) rfl .nil) (.cons (.cl .int) .nil)
noncomputable def c72:Code:=Try.f72.body.getD .skip
theorem fn72:FnOk Try.prog 72 Try.f72 c72:=⟨Try.func72,rfl,by kernel_rfl,by kernel_rfl,mixed⟩
theorem nat_Nat_Cmp.cs {k:Nat} {l0_0:List Int} {l1_0:List Int} {r:Int} (h:nat_Nat_Cmp.f k l0_0 l1_0=some r):CS Try.prog 72 [.agg [.fi .u64 l0_0], .agg [.fi .u64 l1_0]] .no [.int .i64 r]:=by
  unfold nat_Nat_Cmp.f at h
  refine E.pure fn72 rfl ?_
  refine X.seq ?_
  refine X.still ?_
  refine O.puE (v':=.op 2 (1) 0 0) (b':=⟨1, .own,_,_⟩) (Pu.box (.tmp (v:=.agg _) rfl) rfl rfl) rfl rfl ?_
  refine O.puE (v':=.op 3 (1) 0 0) (b':=⟨1, .own,_,_⟩) (Pu.box (.tmp (v:=.agg _) rfl) rfl rfl) rfl rfl ?_
  refine O.pu (Pu.assign .int) ?_
  refine O.nil ?_
  refine X.seq ?_
  refine X.seq ?_
  refine X.still ?_
  refine O.pu (U.fieldA rfl rfl rfl (.tmp rfl)) ?_
  refine O.pu (U.load (.tmp rfl) rfl rfl (U.cell rfl rfl rfl)) ?_
  refine O.pu (Pu.lenI rfl (.tmp rfl)) ?_
  refine O.pu (U.fieldA rfl rfl rfl (.tmp rfl)) ?_
  refine O.pu (U.load (.tmp rfl) rfl rfl (U.cell rfl rfl rfl)) ?_
  refine O.pu (Pu.lenI rfl (.tmp rfl)) ?_
  obtain ⟨q1,Hq1,h⟩:=Option.bind_eq_some_iff.1 h
  refine O.pu (U.call (ss:=[]) (.cons (.tmp (v:=.int _ _) rfl) (.cons (.tmp (v:=.int _ _) rfl) .nil)) (.cons (.cl .int) (.cons (.cl .int) .nil)) (cmp_Compare_int.cs Hq1) (.inl rfl) (.int)) ?_
  refine O.pu (Pu.assign (.tmp (v:=.int _ _) rfl)) ?_
  refine O.nil ?_
  refine X.seq ?_
  refine X.still ?_
  refine O.pu (Pu.move (.tmp (v:=.int _ _) rfl)) ?_
  refine O.pu (Pu.bin (.tmp rfl) .int .neq) ?_
  refine O.nil ?_
  refine X.condN (.tmp rfl) (fun c=>?_) (fun c=>?_)
  · rw [if_neg c] at h
    refine X.seq ?_
    refine X.still ?_
    refine O.pu (Pu.move (.tmp (v:=.int _ _) rfl)) ?_
    refine O.pu (Pu.assign (.tmp (v:=.int _ _) rfl)) ?_
    refine O.nil ?_
    refine X.ret ?_
    cases h
    exact E.fin [] (.tmp (v:=.int _ _) rfl .nil) (.cons (.cl .int) .nil)
  · rw [if_pos c] at h
    refine X.skip ?_
    refine X.seq ?_
    refine X.seq ?_
    refine X.still ?_
    refine O.pu (U.fieldA rfl rfl rfl (.tmp rfl)) ?_
    refine O.pu (U.load (.tmp rfl) rfl rfl (U.cell rfl rfl rfl)) ?_
    refine O.pu (Pu.lenI rfl (.tmp rfl)) ?_
    refine O.pu (Pu.bin (.tmp rfl) .int U.sub64) ?_
    refine O.pu (Pu.assign (.tmp (v:=.int _ _) rfl)) ?_
    refine O.nil ?_
    refine X.block ?_
    refine X.inv (fun k s=>∃ x6 x141000 x142000 u2 u3,s.t 6 = .int .i64 x6∧s.t 2 = .op 2 u2 0 0∧s.b 2=⟨u2, .own, .vals [.agg [.fi .u64 x141000]],24⟩∧s.t 3 = .op 3 u3 0 0∧s.b 3=⟨u3, .own, .vals [.agg [.fi .u64 x142000]],24⟩∧nat_Nat_Cmp.l0 k x6 x141000 x142000=some r) ?_ ?_ ⟨_,_,_,_,_,rfl,rfl,rfl,rfl,rfl,h⟩
    · rintro s ⟨_,_,_,_,_,_,_,_,_,_,h⟩;unfold nat_Nat_Cmp.l0 at h;cases h
    · rintro k1 s1 ⟨x6,x141000,x142000,u2,u3,e0,e1,e2,e3,e4,h⟩
      unfold nat_Nat_Cmp.l0 at h
      rw [St.fixT e0,St.fixT e1,St.fixB e2,St.fixT e3,St.fixB e4]
      refine X.seq ?_
      refine X.seq ?_
      refine X.still ?_
      refine O.pu (Pu.move (.tmp (v:=.int _ _) rfl)) ?_
      refine O.pu (Pu.bin (.tmp rfl) .int .geq) ?_
      refine O.nil ?_
      refine X.condP (.tmp rfl) (fun c=>?_) (fun c=>?_)
      · rw [if_pos c] at h
        refine X.skip ?_
        refine X.seq ?_
        refine X.block ?_
        refine X.seq ?_
        refine X.drawn ?_
        refine D.pu (U.fieldA rfl rfl rfl (.tmp rfl)) ?_
        refine D.pu (U.load (.tmp rfl) rfl rfl (U.cell rfl rfl rfl)) ?_
        refine D.pu (Pu.move (.tmp (v:=.int _ _) rfl)) ?_
        repeat (rw [giff] at h;obtain ⟨_,h⟩:=h)
        refine D.pu (U.rdI rfl rfl (.tmp rfl) (.tmp rfl) (by omega) (by omega)) ?_
        refine D.pu (Pu.loadR (.tmp rfl) (U.self rfl rfl rfl)) ?_
        refine D.pu (U.fieldA rfl rfl rfl (.tmp rfl)) ?_
        refine D.pu (U.load (.tmp rfl) rfl rfl (U.cell rfl rfl rfl)) ?_
        refine D.pu (Pu.move (.tmp (v:=.int _ _) rfl)) ?_
        refine D.pu (U.rdI rfl rfl (.tmp rfl) (.tmp rfl) (by omega) (by omega)) ?_
        refine D.pu (Pu.loadR (.tmp rfl) (U.self rfl rfl rfl)) ?_
        obtain ⟨q2,Hq2,h⟩:=Option.bind_eq_some_iff.1 h
        refine D.pu (U.call (ss:=[]) (.cons (.tmp (v:=.int _ _) rfl) (.cons (.tmp (v:=.int _ _) rfl) .nil)) (.cons (.cl .int) (.cons (.cl .int) .nil)) (cmp_Compare_uint64.cs Hq2) (.inl rfl) (.int)) ?_
        refine D.pu (Pu.assign (.tmp (v:=.int _ _) rfl)) ?_
        refine D.nil (by kernel_rfl) ?_
        refine X.seq ?_
        refine X.still ?_
        refine O.pu (Pu.move (.tmp (v:=.int _ _) rfl)) ?_
        refine O.pu (Pu.bin (.tmp rfl) .int .neq) ?_
        refine O.nil ?_
        refine X.condN (.tmp rfl) (fun c=>?_) (fun c=>?_)
        · rw [if_neg c] at h
          refine X.seq ?_
          refine X.still ?_
          refine O.pu (Pu.move (.tmp (v:=.int _ _) rfl)) ?_
          refine O.pu (Pu.assign (.tmp (v:=.int _ _) rfl)) ?_
          refine O.nil ?_
          refine X.ret ?_
          cases h
          exact E.fin [] (.tmp (v:=.int _ _) rfl .nil) (.cons (.cl .int) .nil)
        · rw [if_pos c] at h
          refine X.skip ?_
          refine X.still ?_
          refine O.pu (Pu.move (.tmp (v:=.int _ _) rfl)) ?_
          refine O.pu (Pu.bin (.tmp rfl) .int U.sub64) ?_
          refine O.pu (Pu.assign (.tmp (v:=.int _ _) rfl)) ?_
          refine O.nil ?_
          exact ⟨_,(by omega),_,_,_,_,_,rfl,rfl,rfl,rfl,rfl,h⟩
      · rw [if_neg c] at h
        refine X.exit (B.out ?_)
        refine X.seq ?_
        refine X.still ?_
        refine O.pu (Pu.assign .int) ?_
        refine O.nil ?_
        refine X.ret ?_
        cases h
        exact E.fin [] (.tmp (v:=.int _ _) rfl .nil) (.cons (.cl .int) .nil)
noncomputable def c45:Code:=Try.f45.body.getD .skip
theorem fn45:FnOk Try.prog 45 Try.f45 c45:=⟨Try.func45,rfl,by kernel_rfl,by kernel_rfl,mixed⟩
theorem nat_Nat_Sub.cs {k:Nat} {l0_0:List Int} {l1_0:List Int} {r:List Int×Bool} (h:nat_Nat_Sub.f k l0_0 l1_0=some r):CS Try.prog 45 [.agg [.fi .u64 l0_0], .agg [.fi .u64 l1_0]] .no [.agg [.fi .u64 r.1], .bool r.2]:=by
  unfold nat_Nat_Sub.f at h
  refine E.pure fn45 rfl ?_
  refine X.seq ?_
  refine X.still ?_
  refine O.puE (v':=.op 2 (1) 0 0) (b':=⟨1, .own,_,_⟩) (Pu.box (.tmp (v:=.agg _) rfl) rfl rfl) rfl rfl ?_
  refine O.puE (v':=.op 3 (1) 0 0) (b':=⟨1, .own,_,_⟩) (Pu.box (.tmp (v:=.agg _) rfl) rfl rfl) rfl rfl ?_
  refine O.puE (v':=.op 4 (1) 0 0) (b':=⟨1, .own,(.vals [.agg [.fi .u64 []]]),_⟩) Pu.alloc rfl rfl ?_
  refine O.pu (Pu.assign .bool) ?_
  refine O.nil ?_
  refine X.seq ?_
  refine X.seq ?_
  refine X.still ?_
  refine O.pu (U.load (.tmp rfl) rfl rfl (U.whole rfl rfl)) ?_
  refine O.pu (U.load (.tmp rfl) rfl rfl (U.whole rfl rfl)) ?_
  obtain ⟨q1,Hq1,h⟩:=Option.bind_eq_some_iff.1 h
  refine O.pu (U.call (ss:=[]) (.cons (.tmp (v:=.agg _) rfl) (.cons (.tmp (v:=.agg _) rfl) .nil)) (.cons (.cl (.aggL (.cons .fi .nil))) (.cons (.cl (.aggL (.cons .fi .nil))) .nil)) (nat_Nat_Cmp.cs Hq1) (.inl rfl) (.int)) ?_
  refine O.pu (Pu.bin (.tmp rfl) .int .lss) ?_
  refine O.nil ?_
  refine X.condP (.tmp rfl) (fun c=>?_) (fun c=>?_)
  · rw [if_pos c] at h
    refine X.seq ?_
    refine X.still ?_
    refine O.pu (Pu.build rfl .nil) ?_
    refine O.ef0 (U.storeE (.tmp rfl) rfl rfl (.tmp (v:=.agg _) rfl) rfl rfl (.whole (notBad_ne rfl) rfl) .one) ?_
    refine O.pu (Pu.assign .bool) ?_
    refine O.nil ?_
    refine X.ret ?_
    cases h
    exact E.fin [] (.cell rfl rfl (Mode.live_ne rfl) (U.whole rfl rfl) (.tmp (v:=.bool _) rfl .nil)) (.cons (.cl (.aggL (.cons .fi .nil))) (.cons (.cl .bool) .nil))
  · rw [if_neg c] at h
    refine X.skip ?_
    refine X.seq ?_
    refine X.still ?_
    refine O.pu (U.fieldA rfl rfl rfl (.tmp rfl)) ?_
    refine O.pu (U.load (.tmp rfl) rfl rfl (U.cell rfl rfl rfl)) ?_
    refine O.pu (Pu.lenI rfl (.tmp rfl)) ?_
    repeat first|(rw [giff] at h;obtain ⟨_,h⟩:=h)|rw [bdff] at h
    refine O.puE (v':=.os 17 (1) 0 _ true) (b':=⟨1, .own,_,_⟩) (U.makeI rfl rfl (.tmp rfl) (.tmp rfl) (by omega) (by omega) rfl (by omega)) rfl rfl ?_
    refine O.pu (Pu.assign (.tmp (v:=.os _ _ _ _ _) rfl)) ?_
    refine O.nil ?_
    refine X.seq ?_
    refine X.still ?_
    refine O.pu (Pu.assign .int) ?_
    refine O.nil ?_
    refine X.seq ?_
    refine X.seq ?_
    refine X.still ?_
    refine O.pu (Pu.move (.tmp (v:=.os _ _ _ _ _) rfl)) ?_
    refine O.pu (Pu.lenO rfl (.tmp rfl)) ?_
    refine O.pu (Pu.move .int) ?_
    refine O.nil ?_
    refine X.block ?_
    refine X.inv (fun k s=>∃ x6 x7 x19 x20 x147000 x148000 n6 u17 u2 u3 u4,s.b 17=⟨u17, .own, .ints .u64 x6,77⟩∧s.t 6 = .os 17 u17 0 n6 true∧x6.length=n6∧s.t 7 = .int .u64 x7∧s.t 19 = .int .i64 x19∧s.t 20 = .int .i64 x20∧s.t 2 = .op 2 u2 0 0∧s.b 2=⟨u2, .own, .vals [.agg [.fi .u64 x147000]],24⟩∧s.t 3 = .op 3 u3 0 0∧s.b 3=⟨u3, .own, .vals [.agg [.fi .u64 x148000]],24⟩∧s.t 4 = .op 4 u4 0 0∧s.b 4=⟨u4, .own, .vals [.agg [.fi .u64 []]],24⟩∧nat_Nat_Sub.l0 k x6 x7 x19 x20 x147000 x148000=some r) ?_ ?_ ⟨_,_,_,_,_,_,_,_,_,_,_,rfl,rfl,rfl,rfl,rfl,rfl,rfl,rfl,rfl,rfl,rfl,rfl,h⟩
    · rintro s ⟨_,_,_,_,_,_,_,_,_,_,_,_,_,_,_,_,_,_,_,_,_,_,_,h⟩;unfold nat_Nat_Sub.l0 at h;cases h
    · rintro k1 s1 ⟨x6,x7,x19,x20,x147000,x148000,n6,u17,u2,u3,u4,e0,e1,rfl,e3,e4,e5,e6,e7,e8,e9,e10,e11,h⟩
      unfold nat_Nat_Sub.l0 at h
      rw [St.fixB e0,St.fixT e1,St.fixT e3,St.fixT e4,St.fixT e5,St.fixT e6,St.fixB e7,St.fixT e8,St.fixB e9,St.fixT e10,St.fixB e11]
      refine X.seq ?_
      refine X.still ?_
      refine O.pu (Pu.bin (.tmp rfl) (.tmp rfl) .lss) ?_
      refine O.nil ?_
      refine X.seq ?_
      refine X.condP (.tmp rfl) (fun c=>?_) (fun c=>?_)
      · rw [if_pos c] at h
        refine X.skip ?_
        refine X.seq ?_
        refine X.block ?_
        refine X.seq ?_
        refine X.still ?_
        refine O.pu (Pu.move (.tmp (v:=.int _ _) rfl)) ?_
        refine O.pu (Pu.assign (.tmp (v:=.int _ _) rfl)) ?_
        refine O.nil ?_
        refine X.drawn ?_
        refine D.pu (Pu.move (.tmp (v:=.os _ _ _ _ _) rfl)) ?_
        refine D.pu (Pu.move (.tmp (v:=.int _ _) rfl)) ?_
        refine D.pu (U.fieldA rfl rfl rfl (.tmp rfl)) ?_
        refine D.pu (U.load (.tmp rfl) rfl rfl (U.cell rfl rfl rfl)) ?_
        refine D.pu (Pu.move (.tmp (v:=.int _ _) rfl)) ?_
        repeat (rw [giff] at h;obtain ⟨_,h⟩:=h)
        refine D.pu (U.rdI rfl rfl (.tmp rfl) (.tmp rfl) (by omega) (by omega)) ?_
        refine D.pu (Pu.loadR (.tmp rfl) (U.self rfl rfl rfl)) ?_
        refine D.pu (U.load (.tmp rfl) rfl rfl (U.whole rfl rfl)) ?_
        refine D.pu (Pu.move (.tmp (v:=.int _ _) rfl)) ?_
        obtain ⟨q2,Hq2,h⟩:=Option.bind_eq_some_iff.1 h
        refine D.pu (U.call (ss:=[]) (.cons (.tmp (v:=.agg _) rfl) (.cons (.tmp (v:=.int _ _) rfl) .nil)) (.cons (.cl (.aggL (.cons .fi .nil))) (.cons (.cl .int) .nil)) (nat_Nat_limb.cs Hq2) (.inl rfl) (.int)) ?_
        refine D.pu (Pu.move (.tmp (v:=.int _ _) rfl)) ?_
        repeat (rw [giff] at h;obtain ⟨_,h⟩:=h)
        refine D.pu (U.call (ss:=[]) (.cons (.tmp (v:=.int _ _) rfl) (.cons (.tmp (v:=.int _ _) rfl) (.cons (.tmp (v:=.int _ _) rfl) .nil))) (.cons (.cl .int) (.cons (.cl .int) (.cons (.cl .int) .nil))) (sub64_cs (by omega)) (.inl rfl) (.tupL (.cons .int (.cons .int .nil)))) ?_
        refine D.pu (Pu.move (.tmp (v:=.tup _) rfl)) ?_
        refine D.pu (Pu.extract (.tmp rfl) rfl) ?_
        refine D.pu (Pu.extract (.tmp rfl) rfl) ?_
        refine D.pu (U.indexO0 rfl (.tmp rfl) rfl rfl (.tmp rfl) (by first|omega|(simp only [List.length_set] at *;omega)) (by first|omega|(simp only [List.length_set] at *;omega)) rfl rfl) ?_
        refine D.ef0 (C.storeE (.tmp rfl) rfl rfl (.tmp (v:=.int _ _) rfl) rfl rfl (.whole (notBad_ne rfl) rfl) .ints) ?_
        refine D.pu (Pu.assign (.tmp (v:=.int _ _) rfl)) ?_
        refine D.nil (by kernel_rfl) ?_
        refine X.still ?_
        refine O.pu (Pu.bin (.tmp rfl) .int U.add64) ?_
        refine O.pu (Pu.move (.tmp (v:=.int _ _) rfl)) ?_
        refine O.nil ?_
        exact ⟨_,(by omega),_,_,_,_,_,_,_,_,_,_,_,rfl,rfl,(by first|rfl|(simp only [List.length_set];done)|(simp only [List.length_drop,List.length_take,List.length_append,List.length_set] at *;omega)),rfl,rfl,rfl,rfl,rfl,rfl,rfl,rfl,rfl,h⟩
      · rw [if_neg c] at h
        refine X.exit (B.out ?_)
        refine X.seq ?_
        refine X.still ?_
        refine O.pu (Pu.move (.tmp (v:=.os _ _ _ _ _) rfl)) ?_
        obtain ⟨q4,Hq4,h⟩:=Option.bind_eq_some_iff.1 h
        refine O.ef (U.callZ (ss:=[17]) (.cons (.tmp (v:=.os _ _ _ _ _) rfl) .nil) (.cons (.osIf (by simp) rfl (Mode.live_ne rfl) rfl (by first|rfl|(simp only [List.length_set];done)|(simp only [List.length_drop,List.length_take,List.length_append,List.length_set] at *;omega))) .nil) (nat_trimmed.cs Hq4) (.aggL (.cons .fi .nil)) (nowin rfl)) ?_
        refine O.ef0 (U.storeE (.tmp rfl) rfl rfl (.tmp (v:=.agg _) rfl) rfl rfl (.whole (notBad_ne rfl) rfl) .one) ?_
        refine O.pu (Pu.assign .bool) ?_
        refine O.nil ?_
        refine X.ret ?_
        cases h
        exact E.fin [] (.cell rfl rfl (Mode.live_ne rfl) (U.whole rfl rfl) (.tmp (v:=.bool _) rfl .nil)) (.cons (.cl (.aggL (.cons .fi .nil))) (.cons (.cl .bool) .nil))
noncomputable def c65:Code:=Try.f65.body.getD .skip
theorem fn65:FnOk Try.prog 65 Try.f65 c65:=⟨Try.func65,rfl,by kernel_rfl,by kernel_rfl,mixed⟩
theorem nat_Nat_Limbs.cs {l0_0:List Int} {r:List Int} (h:nat_Nat_Limbs.f l0_0=some r):CS Try.prog 65 [.agg [.fi .u64 l0_0]] ⟨none,some (.ints .u64 r,77)⟩ [.os FRS 1 0 (Row.ints .u64 r).len true]:=by
  unfold nat_Nat_Limbs.f at h
  refine E.fresh fn65 rfl trivial ?_
  refine X.seq ?_
  refine X.still ?_
  refine O.puE (v':=.op 1 (1) 0 0) (b':=⟨1, .own,_,_⟩) (Pu.box (.tmp (v:=.agg _) rfl) rfl rfl) rfl rfl ?_
  refine O.ef (U.nilOE (u:=1) (row:=.ints .u64 []) (e:=77) rfl rfl) ?_
  refine O.nil ?_
  refine X.seq ?_
  refine X.still ?_
  refine O.pu (U.fieldA rfl rfl rfl (.tmp rfl)) ?_
  refine O.pu (U.load (.tmp rfl) rfl rfl (U.cell rfl rfl rfl)) ?_
  obtain ⟨q1,Hq1,h⟩:=Option.bind_eq_some_iff.1 h
  refine O.puE (v':=.os 5 (1) 0 _ true) (b':=⟨1, .own,_,_⟩) (U.callF (ss:=[]) (.cons (.tmp (v:=.fi _ _) rfl) .nil) (.cons (.cl .fi) .nil) (slices_Clone_uint64_uint64.cs Hq1)) rfl rfl ?_
  refine O.ef (U.takeE (u':=2) (.tmp rfl) rfl (ne_of_beq rfl) rfl) ?_
  refine O.nil ?_
  refine X.ret ?_
  cases h
  exact E.finF (s:=2) (.tmp (v:=.os _ _ _ _ _) rfl .nil) rfl
theorem bits_Len64.j0_e {k y0 y1 r}:(bits_Len64.j0 k y0 y1=some r) = ∃ j,k=j + 1∧bits_Len64.j0 (j + 1) y0 y1=some r:=propext ⟨fun h=>by cases k with|zero=>(unfold bits_Len64.j0 at h;cases h)|succ k=>exact ⟨k,rfl,h⟩,fun ⟨j,hj,h⟩=>by subst hj;exact h⟩
noncomputable def c59:Code:=Try.f59.body.getD .skip
theorem fn59:FnOk Try.prog 59 Try.f59 c59:=⟨Try.func59,rfl,by kernel_rfl,by kernel_rfl,mixed⟩
theorem bits_Len64.cs {k:Nat} {a0:Int} {r:Int} (h:bits_Len64.f k a0=some r):CS Try.prog 59 [.int .u64 a0] .no [.int .i64 r]:=by
  unfold bits_Len64.f at h
  refine E.pure fn59 rfl ?_
  refine X.seq ?_
  refine X.still ?_
  refine O.pu (Pu.assign .int) ?_
  refine O.nil ?_
  refine X.seq ?_
  refine X.seq ?_
  refine X.still ?_
  refine O.pu (Pu.move (.tmp (v:=.int _ _) rfl)) ?_
  refine O.pu (Pu.bin (.tmp rfl) .int .geq) ?_
  refine O.nil ?_
  refine X.condP (.tmp rfl) (fun c=>?_) (fun c=>?_)
  · rw [if_pos c] at h
    refine X.seq ?_
    refine X.still ?_
    refine O.pu (Pu.move (.tmp (v:=.int _ _) rfl)) ?_
    refine O.pu (Pu.bin (.tmp rfl) .int (U.shrC 4294967296 (by decide) (by decide))) ?_
    refine O.pu (Pu.assign (.tmp (v:=.int _ _) rfl)) ?_
    refine O.nil ?_
    refine X.still ?_
    refine O.pu (Pu.assign .int) ?_
    refine O.nil ?_
    refine X.seq ?_
    refine X.seq ?_
    refine X.still ?_
    refine O.pu (Pu.move (.tmp (v:=.int _ _) rfl)) ?_
    refine O.pu (Pu.bin (.tmp rfl) .int .geq) ?_
    refine O.nil ?_
    repeat (rw [bits_Len64.j0_e] at h;obtain ⟨k,_,h⟩:=h;unfold bits_Len64.j0 at h;try dsimp only at h)
    refine X.condP (.tmp rfl) (fun c=>?_) (fun c=>?_)
    · rw [if_pos c] at h
      refine X.seq ?_
      refine X.still ?_
      refine O.pu (Pu.move (.tmp (v:=.int _ _) rfl)) ?_
      refine O.pu (Pu.bin (.tmp rfl) .int (U.shrC 65536 (by decide) (by decide))) ?_
      refine O.pu (Pu.assign (.tmp (v:=.int _ _) rfl)) ?_
      refine O.nil ?_
      refine X.still ?_
      refine O.pu (Pu.move (.tmp (v:=.int _ _) rfl)) ?_
      refine O.pu (Pu.bin (.tmp rfl) .int U.add64) ?_
      refine O.pu (Pu.assign (.tmp (v:=.int _ _) rfl)) ?_
      refine O.nil ?_
      refine X.seq ?_
      refine X.seq ?_
      refine X.still ?_
      refine O.pu (Pu.move (.tmp (v:=.int _ _) rfl)) ?_
      refine O.pu (Pu.bin (.tmp rfl) .int .geq) ?_
      refine O.nil ?_
      refine X.condP (.tmp rfl) (fun c=>?_) (fun c=>?_)
      · rw [if_pos c] at h
        refine X.seq ?_
        refine X.still ?_
        refine O.pu (Pu.move (.tmp (v:=.int _ _) rfl)) ?_
        refine O.pu (Pu.bin (.tmp rfl) .int (U.shrC 256 (by decide) (by decide))) ?_
        refine O.pu (Pu.assign (.tmp (v:=.int _ _) rfl)) ?_
        refine O.nil ?_
        refine X.still ?_
        refine O.pu (Pu.move (.tmp (v:=.int _ _) rfl)) ?_
        refine O.pu (Pu.bin (.tmp rfl) .int U.add64) ?_
        refine O.pu (Pu.assign (.tmp (v:=.int _ _) rfl)) ?_
        refine O.nil ?_
        refine X.seq ?_
        refine X.still ?_
        refine O.pu (Pu.move (.tmp (v:=.int _ _) rfl)) ?_
        refine O.pu (Pu.move (.tmp (v:=.int _ _) rfl)) ?_
        refine O.pu (U.conv8 rfl (.tmp rfl)) ?_
        repeat (rw [giff] at h;obtain ⟨_,h⟩:=h)
        refine O.pu (U.indexS rfl .str (.tmp rfl) (by omega) (Int.lt_of_lt_of_le (b:=256) (by omega) (Int.le_of_eq (by kernel_rfl)))) ?_
        refine O.pu (U.conv64 rfl (.tmp rfl)) ?_
        refine O.pu (Pu.bin (.tmp rfl) (.tmp rfl) U.add64) ?_
        refine O.pu (Pu.assign (.tmp (v:=.int _ _) rfl)) ?_
        refine O.nil ?_
        refine X.ret ?_
        cases h
        exact E.fin [] (.tmp (v:=.int _ _) rfl .nil) (.cons (.cl .int) .nil)
      · rw [if_neg c] at h
        refine X.skip ?_
        refine X.seq ?_
        refine X.still ?_
        refine O.pu (Pu.move (.tmp (v:=.int _ _) rfl)) ?_
        refine O.pu (Pu.move (.tmp (v:=.int _ _) rfl)) ?_
        refine O.pu (U.conv8 rfl (.tmp rfl)) ?_
        repeat (rw [giff] at h;obtain ⟨_,h⟩:=h)
        refine O.pu (U.indexS rfl .str (.tmp rfl) (by omega) (Int.lt_of_lt_of_le (b:=256) (by omega) (Int.le_of_eq (by kernel_rfl)))) ?_
        refine O.pu (U.conv64 rfl (.tmp rfl)) ?_
        refine O.pu (Pu.bin (.tmp rfl) (.tmp rfl) U.add64) ?_
        refine O.pu (Pu.assign (.tmp (v:=.int _ _) rfl)) ?_
        refine O.nil ?_
        refine X.ret ?_
        cases h
        exact E.fin [] (.tmp (v:=.int _ _) rfl .nil) (.cons (.cl .int) .nil)
    · rw [if_neg c] at h
      refine X.skip ?_
      refine X.seq ?_
      refine X.seq ?_
      refine X.still ?_
      refine O.pu (Pu.move (.tmp (v:=.int _ _) rfl)) ?_
      refine O.pu (Pu.bin (.tmp rfl) .int .geq) ?_
      refine O.nil ?_
      refine X.condP (.tmp rfl) (fun c=>?_) (fun c=>?_)
      · rw [if_pos c] at h
        refine X.seq ?_
        refine X.still ?_
        refine O.pu (Pu.move (.tmp (v:=.int _ _) rfl)) ?_
        refine O.pu (Pu.bin (.tmp rfl) .int (U.shrC 256 (by decide) (by decide))) ?_
        refine O.pu (Pu.assign (.tmp (v:=.int _ _) rfl)) ?_
        refine O.nil ?_
        refine X.still ?_
        refine O.pu (Pu.move (.tmp (v:=.int _ _) rfl)) ?_
        refine O.pu (Pu.bin (.tmp rfl) .int U.add64) ?_
        refine O.pu (Pu.assign (.tmp (v:=.int _ _) rfl)) ?_
        refine O.nil ?_
        refine X.seq ?_
        refine X.still ?_
        refine O.pu (Pu.move (.tmp (v:=.int _ _) rfl)) ?_
        refine O.pu (Pu.move (.tmp (v:=.int _ _) rfl)) ?_
        refine O.pu (U.conv8 rfl (.tmp rfl)) ?_
        repeat (rw [giff] at h;obtain ⟨_,h⟩:=h)
        refine O.pu (U.indexS rfl .str (.tmp rfl) (by omega) (Int.lt_of_lt_of_le (b:=256) (by omega) (Int.le_of_eq (by kernel_rfl)))) ?_
        refine O.pu (U.conv64 rfl (.tmp rfl)) ?_
        refine O.pu (Pu.bin (.tmp rfl) (.tmp rfl) U.add64) ?_
        refine O.pu (Pu.assign (.tmp (v:=.int _ _) rfl)) ?_
        refine O.nil ?_
        refine X.ret ?_
        cases h
        exact E.fin [] (.tmp (v:=.int _ _) rfl .nil) (.cons (.cl .int) .nil)
      · rw [if_neg c] at h
        refine X.skip ?_
        refine X.seq ?_
        refine X.still ?_
        refine O.pu (Pu.move (.tmp (v:=.int _ _) rfl)) ?_
        refine O.pu (Pu.move (.tmp (v:=.int _ _) rfl)) ?_
        refine O.pu (U.conv8 rfl (.tmp rfl)) ?_
        repeat (rw [giff] at h;obtain ⟨_,h⟩:=h)
        refine O.pu (U.indexS rfl .str (.tmp rfl) (by omega) (Int.lt_of_lt_of_le (b:=256) (by omega) (Int.le_of_eq (by kernel_rfl)))) ?_
        refine O.pu (U.conv64 rfl (.tmp rfl)) ?_
        refine O.pu (Pu.bin (.tmp rfl) (.tmp rfl) U.add64) ?_
        refine O.pu (Pu.assign (.tmp (v:=.int _ _) rfl)) ?_
        refine O.nil ?_
        refine X.ret ?_
        cases h
        exact E.fin [] (.tmp (v:=.int _ _) rfl .nil) (.cons (.cl .int) .nil)
  · rw [if_neg c] at h
    refine X.skip ?_
    refine X.seq ?_
    refine X.seq ?_
    refine X.still ?_
    refine O.pu (Pu.move (.tmp (v:=.int _ _) rfl)) ?_
    refine O.pu (Pu.bin (.tmp rfl) .int .geq) ?_
    refine O.nil ?_
    repeat (rw [bits_Len64.j0_e] at h;obtain ⟨k,_,h⟩:=h;unfold bits_Len64.j0 at h;try dsimp only at h)
    refine X.condP (.tmp rfl) (fun c=>?_) (fun c=>?_)
    · rw [if_pos c] at h
      refine X.seq ?_
      refine X.still ?_
      refine O.pu (Pu.move (.tmp (v:=.int _ _) rfl)) ?_
      refine O.pu (Pu.bin (.tmp rfl) .int (U.shrC 65536 (by decide) (by decide))) ?_
      refine O.pu (Pu.assign (.tmp (v:=.int _ _) rfl)) ?_
      refine O.nil ?_
      refine X.still ?_
      refine O.pu (Pu.move (.tmp (v:=.int _ _) rfl)) ?_
      refine O.pu (Pu.bin (.tmp rfl) .int U.add64) ?_
      refine O.pu (Pu.assign (.tmp (v:=.int _ _) rfl)) ?_
      refine O.nil ?_
      refine X.seq ?_
      refine X.seq ?_
      refine X.still ?_
      refine O.pu (Pu.move (.tmp (v:=.int _ _) rfl)) ?_
      refine O.pu (Pu.bin (.tmp rfl) .int .geq) ?_
      refine O.nil ?_
      refine X.condP (.tmp rfl) (fun c=>?_) (fun c=>?_)
      · rw [if_pos c] at h
        refine X.seq ?_
        refine X.still ?_
        refine O.pu (Pu.move (.tmp (v:=.int _ _) rfl)) ?_
        refine O.pu (Pu.bin (.tmp rfl) .int (U.shrC 256 (by decide) (by decide))) ?_
        refine O.pu (Pu.assign (.tmp (v:=.int _ _) rfl)) ?_
        refine O.nil ?_
        refine X.still ?_
        refine O.pu (Pu.move (.tmp (v:=.int _ _) rfl)) ?_
        refine O.pu (Pu.bin (.tmp rfl) .int U.add64) ?_
        refine O.pu (Pu.assign (.tmp (v:=.int _ _) rfl)) ?_
        refine O.nil ?_
        refine X.seq ?_
        refine X.still ?_
        refine O.pu (Pu.move (.tmp (v:=.int _ _) rfl)) ?_
        refine O.pu (Pu.move (.tmp (v:=.int _ _) rfl)) ?_
        refine O.pu (U.conv8 rfl (.tmp rfl)) ?_
        repeat (rw [giff] at h;obtain ⟨_,h⟩:=h)
        refine O.pu (U.indexS rfl .str (.tmp rfl) (by omega) (Int.lt_of_lt_of_le (b:=256) (by omega) (Int.le_of_eq (by kernel_rfl)))) ?_
        refine O.pu (U.conv64 rfl (.tmp rfl)) ?_
        refine O.pu (Pu.bin (.tmp rfl) (.tmp rfl) U.add64) ?_
        refine O.pu (Pu.assign (.tmp (v:=.int _ _) rfl)) ?_
        refine O.nil ?_
        refine X.ret ?_
        cases h
        exact E.fin [] (.tmp (v:=.int _ _) rfl .nil) (.cons (.cl .int) .nil)
      · rw [if_neg c] at h
        refine X.skip ?_
        refine X.seq ?_
        refine X.still ?_
        refine O.pu (Pu.move (.tmp (v:=.int _ _) rfl)) ?_
        refine O.pu (Pu.move (.tmp (v:=.int _ _) rfl)) ?_
        refine O.pu (U.conv8 rfl (.tmp rfl)) ?_
        repeat (rw [giff] at h;obtain ⟨_,h⟩:=h)
        refine O.pu (U.indexS rfl .str (.tmp rfl) (by omega) (Int.lt_of_lt_of_le (b:=256) (by omega) (Int.le_of_eq (by kernel_rfl)))) ?_
        refine O.pu (U.conv64 rfl (.tmp rfl)) ?_
        refine O.pu (Pu.bin (.tmp rfl) (.tmp rfl) U.add64) ?_
        refine O.pu (Pu.assign (.tmp (v:=.int _ _) rfl)) ?_
        refine O.nil ?_
        refine X.ret ?_
        cases h
        exact E.fin [] (.tmp (v:=.int _ _) rfl .nil) (.cons (.cl .int) .nil)
    · rw [if_neg c] at h
      refine X.skip ?_
      refine X.seq ?_
      refine X.seq ?_
      refine X.still ?_
      refine O.pu (Pu.move (.tmp (v:=.int _ _) rfl)) ?_
      refine O.pu (Pu.bin (.tmp rfl) .int .geq) ?_
      refine O.nil ?_
      refine X.condP (.tmp rfl) (fun c=>?_) (fun c=>?_)
      · rw [if_pos c] at h
        refine X.seq ?_
        refine X.still ?_
        refine O.pu (Pu.move (.tmp (v:=.int _ _) rfl)) ?_
        refine O.pu (Pu.bin (.tmp rfl) .int (U.shrC 256 (by decide) (by decide))) ?_
        refine O.pu (Pu.assign (.tmp (v:=.int _ _) rfl)) ?_
        refine O.nil ?_
        refine X.still ?_
        refine O.pu (Pu.move (.tmp (v:=.int _ _) rfl)) ?_
        refine O.pu (Pu.bin (.tmp rfl) .int U.add64) ?_
        refine O.pu (Pu.assign (.tmp (v:=.int _ _) rfl)) ?_
        refine O.nil ?_
        refine X.seq ?_
        refine X.still ?_
        refine O.pu (Pu.move (.tmp (v:=.int _ _) rfl)) ?_
        refine O.pu (Pu.move (.tmp (v:=.int _ _) rfl)) ?_
        refine O.pu (U.conv8 rfl (.tmp rfl)) ?_
        repeat (rw [giff] at h;obtain ⟨_,h⟩:=h)
        refine O.pu (U.indexS rfl .str (.tmp rfl) (by omega) (Int.lt_of_lt_of_le (b:=256) (by omega) (Int.le_of_eq (by kernel_rfl)))) ?_
        refine O.pu (U.conv64 rfl (.tmp rfl)) ?_
        refine O.pu (Pu.bin (.tmp rfl) (.tmp rfl) U.add64) ?_
        refine O.pu (Pu.assign (.tmp (v:=.int _ _) rfl)) ?_
        refine O.nil ?_
        refine X.ret ?_
        cases h
        exact E.fin [] (.tmp (v:=.int _ _) rfl .nil) (.cons (.cl .int) .nil)
      · rw [if_neg c] at h
        refine X.skip ?_
        refine X.seq ?_
        refine X.still ?_
        refine O.pu (Pu.move (.tmp (v:=.int _ _) rfl)) ?_
        refine O.pu (Pu.move (.tmp (v:=.int _ _) rfl)) ?_
        refine O.pu (U.conv8 rfl (.tmp rfl)) ?_
        repeat (rw [giff] at h;obtain ⟨_,h⟩:=h)
        refine O.pu (U.indexS rfl .str (.tmp rfl) (by omega) (Int.lt_of_lt_of_le (b:=256) (by omega) (Int.le_of_eq (by kernel_rfl)))) ?_
        refine O.pu (U.conv64 rfl (.tmp rfl)) ?_
        refine O.pu (Pu.bin (.tmp rfl) (.tmp rfl) U.add64) ?_
        refine O.pu (Pu.assign (.tmp (v:=.int _ _) rfl)) ?_
        refine O.nil ?_
        refine X.ret ?_
        cases h
        exact E.fin [] (.tmp (v:=.int _ _) rfl .nil) (.cons (.cl .int) .nil)
noncomputable def c97:Code:=Try.f97.body.getD .skip
theorem fn97:FnOk Try.prog 97 Try.f97 c97:=⟨Try.func97,rfl,by kernel_rfl,by kernel_rfl,mixed⟩
theorem bits_LeadingZeros64.cs {k:Nat} {a0:Int} {r:Int} (h:bits_LeadingZeros64.f k a0=some r):CS Try.prog 97 [.int .u64 a0] .no [.int .i64 r]:=by
  unfold bits_LeadingZeros64.f at h
  refine E.pure fn97 rfl ?_
  refine X.seq ?_
  refine X.still ?_
  refine O.pu (Pu.assign .int) ?_
  refine O.nil ?_
  refine X.seq ?_
  refine X.still ?_
  refine O.pu (Pu.move (.tmp (v:=.int _ _) rfl)) ?_
  obtain ⟨q1,Hq1,h⟩:=Option.bind_eq_some_iff.1 h
  refine O.pu (U.call (ss:=[]) (.cons (.tmp (v:=.int _ _) rfl) .nil) (.cons (.cl .int) .nil) (bits_Len64.cs Hq1) (.inl rfl) (.int)) ?_
  refine O.pu (Pu.bin .int (.tmp rfl) U.sub64) ?_
  refine O.pu (Pu.assign (.tmp (v:=.int _ _) rfl)) ?_
  refine O.nil ?_
  refine X.ret ?_
  cases h
  exact E.fin [] (.tmp (v:=.int _ _) rfl .nil) (.cons (.cl .int) .nil)
theorem bits_Div64.j1_e {k y0 y1 y2 y3 y4 y5 y6 y7 y8 y9 r}:(bits_Div64.j1 k y0 y1 y2 y3 y4 y5 y6 y7 y8 y9=some r) = ∃ j,k=j + 1∧bits_Div64.j1 (j + 1) y0 y1 y2 y3 y4 y5 y6 y7 y8 y9=some r:=propext ⟨fun h=>by cases k with|zero=>(unfold bits_Div64.j1 at h;cases h)|succ k=>exact ⟨k,rfl,h⟩,fun ⟨j,hj,h⟩=>by subst hj;exact h⟩
theorem bits_Div64.j2_e {k y0 y1 y2 y3 y4 y5 y6 y7 r}:(bits_Div64.j2 k y0 y1 y2 y3 y4 y5 y6 y7=some r) = ∃ j,k=j + 1∧bits_Div64.j2 (j + 1) y0 y1 y2 y3 y4 y5 y6 y7=some r:=propext ⟨fun h=>by cases k with|zero=>(unfold bits_Div64.j2 at h;cases h)|succ k=>exact ⟨k,rfl,h⟩,fun ⟨j,hj,h⟩=>by subst hj;exact h⟩
theorem bits_Div64.j4_e {k y0 y1 y2 y3 y4 y5 y6 y7 y8 y9 r}:(bits_Div64.j4 k y0 y1 y2 y3 y4 y5 y6 y7 y8 y9=some r) = ∃ j,k=j + 1∧bits_Div64.j4 (j + 1) y0 y1 y2 y3 y4 y5 y6 y7 y8 y9=some r:=propext ⟨fun h=>by cases k with|zero=>(unfold bits_Div64.j4 at h;cases h)|succ k=>exact ⟨k,rfl,h⟩,fun ⟨j,hj,h⟩=>by subst hj;exact h⟩
noncomputable def c96:Code:=Try.f96.body.getD .skip
theorem fn96:FnOk Try.prog 96 Try.f96 c96:=⟨Try.func96,rfl,by kernel_rfl,by kernel_rfl,mixed⟩
theorem bits_Div64.cs {k:Nat} {a0:Int} {a1:Int} {a2:Int} {r:Int×Int} (h:bits_Div64.f k a0 a1 a2=some r):CS Try.prog 96 [.int .u64 a0, .int .u64 a1, .int .u64 a2] .no [.int .u64 r.1, .int .u64 r.2]:=by
  unfold bits_Div64.f at h
  refine E.pure fn96 rfl ?_
  refine X.seq ?_
  refine X.still ?_
  refine O.pu (Pu.assign .int) ?_
  refine O.pu (Pu.assign .int) ?_
  refine O.nil ?_
  refine X.seq ?_
  refine X.seq ?_
  refine X.still ?_
  refine O.pu (Pu.move (.tmp (v:=.int _ _) rfl)) ?_
  refine O.pu (Pu.bin (.tmp rfl) .int .eql) ?_
  refine O.nil ?_
  repeat (rw [giffn] at h;obtain ⟨_,h⟩:=h)
  refine X.condE (.tmp rfl) (fun c=>?_) (fun c=>?_)
  · refine X.still ?_
    first|(cases h;done)|contradiction|omega
  · refine X.skip ?_
    refine X.seq ?_
    refine X.seq ?_
    refine X.still ?_
    refine O.pu (Pu.move (.tmp (v:=.int _ _) rfl)) ?_
    refine O.pu (Pu.move (.tmp (v:=.int _ _) rfl)) ?_
    refine O.pu (Pu.bin (.tmp rfl) (.tmp rfl) .leq) ?_
    refine O.nil ?_
    refine X.condP (.tmp rfl) (fun c=>?_) (fun c=>?_)
    · refine X.still ?_
      first|(cases h;done)|contradiction|omega
    · refine X.skip ?_
      refine X.seq ?_
      refine X.seq ?_
      refine X.still ?_
      refine O.pu (Pu.move (.tmp (v:=.int _ _) rfl)) ?_
      refine O.pu (Pu.bin (.tmp rfl) .int .eql) ?_
      refine O.nil ?_
      refine X.condE (.tmp rfl) (fun c=>?_) (fun c=>?_)
      · rw [if_pos c] at h
        refine X.seq ?_
        refine X.drawn ?_
        refine D.pu (Pu.move (.tmp (v:=.int _ _) rfl)) ?_
        refine D.pu (Pu.move (.tmp (v:=.int _ _) rfl)) ?_
        refine D.pu (Pu.bin (.tmp rfl) (.tmp rfl) (.quo (by omega))) ?_
        refine D.pu (Pu.move (.tmp (v:=.int _ _) rfl)) ?_
        refine D.pu (Pu.move (.tmp (v:=.int _ _) rfl)) ?_
        refine D.pu (Pu.bin (.tmp rfl) (.tmp rfl) (.rem (by omega))) ?_
        refine D.pu (Pu.assign (.tmp (v:=.int _ _) rfl)) ?_
        refine D.pu (Pu.assign (.tmp (v:=.int _ _) rfl)) ?_
        refine D.nil (by kernel_rfl) ?_
        refine X.ret ?_
        cases h
        exact E.fin [] (.tmp (v:=.int _ _) rfl (.tmp (v:=.int _ _) rfl .nil)) (.cons (.cl .int) (.cons (.cl .int) .nil))
      · rw [if_neg c] at h
        refine X.skip ?_
        refine X.seq ?_
        refine X.still ?_
        refine O.pu (Pu.move (.tmp (v:=.int _ _) rfl)) ?_
        obtain ⟨q1,Hq1,h⟩:=Option.bind_eq_some_iff.1 h
        refine O.pu (U.call (ss:=[]) (.cons (.tmp (v:=.int _ _) rfl) .nil) (.cons (.cl .int) .nil) (bits_LeadingZeros64.cs Hq1) (.inl rfl) (.int)) ?_
        refine O.pu (U.convI rfl (.tmp rfl)) ?_
        refine O.pu (Pu.assign (.tmp (v:=.int _ _) rfl)) ?_
        refine O.nil ?_
        refine X.seq ?_
        refine X.still ?_
        refine O.pu (Pu.move (.tmp (v:=.int _ _) rfl)) ?_
        refine O.pu (Pu.move (.tmp (v:=.int _ _) rfl)) ?_
        repeat first|(rw [giff] at h;obtain ⟨_,h⟩:=h)|(rw [giffn] at h;obtain ⟨_,h⟩:=h)
        refine O.pu (Pu.bin (.tmp rfl) (.tmp rfl) (U.shlW (by omega))) ?_
        refine O.pu (Pu.assign (.tmp (v:=.int _ _) rfl)) ?_
        refine O.nil ?_
        refine X.seq ?_
        refine X.still ?_
        refine O.pu (Pu.move (.tmp (v:=.int _ _) rfl)) ?_
        refine O.pu (Pu.bin (.tmp rfl) .int (U.shrC 4294967296 (by decide) (by decide))) ?_
        refine O.pu (Pu.assign (.tmp (v:=.int _ _) rfl)) ?_
        refine O.nil ?_
        refine X.seq ?_
        refine X.still ?_
        refine O.pu (Pu.move (.tmp (v:=.int _ _) rfl)) ?_
        refine O.pu (Pu.bin (.tmp rfl) .int .band) ?_
        refine O.pu (Pu.assign (.tmp (v:=.int _ _) rfl)) ?_
        refine O.nil ?_
        refine X.seq ?_
        refine X.still ?_
        refine O.pu (Pu.move (.tmp (v:=.int _ _) rfl)) ?_
        refine O.pu (Pu.move (.tmp (v:=.int _ _) rfl)) ?_
        refine O.pu (Pu.bin (.tmp rfl) (.tmp rfl) (U.shlW (by omega))) ?_
        refine O.pu (Pu.move (.tmp (v:=.int _ _) rfl)) ?_
        refine O.pu (Pu.move (.tmp (v:=.int _ _) rfl)) ?_
        refine O.pu (Pu.bin .int (.tmp rfl) .sub) ?_
        refine O.pu (Pu.bin (.tmp rfl) (.tmp rfl) (U.shrW (by omega))) ?_
        refine O.pu (Pu.bin (.tmp rfl) (.tmp rfl) .bor) ?_
        refine O.pu (Pu.assign (.tmp (v:=.int _ _) rfl)) ?_
        refine O.nil ?_
        refine X.seq ?_
        refine X.still ?_
        refine O.pu (Pu.move (.tmp (v:=.int _ _) rfl)) ?_
        refine O.pu (Pu.move (.tmp (v:=.int _ _) rfl)) ?_
        refine O.pu (Pu.bin (.tmp rfl) (.tmp rfl) (U.shlW (by omega))) ?_
        refine O.pu (Pu.assign (.tmp (v:=.int _ _) rfl)) ?_
        refine O.nil ?_
        refine X.seq ?_
        refine X.still ?_
        refine O.pu (Pu.move (.tmp (v:=.int _ _) rfl)) ?_
        refine O.pu (Pu.bin (.tmp rfl) .int (U.shrC 4294967296 (by decide) (by decide))) ?_
        refine O.pu (Pu.assign (.tmp (v:=.int _ _) rfl)) ?_
        refine O.nil ?_
        refine X.seq ?_
        refine X.still ?_
        refine O.pu (Pu.move (.tmp (v:=.int _ _) rfl)) ?_
        refine O.pu (Pu.bin (.tmp rfl) .int .band) ?_
        refine O.pu (Pu.assign (.tmp (v:=.int _ _) rfl)) ?_
        refine O.nil ?_
        refine X.seq ?_
        refine X.still ?_
        refine O.pu (Pu.move (.tmp (v:=.int _ _) rfl)) ?_
        refine O.pu (Pu.move (.tmp (v:=.int _ _) rfl)) ?_
        refine O.pu (Pu.bin (.tmp rfl) (.tmp rfl) (.quo (by omega))) ?_
        refine O.pu (Pu.assign (.tmp (v:=.int _ _) rfl)) ?_
        refine O.nil ?_
        refine X.seq ?_
        refine X.still ?_
        refine O.pu (Pu.move (.tmp (v:=.int _ _) rfl)) ?_
        refine O.pu (Pu.move (.tmp (v:=.int _ _) rfl)) ?_
        refine O.pu (Pu.move (.tmp (v:=.int _ _) rfl)) ?_
        refine O.pu (Pu.bin (.tmp rfl) (.tmp rfl) .mul) ?_
        refine O.pu (Pu.bin (.tmp rfl) (.tmp rfl) .sub) ?_
        refine O.pu (Pu.assign (.tmp (v:=.int _ _) rfl)) ?_
        refine O.nil ?_
        refine X.seq ?_
        refine X.block ?_
        refine X.inv (fun k s=>∃ x2 x8 x9 x10 x11 x13 x14 x15 x16,s.t 2 = .int .u64 x2∧s.t 8 = .int .u64 x8∧s.t 9 = .int .u64 x9∧s.t 10 = .int .u64 x10∧s.t 11 = .int .u64 x11∧s.t 13 = .int .u64 x13∧s.t 14 = .int .u64 x14∧s.t 15 = .int .u64 x15∧s.t 16 = .int .u64 x16∧bits_Div64.l0 k x2 x8 x9 x10 x11 x13 x14 x15 x16=some r) ?_ ?_ ⟨_,_,_,_,_,_,_,_,_,rfl,rfl,rfl,rfl,rfl,rfl,rfl,rfl,rfl,h⟩
        · rintro s ⟨_,_,_,_,_,_,_,_,_,_,_,_,_,_,_,_,_,_,h⟩;unfold bits_Div64.l0 at h;cases h
        · rintro k1 s1 ⟨x2,x8,x9,x10,x11,x13,x14,x15,x16,e0,e1,e2,e3,e4,e5,e6,e7,e8,h⟩
          unfold bits_Div64.l0 at h
          rw [St.fixT e0,St.fixT e1,St.fixT e2,St.fixT e3,St.fixT e4,St.fixT e5,St.fixT e6,St.fixT e7,St.fixT e8]
          refine X.seq ?_
          refine X.seq ?_
          refine X.still ?_
          refine O.pu (Pu.move (.tmp (v:=.int _ _) rfl)) ?_
          refine O.pu (Pu.bin (.tmp rfl) .int .geq) ?_
          refine O.pu (Pu.move (.tmp (v:=.bool _) rfl)) ?_
          refine O.splitP (fun c=>?_) (fun c=>?_)
          · rw [if_pos c] at h
            refine G.skip (W.f rfl rfl rfl) ?_
            refine G.skip (W.f rfl rfl rfl) ?_
            refine G.skip (W.f rfl rfl rfl) ?_
            refine G.skip (W.f rfl rfl rfl) ?_
            refine G.skip (W.f rfl rfl rfl) ?_
            refine G.skip (W.f rfl rfl rfl) ?_
            refine G.skip (W.f rfl rfl rfl) ?_
            refine G.skip (W.f rfl rfl rfl) ?_
            refine O.pu (Pu.pickT (.tmp rfl) .bool) ?_
            refine O.nil ?_
            repeat (rw [bits_Div64.j1_e] at h;obtain ⟨k,_,h⟩:=h;unfold bits_Div64.j1 at h;try dsimp only at h)
            rw [if_pos rfl] at h
            refine X.condT (.tmp rfl) ?_
            refine X.skip ?_
            refine X.block ?_
            refine X.seq ?_
            refine X.still ?_
            refine O.pu (Pu.move (.tmp (v:=.int _ _) rfl)) ?_
            refine O.pu (Pu.bin (.tmp rfl) .int .sub) ?_
            refine O.pu (Pu.assign (.tmp (v:=.int _ _) rfl)) ?_
            refine O.nil ?_
            refine X.seq ?_
            refine X.still ?_
            refine O.pu (Pu.move (.tmp (v:=.int _ _) rfl)) ?_
            refine O.pu (Pu.move (.tmp (v:=.int _ _) rfl)) ?_
            refine O.pu (Pu.bin (.tmp rfl) (.tmp rfl) .add) ?_
            refine O.pu (Pu.assign (.tmp (v:=.int _ _) rfl)) ?_
            refine O.nil ?_
            refine X.seq ?_
            refine X.still ?_
            refine O.pu (Pu.move (.tmp (v:=.int _ _) rfl)) ?_
            refine O.pu (Pu.bin (.tmp rfl) .int .geq) ?_
            refine O.nil ?_
            refine X.condP (.tmp rfl) (fun c=>?_) (fun c=>?_)
            · rw [if_pos c] at h
              refine X.exit (B.past rfl (B.out ?_))
              refine X.seq ?_
              refine X.still ?_
              refine O.pu (Pu.move (.tmp (v:=.int _ _) rfl)) ?_
              refine O.pu (Pu.bin (.tmp rfl) .int .mul) ?_
              refine O.pu (Pu.move (.tmp (v:=.int _ _) rfl)) ?_
              refine O.pu (Pu.bin (.tmp rfl) (.tmp rfl) .add) ?_
              refine O.pu (Pu.move (.tmp (v:=.int _ _) rfl)) ?_
              refine O.pu (Pu.move (.tmp (v:=.int _ _) rfl)) ?_
              refine O.pu (Pu.bin (.tmp rfl) (.tmp rfl) .mul) ?_
              refine O.pu (Pu.bin (.tmp rfl) (.tmp rfl) .sub) ?_
              refine O.pu (Pu.assign (.tmp (v:=.int _ _) rfl)) ?_
              refine O.nil ?_
              refine X.seq ?_
              refine X.still ?_
              refine O.pu (Pu.move (.tmp (v:=.int _ _) rfl)) ?_
              refine O.pu (Pu.move (.tmp (v:=.int _ _) rfl)) ?_
              repeat first|(rw [giffn] at h;obtain ⟨_,h⟩:=h)|(rw [bits_Div64.j2_e] at h;obtain ⟨k,_,h⟩:=h;unfold bits_Div64.j2 at h;try dsimp only at h)
              refine O.pu (Pu.bin (.tmp rfl) (.tmp rfl) (.quo (by omega))) ?_
              refine O.pu (Pu.assign (.tmp (v:=.int _ _) rfl)) ?_
              refine O.nil ?_
              refine X.seq ?_
              refine X.still ?_
              refine O.pu (Pu.move (.tmp (v:=.int _ _) rfl)) ?_
              refine O.pu (Pu.move (.tmp (v:=.int _ _) rfl)) ?_
              refine O.pu (Pu.move (.tmp (v:=.int _ _) rfl)) ?_
              refine O.pu (Pu.bin (.tmp rfl) (.tmp rfl) .mul) ?_
              refine O.pu (Pu.bin (.tmp rfl) (.tmp rfl) .sub) ?_
              refine O.pu (Pu.assign (.tmp (v:=.int _ _) rfl)) ?_
              refine O.nil ?_
              refine X.seq ?_
              refine X.block ?_
              refine X.inv (fun k s=>k≤k1∧∃ x2 x8 x9 x10 x14 x15 x16 x17 x18,s.t 2 = .int .u64 x2∧s.t 8 = .int .u64 x8∧s.t 9 = .int .u64 x9∧s.t 10 = .int .u64 x10∧s.t 14 = .int .u64 x14∧s.t 15 = .int .u64 x15∧s.t 16 = .int .u64 x16∧s.t 17 = .int .u64 x17∧s.t 18 = .int .u64 x18∧bits_Div64.l1 k x2 x8 x9 x10 x14 x15 x16 x17 x18=some r) ?_ ?_ ⟨(by omega),_,_,_,_,_,_,_,_,_,rfl,rfl,rfl,rfl,rfl,rfl,rfl,rfl,rfl,h⟩
              · rintro s ⟨_,_,_,_,_,_,_,_,_,_,_,_,_,_,_,_,_,_,_,h⟩;unfold bits_Div64.l1 at h;cases h
              · rintro k2 s2 ⟨kl2,x2,x8,x9,x10,x14,x15,x16,x17,x18,e0,e1,e2,e3,e4,e5,e6,e7,e8,h⟩
                unfold bits_Div64.l1 at h
                rw [St.fixT e0,St.fixT e1,St.fixT e2,St.fixT e3,St.fixT e4,St.fixT e5,St.fixT e6,St.fixT e7,St.fixT e8]
                refine X.seq ?_
                refine X.seq ?_
                refine X.still ?_
                refine O.pu (Pu.move (.tmp (v:=.int _ _) rfl)) ?_
                refine O.pu (Pu.bin (.tmp rfl) .int .geq) ?_
                refine O.pu (Pu.move (.tmp (v:=.bool _) rfl)) ?_
                refine O.splitP (fun c=>?_) (fun c=>?_)
                · rw [if_pos c] at h
                  refine G.skip (W.f rfl rfl rfl) ?_
                  refine G.skip (W.f rfl rfl rfl) ?_
                  refine G.skip (W.f rfl rfl rfl) ?_
                  refine G.skip (W.f rfl rfl rfl) ?_
                  refine G.skip (W.f rfl rfl rfl) ?_
                  refine G.skip (W.f rfl rfl rfl) ?_
                  refine G.skip (W.f rfl rfl rfl) ?_
                  refine G.skip (W.f rfl rfl rfl) ?_
                  refine O.pu (Pu.pickT (.tmp rfl) .bool) ?_
                  refine O.nil ?_
                  repeat (rw [bits_Div64.j4_e] at h;obtain ⟨k,_,h⟩:=h;unfold bits_Div64.j4 at h;try dsimp only at h)
                  rw [if_pos rfl] at h
                  refine X.condT (.tmp rfl) ?_
                  refine X.skip ?_
                  refine X.block ?_
                  refine X.seq ?_
                  refine X.still ?_
                  refine O.pu (Pu.move (.tmp (v:=.int _ _) rfl)) ?_
                  refine O.pu (Pu.bin (.tmp rfl) .int .sub) ?_
                  refine O.pu (Pu.assign (.tmp (v:=.int _ _) rfl)) ?_
                  refine O.nil ?_
                  refine X.seq ?_
                  refine X.still ?_
                  refine O.pu (Pu.move (.tmp (v:=.int _ _) rfl)) ?_
                  refine O.pu (Pu.move (.tmp (v:=.int _ _) rfl)) ?_
                  refine O.pu (Pu.bin (.tmp rfl) (.tmp rfl) .add) ?_
                  refine O.pu (Pu.assign (.tmp (v:=.int _ _) rfl)) ?_
                  refine O.nil ?_
                  refine X.seq ?_
                  refine X.still ?_
                  refine O.pu (Pu.move (.tmp (v:=.int _ _) rfl)) ?_
                  refine O.pu (Pu.bin (.tmp rfl) .int .geq) ?_
                  refine O.nil ?_
                  refine X.condP (.tmp rfl) (fun c=>?_) (fun c=>?_)
                  · rw [if_pos c] at h
                    refine X.exit (B.past rfl (B.out ?_))
                    refine X.seq ?_
                    refine X.still ?_
                    refine O.pu (Pu.move (.tmp (v:=.int _ _) rfl)) ?_
                    refine O.pu (Pu.bin (.tmp rfl) .int .mul) ?_
                    refine O.pu (Pu.move (.tmp (v:=.int _ _) rfl)) ?_
                    refine O.pu (Pu.bin (.tmp rfl) (.tmp rfl) .add) ?_
                    refine O.pu (Pu.move (.tmp (v:=.int _ _) rfl)) ?_
                    refine O.pu (Pu.bin (.tmp rfl) .int .mul) ?_
                    refine O.pu (Pu.move (.tmp (v:=.int _ _) rfl)) ?_
                    refine O.pu (Pu.bin (.tmp rfl) (.tmp rfl) .add) ?_
                    refine O.pu (Pu.move (.tmp (v:=.int _ _) rfl)) ?_
                    refine O.pu (Pu.move (.tmp (v:=.int _ _) rfl)) ?_
                    refine O.pu (Pu.bin (.tmp rfl) (.tmp rfl) .mul) ?_
                    refine O.pu (Pu.bin (.tmp rfl) (.tmp rfl) .sub) ?_
                    refine O.pu (Pu.move (.tmp (v:=.int _ _) rfl)) ?_
                    repeat (rw [giff] at h;obtain ⟨_,h⟩:=h)
                    refine O.pu (Pu.bin (.tmp rfl) (.tmp rfl) (U.shrW (by omega))) ?_
                    refine O.pu (Pu.assign (.tmp (v:=.int _ _) rfl)) ?_
                    refine O.pu (Pu.assign (.tmp (v:=.int _ _) rfl)) ?_
                    refine O.nil ?_
                    refine X.ret ?_
                    cases h
                    exact E.fin [] (.tmp (v:=.int _ _) rfl (.tmp (v:=.int _ _) rfl .nil)) (.cons (.cl .int) (.cons (.cl .int) .nil))
                  · rw [if_neg c] at h
                    refine X.skip ?_
                    exact ⟨_,(by omega),(by omega),_,_,_,_,_,_,_,_,_,rfl,rfl,rfl,rfl,rfl,rfl,rfl,rfl,rfl,h⟩
                · rw [if_neg c] at h
                  refine G.pu (W.t rfl rfl) (Pu.move (.tmp (v:=.int _ _) rfl)) ?_
                  refine G.pu (W.t rfl rfl) (Pu.move (.tmp (v:=.int _ _) rfl)) ?_
                  refine G.pu (W.t rfl rfl) (Pu.bin (.tmp rfl) (.tmp rfl) .mul) ?_
                  refine G.pu (W.t rfl rfl) (Pu.move (.tmp (v:=.int _ _) rfl)) ?_
                  refine G.pu (W.t rfl rfl) (Pu.bin .int (.tmp rfl) .mul) ?_
                  refine G.pu (W.t rfl rfl) (Pu.move (.tmp (v:=.int _ _) rfl)) ?_
                  refine G.pu (W.t rfl rfl) (Pu.bin (.tmp rfl) (.tmp rfl) .add) ?_
                  refine G.pu (W.t rfl rfl) (Pu.bin (.tmp rfl) (.tmp rfl) .gtr) ?_
                  refine O.pu (Pu.pickF (.tmp rfl) (.tmp (v:=.bool _) rfl)) ?_
                  refine O.nil ?_
                  repeat (rw [bits_Div64.j4_e] at h;obtain ⟨k,_,h⟩:=h;unfold bits_Div64.j4 at h;try dsimp only at h)
                  refine X.condP (.tmp rfl) (fun c=>?_) (fun c=>?_)
                  · rw [if_pos (decide_eq_true c)] at h
                    refine X.skip ?_
                    refine X.block ?_
                    refine X.seq ?_
                    refine X.still ?_
                    refine O.pu (Pu.move (.tmp (v:=.int _ _) rfl)) ?_
                    refine O.pu (Pu.bin (.tmp rfl) .int .sub) ?_
                    refine O.pu (Pu.assign (.tmp (v:=.int _ _) rfl)) ?_
                    refine O.nil ?_
                    refine X.seq ?_
                    refine X.still ?_
                    refine O.pu (Pu.move (.tmp (v:=.int _ _) rfl)) ?_
                    refine O.pu (Pu.move (.tmp (v:=.int _ _) rfl)) ?_
                    refine O.pu (Pu.bin (.tmp rfl) (.tmp rfl) .add) ?_
                    refine O.pu (Pu.assign (.tmp (v:=.int _ _) rfl)) ?_
                    refine O.nil ?_
                    refine X.seq ?_
                    refine X.still ?_
                    refine O.pu (Pu.move (.tmp (v:=.int _ _) rfl)) ?_
                    refine O.pu (Pu.bin (.tmp rfl) .int .geq) ?_
                    refine O.nil ?_
                    refine X.condP (.tmp rfl) (fun c=>?_) (fun c=>?_)
                    · rw [if_pos c] at h
                      refine X.exit (B.past rfl (B.out ?_))
                      refine X.seq ?_
                      refine X.still ?_
                      refine O.pu (Pu.move (.tmp (v:=.int _ _) rfl)) ?_
                      refine O.pu (Pu.bin (.tmp rfl) .int .mul) ?_
                      refine O.pu (Pu.move (.tmp (v:=.int _ _) rfl)) ?_
                      refine O.pu (Pu.bin (.tmp rfl) (.tmp rfl) .add) ?_
                      refine O.pu (Pu.move (.tmp (v:=.int _ _) rfl)) ?_
                      refine O.pu (Pu.bin (.tmp rfl) .int .mul) ?_
                      refine O.pu (Pu.move (.tmp (v:=.int _ _) rfl)) ?_
                      refine O.pu (Pu.bin (.tmp rfl) (.tmp rfl) .add) ?_
                      refine O.pu (Pu.move (.tmp (v:=.int _ _) rfl)) ?_
                      refine O.pu (Pu.move (.tmp (v:=.int _ _) rfl)) ?_
                      refine O.pu (Pu.bin (.tmp rfl) (.tmp rfl) .mul) ?_
                      refine O.pu (Pu.bin (.tmp rfl) (.tmp rfl) .sub) ?_
                      refine O.pu (Pu.move (.tmp (v:=.int _ _) rfl)) ?_
                      repeat (rw [giff] at h;obtain ⟨_,h⟩:=h)
                      refine O.pu (Pu.bin (.tmp rfl) (.tmp rfl) (U.shrW (by omega))) ?_
                      refine O.pu (Pu.assign (.tmp (v:=.int _ _) rfl)) ?_
                      refine O.pu (Pu.assign (.tmp (v:=.int _ _) rfl)) ?_
                      refine O.nil ?_
                      refine X.ret ?_
                      cases h
                      exact E.fin [] (.tmp (v:=.int _ _) rfl (.tmp (v:=.int _ _) rfl .nil)) (.cons (.cl .int) (.cons (.cl .int) .nil))
                    · rw [if_neg c] at h
                      refine X.skip ?_
                      exact ⟨_,(by omega),(by omega),_,_,_,_,_,_,_,_,_,rfl,rfl,rfl,rfl,rfl,rfl,rfl,rfl,rfl,h⟩
                  · rw [if_neg (nd c)] at h
                    refine X.exit (B.out ?_)
                    refine X.seq ?_
                    refine X.still ?_
                    refine O.pu (Pu.move (.tmp (v:=.int _ _) rfl)) ?_
                    refine O.pu (Pu.bin (.tmp rfl) .int .mul) ?_
                    refine O.pu (Pu.move (.tmp (v:=.int _ _) rfl)) ?_
                    refine O.pu (Pu.bin (.tmp rfl) (.tmp rfl) .add) ?_
                    refine O.pu (Pu.move (.tmp (v:=.int _ _) rfl)) ?_
                    refine O.pu (Pu.bin (.tmp rfl) .int .mul) ?_
                    refine O.pu (Pu.move (.tmp (v:=.int _ _) rfl)) ?_
                    refine O.pu (Pu.bin (.tmp rfl) (.tmp rfl) .add) ?_
                    refine O.pu (Pu.move (.tmp (v:=.int _ _) rfl)) ?_
                    refine O.pu (Pu.move (.tmp (v:=.int _ _) rfl)) ?_
                    refine O.pu (Pu.bin (.tmp rfl) (.tmp rfl) .mul) ?_
                    refine O.pu (Pu.bin (.tmp rfl) (.tmp rfl) .sub) ?_
                    refine O.pu (Pu.move (.tmp (v:=.int _ _) rfl)) ?_
                    repeat (rw [giff] at h;obtain ⟨_,h⟩:=h)
                    refine O.pu (Pu.bin (.tmp rfl) (.tmp rfl) (U.shrW (by omega))) ?_
                    refine O.pu (Pu.assign (.tmp (v:=.int _ _) rfl)) ?_
                    refine O.pu (Pu.assign (.tmp (v:=.int _ _) rfl)) ?_
                    refine O.nil ?_
                    refine X.ret ?_
                    cases h
                    exact E.fin [] (.tmp (v:=.int _ _) rfl (.tmp (v:=.int _ _) rfl .nil)) (.cons (.cl .int) (.cons (.cl .int) .nil))
            · rw [if_neg c] at h
              refine X.skip ?_
              exact ⟨_,(by omega),_,_,_,_,_,_,_,_,_,rfl,rfl,rfl,rfl,rfl,rfl,rfl,rfl,rfl,h⟩
          · rw [if_neg c] at h
            refine G.pu (W.t rfl rfl) (Pu.move (.tmp (v:=.int _ _) rfl)) ?_
            refine G.pu (W.t rfl rfl) (Pu.move (.tmp (v:=.int _ _) rfl)) ?_
            refine G.pu (W.t rfl rfl) (Pu.bin (.tmp rfl) (.tmp rfl) .mul) ?_
            refine G.pu (W.t rfl rfl) (Pu.move (.tmp (v:=.int _ _) rfl)) ?_
            refine G.pu (W.t rfl rfl) (Pu.bin .int (.tmp rfl) .mul) ?_
            refine G.pu (W.t rfl rfl) (Pu.move (.tmp (v:=.int _ _) rfl)) ?_
            refine G.pu (W.t rfl rfl) (Pu.bin (.tmp rfl) (.tmp rfl) .add) ?_
            refine G.pu (W.t rfl rfl) (Pu.bin (.tmp rfl) (.tmp rfl) .gtr) ?_
            refine O.pu (Pu.pickF (.tmp rfl) (.tmp (v:=.bool _) rfl)) ?_
            refine O.nil ?_
            repeat (rw [bits_Div64.j1_e] at h;obtain ⟨k,_,h⟩:=h;unfold bits_Div64.j1 at h;try dsimp only at h)
            refine X.condP (.tmp rfl) (fun c=>?_) (fun c=>?_)
            · rw [if_pos (decide_eq_true c)] at h
              refine X.skip ?_
              refine X.block ?_
              refine X.seq ?_
              refine X.still ?_
              refine O.pu (Pu.move (.tmp (v:=.int _ _) rfl)) ?_
              refine O.pu (Pu.bin (.tmp rfl) .int .sub) ?_
              refine O.pu (Pu.assign (.tmp (v:=.int _ _) rfl)) ?_
              refine O.nil ?_
              refine X.seq ?_
              refine X.still ?_
              refine O.pu (Pu.move (.tmp (v:=.int _ _) rfl)) ?_
              refine O.pu (Pu.move (.tmp (v:=.int _ _) rfl)) ?_
              refine O.pu (Pu.bin (.tmp rfl) (.tmp rfl) .add) ?_
              refine O.pu (Pu.assign (.tmp (v:=.int _ _) rfl)) ?_
              refine O.nil ?_
              refine X.seq ?_
              refine X.still ?_
              refine O.pu (Pu.move (.tmp (v:=.int _ _) rfl)) ?_
              refine O.pu (Pu.bin (.tmp rfl) .int .geq) ?_
              refine O.nil ?_
              refine X.condP (.tmp rfl) (fun c=>?_) (fun c=>?_)
              · rw [if_pos c] at h
                refine X.exit (B.past rfl (B.out ?_))
                refine X.seq ?_
                refine X.still ?_
                refine O.pu (Pu.move (.tmp (v:=.int _ _) rfl)) ?_
                refine O.pu (Pu.bin (.tmp rfl) .int .mul) ?_
                refine O.pu (Pu.move (.tmp (v:=.int _ _) rfl)) ?_
                refine O.pu (Pu.bin (.tmp rfl) (.tmp rfl) .add) ?_
                refine O.pu (Pu.move (.tmp (v:=.int _ _) rfl)) ?_
                refine O.pu (Pu.move (.tmp (v:=.int _ _) rfl)) ?_
                refine O.pu (Pu.bin (.tmp rfl) (.tmp rfl) .mul) ?_
                refine O.pu (Pu.bin (.tmp rfl) (.tmp rfl) .sub) ?_
                refine O.pu (Pu.assign (.tmp (v:=.int _ _) rfl)) ?_
                refine O.nil ?_
                refine X.seq ?_
                refine X.still ?_
                refine O.pu (Pu.move (.tmp (v:=.int _ _) rfl)) ?_
                refine O.pu (Pu.move (.tmp (v:=.int _ _) rfl)) ?_
                repeat first|(rw [giffn] at h;obtain ⟨_,h⟩:=h)|(rw [bits_Div64.j2_e] at h;obtain ⟨k,_,h⟩:=h;unfold bits_Div64.j2 at h;try dsimp only at h)
                refine O.pu (Pu.bin (.tmp rfl) (.tmp rfl) (.quo (by omega))) ?_
                refine O.pu (Pu.assign (.tmp (v:=.int _ _) rfl)) ?_
                refine O.nil ?_
                refine X.seq ?_
                refine X.still ?_
                refine O.pu (Pu.move (.tmp (v:=.int _ _) rfl)) ?_
                refine O.pu (Pu.move (.tmp (v:=.int _ _) rfl)) ?_
                refine O.pu (Pu.move (.tmp (v:=.int _ _) rfl)) ?_
                refine O.pu (Pu.bin (.tmp rfl) (.tmp rfl) .mul) ?_
                refine O.pu (Pu.bin (.tmp rfl) (.tmp rfl) .sub) ?_
                refine O.pu (Pu.assign (.tmp (v:=.int _ _) rfl)) ?_
                refine O.nil ?_
                refine X.seq ?_
                refine X.block ?_
                refine X.inv (fun k s=>k≤k1∧∃ x2 x8 x9 x10 x14 x15 x16 x17 x18,s.t 2 = .int .u64 x2∧s.t 8 = .int .u64 x8∧s.t 9 = .int .u64 x9∧s.t 10 = .int .u64 x10∧s.t 14 = .int .u64 x14∧s.t 15 = .int .u64 x15∧s.t 16 = .int .u64 x16∧s.t 17 = .int .u64 x17∧s.t 18 = .int .u64 x18∧bits_Div64.l1 k x2 x8 x9 x10 x14 x15 x16 x17 x18=some r) ?_ ?_ ⟨(by omega),_,_,_,_,_,_,_,_,_,rfl,rfl,rfl,rfl,rfl,rfl,rfl,rfl,rfl,h⟩
                · rintro s ⟨_,_,_,_,_,_,_,_,_,_,_,_,_,_,_,_,_,_,_,h⟩;unfold bits_Div64.l1 at h;cases h
                · rintro k2 s2 ⟨kl2,x2,x8,x9,x10,x14,x15,x16,x17,x18,e0,e1,e2,e3,e4,e5,e6,e7,e8,h⟩
                  unfold bits_Div64.l1 at h
                  rw [St.fixT e0,St.fixT e1,St.fixT e2,St.fixT e3,St.fixT e4,St.fixT e5,St.fixT e6,St.fixT e7,St.fixT e8]
                  refine X.seq ?_
                  refine X.seq ?_
                  refine X.still ?_
                  refine O.pu (Pu.move (.tmp (v:=.int _ _) rfl)) ?_
                  refine O.pu (Pu.bin (.tmp rfl) .int .geq) ?_
                  refine O.pu (Pu.move (.tmp (v:=.bool _) rfl)) ?_
                  refine O.splitP (fun c=>?_) (fun c=>?_)
                  · rw [if_pos c] at h
                    refine G.skip (W.f rfl rfl rfl) ?_
                    refine G.skip (W.f rfl rfl rfl) ?_
                    refine G.skip (W.f rfl rfl rfl) ?_
                    refine G.skip (W.f rfl rfl rfl) ?_
                    refine G.skip (W.f rfl rfl rfl) ?_
                    refine G.skip (W.f rfl rfl rfl) ?_
                    refine G.skip (W.f rfl rfl rfl) ?_
                    refine G.skip (W.f rfl rfl rfl) ?_
                    refine O.pu (Pu.pickT (.tmp rfl) .bool) ?_
                    refine O.nil ?_
                    repeat (rw [bits_Div64.j4_e] at h;obtain ⟨k,_,h⟩:=h;unfold bits_Div64.j4 at h;try dsimp only at h)
                    rw [if_pos rfl] at h
                    refine X.condT (.tmp rfl) ?_
                    refine X.skip ?_
                    refine X.block ?_
                    refine X.seq ?_
                    refine X.still ?_
                    refine O.pu (Pu.move (.tmp (v:=.int _ _) rfl)) ?_
                    refine O.pu (Pu.bin (.tmp rfl) .int .sub) ?_
                    refine O.pu (Pu.assign (.tmp (v:=.int _ _) rfl)) ?_
                    refine O.nil ?_
                    refine X.seq ?_
                    refine X.still ?_
                    refine O.pu (Pu.move (.tmp (v:=.int _ _) rfl)) ?_
                    refine O.pu (Pu.move (.tmp (v:=.int _ _) rfl)) ?_
                    refine O.pu (Pu.bin (.tmp rfl) (.tmp rfl) .add) ?_
                    refine O.pu (Pu.assign (.tmp (v:=.int _ _) rfl)) ?_
                    refine O.nil ?_
                    refine X.seq ?_
                    refine X.still ?_
                    refine O.pu (Pu.move (.tmp (v:=.int _ _) rfl)) ?_
                    refine O.pu (Pu.bin (.tmp rfl) .int .geq) ?_
                    refine O.nil ?_
                    refine X.condP (.tmp rfl) (fun c=>?_) (fun c=>?_)
                    · rw [if_pos c] at h
                      refine X.exit (B.past rfl (B.out ?_))
                      refine X.seq ?_
                      refine X.still ?_
                      refine O.pu (Pu.move (.tmp (v:=.int _ _) rfl)) ?_
                      refine O.pu (Pu.bin (.tmp rfl) .int .mul) ?_
                      refine O.pu (Pu.move (.tmp (v:=.int _ _) rfl)) ?_
                      refine O.pu (Pu.bin (.tmp rfl) (.tmp rfl) .add) ?_
                      refine O.pu (Pu.move (.tmp (v:=.int _ _) rfl)) ?_
                      refine O.pu (Pu.bin (.tmp rfl) .int .mul) ?_
                      refine O.pu (Pu.move (.tmp (v:=.int _ _) rfl)) ?_
                      refine O.pu (Pu.bin (.tmp rfl) (.tmp rfl) .add) ?_
                      refine O.pu (Pu.move (.tmp (v:=.int _ _) rfl)) ?_
                      refine O.pu (Pu.move (.tmp (v:=.int _ _) rfl)) ?_
                      refine O.pu (Pu.bin (.tmp rfl) (.tmp rfl) .mul) ?_
                      refine O.pu (Pu.bin (.tmp rfl) (.tmp rfl) .sub) ?_
                      refine O.pu (Pu.move (.tmp (v:=.int _ _) rfl)) ?_
                      repeat (rw [giff] at h;obtain ⟨_,h⟩:=h)
                      refine O.pu (Pu.bin (.tmp rfl) (.tmp rfl) (U.shrW (by omega))) ?_
                      refine O.pu (Pu.assign (.tmp (v:=.int _ _) rfl)) ?_
                      refine O.pu (Pu.assign (.tmp (v:=.int _ _) rfl)) ?_
                      refine O.nil ?_
                      refine X.ret ?_
                      cases h
                      exact E.fin [] (.tmp (v:=.int _ _) rfl (.tmp (v:=.int _ _) rfl .nil)) (.cons (.cl .int) (.cons (.cl .int) .nil))
                    · rw [if_neg c] at h
                      refine X.skip ?_
                      exact ⟨_,(by omega),(by omega),_,_,_,_,_,_,_,_,_,rfl,rfl,rfl,rfl,rfl,rfl,rfl,rfl,rfl,h⟩
                  · rw [if_neg c] at h
                    refine G.pu (W.t rfl rfl) (Pu.move (.tmp (v:=.int _ _) rfl)) ?_
                    refine G.pu (W.t rfl rfl) (Pu.move (.tmp (v:=.int _ _) rfl)) ?_
                    refine G.pu (W.t rfl rfl) (Pu.bin (.tmp rfl) (.tmp rfl) .mul) ?_
                    refine G.pu (W.t rfl rfl) (Pu.move (.tmp (v:=.int _ _) rfl)) ?_
                    refine G.pu (W.t rfl rfl) (Pu.bin .int (.tmp rfl) .mul) ?_
                    refine G.pu (W.t rfl rfl) (Pu.move (.tmp (v:=.int _ _) rfl)) ?_
                    refine G.pu (W.t rfl rfl) (Pu.bin (.tmp rfl) (.tmp rfl) .add) ?_
                    refine G.pu (W.t rfl rfl) (Pu.bin (.tmp rfl) (.tmp rfl) .gtr) ?_
                    refine O.pu (Pu.pickF (.tmp rfl) (.tmp (v:=.bool _) rfl)) ?_
                    refine O.nil ?_
                    repeat (rw [bits_Div64.j4_e] at h;obtain ⟨k,_,h⟩:=h;unfold bits_Div64.j4 at h;try dsimp only at h)
                    refine X.condP (.tmp rfl) (fun c=>?_) (fun c=>?_)
                    · rw [if_pos (decide_eq_true c)] at h
                      refine X.skip ?_
                      refine X.block ?_
                      refine X.seq ?_
                      refine X.still ?_
                      refine O.pu (Pu.move (.tmp (v:=.int _ _) rfl)) ?_
                      refine O.pu (Pu.bin (.tmp rfl) .int .sub) ?_
                      refine O.pu (Pu.assign (.tmp (v:=.int _ _) rfl)) ?_
                      refine O.nil ?_
                      refine X.seq ?_
                      refine X.still ?_
                      refine O.pu (Pu.move (.tmp (v:=.int _ _) rfl)) ?_
                      refine O.pu (Pu.move (.tmp (v:=.int _ _) rfl)) ?_
                      refine O.pu (Pu.bin (.tmp rfl) (.tmp rfl) .add) ?_
                      refine O.pu (Pu.assign (.tmp (v:=.int _ _) rfl)) ?_
                      refine O.nil ?_
                      refine X.seq ?_
                      refine X.still ?_
                      refine O.pu (Pu.move (.tmp (v:=.int _ _) rfl)) ?_
                      refine O.pu (Pu.bin (.tmp rfl) .int .geq) ?_
                      refine O.nil ?_
                      refine X.condP (.tmp rfl) (fun c=>?_) (fun c=>?_)
                      · rw [if_pos c] at h
                        refine X.exit (B.past rfl (B.out ?_))
                        refine X.seq ?_
                        refine X.still ?_
                        refine O.pu (Pu.move (.tmp (v:=.int _ _) rfl)) ?_
                        refine O.pu (Pu.bin (.tmp rfl) .int .mul) ?_
                        refine O.pu (Pu.move (.tmp (v:=.int _ _) rfl)) ?_
                        refine O.pu (Pu.bin (.tmp rfl) (.tmp rfl) .add) ?_
                        refine O.pu (Pu.move (.tmp (v:=.int _ _) rfl)) ?_
                        refine O.pu (Pu.bin (.tmp rfl) .int .mul) ?_
                        refine O.pu (Pu.move (.tmp (v:=.int _ _) rfl)) ?_
                        refine O.pu (Pu.bin (.tmp rfl) (.tmp rfl) .add) ?_
                        refine O.pu (Pu.move (.tmp (v:=.int _ _) rfl)) ?_
                        refine O.pu (Pu.move (.tmp (v:=.int _ _) rfl)) ?_
                        refine O.pu (Pu.bin (.tmp rfl) (.tmp rfl) .mul) ?_
                        refine O.pu (Pu.bin (.tmp rfl) (.tmp rfl) .sub) ?_
                        refine O.pu (Pu.move (.tmp (v:=.int _ _) rfl)) ?_
                        repeat (rw [giff] at h;obtain ⟨_,h⟩:=h)
                        refine O.pu (Pu.bin (.tmp rfl) (.tmp rfl) (U.shrW (by omega))) ?_
                        refine O.pu (Pu.assign (.tmp (v:=.int _ _) rfl)) ?_
                        refine O.pu (Pu.assign (.tmp (v:=.int _ _) rfl)) ?_
                        refine O.nil ?_
                        refine X.ret ?_
                        cases h
                        exact E.fin [] (.tmp (v:=.int _ _) rfl (.tmp (v:=.int _ _) rfl .nil)) (.cons (.cl .int) (.cons (.cl .int) .nil))
                      · rw [if_neg c] at h
                        refine X.skip ?_
                        exact ⟨_,(by omega),(by omega),_,_,_,_,_,_,_,_,_,rfl,rfl,rfl,rfl,rfl,rfl,rfl,rfl,rfl,h⟩
                    · rw [if_neg (nd c)] at h
                      refine X.exit (B.out ?_)
                      refine X.seq ?_
                      refine X.still ?_
                      refine O.pu (Pu.move (.tmp (v:=.int _ _) rfl)) ?_
                      refine O.pu (Pu.bin (.tmp rfl) .int .mul) ?_
                      refine O.pu (Pu.move (.tmp (v:=.int _ _) rfl)) ?_
                      refine O.pu (Pu.bin (.tmp rfl) (.tmp rfl) .add) ?_
                      refine O.pu (Pu.move (.tmp (v:=.int _ _) rfl)) ?_
                      refine O.pu (Pu.bin (.tmp rfl) .int .mul) ?_
                      refine O.pu (Pu.move (.tmp (v:=.int _ _) rfl)) ?_
                      refine O.pu (Pu.bin (.tmp rfl) (.tmp rfl) .add) ?_
                      refine O.pu (Pu.move (.tmp (v:=.int _ _) rfl)) ?_
                      refine O.pu (Pu.move (.tmp (v:=.int _ _) rfl)) ?_
                      refine O.pu (Pu.bin (.tmp rfl) (.tmp rfl) .mul) ?_
                      refine O.pu (Pu.bin (.tmp rfl) (.tmp rfl) .sub) ?_
                      refine O.pu (Pu.move (.tmp (v:=.int _ _) rfl)) ?_
                      repeat (rw [giff] at h;obtain ⟨_,h⟩:=h)
                      refine O.pu (Pu.bin (.tmp rfl) (.tmp rfl) (U.shrW (by omega))) ?_
                      refine O.pu (Pu.assign (.tmp (v:=.int _ _) rfl)) ?_
                      refine O.pu (Pu.assign (.tmp (v:=.int _ _) rfl)) ?_
                      refine O.nil ?_
                      refine X.ret ?_
                      cases h
                      exact E.fin [] (.tmp (v:=.int _ _) rfl (.tmp (v:=.int _ _) rfl .nil)) (.cons (.cl .int) (.cons (.cl .int) .nil))
              · rw [if_neg c] at h
                refine X.skip ?_
                exact ⟨_,(by omega),_,_,_,_,_,_,_,_,_,rfl,rfl,rfl,rfl,rfl,rfl,rfl,rfl,rfl,h⟩
            · rw [if_neg (nd c)] at h
              refine X.exit (B.out ?_)
              refine X.seq ?_
              refine X.still ?_
              refine O.pu (Pu.move (.tmp (v:=.int _ _) rfl)) ?_
              refine O.pu (Pu.bin (.tmp rfl) .int .mul) ?_
              refine O.pu (Pu.move (.tmp (v:=.int _ _) rfl)) ?_
              refine O.pu (Pu.bin (.tmp rfl) (.tmp rfl) .add) ?_
              refine O.pu (Pu.move (.tmp (v:=.int _ _) rfl)) ?_
              refine O.pu (Pu.move (.tmp (v:=.int _ _) rfl)) ?_
              refine O.pu (Pu.bin (.tmp rfl) (.tmp rfl) .mul) ?_
              refine O.pu (Pu.bin (.tmp rfl) (.tmp rfl) .sub) ?_
              refine O.pu (Pu.assign (.tmp (v:=.int _ _) rfl)) ?_
              refine O.nil ?_
              refine X.seq ?_
              refine X.still ?_
              refine O.pu (Pu.move (.tmp (v:=.int _ _) rfl)) ?_
              refine O.pu (Pu.move (.tmp (v:=.int _ _) rfl)) ?_
              repeat first|(rw [giffn] at h;obtain ⟨_,h⟩:=h)|(rw [bits_Div64.j2_e] at h;obtain ⟨k,_,h⟩:=h;unfold bits_Div64.j2 at h;try dsimp only at h)
              refine O.pu (Pu.bin (.tmp rfl) (.tmp rfl) (.quo (by omega))) ?_
              refine O.pu (Pu.assign (.tmp (v:=.int _ _) rfl)) ?_
              refine O.nil ?_
              refine X.seq ?_
              refine X.still ?_
              refine O.pu (Pu.move (.tmp (v:=.int _ _) rfl)) ?_
              refine O.pu (Pu.move (.tmp (v:=.int _ _) rfl)) ?_
              refine O.pu (Pu.move (.tmp (v:=.int _ _) rfl)) ?_
              refine O.pu (Pu.bin (.tmp rfl) (.tmp rfl) .mul) ?_
              refine O.pu (Pu.bin (.tmp rfl) (.tmp rfl) .sub) ?_
              refine O.pu (Pu.assign (.tmp (v:=.int _ _) rfl)) ?_
              refine O.nil ?_
              refine X.seq ?_
              refine X.block ?_
              refine X.inv (fun k s=>k≤k1∧∃ x2 x8 x9 x10 x14 x15 x16 x17 x18,s.t 2 = .int .u64 x2∧s.t 8 = .int .u64 x8∧s.t 9 = .int .u64 x9∧s.t 10 = .int .u64 x10∧s.t 14 = .int .u64 x14∧s.t 15 = .int .u64 x15∧s.t 16 = .int .u64 x16∧s.t 17 = .int .u64 x17∧s.t 18 = .int .u64 x18∧bits_Div64.l1 k x2 x8 x9 x10 x14 x15 x16 x17 x18=some r) ?_ ?_ ⟨(by omega),_,_,_,_,_,_,_,_,_,rfl,rfl,rfl,rfl,rfl,rfl,rfl,rfl,rfl,h⟩
              · rintro s ⟨_,_,_,_,_,_,_,_,_,_,_,_,_,_,_,_,_,_,_,h⟩;unfold bits_Div64.l1 at h;cases h
              · rintro k2 s2 ⟨kl2,x2,x8,x9,x10,x14,x15,x16,x17,x18,e0,e1,e2,e3,e4,e5,e6,e7,e8,h⟩
                unfold bits_Div64.l1 at h
                rw [St.fixT e0,St.fixT e1,St.fixT e2,St.fixT e3,St.fixT e4,St.fixT e5,St.fixT e6,St.fixT e7,St.fixT e8]
                refine X.seq ?_
                refine X.seq ?_
                refine X.still ?_
                refine O.pu (Pu.move (.tmp (v:=.int _ _) rfl)) ?_
                refine O.pu (Pu.bin (.tmp rfl) .int .geq) ?_
                refine O.pu (Pu.move (.tmp (v:=.bool _) rfl)) ?_
                refine O.splitP (fun c=>?_) (fun c=>?_)
                · rw [if_pos c] at h
                  refine G.skip (W.f rfl rfl rfl) ?_
                  refine G.skip (W.f rfl rfl rfl) ?_
                  refine G.skip (W.f rfl rfl rfl) ?_
                  refine G.skip (W.f rfl rfl rfl) ?_
                  refine G.skip (W.f rfl rfl rfl) ?_
                  refine G.skip (W.f rfl rfl rfl) ?_
                  refine G.skip (W.f rfl rfl rfl) ?_
                  refine G.skip (W.f rfl rfl rfl) ?_
                  refine O.pu (Pu.pickT (.tmp rfl) .bool) ?_
                  refine O.nil ?_
                  repeat (rw [bits_Div64.j4_e] at h;obtain ⟨k,_,h⟩:=h;unfold bits_Div64.j4 at h;try dsimp only at h)
                  rw [if_pos rfl] at h
                  refine X.condT (.tmp rfl) ?_
                  refine X.skip ?_
                  refine X.block ?_
                  refine X.seq ?_
                  refine X.still ?_
                  refine O.pu (Pu.move (.tmp (v:=.int _ _) rfl)) ?_
                  refine O.pu (Pu.bin (.tmp rfl) .int .sub) ?_
                  refine O.pu (Pu.assign (.tmp (v:=.int _ _) rfl)) ?_
                  refine O.nil ?_
                  refine X.seq ?_
                  refine X.still ?_
                  refine O.pu (Pu.move (.tmp (v:=.int _ _) rfl)) ?_
                  refine O.pu (Pu.move (.tmp (v:=.int _ _) rfl)) ?_
                  refine O.pu (Pu.bin (.tmp rfl) (.tmp rfl) .add) ?_
                  refine O.pu (Pu.assign (.tmp (v:=.int _ _) rfl)) ?_
                  refine O.nil ?_
                  refine X.seq ?_
                  refine X.still ?_
                  refine O.pu (Pu.move (.tmp (v:=.int _ _) rfl)) ?_
                  refine O.pu (Pu.bin (.tmp rfl) .int .geq) ?_
                  refine O.nil ?_
                  refine X.condP (.tmp rfl) (fun c=>?_) (fun c=>?_)
                  · rw [if_pos c] at h
                    refine X.exit (B.past rfl (B.out ?_))
                    refine X.seq ?_
                    refine X.still ?_
                    refine O.pu (Pu.move (.tmp (v:=.int _ _) rfl)) ?_
                    refine O.pu (Pu.bin (.tmp rfl) .int .mul) ?_
                    refine O.pu (Pu.move (.tmp (v:=.int _ _) rfl)) ?_
                    refine O.pu (Pu.bin (.tmp rfl) (.tmp rfl) .add) ?_
                    refine O.pu (Pu.move (.tmp (v:=.int _ _) rfl)) ?_
                    refine O.pu (Pu.bin (.tmp rfl) .int .mul) ?_
                    refine O.pu (Pu.move (.tmp (v:=.int _ _) rfl)) ?_
                    refine O.pu (Pu.bin (.tmp rfl) (.tmp rfl) .add) ?_
                    refine O.pu (Pu.move (.tmp (v:=.int _ _) rfl)) ?_
                    refine O.pu (Pu.move (.tmp (v:=.int _ _) rfl)) ?_
                    refine O.pu (Pu.bin (.tmp rfl) (.tmp rfl) .mul) ?_
                    refine O.pu (Pu.bin (.tmp rfl) (.tmp rfl) .sub) ?_
                    refine O.pu (Pu.move (.tmp (v:=.int _ _) rfl)) ?_
                    repeat (rw [giff] at h;obtain ⟨_,h⟩:=h)
                    refine O.pu (Pu.bin (.tmp rfl) (.tmp rfl) (U.shrW (by omega))) ?_
                    refine O.pu (Pu.assign (.tmp (v:=.int _ _) rfl)) ?_
                    refine O.pu (Pu.assign (.tmp (v:=.int _ _) rfl)) ?_
                    refine O.nil ?_
                    refine X.ret ?_
                    cases h
                    exact E.fin [] (.tmp (v:=.int _ _) rfl (.tmp (v:=.int _ _) rfl .nil)) (.cons (.cl .int) (.cons (.cl .int) .nil))
                  · rw [if_neg c] at h
                    refine X.skip ?_
                    exact ⟨_,(by omega),(by omega),_,_,_,_,_,_,_,_,_,rfl,rfl,rfl,rfl,rfl,rfl,rfl,rfl,rfl,h⟩
                · rw [if_neg c] at h
                  refine G.pu (W.t rfl rfl) (Pu.move (.tmp (v:=.int _ _) rfl)) ?_
                  refine G.pu (W.t rfl rfl) (Pu.move (.tmp (v:=.int _ _) rfl)) ?_
                  refine G.pu (W.t rfl rfl) (Pu.bin (.tmp rfl) (.tmp rfl) .mul) ?_
                  refine G.pu (W.t rfl rfl) (Pu.move (.tmp (v:=.int _ _) rfl)) ?_
                  refine G.pu (W.t rfl rfl) (Pu.bin .int (.tmp rfl) .mul) ?_
                  refine G.pu (W.t rfl rfl) (Pu.move (.tmp (v:=.int _ _) rfl)) ?_
                  refine G.pu (W.t rfl rfl) (Pu.bin (.tmp rfl) (.tmp rfl) .add) ?_
                  refine G.pu (W.t rfl rfl) (Pu.bin (.tmp rfl) (.tmp rfl) .gtr) ?_
                  refine O.pu (Pu.pickF (.tmp rfl) (.tmp (v:=.bool _) rfl)) ?_
                  refine O.nil ?_
                  repeat (rw [bits_Div64.j4_e] at h;obtain ⟨k,_,h⟩:=h;unfold bits_Div64.j4 at h;try dsimp only at h)
                  refine X.condP (.tmp rfl) (fun c=>?_) (fun c=>?_)
                  · rw [if_pos (decide_eq_true c)] at h
                    refine X.skip ?_
                    refine X.block ?_
                    refine X.seq ?_
                    refine X.still ?_
                    refine O.pu (Pu.move (.tmp (v:=.int _ _) rfl)) ?_
                    refine O.pu (Pu.bin (.tmp rfl) .int .sub) ?_
                    refine O.pu (Pu.assign (.tmp (v:=.int _ _) rfl)) ?_
                    refine O.nil ?_
                    refine X.seq ?_
                    refine X.still ?_
                    refine O.pu (Pu.move (.tmp (v:=.int _ _) rfl)) ?_
                    refine O.pu (Pu.move (.tmp (v:=.int _ _) rfl)) ?_
                    refine O.pu (Pu.bin (.tmp rfl) (.tmp rfl) .add) ?_
                    refine O.pu (Pu.assign (.tmp (v:=.int _ _) rfl)) ?_
                    refine O.nil ?_
                    refine X.seq ?_
                    refine X.still ?_
                    refine O.pu (Pu.move (.tmp (v:=.int _ _) rfl)) ?_
                    refine O.pu (Pu.bin (.tmp rfl) .int .geq) ?_
                    refine O.nil ?_
                    refine X.condP (.tmp rfl) (fun c=>?_) (fun c=>?_)
                    · rw [if_pos c] at h
                      refine X.exit (B.past rfl (B.out ?_))
                      refine X.seq ?_
                      refine X.still ?_
                      refine O.pu (Pu.move (.tmp (v:=.int _ _) rfl)) ?_
                      refine O.pu (Pu.bin (.tmp rfl) .int .mul) ?_
                      refine O.pu (Pu.move (.tmp (v:=.int _ _) rfl)) ?_
                      refine O.pu (Pu.bin (.tmp rfl) (.tmp rfl) .add) ?_
                      refine O.pu (Pu.move (.tmp (v:=.int _ _) rfl)) ?_
                      refine O.pu (Pu.bin (.tmp rfl) .int .mul) ?_
                      refine O.pu (Pu.move (.tmp (v:=.int _ _) rfl)) ?_
                      refine O.pu (Pu.bin (.tmp rfl) (.tmp rfl) .add) ?_
                      refine O.pu (Pu.move (.tmp (v:=.int _ _) rfl)) ?_
                      refine O.pu (Pu.move (.tmp (v:=.int _ _) rfl)) ?_
                      refine O.pu (Pu.bin (.tmp rfl) (.tmp rfl) .mul) ?_
                      refine O.pu (Pu.bin (.tmp rfl) (.tmp rfl) .sub) ?_
                      refine O.pu (Pu.move (.tmp (v:=.int _ _) rfl)) ?_
                      repeat (rw [giff] at h;obtain ⟨_,h⟩:=h)
                      refine O.pu (Pu.bin (.tmp rfl) (.tmp rfl) (U.shrW (by omega))) ?_
                      refine O.pu (Pu.assign (.tmp (v:=.int _ _) rfl)) ?_
                      refine O.pu (Pu.assign (.tmp (v:=.int _ _) rfl)) ?_
                      refine O.nil ?_
                      refine X.ret ?_
                      cases h
                      exact E.fin [] (.tmp (v:=.int _ _) rfl (.tmp (v:=.int _ _) rfl .nil)) (.cons (.cl .int) (.cons (.cl .int) .nil))
                    · rw [if_neg c] at h
                      refine X.skip ?_
                      exact ⟨_,(by omega),(by omega),_,_,_,_,_,_,_,_,_,rfl,rfl,rfl,rfl,rfl,rfl,rfl,rfl,rfl,h⟩
                  · rw [if_neg (nd c)] at h
                    refine X.exit (B.out ?_)
                    refine X.seq ?_
                    refine X.still ?_
                    refine O.pu (Pu.move (.tmp (v:=.int _ _) rfl)) ?_
                    refine O.pu (Pu.bin (.tmp rfl) .int .mul) ?_
                    refine O.pu (Pu.move (.tmp (v:=.int _ _) rfl)) ?_
                    refine O.pu (Pu.bin (.tmp rfl) (.tmp rfl) .add) ?_
                    refine O.pu (Pu.move (.tmp (v:=.int _ _) rfl)) ?_
                    refine O.pu (Pu.bin (.tmp rfl) .int .mul) ?_
                    refine O.pu (Pu.move (.tmp (v:=.int _ _) rfl)) ?_
                    refine O.pu (Pu.bin (.tmp rfl) (.tmp rfl) .add) ?_
                    refine O.pu (Pu.move (.tmp (v:=.int _ _) rfl)) ?_
                    refine O.pu (Pu.move (.tmp (v:=.int _ _) rfl)) ?_
                    refine O.pu (Pu.bin (.tmp rfl) (.tmp rfl) .mul) ?_
                    refine O.pu (Pu.bin (.tmp rfl) (.tmp rfl) .sub) ?_
                    refine O.pu (Pu.move (.tmp (v:=.int _ _) rfl)) ?_
                    repeat (rw [giff] at h;obtain ⟨_,h⟩:=h)
                    refine O.pu (Pu.bin (.tmp rfl) (.tmp rfl) (U.shrW (by omega))) ?_
                    refine O.pu (Pu.assign (.tmp (v:=.int _ _) rfl)) ?_
                    refine O.pu (Pu.assign (.tmp (v:=.int _ _) rfl)) ?_
                    refine O.nil ?_
                    refine X.ret ?_
                    cases h
                    exact E.fin [] (.tmp (v:=.int _ _) rfl (.tmp (v:=.int _ _) rfl .nil)) (.cons (.cl .int) (.cons (.cl .int) .nil))
noncomputable def c83:Code:=Try.f83.body.getD .skip
theorem fn83:FnOk Try.prog 83 Try.f83 c83:=⟨Try.func83,rfl,by kernel_rfl,by kernel_rfl,mixed⟩
theorem quot_by.cs {k:Nat} {l0:List Int} {a1:Int} {r:List Int×Int} (h:quot_by.f k l0 a1=some r):CS Try.prog 83 [.fi .u64 l0, .int .u64 a1] .no [.fi .u64 r.1, .int .u64 r.2]:=by
  unfold quot_by.f at h
  refine E.pure fn83 rfl ?_
  refine X.seq ?_
  refine X.still ?_
  refine O.pu (Pu.assign (.nilI (k:=.u64))) ?_
  refine O.pu (Pu.assign .int) ?_
  refine O.nil ?_
  refine X.seq ?_
  refine X.still ?_
  refine O.pu (Pu.move (.tmp (v:=.fi _ _) rfl)) ?_
  refine O.pu (Pu.lenI rfl (.tmp rfl)) ?_
  repeat (rw [giff] at h;obtain ⟨_,h⟩:=h)
  refine O.puE (v':=.os 11 (1) 0 _ true) (b':=⟨1, .own,_,_⟩) (U.makeI rfl rfl (.tmp rfl) (.tmp rfl) (by omega) (by omega) rfl (by omega)) rfl rfl ?_
  refine O.pu (Pu.assign (.tmp (v:=.os _ _ _ _ _) rfl)) ?_
  refine O.nil ?_
  refine X.seq ?_
  refine X.still ?_
  refine O.pu (Pu.assign .int) ?_
  refine O.nil ?_
  refine X.seq ?_
  refine X.seq ?_
  refine X.still ?_
  refine O.pu (Pu.move (.tmp (v:=.fi _ _) rfl)) ?_
  refine O.pu (Pu.lenI rfl (.tmp rfl)) ?_
  refine O.pu (Pu.bin (.tmp rfl) .int U.sub64) ?_
  refine O.pu (Pu.assign (.tmp (v:=.int _ _) rfl)) ?_
  refine O.nil ?_
  refine X.block ?_
  refine X.inv (fun k s=>∃ x0 x1 x6 x7 x8 n6 u11,s.t 0 = .fi .u64 x0∧s.t 1 = .int .u64 x1∧s.b 11=⟨u11, .own, .ints .u64 x6,77⟩∧s.t 6 = .os 11 u11 0 n6 true∧x6.length=n6∧s.t 7 = .int .u64 x7∧s.t 8 = .int .i64 x8∧quot_by.l0 k x0 x1 x6 x7 x8=some r) ?_ ?_ ⟨_,_,_,_,_,_,_,rfl,rfl,rfl,rfl,rfl,rfl,rfl,h⟩
  · rintro s ⟨_,_,_,_,_,_,_,_,_,_,_,_,_,_,h⟩;unfold quot_by.l0 at h;cases h
  · rintro k1 s1 ⟨x0,x1,x6,x7,x8,n6,u11,e0,e1,e2,e3,rfl,e5,e6,h⟩
    unfold quot_by.l0 at h
    rw [St.fixT e0,St.fixT e1,St.fixB e2,St.fixT e3,St.fixT e5,St.fixT e6]
    refine X.seq ?_
    refine X.seq ?_
    refine X.still ?_
    refine O.pu (Pu.move (.tmp (v:=.int _ _) rfl)) ?_
    refine O.pu (Pu.bin (.tmp rfl) .int .geq) ?_
    refine O.nil ?_
    refine X.condP (.tmp rfl) (fun c=>?_) (fun c=>?_)
    · rw [if_pos c] at h
      refine X.skip ?_
      refine X.seq ?_
      refine X.block ?_
      refine X.still ?_
      refine O.pu (Pu.move (.tmp (v:=.os _ _ _ _ _) rfl)) ?_
      refine O.pu (Pu.move (.tmp (v:=.int _ _) rfl)) ?_
      refine O.pu (Pu.move (.tmp (v:=.int _ _) rfl)) ?_
      refine O.pu (Pu.move (.tmp (v:=.fi _ _) rfl)) ?_
      refine O.pu (Pu.move (.tmp (v:=.int _ _) rfl)) ?_
      repeat (rw [giff] at h;obtain ⟨_,h⟩:=h)
      refine O.pu (U.rdI rfl rfl (.tmp rfl) (.tmp rfl) (by omega) (by omega)) ?_
      refine O.pu (Pu.loadR (.tmp rfl) (U.self rfl rfl rfl)) ?_
      refine O.pu (Pu.move (.tmp (v:=.int _ _) rfl)) ?_
      obtain ⟨q1,Hq1,h⟩:=Option.bind_eq_some_iff.1 h
      refine O.pu (U.call (ss:=[]) (.cons (.tmp (v:=.int _ _) rfl) (.cons (.tmp (v:=.int _ _) rfl) (.cons (.tmp (v:=.int _ _) rfl) .nil))) (.cons (.cl .int) (.cons (.cl .int) (.cons (.cl .int) .nil))) (bits_Div64.cs Hq1) (.inl rfl) (.tupL (.cons .int (.cons .int .nil)))) ?_
      refine O.pu (Pu.move (.tmp (v:=.tup _) rfl)) ?_
      refine O.pu (Pu.extract (.tmp rfl) rfl) ?_
      refine O.pu (Pu.extract (.tmp rfl) rfl) ?_
      repeat (rw [giff] at h;obtain ⟨_,h⟩:=h)
      refine O.pu (U.indexO0 rfl (.tmp rfl) rfl rfl (.tmp rfl) (by first|omega|(simp only [List.length_set] at *;omega)) (by first|omega|(simp only [List.length_set] at *;omega)) rfl rfl) ?_
      refine O.ef0 (U.storeE (.tmp rfl) rfl rfl (.tmp (v:=.int _ _) rfl) rfl rfl (.whole (notBad_ne rfl) rfl) .ints) ?_
      refine O.pu (Pu.assign (.tmp (v:=.int _ _) rfl)) ?_
      refine O.nil ?_
      refine X.still ?_
      refine O.pu (Pu.move (.tmp (v:=.int _ _) rfl)) ?_
      refine O.pu (Pu.bin (.tmp rfl) .int U.sub64) ?_
      refine O.pu (Pu.assign (.tmp (v:=.int _ _) rfl)) ?_
      refine O.nil ?_
      exact ⟨_,(by omega),_,_,_,_,_,_,_,rfl,rfl,rfl,rfl,(by first|rfl|(simp only [List.length_set];done)|(simp only [List.length_drop,List.length_take,List.length_append,List.length_set] at *;omega)),rfl,rfl,h⟩
    · rw [if_neg c] at h
      refine X.exit (B.out ?_)
      refine X.seq ?_
      refine X.still ?_
      refine O.pu (Pu.move (.tmp (v:=.os _ _ _ _ _) rfl)) ?_
      refine O.pu (Pu.move (.tmp (v:=.int _ _) rfl)) ?_
      refine O.pu (Pu.assign (.tmp (v:=.os _ _ _ _ _) rfl)) ?_
      refine O.pu (Pu.assign (.tmp (v:=.int _ _) rfl)) ?_
      refine O.nil ?_
      refine X.ret ?_
      cases h
      exact E.fin [11] (.tmp (v:=.os _ _ _ _ _) rfl (.tmp (v:=.int _ _) rfl .nil)) (.cons (.osIf (by simp) rfl (Mode.live_ne rfl) rfl (by first|rfl|(simp only [List.length_set];done)|(simp only [List.length_drop,List.length_take,List.length_append,List.length_set] at *;omega))) (.cons (.cl .int) .nil))
noncomputable def c98:Code:=Try.f98.body.getD .skip
theorem fn98:FnOk Try.prog 98 Try.f98 c98:=⟨Try.func98,rfl,by kernel_rfl,by kernel_rfl,mixed⟩
theorem quot_moved.cs {k:Nat} {l0:List Int} {a1:Int} {r:List Int} (h:quot_moved.f k l0 a1=some r):CS Try.prog 98 [.fi .u64 l0, .int .u64 a1] ⟨none,some (.ints .u64 r,77)⟩ [.os FRS 1 0 (Row.ints .u64 r).len true]:=by
  unfold quot_moved.f at h
  refine E.fresh fn98 rfl trivial ?_
  refine X.seq ?_
  refine X.still ?_
  refine O.ef (U.nilOE (u:=1) (row:=.ints .u64 []) (e:=77) rfl rfl) ?_
  refine O.nil ?_
  refine X.seq ?_
  refine X.still ?_
  refine O.pu (Pu.move (.tmp (v:=.fi _ _) rfl)) ?_
  refine O.pu (Pu.lenI rfl (.tmp rfl)) ?_
  refine O.pu (Pu.bin (.tmp rfl) .int U.add64) ?_
  repeat (rw [giff] at h;obtain ⟨_,h⟩:=h)
  refine O.puE (v':=.os 11 (1) 0 _ true) (b':=⟨1, .own,_,_⟩) (U.makeI rfl rfl (.tmp rfl) (.tmp rfl) (by omega) (by omega) rfl (by omega)) rfl rfl ?_
  refine O.pu (Pu.assign (.tmp (v:=.os _ _ _ _ _) rfl)) ?_
  refine O.nil ?_
  refine X.seq ?_
  refine X.seq ?_
  refine X.still ?_
  refine O.pu (Pu.move (.tmp (v:=.fi _ _) rfl)) ?_
  refine O.pu (Pu.lenI rfl (.tmp rfl)) ?_
  refine O.pu (Pu.move .int) ?_
  refine O.nil ?_
  refine X.block ?_
  refine X.inv (fun k s=>∃ x1 x5 x12 x13 x14 n5 u11,s.t 1 = .int .u64 x1∧s.b 11=⟨u11, .own, .ints .u64 x5,77⟩∧s.t 5 = .os 11 u11 0 n5 true∧x5.length=n5∧s.t 12 = .fi .u64 x12∧s.t 13 = .int .i64 x13∧s.t 14 = .int .i64 x14∧quot_moved.l0 k x1 x5 x12 x13 x14=some r) ?_ ?_ ⟨_,_,_,_,_,_,_,rfl,rfl,rfl,rfl,rfl,rfl,rfl,h⟩
  · rintro s ⟨_,_,_,_,_,_,_,_,_,_,_,_,_,_,h⟩;unfold quot_moved.l0 at h;cases h
  · rintro k1 s1 ⟨x1,x5,x12,x13,x14,n5,u11,e0,e1,e2,rfl,e4,e5,e6,h⟩
    unfold quot_moved.l0 at h
    rw [St.fixT e0,St.fixB e1,St.fixT e2,St.fixT e4,St.fixT e5,St.fixT e6]
    refine X.seq ?_
    refine X.still ?_
    refine O.pu (Pu.bin (.tmp rfl) (.tmp rfl) .lss) ?_
    refine O.nil ?_
    refine X.seq ?_
    refine X.condP (.tmp rfl) (fun c=>?_) (fun c=>?_)
    · rw [if_pos c] at h
      refine X.skip ?_
      refine X.seq ?_
      refine X.block ?_
      refine X.seq ?_
      refine X.still ?_
      refine O.pu (Pu.move (.tmp (v:=.int _ _) rfl)) ?_
      repeat (rw [giff] at h;obtain ⟨_,h⟩:=h)
      refine O.pu (U.rdI rfl rfl (.tmp rfl) (.tmp rfl) (by omega) (by omega)) ?_
      refine O.pu (Pu.loadR (.tmp rfl) (U.self rfl rfl rfl)) ?_
      refine O.pu (Pu.assign (.tmp (v:=.int _ _) rfl)) ?_
      refine O.pu (Pu.assign (.tmp (v:=.int _ _) rfl)) ?_
      refine O.nil ?_
      refine X.seq ?_
      refine X.still ?_
      refine O.pu (Pu.move (.tmp (v:=.os _ _ _ _ _) rfl)) ?_
      refine O.pu (Pu.move (.tmp (v:=.int _ _) rfl)) ?_
      refine O.pu (U.indexO0 rfl (.tmp rfl) rfl rfl (.tmp rfl) (by first|omega|(simp only [List.length_set] at *;omega)) (by first|omega|(simp only [List.length_set] at *;omega)) rfl rfl) ?_
      refine O.pu (U.rdO (.tmp rfl) rfl rfl rfl rfl rfl) ?_
      refine O.pu (Pu.move (.tmp (v:=.int _ _) rfl)) ?_
      refine O.pu (Pu.move (.tmp (v:=.int _ _) rfl)) ?_
      refine O.pu (Pu.bin (.tmp rfl) (.tmp rfl) (U.shlW (by omega))) ?_
      refine O.pu (Pu.bin (.tmp rfl) (.tmp rfl) .bor) ?_
      refine O.pu (U.indexO0 rfl (.tmp rfl) rfl rfl (.tmp rfl) (by first|omega|(simp only [List.length_set] at *;omega)) (by first|omega|(simp only [List.length_set] at *;omega)) rfl rfl) ?_
      refine O.ef0 (U.storeE (.tmp rfl) rfl rfl (.tmp (v:=.int _ _) rfl) rfl rfl (.whole (notBad_ne rfl) rfl) .ints) ?_
      refine O.nil ?_
      refine X.still ?_
      refine O.pu (Pu.move (.tmp (v:=.os _ _ _ _ _) rfl)) ?_
      refine O.pu (Pu.move (.tmp (v:=.int _ _) rfl)) ?_
      refine O.pu (Pu.bin (.tmp rfl) .int U.add64) ?_
      refine O.pu (Pu.move (.tmp (v:=.int _ _) rfl)) ?_
      refine O.pu (Pu.move (.tmp (v:=.int _ _) rfl)) ?_
      refine O.pu (Pu.bin .int (.tmp rfl) .sub) ?_
      refine O.pu (Pu.bin (.tmp rfl) (.tmp rfl) (U.shrW (by omega))) ?_
      refine O.pu (U.indexO0 rfl (.tmp rfl) rfl rfl (.tmp rfl) (by first|omega|(simp only [List.length_set] at *;omega)) (by first|omega|(simp only [List.length_set] at *;omega)) rfl rfl) ?_
      refine O.ef0 (U.storeE (.tmp rfl) rfl rfl (.tmp (v:=.int _ _) rfl) rfl rfl (.whole (notBad_ne rfl) rfl) .ints) ?_
      refine O.nil ?_
      refine X.still ?_
      refine O.pu (Pu.bin (.tmp rfl) .int U.add64) ?_
      refine O.pu (Pu.move (.tmp (v:=.int _ _) rfl)) ?_
      refine O.nil ?_
      exact ⟨_,(by omega),_,_,_,_,_,_,_,rfl,rfl,rfl,(by first|rfl|(simp only [List.length_set];done)|(simp only [List.length_drop,List.length_take,List.length_append,List.length_set] at *;omega)),rfl,rfl,rfl,h⟩
    · rw [if_neg c] at h
      refine X.exit (B.out ?_)
      refine X.seq ?_
      refine X.still ?_
      refine O.pu (Pu.move (.tmp (v:=.os _ _ _ _ _) rfl)) ?_
      refine O.ef (U.takeE (u':=(s1.b 4).ver + 1) (.tmp rfl) rfl (ne_of_beq rfl) rfl) ?_
      refine O.nil ?_
      refine X.ret ?_
      cases h
      exact E.finF (s:=4) (.tmp (v:=.os _ _ _ _ _) rfl .nil) rfl
noncomputable def c92:Code:=Try.f92.body.getD .skip
theorem fn92:FnOk Try.prog 92 Try.f92 c92:=⟨Try.func92,rfl,by kernel_rfl,by kernel_rfl,mixed⟩
theorem bits_Mul64.cs {a0:Int} {a1:Int} {r:Int×Int} (h:bits_Mul64.f a0 a1=some r):CS Try.prog 92 [.int .u64 a0, .int .u64 a1] .no [.int .u64 r.1, .int .u64 r.2]:=by
  unfold bits_Mul64.f at h
  refine E.pure fn92 rfl ?_
  refine X.seq ?_
  refine X.still ?_
  refine O.pu (Pu.assign .int) ?_
  refine O.pu (Pu.assign .int) ?_
  refine O.nil ?_
  refine X.seq ?_
  refine X.still ?_
  refine O.pu (Pu.move (.tmp (v:=.int _ _) rfl)) ?_
  refine O.pu (Pu.bin (.tmp rfl) .int .band) ?_
  refine O.pu (Pu.assign (.tmp (v:=.int _ _) rfl)) ?_
  refine O.nil ?_
  refine X.seq ?_
  refine X.still ?_
  refine O.pu (Pu.move (.tmp (v:=.int _ _) rfl)) ?_
  refine O.pu (Pu.bin (.tmp rfl) .int (U.shrC 4294967296 (by decide) (by decide))) ?_
  refine O.pu (Pu.assign (.tmp (v:=.int _ _) rfl)) ?_
  refine O.nil ?_
  refine X.seq ?_
  refine X.still ?_
  refine O.pu (Pu.move (.tmp (v:=.int _ _) rfl)) ?_
  refine O.pu (Pu.bin (.tmp rfl) .int .band) ?_
  refine O.pu (Pu.assign (.tmp (v:=.int _ _) rfl)) ?_
  refine O.nil ?_
  refine X.seq ?_
  refine X.still ?_
  refine O.pu (Pu.move (.tmp (v:=.int _ _) rfl)) ?_
  refine O.pu (Pu.bin (.tmp rfl) .int (U.shrC 4294967296 (by decide) (by decide))) ?_
  refine O.pu (Pu.assign (.tmp (v:=.int _ _) rfl)) ?_
  refine O.nil ?_
  refine X.seq ?_
  refine X.still ?_
  refine O.pu (Pu.move (.tmp (v:=.int _ _) rfl)) ?_
  refine O.pu (Pu.move (.tmp (v:=.int _ _) rfl)) ?_
  refine O.pu (Pu.bin (.tmp rfl) (.tmp rfl) .mul) ?_
  refine O.pu (Pu.assign (.tmp (v:=.int _ _) rfl)) ?_
  refine O.nil ?_
  refine X.seq ?_
  refine X.still ?_
  refine O.pu (Pu.move (.tmp (v:=.int _ _) rfl)) ?_
  refine O.pu (Pu.move (.tmp (v:=.int _ _) rfl)) ?_
  refine O.pu (Pu.bin (.tmp rfl) (.tmp rfl) .mul) ?_
  refine O.pu (Pu.move (.tmp (v:=.int _ _) rfl)) ?_
  refine O.pu (Pu.bin (.tmp rfl) .int (U.shrC 4294967296 (by decide) (by decide))) ?_
  refine O.pu (Pu.bin (.tmp rfl) (.tmp rfl) .add) ?_
  refine O.pu (Pu.assign (.tmp (v:=.int _ _) rfl)) ?_
  refine O.nil ?_
  refine X.seq ?_
  refine X.still ?_
  refine O.pu (Pu.move (.tmp (v:=.int _ _) rfl)) ?_
  refine O.pu (Pu.bin (.tmp rfl) .int .band) ?_
  refine O.pu (Pu.assign (.tmp (v:=.int _ _) rfl)) ?_
  refine O.nil ?_
  refine X.seq ?_
  refine X.still ?_
  refine O.pu (Pu.move (.tmp (v:=.int _ _) rfl)) ?_
  refine O.pu (Pu.bin (.tmp rfl) .int (U.shrC 4294967296 (by decide) (by decide))) ?_
  refine O.pu (Pu.assign (.tmp (v:=.int _ _) rfl)) ?_
  refine O.nil ?_
  refine X.seq ?_
  refine X.still ?_
  refine O.pu (Pu.move (.tmp (v:=.int _ _) rfl)) ?_
  refine O.pu (Pu.move (.tmp (v:=.int _ _) rfl)) ?_
  refine O.pu (Pu.move (.tmp (v:=.int _ _) rfl)) ?_
  refine O.pu (Pu.bin (.tmp rfl) (.tmp rfl) .mul) ?_
  refine O.pu (Pu.bin (.tmp rfl) (.tmp rfl) .add) ?_
  refine O.pu (Pu.assign (.tmp (v:=.int _ _) rfl)) ?_
  refine O.nil ?_
  refine X.seq ?_
  refine X.still ?_
  refine O.pu (Pu.move (.tmp (v:=.int _ _) rfl)) ?_
  refine O.pu (Pu.move (.tmp (v:=.int _ _) rfl)) ?_
  refine O.pu (Pu.bin (.tmp rfl) (.tmp rfl) .mul) ?_
  refine O.pu (Pu.move (.tmp (v:=.int _ _) rfl)) ?_
  refine O.pu (Pu.bin (.tmp rfl) (.tmp rfl) .add) ?_
  refine O.pu (Pu.move (.tmp (v:=.int _ _) rfl)) ?_
  refine O.pu (Pu.bin (.tmp rfl) .int (U.shrC 4294967296 (by decide) (by decide))) ?_
  refine O.pu (Pu.bin (.tmp rfl) (.tmp rfl) .add) ?_
  refine O.pu (Pu.assign (.tmp (v:=.int _ _) rfl)) ?_
  refine O.nil ?_
  refine X.seq ?_
  refine X.still ?_
  refine O.pu (Pu.move (.tmp (v:=.int _ _) rfl)) ?_
  refine O.pu (Pu.move (.tmp (v:=.int _ _) rfl)) ?_
  refine O.pu (Pu.bin (.tmp rfl) (.tmp rfl) .mul) ?_
  refine O.pu (Pu.assign (.tmp (v:=.int _ _) rfl)) ?_
  refine O.nil ?_
  refine X.ret ?_
  cases h
  exact E.fin [] (.tmp (v:=.int _ _) rfl (.tmp (v:=.int _ _) rfl .nil)) (.cons (.cl .int) (.cons (.cl .int) .nil))
theorem quot_guess.j1_e {k y0 y1 y2 y3 y4 y5 r}:(quot_guess.j1 k y0 y1 y2 y3 y4 y5=some r) = ∃ j,k=j + 1∧quot_guess.j1 (j + 1) y0 y1 y2 y3 y4 y5=some r:=propext ⟨fun h=>by cases k with|zero=>(unfold quot_guess.j1 at h;cases h)|succ k=>exact ⟨k,rfl,h⟩,fun ⟨j,hj,h⟩=>by subst hj;exact h⟩
theorem quot_guess.l0_e {k y0 y1 y2 y3 y4 r}:(quot_guess.l0 k y0 y1 y2 y3 y4=some r) = ∃ j,k=j + 1∧quot_guess.l0 (j + 1) y0 y1 y2 y3 y4=some r:=propext ⟨fun h=>by cases k with|zero=>(unfold quot_guess.l0 at h;cases h)|succ k=>exact ⟨k,rfl,h⟩,fun ⟨j,hj,h⟩=>by subst hj;exact h⟩
noncomputable def c99:Code:=Try.f99.body.getD .skip
theorem fn99:FnOk Try.prog 99 Try.f99 c99:=⟨Try.func99,rfl,by kernel_rfl,by kernel_rfl,mixed⟩
theorem quot_guess.cs {k:Nat} {l0:List Int} {l1:List Int} {r:Int} (h:quot_guess.f k l0 l1=some r):CS Try.prog 99 [.fi .u64 l0, .fi .u64 l1] .no [.int .u64 r]:=by
  unfold quot_guess.f at h
  refine E.pure fn99 rfl ?_
  refine X.seq ?_
  refine X.still ?_
  refine O.pu (Pu.assign .int) ?_
  refine O.nil ?_
  refine X.scope (fun k l s=>l=0∧∃ x1 x5 x8 x9 x10,s.t 1 = .fi .u64 x1∧s.t 5 = .int .i64 x5∧s.t 8 = .int .u64 x8∧s.t 9 = .int .u64 x9∧s.t 10 = .int .u64 x10∧quot_guess.l0 k x1 x5 x8 x9 x10=some r) ?_ ?_ ?_
  · rintro l s ⟨_,_,_,_,_,_,_,_,_,_,_,h⟩;unfold quot_guess.l0 at h;cases h
  · rintro k1 _ s1 ⟨rfl,x1,x5,x8,x9,x10,e0,e1,e2,e3,e4,h⟩
    unfold quot_guess.l0 at h;try dsimp only at h
    rw [St.fixT e0,St.fixT e1,St.fixT e2,St.fixT e3,St.fixT e4]
    refine L.right rfl ?_
    refine L.right rfl ?_
    refine L.right rfl ?_
    refine L.right rfl ?_
    refine L.left rfl ?_
    refine L.label ?_
    refine X.seq ?_
    refine X.still ?_
    refine O.pu (Pu.move (.tmp (v:=.int _ _) rfl)) ?_
    refine O.pu (Pu.move (.tmp (v:=.fi _ _) rfl)) ?_
    refine O.pu (Pu.move (.tmp (v:=.int _ _) rfl)) ?_
    refine O.pu (Pu.bin (.tmp rfl) .int U.sub64) ?_
    repeat (rw [giff] at h;obtain ⟨_,h⟩:=h)
    refine O.pu (U.rdI rfl rfl (.tmp rfl) (.tmp rfl) (by omega) (by omega)) ?_
    refine O.pu (Pu.loadR (.tmp rfl) (U.self rfl rfl rfl)) ?_
    obtain ⟨q1,Hq1,h⟩:=Option.bind_eq_some_iff.1 h
    refine O.pu (U.call (ss:=[]) (.cons (.tmp (v:=.int _ _) rfl) (.cons (.tmp (v:=.int _ _) rfl) .nil)) (.cons (.cl .int) (.cons (.cl .int) .nil)) (bits_Mul64.cs Hq1) (.inl rfl) (.tupL (.cons .int (.cons .int .nil)))) ?_
    refine O.pu (Pu.move (.tmp (v:=.tup _) rfl)) ?_
    refine O.pu (Pu.extract (.tmp rfl) rfl) ?_
    refine O.pu (Pu.extract (.tmp rfl) rfl) ?_
    refine O.pu (Pu.assign (.tmp (v:=.int _ _) rfl)) ?_
    refine O.pu (Pu.assign (.tmp (v:=.int _ _) rfl)) ?_
    refine O.nil ?_
    refine X.seq ?_
    refine X.seq ?_
    refine X.still ?_
    refine O.pu (Pu.move (.tmp (v:=.int _ _) rfl)) ?_
    refine O.pu (Pu.move (.tmp (v:=.int _ _) rfl)) ?_
    refine O.pu (Pu.bin (.tmp rfl) (.tmp rfl) .lss) ?_
    refine O.pu (Pu.move (.tmp (v:=.bool _) rfl)) ?_
    refine O.splitP (fun c=>?_) (fun c=>?_)
    · rw [if_pos c] at h
      refine G.skip (W.f rfl rfl rfl) ?_
      refine G.skip (W.f rfl rfl rfl) ?_
      refine G.skip (W.f rfl rfl rfl) ?_
      refine G.skipN (b:=true) (W.f rfl rfl rfl) ?_
      refine G.skip (W.n rfl rfl) ?_
      refine G.skip (W.n rfl rfl) ?_
      refine G.skip (W.n rfl rfl) ?_
      refine G.skip (W.f rfl rfl rfl) ?_
      refine O.pu (Pu.pickT (.tmp rfl) .bool) ?_
      refine O.nil ?_
      repeat (rw [quot_guess.j1_e] at h;obtain ⟨k,_,h⟩:=h;unfold quot_guess.j1 at h;try dsimp only at h)
      rw [if_pos rfl] at h
      refine X.condT (.tmp rfl) ?_
      refine X.seq ?_
      refine X.still ?_
      refine O.pu (Pu.move (.tmp (v:=.int _ _) rfl)) ?_
      refine O.pu (Pu.assign (.tmp (v:=.int _ _) rfl)) ?_
      refine O.nil ?_
      refine X.ret ?_
      cases h
      exact E.fin [] (.tmp (v:=.int _ _) rfl .nil) (.cons (.cl .int) .nil)
    · rw [if_neg c] at h
      refine G.pu (W.t rfl rfl) (Pu.move (.tmp (v:=.int _ _) rfl)) ?_
      refine G.pu (W.t rfl rfl) (Pu.move (.tmp (v:=.int _ _) rfl)) ?_
      refine G.pu (W.t rfl rfl) (Pu.bin (.tmp rfl) (.tmp rfl) .eql) ?_
      refine G.pu (W.t rfl rfl) (Pu.move (.tmp (v:=.bool _) rfl)) ?_
      refine O.splitE (fun c=>?_) (fun c=>?_)
      · rw [if_pos c] at h
        refine G.pu (W.t rfl rfl) (Pu.move (.tmp (v:=.int _ _) rfl)) ?_
        refine G.pu (W.t rfl rfl) (Pu.move (.tmp (v:=.int _ _) rfl)) ?_
        refine G.pu (W.t rfl rfl) (Pu.bin (.tmp rfl) (.tmp rfl) .leq) ?_
        refine G.pu (W.t rfl rfl) (Pu.pickT (.tmp rfl) (.tmp (v:=.bool _) rfl)) ?_
        refine O.pu (Pu.pickF (.tmp rfl) (.tmp (v:=.bool _) rfl)) ?_
        refine O.nil ?_
        repeat (rw [quot_guess.j1_e] at h;obtain ⟨k,_,h⟩:=h;unfold quot_guess.j1 at h;try dsimp only at h)
        refine X.condP (.tmp rfl) (fun c=>?_) (fun c=>?_)
        · rw [if_pos (decide_eq_true c)] at h
          refine X.seq ?_
          refine X.still ?_
          refine O.pu (Pu.move (.tmp (v:=.int _ _) rfl)) ?_
          refine O.pu (Pu.assign (.tmp (v:=.int _ _) rfl)) ?_
          refine O.nil ?_
          refine X.ret ?_
          cases h
          exact E.fin [] (.tmp (v:=.int _ _) rfl .nil) (.cons (.cl .int) .nil)
        · rw [if_neg (nd c)] at h
          refine X.skip ?_
          refine X.seq ?_
          refine X.still ?_
          refine O.pu (Pu.move (.tmp (v:=.int _ _) rfl)) ?_
          refine O.pu (Pu.bin (.tmp rfl) .int .sub) ?_
          refine O.pu (Pu.assign (.tmp (v:=.int _ _) rfl)) ?_
          refine O.nil ?_
          refine X.seq ?_
          refine X.still ?_
          refine O.pu (Pu.move (.tmp (v:=.int _ _) rfl)) ?_
          refine O.pu (Pu.move (.tmp (v:=.fi _ _) rfl)) ?_
          refine O.pu (Pu.move (.tmp (v:=.int _ _) rfl)) ?_
          refine O.pu (Pu.bin (.tmp rfl) .int U.sub64) ?_
          repeat (rw [giff] at h;obtain ⟨_,h⟩:=h)
          refine O.pu (U.rdI rfl rfl (.tmp rfl) (.tmp rfl) (by omega) (by omega)) ?_
          refine O.pu (Pu.loadR (.tmp rfl) (U.self rfl rfl rfl)) ?_
          refine O.pu (U.call (ss:=[]) (.cons (.tmp (v:=.int _ _) rfl) (.cons (.tmp (v:=.int _ _) rfl) (.cons .int .nil))) (.cons (.cl .int) (.cons (.cl .int) (.cons (.cl .int) .nil))) (add64_cs (by omega)) (.inl rfl) (.tupL (.cons .int (.cons .int .nil)))) ?_
          refine O.pu (Pu.move (.tmp (v:=.tup _) rfl)) ?_
          refine O.pu (Pu.extract (.tmp rfl) rfl) ?_
          refine O.pu (Pu.extract (.tmp rfl) rfl) ?_
          refine O.pu (Pu.assign (.tmp (v:=.int _ _) rfl)) ?_
          refine O.pu (Pu.assign (.tmp (v:=.int _ _) rfl)) ?_
          refine O.nil ?_
          refine X.seq ?_
          refine X.still ?_
          refine O.pu (Pu.move (.tmp (v:=.int _ _) rfl)) ?_
          refine O.pu (Pu.assign (.tmp (v:=.int _ _) rfl)) ?_
          refine O.nil ?_
          refine X.seq ?_
          refine X.seq ?_
          refine X.still ?_
          refine O.pu (Pu.move (.tmp (v:=.int _ _) rfl)) ?_
          refine O.pu (Pu.bin (.tmp rfl) .int .eql) ?_
          refine O.nil ?_
          refine X.condE (.tmp rfl) (fun c=>?_) (fun c=>?_)
          · rw [if_pos c] at h
            exact ⟨rfl,_,(by omega),rfl,_,_,_,_,_,rfl,rfl,rfl,rfl,rfl,h⟩
          · rw [if_neg c] at h
            refine X.skip ?_
            refine X.seq ?_
            refine X.still ?_
            refine O.pu (Pu.move (.tmp (v:=.int _ _) rfl)) ?_
            refine O.pu (Pu.assign (.tmp (v:=.int _ _) rfl)) ?_
            refine O.nil ?_
            refine X.ret ?_
            cases h
            exact E.fin [] (.tmp (v:=.int _ _) rfl .nil) (.cons (.cl .int) .nil)
      · rw [if_neg c] at h
        refine G.skip (W.f rfl rfl rfl) ?_
        refine G.skip (W.f rfl rfl rfl) ?_
        refine G.skip (W.f rfl rfl rfl) ?_
        refine G.pu (W.t rfl rfl) (Pu.pickF (.tmp rfl) .bool) ?_
        refine O.pu (Pu.pickF (.tmp rfl) (.tmp (v:=.bool _) rfl)) ?_
        refine O.nil ?_
        repeat (rw [quot_guess.j1_e] at h;obtain ⟨k,_,h⟩:=h;unfold quot_guess.j1 at h;try dsimp only at h)
        rw [if_neg Bool.false_ne_true] at h
        refine X.condF (.tmp rfl) ?_
        refine X.skip ?_
        refine X.seq ?_
        refine X.still ?_
        refine O.pu (Pu.move (.tmp (v:=.int _ _) rfl)) ?_
        refine O.pu (Pu.bin (.tmp rfl) .int .sub) ?_
        refine O.pu (Pu.assign (.tmp (v:=.int _ _) rfl)) ?_
        refine O.nil ?_
        refine X.seq ?_
        refine X.still ?_
        refine O.pu (Pu.move (.tmp (v:=.int _ _) rfl)) ?_
        refine O.pu (Pu.move (.tmp (v:=.fi _ _) rfl)) ?_
        refine O.pu (Pu.move (.tmp (v:=.int _ _) rfl)) ?_
        refine O.pu (Pu.bin (.tmp rfl) .int U.sub64) ?_
        repeat (rw [giff] at h;obtain ⟨_,h⟩:=h)
        refine O.pu (U.rdI rfl rfl (.tmp rfl) (.tmp rfl) (by omega) (by omega)) ?_
        refine O.pu (Pu.loadR (.tmp rfl) (U.self rfl rfl rfl)) ?_
        refine O.pu (U.call (ss:=[]) (.cons (.tmp (v:=.int _ _) rfl) (.cons (.tmp (v:=.int _ _) rfl) (.cons .int .nil))) (.cons (.cl .int) (.cons (.cl .int) (.cons (.cl .int) .nil))) (add64_cs (by omega)) (.inl rfl) (.tupL (.cons .int (.cons .int .nil)))) ?_
        refine O.pu (Pu.move (.tmp (v:=.tup _) rfl)) ?_
        refine O.pu (Pu.extract (.tmp rfl) rfl) ?_
        refine O.pu (Pu.extract (.tmp rfl) rfl) ?_
        refine O.pu (Pu.assign (.tmp (v:=.int _ _) rfl)) ?_
        refine O.pu (Pu.assign (.tmp (v:=.int _ _) rfl)) ?_
        refine O.nil ?_
        refine X.seq ?_
        refine X.still ?_
        refine O.pu (Pu.move (.tmp (v:=.int _ _) rfl)) ?_
        refine O.pu (Pu.assign (.tmp (v:=.int _ _) rfl)) ?_
        refine O.nil ?_
        refine X.seq ?_
        refine X.seq ?_
        refine X.still ?_
        refine O.pu (Pu.move (.tmp (v:=.int _ _) rfl)) ?_
        refine O.pu (Pu.bin (.tmp rfl) .int .eql) ?_
        refine O.nil ?_
        refine X.condE (.tmp rfl) (fun c=>?_) (fun c=>?_)
        · rw [if_pos c] at h
          exact ⟨rfl,_,(by omega),rfl,_,_,_,_,_,rfl,rfl,rfl,rfl,rfl,h⟩
        · rw [if_neg c] at h
          refine X.skip ?_
          refine X.seq ?_
          refine X.still ?_
          refine O.pu (Pu.move (.tmp (v:=.int _ _) rfl)) ?_
          refine O.pu (Pu.assign (.tmp (v:=.int _ _) rfl)) ?_
          refine O.nil ?_
          refine X.ret ?_
          cases h
          exact E.fin [] (.tmp (v:=.int _ _) rfl .nil) (.cons (.cl .int) .nil)
  · refine X.seq ?_
    refine X.still ?_
    refine O.pu (Pu.move (.tmp (v:=.fi _ _) rfl)) ?_
    refine O.pu (Pu.lenI rfl (.tmp rfl)) ?_
    refine O.pu (Pu.assign (.tmp (v:=.int _ _) rfl)) ?_
    refine O.nil ?_
    refine X.seq ?_
    refine X.drawn ?_
    refine D.pu (Pu.move (.tmp (v:=.fi _ _) rfl)) ?_
    refine D.pu (Pu.move (.tmp (v:=.int _ _) rfl)) ?_
    repeat (rw [giff] at h;obtain ⟨_,h⟩:=h)
    refine D.pu (U.rdI rfl rfl (.tmp rfl) (.tmp rfl) (by omega) (by omega)) ?_
    refine D.pu (Pu.loadR (.tmp rfl) (U.self rfl rfl rfl)) ?_
    refine D.pu (Pu.move (.tmp (v:=.fi _ _) rfl)) ?_
    refine D.pu (Pu.move (.tmp (v:=.int _ _) rfl)) ?_
    refine D.pu (Pu.bin (.tmp rfl) .int U.sub64) ?_
    refine D.pu (U.rdI rfl rfl (.tmp rfl) (.tmp rfl) (by omega) (by omega)) ?_
    refine D.pu (Pu.loadR (.tmp rfl) (U.self rfl rfl rfl)) ?_
    refine D.pu (Pu.move (.tmp (v:=.fi _ _) rfl)) ?_
    refine D.pu (Pu.move (.tmp (v:=.int _ _) rfl)) ?_
    refine D.pu (Pu.bin (.tmp rfl) .int U.sub64) ?_
    refine D.pu (U.rdI rfl rfl (.tmp rfl) (.tmp rfl) (by omega) (by omega)) ?_
    refine D.pu (Pu.loadR (.tmp rfl) (U.self rfl rfl rfl)) ?_
    refine D.pu (Pu.assign (.tmp (v:=.int _ _) rfl)) ?_
    refine D.pu (Pu.assign (.tmp (v:=.int _ _) rfl)) ?_
    refine D.pu (Pu.assign (.tmp (v:=.int _ _) rfl)) ?_
    refine D.nil (by kernel_rfl) ?_
    refine X.seq ?_
    refine X.seq ?_
    refine X.still ?_
    refine O.pu (Pu.move (.tmp (v:=.int _ _) rfl)) ?_
    refine O.pu (Pu.move (.tmp (v:=.fi _ _) rfl)) ?_
    refine O.pu (Pu.move (.tmp (v:=.int _ _) rfl)) ?_
    refine O.pu (Pu.bin (.tmp rfl) .int U.sub64) ?_
    refine O.pu (U.rdI rfl rfl (.tmp rfl) (.tmp rfl) (by omega) (by omega)) ?_
    refine O.pu (Pu.loadR (.tmp rfl) (U.self rfl rfl rfl)) ?_
    refine O.pu (Pu.bin (.tmp rfl) (.tmp rfl) .geq) ?_
    refine O.nil ?_
    refine X.condP (.tmp rfl) (fun c=>?_) (fun c=>?_)
    · rw [if_pos c] at h
      refine X.seq ?_
      refine X.still ?_
      refine O.pu (Pu.assign .int) ?_
      refine O.nil ?_
      refine X.ret ?_
      cases h
      exact E.fin [] (.tmp (v:=.int _ _) rfl .nil) (.cons (.cl .int) .nil)
    · rw [if_neg c] at h
      refine X.skip ?_
      refine X.seq ?_
      refine X.still ?_
      refine O.pu (Pu.move (.tmp (v:=.int _ _) rfl)) ?_
      refine O.pu (Pu.move (.tmp (v:=.int _ _) rfl)) ?_
      refine O.pu (Pu.move (.tmp (v:=.fi _ _) rfl)) ?_
      refine O.pu (Pu.move (.tmp (v:=.int _ _) rfl)) ?_
      refine O.pu (Pu.bin (.tmp rfl) .int U.sub64) ?_
      refine O.pu (U.rdI rfl rfl (.tmp rfl) (.tmp rfl) (by omega) (by omega)) ?_
      refine O.pu (Pu.loadR (.tmp rfl) (U.self rfl rfl rfl)) ?_
      obtain ⟨q4,Hq4,h⟩:=Option.bind_eq_some_iff.1 h
      refine O.pu (U.call (ss:=[]) (.cons (.tmp (v:=.int _ _) rfl) (.cons (.tmp (v:=.int _ _) rfl) (.cons (.tmp (v:=.int _ _) rfl) .nil))) (.cons (.cl .int) (.cons (.cl .int) (.cons (.cl .int) .nil))) (bits_Div64.cs Hq4) (.inl rfl) (.tupL (.cons .int (.cons .int .nil)))) ?_
      refine O.pu (Pu.move (.tmp (v:=.tup _) rfl)) ?_
      refine O.pu (Pu.extract (.tmp rfl) rfl) ?_
      refine O.pu (Pu.extract (.tmp rfl) rfl) ?_
      refine O.pu (Pu.assign (.tmp (v:=.int _ _) rfl)) ?_
      refine O.pu (Pu.assign (.tmp (v:=.int _ _) rfl)) ?_
      refine O.nil ?_
      refine X.seq ?_
      refine X.label ?_
      refine X.seq ?_
      refine X.still ?_
      refine O.pu (Pu.move (.tmp (v:=.int _ _) rfl)) ?_
      refine O.pu (Pu.move (.tmp (v:=.fi _ _) rfl)) ?_
      refine O.pu (Pu.move (.tmp (v:=.int _ _) rfl)) ?_
      refine O.pu (Pu.bin (.tmp rfl) .int U.sub64) ?_
      repeat first|(rw [giff] at h;obtain ⟨_,h⟩:=h)|(rw [quot_guess.l0_e] at h;obtain ⟨k,_,h⟩:=h;unfold quot_guess.l0 at h;try dsimp only at h)
      refine O.pu (U.rdI rfl rfl (.tmp rfl) (.tmp rfl) (by omega) (by omega)) ?_
      refine O.pu (Pu.loadR (.tmp rfl) (U.self rfl rfl rfl)) ?_
      obtain ⟨q5,Hq5,h⟩:=Option.bind_eq_some_iff.1 h
      refine O.pu (U.call (ss:=[]) (.cons (.tmp (v:=.int _ _) rfl) (.cons (.tmp (v:=.int _ _) rfl) .nil)) (.cons (.cl .int) (.cons (.cl .int) .nil)) (bits_Mul64.cs Hq5) (.inl rfl) (.tupL (.cons .int (.cons .int .nil)))) ?_
      refine O.pu (Pu.move (.tmp (v:=.tup _) rfl)) ?_
      refine O.pu (Pu.extract (.tmp rfl) rfl) ?_
      refine O.pu (Pu.extract (.tmp rfl) rfl) ?_
      refine O.pu (Pu.assign (.tmp (v:=.int _ _) rfl)) ?_
      refine O.pu (Pu.assign (.tmp (v:=.int _ _) rfl)) ?_
      refine O.nil ?_
      refine X.seq ?_
      refine X.seq ?_
      refine X.still ?_
      refine O.pu (Pu.move (.tmp (v:=.int _ _) rfl)) ?_
      refine O.pu (Pu.move (.tmp (v:=.int _ _) rfl)) ?_
      refine O.pu (Pu.bin (.tmp rfl) (.tmp rfl) .lss) ?_
      refine O.pu (Pu.move (.tmp (v:=.bool _) rfl)) ?_
      refine O.splitP (fun c=>?_) (fun c=>?_)
      · rw [if_pos c] at h
        refine G.skip (W.f rfl rfl rfl) ?_
        refine G.skip (W.f rfl rfl rfl) ?_
        refine G.skip (W.f rfl rfl rfl) ?_
        refine G.skipN (b:=true) (W.f rfl rfl rfl) ?_
        refine G.skip (W.n rfl rfl) ?_
        refine G.skip (W.n rfl rfl) ?_
        refine G.skip (W.n rfl rfl) ?_
        refine G.skip (W.f rfl rfl rfl) ?_
        refine O.pu (Pu.pickT (.tmp rfl) .bool) ?_
        refine O.nil ?_
        repeat (rw [quot_guess.j1_e] at h;obtain ⟨k,_,h⟩:=h;unfold quot_guess.j1 at h;try dsimp only at h)
        rw [if_pos rfl] at h
        refine X.condT (.tmp rfl) ?_
        refine X.seq ?_
        refine X.still ?_
        refine O.pu (Pu.move (.tmp (v:=.int _ _) rfl)) ?_
        refine O.pu (Pu.assign (.tmp (v:=.int _ _) rfl)) ?_
        refine O.nil ?_
        refine X.ret ?_
        cases h
        exact E.fin [] (.tmp (v:=.int _ _) rfl .nil) (.cons (.cl .int) .nil)
      · rw [if_neg c] at h
        refine G.pu (W.t rfl rfl) (Pu.move (.tmp (v:=.int _ _) rfl)) ?_
        refine G.pu (W.t rfl rfl) (Pu.move (.tmp (v:=.int _ _) rfl)) ?_
        refine G.pu (W.t rfl rfl) (Pu.bin (.tmp rfl) (.tmp rfl) .eql) ?_
        refine G.pu (W.t rfl rfl) (Pu.move (.tmp (v:=.bool _) rfl)) ?_
        refine O.splitE (fun c=>?_) (fun c=>?_)
        · rw [if_pos c] at h
          refine G.pu (W.t rfl rfl) (Pu.move (.tmp (v:=.int _ _) rfl)) ?_
          refine G.pu (W.t rfl rfl) (Pu.move (.tmp (v:=.int _ _) rfl)) ?_
          refine G.pu (W.t rfl rfl) (Pu.bin (.tmp rfl) (.tmp rfl) .leq) ?_
          refine G.pu (W.t rfl rfl) (Pu.pickT (.tmp rfl) (.tmp (v:=.bool _) rfl)) ?_
          refine O.pu (Pu.pickF (.tmp rfl) (.tmp (v:=.bool _) rfl)) ?_
          refine O.nil ?_
          repeat (rw [quot_guess.j1_e] at h;obtain ⟨k,_,h⟩:=h;unfold quot_guess.j1 at h;try dsimp only at h)
          refine X.condP (.tmp rfl) (fun c=>?_) (fun c=>?_)
          · rw [if_pos (decide_eq_true c)] at h
            refine X.seq ?_
            refine X.still ?_
            refine O.pu (Pu.move (.tmp (v:=.int _ _) rfl)) ?_
            refine O.pu (Pu.assign (.tmp (v:=.int _ _) rfl)) ?_
            refine O.nil ?_
            refine X.ret ?_
            cases h
            exact E.fin [] (.tmp (v:=.int _ _) rfl .nil) (.cons (.cl .int) .nil)
          · rw [if_neg (nd c)] at h
            refine X.skip ?_
            refine X.seq ?_
            refine X.still ?_
            refine O.pu (Pu.move (.tmp (v:=.int _ _) rfl)) ?_
            refine O.pu (Pu.bin (.tmp rfl) .int .sub) ?_
            refine O.pu (Pu.assign (.tmp (v:=.int _ _) rfl)) ?_
            refine O.nil ?_
            refine X.seq ?_
            refine X.still ?_
            refine O.pu (Pu.move (.tmp (v:=.int _ _) rfl)) ?_
            refine O.pu (Pu.move (.tmp (v:=.fi _ _) rfl)) ?_
            refine O.pu (Pu.move (.tmp (v:=.int _ _) rfl)) ?_
            refine O.pu (Pu.bin (.tmp rfl) .int U.sub64) ?_
            repeat (rw [giff] at h;obtain ⟨_,h⟩:=h)
            refine O.pu (U.rdI rfl rfl (.tmp rfl) (.tmp rfl) (by omega) (by omega)) ?_
            refine O.pu (Pu.loadR (.tmp rfl) (U.self rfl rfl rfl)) ?_
            refine O.pu (U.call (ss:=[]) (.cons (.tmp (v:=.int _ _) rfl) (.cons (.tmp (v:=.int _ _) rfl) (.cons .int .nil))) (.cons (.cl .int) (.cons (.cl .int) (.cons (.cl .int) .nil))) (add64_cs (by omega)) (.inl rfl) (.tupL (.cons .int (.cons .int .nil)))) ?_
            refine O.pu (Pu.move (.tmp (v:=.tup _) rfl)) ?_
            refine O.pu (Pu.extract (.tmp rfl) rfl) ?_
            refine O.pu (Pu.extract (.tmp rfl) rfl) ?_
            refine O.pu (Pu.assign (.tmp (v:=.int _ _) rfl)) ?_
            refine O.pu (Pu.assign (.tmp (v:=.int _ _) rfl)) ?_
            refine O.nil ?_
            refine X.seq ?_
            refine X.still ?_
            refine O.pu (Pu.move (.tmp (v:=.int _ _) rfl)) ?_
            refine O.pu (Pu.assign (.tmp (v:=.int _ _) rfl)) ?_
            refine O.nil ?_
            refine X.seq ?_
            refine X.seq ?_
            refine X.still ?_
            refine O.pu (Pu.move (.tmp (v:=.int _ _) rfl)) ?_
            refine O.pu (Pu.bin (.tmp rfl) .int .eql) ?_
            refine O.nil ?_
            refine X.condE (.tmp rfl) (fun c=>?_) (fun c=>?_)
            · rw [if_pos c] at h
              exact ⟨rfl,_,rfl,_,_,_,_,_,rfl,rfl,rfl,rfl,rfl,h⟩
            · rw [if_neg c] at h
              refine X.skip ?_
              refine X.seq ?_
              refine X.still ?_
              refine O.pu (Pu.move (.tmp (v:=.int _ _) rfl)) ?_
              refine O.pu (Pu.assign (.tmp (v:=.int _ _) rfl)) ?_
              refine O.nil ?_
              refine X.ret ?_
              cases h
              exact E.fin [] (.tmp (v:=.int _ _) rfl .nil) (.cons (.cl .int) .nil)
        · rw [if_neg c] at h
          refine G.skip (W.f rfl rfl rfl) ?_
          refine G.skip (W.f rfl rfl rfl) ?_
          refine G.skip (W.f rfl rfl rfl) ?_
          refine G.pu (W.t rfl rfl) (Pu.pickF (.tmp rfl) .bool) ?_
          refine O.pu (Pu.pickF (.tmp rfl) (.tmp (v:=.bool _) rfl)) ?_
          refine O.nil ?_
          repeat (rw [quot_guess.j1_e] at h;obtain ⟨k,_,h⟩:=h;unfold quot_guess.j1 at h;try dsimp only at h)
          rw [if_neg Bool.false_ne_true] at h
          refine X.condF (.tmp rfl) ?_
          refine X.skip ?_
          refine X.seq ?_
          refine X.still ?_
          refine O.pu (Pu.move (.tmp (v:=.int _ _) rfl)) ?_
          refine O.pu (Pu.bin (.tmp rfl) .int .sub) ?_
          refine O.pu (Pu.assign (.tmp (v:=.int _ _) rfl)) ?_
          refine O.nil ?_
          refine X.seq ?_
          refine X.still ?_
          refine O.pu (Pu.move (.tmp (v:=.int _ _) rfl)) ?_
          refine O.pu (Pu.move (.tmp (v:=.fi _ _) rfl)) ?_
          refine O.pu (Pu.move (.tmp (v:=.int _ _) rfl)) ?_
          refine O.pu (Pu.bin (.tmp rfl) .int U.sub64) ?_
          repeat (rw [giff] at h;obtain ⟨_,h⟩:=h)
          refine O.pu (U.rdI rfl rfl (.tmp rfl) (.tmp rfl) (by omega) (by omega)) ?_
          refine O.pu (Pu.loadR (.tmp rfl) (U.self rfl rfl rfl)) ?_
          refine O.pu (U.call (ss:=[]) (.cons (.tmp (v:=.int _ _) rfl) (.cons (.tmp (v:=.int _ _) rfl) (.cons .int .nil))) (.cons (.cl .int) (.cons (.cl .int) (.cons (.cl .int) .nil))) (add64_cs (by omega)) (.inl rfl) (.tupL (.cons .int (.cons .int .nil)))) ?_
          refine O.pu (Pu.move (.tmp (v:=.tup _) rfl)) ?_
          refine O.pu (Pu.extract (.tmp rfl) rfl) ?_
          refine O.pu (Pu.extract (.tmp rfl) rfl) ?_
          refine O.pu (Pu.assign (.tmp (v:=.int _ _) rfl)) ?_
          refine O.pu (Pu.assign (.tmp (v:=.int _ _) rfl)) ?_
          refine O.nil ?_
          refine X.seq ?_
          refine X.still ?_
          refine O.pu (Pu.move (.tmp (v:=.int _ _) rfl)) ?_
          refine O.pu (Pu.assign (.tmp (v:=.int _ _) rfl)) ?_
          refine O.nil ?_
          refine X.seq ?_
          refine X.seq ?_
          refine X.still ?_
          refine O.pu (Pu.move (.tmp (v:=.int _ _) rfl)) ?_
          refine O.pu (Pu.bin (.tmp rfl) .int .eql) ?_
          refine O.nil ?_
          refine X.condE (.tmp rfl) (fun c=>?_) (fun c=>?_)
          · rw [if_pos c] at h
            exact ⟨rfl,_,rfl,_,_,_,_,_,rfl,rfl,rfl,rfl,rfl,h⟩
          · rw [if_neg c] at h
            refine X.skip ?_
            refine X.seq ?_
            refine X.still ?_
            refine O.pu (Pu.move (.tmp (v:=.int _ _) rfl)) ?_
            refine O.pu (Pu.assign (.tmp (v:=.int _ _) rfl)) ?_
            refine O.nil ?_
            refine X.ret ?_
            cases h
            exact E.fin [] (.tmp (v:=.int _ _) rfl .nil) (.cons (.cl .int) .nil)
noncomputable def c100:Code:=Try.f100.body.getD .skip
theorem fn100:FnOk Try.prog 100 Try.f100 c100:=⟨Try.func100,rfl,by kernel_rfl,by kernel_rfl,mixed⟩
theorem quot_less.cs {k:Nat} {l0:List Int} {l1:List Int} {a2:Int} {r:Int×List Int} (h:quot_less.f k l0 l1 a2=some r):CS Try.prog 100 [.os 0 1 0 l0.length false, .fi .u64 l1, .int .u64 a2] ⟨some (0, .ints .u64 l0, .ints .u64 r.2,77),none⟩ [.int .u64 r.1]:=by
  have hl:=quot_less_len h
  unfold quot_less.f at h
  refine E.win fn100 rfl hl (.int) ?_
  refine X.seq ?_
  refine X.still ?_
  refine O.pu (Pu.assign .int) ?_
  refine O.nil ?_
  refine X.seq ?_
  refine X.still ?_
  refine O.pu (Pu.assign .int) ?_
  refine O.pu (Pu.assign .int) ?_
  refine O.nil ?_
  refine X.seq ?_
  refine X.seq ?_
  refine X.still ?_
  refine O.pu (Pu.move (.tmp (v:=.fi _ _) rfl)) ?_
  refine O.pu (Pu.lenI rfl (.tmp rfl)) ?_
  refine O.pu (Pu.move .int) ?_
  refine O.nil ?_
  refine X.block ?_
  refine X.inv (fun k s=>∃ x0 x1 x2 x7 x8 x14 x15 x16 n0,s.b 0=⟨1, .win, .ints .u64 x0,77⟩∧s.t 0 = .os 0 1 0 n0 false∧x0.length=n0∧s.t 1 = .fi .u64 x1∧s.t 2 = .int .u64 x2∧s.t 7 = .int .u64 x7∧s.t 8 = .int .u64 x8∧s.t 14 = .fi .u64 x14∧s.t 15 = .int .i64 x15∧s.t 16 = .int .i64 x16∧quot_less.l0 k x0 x1 x2 x7 x8 x14 x15 x16=some r) ?_ ?_ ⟨_,_,_,_,_,_,_,_,_,rfl,rfl,rfl,rfl,rfl,rfl,rfl,rfl,rfl,rfl,h⟩
  · rintro s ⟨_,_,_,_,_,_,_,_,_,_,_,_,_,_,_,_,_,_,_,h⟩;unfold quot_less.l0 at h;cases h
  · rintro k1 s1 ⟨x0,x1,x2,x7,x8,x14,x15,x16,n0,e0,e1,rfl,e3,e4,e5,e6,e7,e8,e9,h⟩
    unfold quot_less.l0 at h
    rw [St.fixB e0,St.fixT e1,St.fixT e3,St.fixT e4,St.fixT e5,St.fixT e6,St.fixT e7,St.fixT e8,St.fixT e9]
    refine X.seq ?_
    refine X.still ?_
    refine O.pu (Pu.bin (.tmp rfl) (.tmp rfl) .lss) ?_
    refine O.nil ?_
    refine X.seq ?_
    refine X.condP (.tmp rfl) (fun c=>?_) (fun c=>?_)
    · rw [if_pos c] at h
      refine X.skip ?_
      refine X.seq ?_
      refine X.block ?_
      refine X.seq ?_
      refine X.still ?_
      refine O.pu (Pu.move (.tmp (v:=.int _ _) rfl)) ?_
      repeat (rw [giff] at h;obtain ⟨_,h⟩:=h)
      refine O.pu (U.rdI rfl rfl (.tmp rfl) (.tmp rfl) (by omega) (by omega)) ?_
      refine O.pu (Pu.loadR (.tmp rfl) (U.self rfl rfl rfl)) ?_
      refine O.pu (Pu.assign (.tmp (v:=.int _ _) rfl)) ?_
      refine O.pu (Pu.assign (.tmp (v:=.int _ _) rfl)) ?_
      refine O.nil ?_
      refine X.seq ?_
      refine X.still ?_
      refine O.pu (Pu.move (.tmp (v:=.int _ _) rfl)) ?_
      refine O.pu (Pu.move (.tmp (v:=.int _ _) rfl)) ?_
      obtain ⟨q1,Hq1,h⟩:=Option.bind_eq_some_iff.1 h
      refine O.pu (U.call (ss:=[]) (.cons (.tmp (v:=.int _ _) rfl) (.cons (.tmp (v:=.int _ _) rfl) .nil)) (.cons (.cl .int) (.cons (.cl .int) .nil)) (bits_Mul64.cs Hq1) (.inl rfl) (.tupL (.cons .int (.cons .int .nil)))) ?_
      refine O.pu (Pu.move (.tmp (v:=.tup _) rfl)) ?_
      refine O.pu (Pu.extract (.tmp rfl) rfl) ?_
      refine O.pu (Pu.extract (.tmp rfl) rfl) ?_
      refine O.pu (Pu.assign (.tmp (v:=.int _ _) rfl)) ?_
      refine O.pu (Pu.assign (.tmp (v:=.int _ _) rfl)) ?_
      refine O.nil ?_
      refine X.seq ?_
      refine X.still ?_
      refine O.pu (Pu.assign .int) ?_
      refine O.nil ?_
      refine X.seq ?_
      refine X.still ?_
      refine O.pu (Pu.move (.tmp (v:=.int _ _) rfl)) ?_
      refine O.pu (Pu.move (.tmp (v:=.int _ _) rfl)) ?_
      repeat (rw [giff] at h;obtain ⟨_,h⟩:=h)
      refine O.pu (U.call (ss:=[]) (.cons (.tmp (v:=.int _ _) rfl) (.cons (.tmp (v:=.int _ _) rfl) (.cons .int .nil))) (.cons (.cl .int) (.cons (.cl .int) (.cons (.cl .int) .nil))) (add64_cs (by omega)) (.inl rfl) (.tupL (.cons .int (.cons .int .nil)))) ?_
      refine O.pu (Pu.move (.tmp (v:=.tup _) rfl)) ?_
      refine O.pu (Pu.extract (.tmp rfl) rfl) ?_
      refine O.pu (Pu.extract (.tmp rfl) rfl) ?_
      refine O.pu (Pu.assign (.tmp (v:=.int _ _) rfl)) ?_
      refine O.pu (Pu.assign (.tmp (v:=.int _ _) rfl)) ?_
      refine O.nil ?_
      refine X.seq ?_
      refine X.still ?_
      refine O.pu (Pu.move (.tmp (v:=.int _ _) rfl)) ?_
      refine O.pu (Pu.move (.tmp (v:=.int _ _) rfl)) ?_
      refine O.pu (Pu.bin (.tmp rfl) (.tmp rfl) .add) ?_
      refine O.pu (Pu.assign (.tmp (v:=.int _ _) rfl)) ?_
      refine O.nil ?_
      refine X.still ?_
      refine O.pu (Pu.move (.tmp (v:=.os _ _ _ _ _) rfl)) ?_
      refine O.pu (Pu.move (.tmp (v:=.int _ _) rfl)) ?_
      refine O.pu (Pu.move (.tmp (v:=.os _ _ _ _ _) rfl)) ?_
      refine O.pu (Pu.move (.tmp (v:=.int _ _) rfl)) ?_
      refine O.pu (U.indexO0 rfl (.tmp rfl) rfl rfl (.tmp rfl) (by first|omega|(simp only [List.length_set] at *;omega)) (by first|omega|(simp only [List.length_set] at *;omega)) rfl rfl) ?_
      refine O.pu (U.rdO (.tmp rfl) rfl rfl rfl rfl rfl) ?_
      refine O.pu (Pu.move (.tmp (v:=.int _ _) rfl)) ?_
      refine O.pu (Pu.move (.tmp (v:=.int _ _) rfl)) ?_
      refine O.pu (U.call (ss:=[]) (.cons (.tmp (v:=.int _ _) rfl) (.cons (.tmp (v:=.int _ _) rfl) (.cons (.tmp (v:=.int _ _) rfl) .nil))) (.cons (.cl .int) (.cons (.cl .int) (.cons (.cl .int) .nil))) (sub64_cs (by omega)) (.inl rfl) (.tupL (.cons .int (.cons .int .nil)))) ?_
      refine O.pu (Pu.move (.tmp (v:=.tup _) rfl)) ?_
      refine O.pu (Pu.extract (.tmp rfl) rfl) ?_
      refine O.pu (Pu.extract (.tmp rfl) rfl) ?_
      refine O.pu (U.indexO0 rfl (.tmp rfl) rfl rfl (.tmp rfl) (by first|omega|(simp only [List.length_set] at *;omega)) (by first|omega|(simp only [List.length_set] at *;omega)) rfl rfl) ?_
      refine O.ef0 (U.storeE (.tmp rfl) rfl rfl (.tmp (v:=.int _ _) rfl) rfl rfl (.whole (notBad_ne rfl) rfl) .ints) ?_
      refine O.pu (Pu.assign (.tmp (v:=.int _ _) rfl)) ?_
      refine O.nil ?_
      refine X.still ?_
      refine O.pu (Pu.bin (.tmp rfl) .int U.add64) ?_
      refine O.pu (Pu.move (.tmp (v:=.int _ _) rfl)) ?_
      refine O.nil ?_
      exact ⟨_,(by omega),_,_,_,_,_,_,_,_,_,rfl,rfl,(by first|rfl|(simp only [List.length_set];done)|(simp only [List.length_drop,List.length_take,List.length_append,List.length_set] at *;omega)),rfl,rfl,rfl,rfl,rfl,rfl,rfl,h⟩
    · rw [if_neg c] at h
      refine X.exit (B.out ?_)
      refine X.seq ?_
      refine X.still ?_
      refine O.pu (Pu.move (.tmp (v:=.os _ _ _ _ _) rfl)) ?_
      refine O.pu (Pu.move (.tmp (v:=.fi _ _) rfl)) ?_
      refine O.pu (Pu.lenI rfl (.tmp rfl)) ?_
      refine O.pu (Pu.move (.tmp (v:=.os _ _ _ _ _) rfl)) ?_
      refine O.pu (Pu.move (.tmp (v:=.fi _ _) rfl)) ?_
      refine O.pu (Pu.lenI rfl (.tmp rfl)) ?_
      repeat (rw [giff] at h;obtain ⟨_,h⟩:=h)
      refine O.pu (U.indexO0 rfl (.tmp rfl) rfl rfl (.tmp rfl) (by first|omega|(simp only [List.length_set] at *;omega)) (by first|omega|(simp only [List.length_set] at *;omega)) rfl rfl) ?_
      refine O.pu (U.rdO (.tmp rfl) rfl rfl rfl rfl rfl) ?_
      refine O.pu (Pu.move (.tmp (v:=.int _ _) rfl)) ?_
      refine O.pu (Pu.move (.tmp (v:=.int _ _) rfl)) ?_
      refine O.pu (U.call (ss:=[]) (.cons (.tmp (v:=.int _ _) rfl) (.cons (.tmp (v:=.int _ _) rfl) (.cons (.tmp (v:=.int _ _) rfl) .nil))) (.cons (.cl .int) (.cons (.cl .int) (.cons (.cl .int) .nil))) (sub64_cs (by omega)) (.inl rfl) (.tupL (.cons .int (.cons .int .nil)))) ?_
      refine O.pu (Pu.move (.tmp (v:=.tup _) rfl)) ?_
      refine O.pu (Pu.extract (.tmp rfl) rfl) ?_
      refine O.pu (Pu.extract (.tmp rfl) rfl) ?_
      refine O.pu (U.indexO0 rfl (.tmp rfl) rfl rfl (.tmp rfl) (by first|omega|(simp only [List.length_set] at *;omega)) (by first|omega|(simp only [List.length_set] at *;omega)) rfl rfl) ?_
      refine O.ef0 (U.storeE (.tmp rfl) rfl rfl (.tmp (v:=.int _ _) rfl) rfl rfl (.whole (notBad_ne rfl) rfl) .ints) ?_
      refine O.pu (Pu.assign (.tmp (v:=.int _ _) rfl)) ?_
      refine O.nil ?_
      refine X.seq ?_
      refine X.still ?_
      refine O.pu (Pu.move (.tmp (v:=.int _ _) rfl)) ?_
      refine O.pu (Pu.assign (.tmp (v:=.int _ _) rfl)) ?_
      refine O.nil ?_
      refine X.ret ?_
      cases h
      exact E.finW (.tmp (v:=.int _ _) rfl .nil) rfl
noncomputable def c101:Code:=Try.f101.body.getD .skip
theorem fn101:FnOk Try.prog 101 Try.f101 c101:=⟨Try.func101,rfl,by kernel_rfl,by kernel_rfl,mixed⟩
theorem quot_back.cs {k:Nat} {l0:List Int} {l1:List Int} {r:List Int} (h:quot_back.f k l0 l1=some r):CS Try.prog 101 [.os 0 1 0 l0.length false, .fi .u64 l1] ⟨some (0, .ints .u64 l0, .ints .u64 r,77),none⟩ []:=by
  have hl:=quot_back_len h
  unfold quot_back.f at h
  refine E.win fn101 rfl hl (.tupL .nil) ?_
  refine X.seq ?_
  refine X.still ?_
  refine O.pu (Pu.assign .int) ?_
  refine O.nil ?_
  refine X.seq ?_
  refine X.seq ?_
  refine X.still ?_
  refine O.pu (Pu.move (.tmp (v:=.fi _ _) rfl)) ?_
  refine O.pu (Pu.lenI rfl (.tmp rfl)) ?_
  refine O.pu (Pu.move .int) ?_
  refine O.nil ?_
  refine X.block ?_
  refine X.inv (fun k s=>∃ x0 x1 x4 x7 x8 x9 n0,s.b 0=⟨1, .win, .ints .u64 x0,77⟩∧s.t 0 = .os 0 1 0 n0 false∧x0.length=n0∧s.t 1 = .fi .u64 x1∧s.t 4 = .int .u64 x4∧s.t 7 = .fi .u64 x7∧s.t 8 = .int .i64 x8∧s.t 9 = .int .i64 x9∧quot_back.l0 k x0 x1 x4 x7 x8 x9=some r) ?_ ?_ ⟨_,_,_,_,_,_,_,rfl,rfl,rfl,rfl,rfl,rfl,rfl,rfl,h⟩
  · rintro s ⟨_,_,_,_,_,_,_,_,_,_,_,_,_,_,_,h⟩;unfold quot_back.l0 at h;cases h
  · rintro k1 s1 ⟨x0,x1,x4,x7,x8,x9,n0,e0,e1,rfl,e3,e4,e5,e6,e7,h⟩
    unfold quot_back.l0 at h
    rw [St.fixB e0,St.fixT e1,St.fixT e3,St.fixT e4,St.fixT e5,St.fixT e6,St.fixT e7]
    refine X.seq ?_
    refine X.still ?_
    refine O.pu (Pu.bin (.tmp rfl) (.tmp rfl) .lss) ?_
    refine O.nil ?_
    refine X.seq ?_
    refine X.condP (.tmp rfl) (fun c=>?_) (fun c=>?_)
    · rw [if_pos c] at h
      refine X.skip ?_
      refine X.seq ?_
      refine X.block ?_
      refine X.seq ?_
      refine X.still ?_
      refine O.pu (Pu.move (.tmp (v:=.int _ _) rfl)) ?_
      repeat (rw [giff] at h;obtain ⟨_,h⟩:=h)
      refine O.pu (U.rdI rfl rfl (.tmp rfl) (.tmp rfl) (by omega) (by omega)) ?_
      refine O.pu (Pu.loadR (.tmp rfl) (U.self rfl rfl rfl)) ?_
      refine O.pu (Pu.assign (.tmp (v:=.int _ _) rfl)) ?_
      refine O.pu (Pu.assign (.tmp (v:=.int _ _) rfl)) ?_
      refine O.nil ?_
      refine X.still ?_
      refine O.pu (Pu.move (.tmp (v:=.os _ _ _ _ _) rfl)) ?_
      refine O.pu (Pu.move (.tmp (v:=.int _ _) rfl)) ?_
      refine O.pu (Pu.move (.tmp (v:=.os _ _ _ _ _) rfl)) ?_
      refine O.pu (Pu.move (.tmp (v:=.int _ _) rfl)) ?_
      refine O.pu (U.indexO0 rfl (.tmp rfl) rfl rfl (.tmp rfl) (by first|omega|(simp only [List.length_set] at *;omega)) (by first|omega|(simp only [List.length_set] at *;omega)) rfl rfl) ?_
      refine O.pu (U.rdO (.tmp rfl) rfl rfl rfl rfl rfl) ?_
      refine O.pu (Pu.move (.tmp (v:=.int _ _) rfl)) ?_
      refine O.pu (Pu.move (.tmp (v:=.int _ _) rfl)) ?_
      refine O.pu (U.call (ss:=[]) (.cons (.tmp (v:=.int _ _) rfl) (.cons (.tmp (v:=.int _ _) rfl) (.cons (.tmp (v:=.int _ _) rfl) .nil))) (.cons (.cl .int) (.cons (.cl .int) (.cons (.cl .int) .nil))) (add64_cs (by omega)) (.inl rfl) (.tupL (.cons .int (.cons .int .nil)))) ?_
      refine O.pu (Pu.move (.tmp (v:=.tup _) rfl)) ?_
      refine O.pu (Pu.extract (.tmp rfl) rfl) ?_
      refine O.pu (Pu.extract (.tmp rfl) rfl) ?_
      refine O.pu (U.indexO0 rfl (.tmp rfl) rfl rfl (.tmp rfl) (by first|omega|(simp only [List.length_set] at *;omega)) (by first|omega|(simp only [List.length_set] at *;omega)) rfl rfl) ?_
      refine O.ef0 (U.storeE (.tmp rfl) rfl rfl (.tmp (v:=.int _ _) rfl) rfl rfl (.whole (notBad_ne rfl) rfl) .ints) ?_
      refine O.pu (Pu.assign (.tmp (v:=.int _ _) rfl)) ?_
      refine O.nil ?_
      refine X.still ?_
      refine O.pu (Pu.bin (.tmp rfl) .int U.add64) ?_
      refine O.pu (Pu.move (.tmp (v:=.int _ _) rfl)) ?_
      refine O.nil ?_
      exact ⟨_,(by omega),_,_,_,_,_,_,_,rfl,rfl,(by first|rfl|(simp only [List.length_set];done)|(simp only [List.length_drop,List.length_take,List.length_append,List.length_set] at *;omega)),rfl,rfl,rfl,rfl,rfl,h⟩
    · rw [if_neg c] at h
      refine X.exit (B.out ?_)
      refine X.still ?_
      refine O.pu (Pu.move (.tmp (v:=.os _ _ _ _ _) rfl)) ?_
      refine O.pu (Pu.move (.tmp (v:=.fi _ _) rfl)) ?_
      refine O.pu (Pu.lenI rfl (.tmp rfl)) ?_
      repeat (rw [giff] at h;obtain ⟨_,h⟩:=h)
      refine O.pu (U.indexO0 rfl (.tmp rfl) rfl rfl (.tmp rfl) (by first|omega|(simp only [List.length_set] at *;omega)) (by first|omega|(simp only [List.length_set] at *;omega)) rfl rfl) ?_
      refine O.pu (U.rdO (.tmp rfl) rfl rfl rfl rfl rfl) ?_
      refine O.pu (Pu.move (.tmp (v:=.int _ _) rfl)) ?_
      refine O.pu (Pu.bin (.tmp rfl) (.tmp rfl) .add) ?_
      refine O.pu (U.indexO0 rfl (.tmp rfl) rfl rfl (.tmp rfl) (by first|omega|(simp only [List.length_set] at *;omega)) (by first|omega|(simp only [List.length_set] at *;omega)) rfl rfl) ?_
      refine O.ef0 (U.storeE (.tmp rfl) rfl rfl (.tmp (v:=.int _ _) rfl) rfl rfl (.whole (notBad_ne rfl) rfl) .ints) ?_
      refine O.nil ?_
      cases h
      exact E.finW .nil rfl
noncomputable def c106:Code:=Try.f106.body.getD .skip
theorem fn106:FnOk Try.prog 106 Try.f106 c106:=⟨Try.func106,rfl,by kernel_rfl,by kernel_rfl,mixed⟩
theorem quot_wrong.cs {a0:Int} {r:Bool} (h:quot_wrong.f a0=some r):CS Try.prog 106 [.int .i64 a0] .no [.bool r]:=by
  unfold quot_wrong.f at h
  refine E.pure fn106 rfl ?_
  refine X.seq ?_
  refine X.still ?_
  refine O.pu (Pu.assign .bool) ?_
  refine O.nil ?_
  refine X.seq ?_
  refine X.still ?_
  refine O.pu (Pu.move (.tmp (v:=.int _ _) rfl)) ?_
  refine O.pu (Pu.bin (.tmp rfl) .int .lss) ?_
  refine O.pu (Pu.move (.tmp (v:=.bool _) rfl)) ?_
  refine O.splitP (fun c=>?_) (fun c=>?_)
  · rw [if_pos c] at h
    refine G.skip (W.f rfl rfl rfl) ?_
    refine G.skip (W.f rfl rfl rfl) ?_
    refine O.pu (Pu.pickT (.tmp rfl) .bool) ?_
    refine O.pu (Pu.assign (.tmp (v:=.bool _) rfl)) ?_
    refine O.nil ?_
    refine X.ret ?_
    cases h
    exact E.fin [] (.tmp (v:=.bool _) rfl .nil) (.cons (.cl .bool) .nil)
  · rw [if_neg c] at h
    refine G.pu (W.t rfl rfl) (Pu.move (.tmp (v:=.int _ _) rfl)) ?_
    refine G.pu (W.t rfl rfl) (Pu.bin (.tmp rfl) .int .gtr) ?_
    refine O.pu (Pu.pickF (.tmp rfl) (.tmp (v:=.bool _) rfl)) ?_
    refine O.pu (Pu.assign (.tmp (v:=.bool _) rfl)) ?_
    refine O.nil ?_
    refine X.ret ?_
    cases h
    exact E.fin [] (.tmp (v:=.bool _) rfl .nil) (.cons (.cl .bool) .nil)
noncomputable def c102:Code:=Try.f102.body.getD .skip
theorem fn102:FnOk Try.prog 102 Try.f102 c102:=⟨Try.func102,rfl,by kernel_rfl,by kernel_rfl,mixed⟩
theorem quot_Shr.cs {k:Nat} {l0_0:List Int} {a1:Int} {r:List Int×Int} (h:quot_Shr.f k l0_0 a1=some r):CS Try.prog 102 [.agg [.fi .u64 l0_0], .int .i64 a1] .no [.agg [.fi .u64 r.1], .int .i64 r.2]:=by
  unfold quot_Shr.f at h
  refine E.pure fn102 rfl ?_
  refine X.seq ?_
  refine X.still ?_
  refine O.puE (v':=.op 2 (1) 0 0) (b':=⟨1, .own,_,_⟩) (Pu.box (.tmp (v:=.agg _) rfl) rfl rfl) rfl rfl ?_
  refine O.puE (v':=.op 4 (1) 0 0) (b':=⟨1, .own,(.vals [.agg [.fi .u64 []]]),_⟩) Pu.alloc rfl rfl ?_
  refine O.pu (Pu.assign .int) ?_
  refine O.nil ?_
  refine X.seq ?_
  refine X.seq ?_
  refine X.still ?_
  refine O.pu (Pu.move (.tmp (v:=.int _ _) rfl)) ?_
  obtain ⟨q1,Hq1,h⟩:=Option.bind_eq_some_iff.1 h
  refine O.pu (U.call (ss:=[]) (.cons (.tmp (v:=.int _ _) rfl) .nil) (.cons (.cl .int) .nil) (quot_wrong.cs Hq1) (.inl rfl) (.bool)) ?_
  refine O.nil ?_
  refine X.cond (.tmp rfl) (fun c=>?_) (fun c=>?_)
  · rw [if_pos c] at h
    refine X.seq ?_
    refine X.still ?_
    refine O.pu (Pu.build rfl .nil) ?_
    refine O.ef0 (U.storeE (.tmp rfl) rfl rfl (.tmp (v:=.agg _) rfl) rfl rfl (.whole (notBad_ne rfl) rfl) .one) ?_
    refine O.pu (Pu.assign .int) ?_
    refine O.nil ?_
    refine X.ret ?_
    cases h
    exact E.fin [] (.cell rfl rfl (Mode.live_ne rfl) (U.whole rfl rfl) (.tmp (v:=.int _ _) rfl .nil)) (.cons (.cl (.aggL (.cons .fi .nil))) (.cons (.cl .int) .nil))
  · rw [if_neg (bf c)] at h
    refine X.skip ?_
    refine X.seq ?_
    refine X.still ?_
    refine O.pu (U.load (.tmp rfl) rfl rfl (U.whole rfl rfl)) ?_
    obtain ⟨q2,Hq2,h⟩:=Option.bind_eq_some_iff.1 h
    refine O.puE (v':=.os 13 (1) 0 _ true) (b':=⟨1, .own,_,_⟩) (U.callF (ss:=[]) (.cons (.tmp (v:=.agg _) rfl) .nil) (.cons (.cl (.aggL (.cons .fi .nil))) .nil) (nat_Nat_Limbs.cs Hq2)) rfl rfl ?_
    refine O.pu (Pu.assign (.tmp (v:=.os _ _ _ _ _) rfl)) ?_
    refine O.nil ?_
    refine X.seq ?_
    refine X.still ?_
    refine O.pu (Pu.move (.tmp (v:=.os _ _ _ _ _) rfl)) ?_
    refine O.pu (Pu.move (.tmp (v:=.int _ _) rfl)) ?_
    repeat first|(rw [giff] at h;obtain ⟨_,h⟩:=h)|rw [bdff] at h
    refine O.pu (Pu.bin (.tmp rfl) .int (U.quo64 (by omega))) ?_
    refine O.pu (Pu.move (.tmp (v:=.os _ _ _ _ _) rfl)) ?_
    refine O.pu (Pu.lenO rfl (.tmp rfl)) ?_
    refine O.pu (U.mn (.tmp rfl) (.tmp rfl)) ?_
    refine O.pu (U.sliceO0 rfl (.tmp rfl) rfl rfl ⟨rfl,rfl⟩ (.yes (.tmp rfl) (by omega)) .no .no (by omega) (by omega)) ?_
    refine O.ef (U.cutL (u':=1) (.tmp rfl) rfl (List.take_of_length_le (by simp only [List.length_drop];omega)) (by simp only [List.length_drop,List.length_take] <;> omega) rfl) ?_
    refine O.nil ?_
    refine X.seq ?_
    refine X.still ?_
    refine O.pu (Pu.move (.tmp (v:=.int _ _) rfl)) ?_
    refine O.pu (Pu.bin (.tmp rfl) .int (.rem (by omega))) ?_
    refine O.pu (U.convI rfl (.tmp rfl)) ?_
    refine O.pu (Pu.assign (.tmp (v:=.int _ _) rfl)) ?_
    refine O.nil ?_
    refine X.seq ?_
    refine X.seq ?_
    refine X.still ?_
    refine O.pu (Pu.move (.tmp (v:=.os _ _ _ _ _) rfl)) ?_
    refine O.pu (Pu.lenO rfl (.tmp rfl)) ?_
    refine O.pu (Pu.move .int) ?_
    refine O.nil ?_
    refine X.block ?_
    refine X.inv (fun k s=>∃ x6 x7 x25 x26 n6 u2 u4 u6 z2_0,s.b 6=⟨u6, .own, .ints .u64 x6,77⟩∧s.t 6 = .os 6 u6 0 n6 false∧x6.length=n6∧s.t 7 = .int .u64 x7∧s.t 25 = .int .i64 x25∧s.t 26 = .int .i64 x26∧s.t 2 = .op 2 u2 0 0∧s.b 2=⟨u2, .own, .vals [.agg [.fi .u64 z2_0]],24⟩∧s.t 4 = .op 4 u4 0 0∧s.b 4=⟨u4, .own, .vals [.agg [.fi .u64 []]],24⟩∧quot_Shr.l0 k x6 x7 x25 x26=some r) ?_ ?_ ⟨_,_,_,_,_,_,_,_,_,rfl,rfl,rfl,rfl,rfl,rfl,rfl,rfl,rfl,rfl,h⟩
    · rintro s ⟨_,_,_,_,_,_,_,_,_,_,_,_,_,_,_,_,_,_,_,h⟩;unfold quot_Shr.l0 at h;cases h
    · rintro k1 s1 ⟨x6,x7,x25,x26,n6,u2,u4,u6,z2_0,e0,e1,rfl,e3,e4,e5,e6,e7,e8,e9,h⟩
      unfold quot_Shr.l0 at h
      rw [St.fixB e0,St.fixT e1,St.fixT e3,St.fixT e4,St.fixT e5,St.fixT e6,St.fixB e7,St.fixT e8,St.fixB e9]
      refine X.seq ?_
      refine X.still ?_
      refine O.pu (Pu.bin (.tmp rfl) (.tmp rfl) .lss) ?_
      refine O.nil ?_
      refine X.seq ?_
      refine X.condP (.tmp rfl) (fun c=>?_) (fun c=>?_)
      · rw [if_pos c] at h
        refine X.skip ?_
        refine X.seq ?_
        refine X.block ?_
        refine X.seq ?_
        refine X.still ?_
        refine O.pu (Pu.move (.tmp (v:=.int _ _) rfl)) ?_
        refine O.pu (Pu.assign (.tmp (v:=.int _ _) rfl)) ?_
        refine O.nil ?_
        refine X.seq ?_
        refine X.still ?_
        refine O.pu (Pu.move (.tmp (v:=.os _ _ _ _ _) rfl)) ?_
        refine O.pu (Pu.move (.tmp (v:=.int _ _) rfl)) ?_
        repeat first|(rw [giff] at h;obtain ⟨_,h⟩:=h)|rw [bdff] at h
        refine O.pu (U.indexO0 rfl (.tmp rfl) rfl rfl (.tmp rfl) (by first|omega|(simp only [List.length_set] at *;omega)) (by first|omega|(simp only [List.length_set] at *;omega)) rfl rfl) ?_
        refine O.pu (U.rdO (.tmp rfl) rfl rfl rfl rfl rfl) ?_
        refine O.pu (Pu.move (.tmp (v:=.int _ _) rfl)) ?_
        refine O.pu (Pu.bin (.tmp rfl) (.tmp rfl) (U.shrW (by omega))) ?_
        refine O.pu (U.indexO0 rfl (.tmp rfl) rfl rfl (.tmp rfl) (by first|omega|(simp only [List.length_set] at *;omega)) (by first|omega|(simp only [List.length_set] at *;omega)) rfl rfl) ?_
        refine O.ef0 (U.storeE (.tmp rfl) rfl rfl (.tmp (v:=.int _ _) rfl) rfl rfl (.whole (notBad_ne rfl) rfl) .ints) ?_
        refine O.nil ?_
        refine X.seq ?_
        refine X.still ?_
        refine O.pu (Pu.move (.tmp (v:=.int _ _) rfl)) ?_
        refine O.pu (Pu.bin (.tmp rfl) .int U.add64) ?_
        refine O.pu (Pu.move (.tmp (v:=.os _ _ _ _ _) rfl)) ?_
        refine O.pu (Pu.lenO rfl (.tmp rfl)) ?_
        refine O.pu (Pu.bin (.tmp rfl) (.tmp rfl) .lss) ?_
        refine O.nil ?_
        refine X.condP (.tmp rfl) (fun c=>?_) (fun c=>?_)
        · rw [if_pos c] at h
          refine X.drawn ?_
          refine D.pu (Pu.move (.tmp (v:=.os _ _ _ _ _) rfl)) ?_
          refine D.pu (Pu.move (.tmp (v:=.int _ _) rfl)) ?_
          repeat (rw [giff] at h;obtain ⟨_,h⟩:=h)
          refine D.pu (U.indexO0 rfl (.tmp rfl) rfl rfl (.tmp rfl) (by first|omega|(simp only [List.length_set] at *;omega)) (by first|omega|(simp only [List.length_set] at *;omega)) rfl rfl) ?_
          refine D.pu (U.rdO (.tmp rfl) rfl rfl rfl rfl rfl) ?_
          refine D.pu (Pu.move (.tmp (v:=.os _ _ _ _ _) rfl)) ?_
          refine D.pu (Pu.move (.tmp (v:=.int _ _) rfl)) ?_
          refine D.pu (Pu.bin (.tmp rfl) .int U.add64) ?_
          refine D.pu (U.indexO0 rfl (.tmp rfl) rfl rfl (.tmp rfl) (by first|omega|(simp only [List.length_set] at *;omega)) (by first|omega|(simp only [List.length_set] at *;omega)) rfl rfl) ?_
          refine D.pu (U.rdO (.tmp rfl) rfl rfl rfl rfl rfl) ?_
          refine D.pu (Pu.move (.tmp (v:=.int _ _) rfl)) ?_
          refine D.pu (Pu.bin .int (.tmp rfl) .sub) ?_
          refine D.pu (Pu.bin (.tmp rfl) (.tmp rfl) (U.shlW (by omega))) ?_
          refine D.pu (Pu.bin (.tmp rfl) (.tmp rfl) .bor) ?_
          refine D.pu (U.indexO0 rfl (.tmp rfl) rfl rfl (.tmp rfl) (by first|omega|(simp only [List.length_set] at *;omega)) (by first|omega|(simp only [List.length_set] at *;omega)) rfl rfl) ?_
          refine D.ef0 (C.storeE (.tmp rfl) rfl rfl (.tmp (v:=.int _ _) rfl) rfl rfl (.whole (notBad_ne rfl) rfl) .ints) ?_
          refine D.nil (by kernel_rfl) ?_
          refine X.still ?_
          refine O.pu (Pu.bin (.tmp rfl) .int U.add64) ?_
          refine O.pu (Pu.move (.tmp (v:=.int _ _) rfl)) ?_
          refine O.nil ?_
          exact ⟨_,(by omega),_,_,_,_,_,_,_,_,_,rfl,rfl,(by first|rfl|(simp only [List.length_set];done)|(simp only [List.length_drop,List.length_take,List.length_append,List.length_set] at *;omega)),rfl,rfl,rfl,rfl,rfl,rfl,rfl,h⟩
        · rw [if_neg c] at h
          refine X.skip ?_
          refine X.still ?_
          refine O.pu (Pu.bin (.tmp rfl) .int U.add64) ?_
          refine O.pu (Pu.move (.tmp (v:=.int _ _) rfl)) ?_
          refine O.nil ?_
          exact ⟨_,(by omega),_,_,_,_,_,_,_,_,_,rfl,rfl,(by first|rfl|(simp only [List.length_set];done)|(simp only [List.length_drop,List.length_take,List.length_append,List.length_set] at *;omega)),rfl,rfl,rfl,rfl,rfl,rfl,rfl,h⟩
      · rw [if_neg c] at h
        refine X.exit (B.out ?_)
        refine X.seq ?_
        refine X.still ?_
        refine O.pu (Pu.move (.tmp (v:=.os _ _ _ _ _) rfl)) ?_
        obtain ⟨q3,Hq3,h⟩:=Option.bind_eq_some_iff.1 h
        refine O.ef (U.callZ (ss:=[6]) (.cons (.tmp (v:=.os _ _ _ _ _) rfl) .nil) (.cons (.osIf (by simp) rfl (Mode.live_ne rfl) rfl (by first|rfl|(simp only [List.length_set];done)|(simp only [List.length_drop,List.length_take,List.length_append,List.length_set] at *;omega))) .nil) (nat_Of.cs Hq3) (.aggL (.cons .fi .nil)) (nowin rfl)) ?_
        refine O.ef0 (U.storeE (.tmp rfl) rfl rfl (.tmp (v:=.agg _) rfl) rfl rfl (.whole (notBad_ne rfl) rfl) .one) ?_
        refine O.pu (Pu.assign .int) ?_
        refine O.nil ?_
        refine X.ret ?_
        cases h
        exact E.fin [] (.cell rfl rfl (Mode.live_ne rfl) (U.whole rfl rfl) (.tmp (v:=.int _ _) rfl .nil)) (.cons (.cl (.aggL (.cons .fi .nil))) (.cons (.cl .int) .nil))
noncomputable def c84:Code:=Try.f84.body.getD .skip
theorem fn84:FnOk Try.prog 84 Try.f84 c84:=⟨Try.func84,rfl,by kernel_rfl,by kernel_rfl,mixed⟩
theorem quot_long.cs {k:Nat} {l0:List Int} {l1:List Int} {r:List Int×List Int} (h:quot_long.f k l0 l1=some r):CS Try.prog 84 [.fi .u64 l0, .fi .u64 l1] .no [.fi .u64 r.1, .fi .u64 r.2]:=by
  unfold quot_long.f at h
  refine E.pure fn84 rfl ?_
  refine X.seq ?_
  refine X.still ?_
  refine O.pu (Pu.assign (.nilI (k:=.u64))) ?_
  refine O.pu (Pu.assign (.nilI (k:=.u64))) ?_
  refine O.nil ?_
  refine X.seq ?_
  refine X.still ?_
  refine O.pu (Pu.move (.tmp (v:=.fi _ _) rfl)) ?_
  refine O.pu (Pu.move (.tmp (v:=.fi _ _) rfl)) ?_
  refine O.pu (Pu.lenI rfl (.tmp rfl)) ?_
  refine O.pu (Pu.bin (.tmp rfl) .int U.sub64) ?_
  repeat (rw [giff] at h;obtain ⟨_,h⟩:=h)
  refine O.pu (U.rdI rfl rfl (.tmp rfl) (.tmp rfl) (by omega) (by omega)) ?_
  refine O.pu (Pu.loadR (.tmp rfl) (U.self rfl rfl rfl)) ?_
  obtain ⟨q1,Hq1,h⟩:=Option.bind_eq_some_iff.1 h
  refine O.pu (U.call (ss:=[]) (.cons (.tmp (v:=.int _ _) rfl) .nil) (.cons (.cl .int) .nil) (bits_LeadingZeros64.cs Hq1) (.inl rfl) (.int)) ?_
  refine O.pu (U.convI rfl (.tmp rfl)) ?_
  refine O.pu (Pu.assign (.tmp (v:=.int _ _) rfl)) ?_
  refine O.nil ?_
  refine X.seq ?_
  refine X.drawn ?_
  refine D.pu (Pu.move (.tmp (v:=.fi _ _) rfl)) ?_
  refine D.pu (Pu.move (.tmp (v:=.int _ _) rfl)) ?_
  obtain ⟨q2,Hq2,h⟩:=Option.bind_eq_some_iff.1 h
  refine D.puE (v':=.os 24 (1) 0 _ true) (b':=⟨1, .own,_,_⟩) (U.callF (ss:=[]) (.cons (.tmp (v:=.fi _ _) rfl) (.cons (.tmp (v:=.int _ _) rfl) .nil)) (.cons (.cl .fi) (.cons (.cl .int) .nil)) (quot_moved.cs Hq2)) rfl rfl ?_
  refine D.pu (Pu.move (.tmp (v:=.fi _ _) rfl)) ?_
  refine D.pu (Pu.move (.tmp (v:=.int _ _) rfl)) ?_
  obtain ⟨q3,Hq3,h⟩:=Option.bind_eq_some_iff.1 h
  refine D.puE (v':=.os 27 (1) 0 _ true) (b':=⟨1, .own,_,_⟩) (U.callF (ss:=[]) (.cons (.tmp (v:=.fi _ _) rfl) (.cons (.tmp (v:=.int _ _) rfl) .nil)) (.cons (.cl .fi) (.cons (.cl .int) .nil)) (quot_moved.cs Hq3)) rfl rfl ?_
  refine D.pu (Pu.move (.tmp (v:=.fi _ _) rfl)) ?_
  refine D.pu (Pu.lenI rfl (.tmp rfl)) ?_
  repeat first|(rw [giff] at h;obtain ⟨_,h⟩:=h)|rw [bdff] at h
  refine D.pu (U.sliceO0 rfl (.tmp rfl) rfl rfl ⟨rfl,rfl⟩ .no (.yes (.tmp rfl) (by omega)) .no (by omega) (by omega)) ?_
  refine D.pu (Pu.assign (.tmp (v:=.os _ _ _ _ _) rfl)) ?_
  refine D.any (U.cutL (u':=1) (.tmp rfl) rfl cutH (by simp only [List.length_drop,List.length_take] <;> omega) rfl) ?_
  refine D.nil (by kernel_rfl) ?_
  refine X.seq ?_
  refine X.still ?_
  refine O.pu (Pu.move (.tmp (v:=.os _ _ _ _ _) rfl)) ?_
  refine O.pu (Pu.lenO rfl (.tmp rfl)) ?_
  refine O.pu (Pu.move (.tmp (v:=.os _ _ _ _ _) rfl)) ?_
  refine O.pu (Pu.lenO rfl (.tmp rfl)) ?_
  refine O.pu (Pu.bin (.tmp rfl) (.tmp rfl) U.sub64) ?_
  refine O.puE (v':=.os 36 (1) 0 _ true) (b':=⟨1, .own,_,_⟩) (U.makeI rfl rfl (.tmp rfl) (.tmp rfl) (by omega) (by omega) rfl (by omega)) rfl rfl ?_
  refine O.pu (Pu.assign (.tmp (v:=.os _ _ _ _ _) rfl)) ?_
  refine O.nil ?_
  refine X.seq ?_
  refine X.seq ?_
  refine X.still ?_
  refine O.pu (Pu.move (.tmp (v:=.os _ _ _ _ _) rfl)) ?_
  refine O.pu (Pu.lenO rfl (.tmp rfl)) ?_
  refine O.pu (Pu.bin (.tmp rfl) .int U.sub64) ?_
  refine O.pu (Pu.assign (.tmp (v:=.int _ _) rfl)) ?_
  refine O.nil ?_
  refine X.block ?_
  refine X.inv (fun k s=>∃ x0 x1 x6 x7 x8 n0 n1 n7 u1 u24 u36,s.b 24=⟨u24, .own, .ints .u64 x0,77⟩∧s.t 0 = .os 24 u24 0 n0 true∧x0.length=n0∧s.b 1=⟨u1, .own, .ints .u64 x1,77⟩∧s.t 1 = .os 1 u1 0 n1 false∧x1.length=n1∧s.t 6 = .int .u64 x6∧s.b 36=⟨u36, .own, .ints .u64 x7,77⟩∧s.t 7 = .os 36 u36 0 n7 true∧x7.length=n7∧s.t 8 = .int .i64 x8∧quot_long.l0 k x0 x1 x6 x7 x8=some r) ?_ ?_ ⟨_,_,_,_,_,_,_,_,_,_,_,rfl,rfl,rfl,rfl,rfl,rfl,rfl,rfl,rfl,rfl,rfl,h⟩
  · rintro s ⟨_,_,_,_,_,_,_,_,_,_,_,_,_,_,_,_,_,_,_,_,_,_,h⟩;unfold quot_long.l0 at h;cases h
  · rintro k1 s1 ⟨x0,x1,x6,x7,x8,n0,n1,n7,u1,u24,u36,e0,e1,rfl,e3,e4,rfl,e6,e7,e8,rfl,e10,h⟩
    unfold quot_long.l0 at h
    rw [St.fixB e0,St.fixT e1,St.fixB e3,St.fixT e4,St.fixT e6,St.fixB e7,St.fixT e8,St.fixT e10]
    refine X.seq ?_
    refine X.seq ?_
    refine X.still ?_
    refine O.pu (Pu.move (.tmp (v:=.int _ _) rfl)) ?_
    refine O.pu (Pu.bin (.tmp rfl) .int .geq) ?_
    refine O.nil ?_
    refine X.condP (.tmp rfl) (fun c=>?_) (fun c=>?_)
    · rw [if_pos c] at h
      refine X.skip ?_
      refine X.seq ?_
      refine X.block ?_
      refine X.seq ?_
      refine X.still ?_
      refine O.pu (Pu.move (.tmp (v:=.os _ _ _ _ _) rfl)) ?_
      refine O.pu (Pu.move (.tmp (v:=.int _ _) rfl)) ?_
      refine O.pu (Pu.move (.tmp (v:=.int _ _) rfl)) ?_
      refine O.pu (Pu.move (.tmp (v:=.os _ _ _ _ _) rfl)) ?_
      refine O.pu (Pu.lenO rfl (.tmp rfl)) ?_
      refine O.pu (Pu.bin (.tmp rfl) (.tmp rfl) U.add64) ?_
      refine O.pu (Pu.bin (.tmp rfl) .int U.add64) ?_
      repeat (rw [giff] at h;obtain ⟨_,h⟩:=h)
      refine O.pu (U.sliceO0 rfl (.tmp rfl) rfl rfl ⟨rfl,rfl⟩ (.yes (.tmp rfl) (by omega)) (.yes (.tmp rfl) (by omega)) .no (by omega) (by omega)) ?_
      refine O.pu (Pu.assign (.tmp (v:=.os _ _ _ _ _) rfl)) ?_
      refine O.nil ?_
      refine X.seq ?_
      refine X.still ?_
      refine O.pu (Pu.move (.tmp (v:=.os _ _ _ _ _) rfl)) ?_
      refine O.pu (Pu.move (.tmp (v:=.os _ _ _ _ _) rfl)) ?_
      obtain ⟨q4,Hq4,h⟩:=Option.bind_eq_some_iff.1 h
      obtain ⟨⟨_,_,_⟩,Hq4⟩:=gi Hq4
      refine O.pu (U.call (ss:=[1,24]) (.cons (.tmp (v:=.os _ _ _ _ _) rfl) (.cons (.tmp (v:=.os _ _ _ _ _) rfl) .nil)) (.cons (Snap.osW (by simp) rfl (Mode.live_ne rfl) rfl (by omega)) (.cons (.osIf (by simp) rfl (Mode.live_ne rfl) rfl (by first|rfl|(simp only [List.length_set];done)|(simp only [List.length_drop,List.length_take,List.length_append,List.length_set] at *;omega))) .nil)) (quot_guess.cs Hq4) (.inr (.int)) (.int)) ?_
      refine O.pu (Pu.assign (.tmp (v:=.int _ _) rfl)) ?_
      refine O.nil ?_
      refine X.seq ?_
      refine X.seq ?_
      refine X.still ?_
      refine O.pu (Pu.move (.tmp (v:=.os _ _ _ _ _) rfl)) ?_
      refine O.pu (Pu.move (.tmp (v:=.os _ _ _ _ _) rfl)) ?_
      refine O.pu (Pu.move (.tmp (v:=.int _ _) rfl)) ?_
      obtain ⟨q5,Hq5,h⟩:=Option.bind_eq_some_iff.1 h
      obtain ⟨⟨_,_,_⟩,q6,Hq6,rfl⟩:=win_e Hq5
      have hlq6:=quot_less_len Hq6
      refine O.ef (U.callW (res:=[.int _ _]) (ss:=[1]) (.cons (.tmp (v:=.os _ _ _ _ _) rfl) (.cons (.tmp (v:=.os _ _ _ _ _) rfl) (.cons (.tmp (v:=.int _ _) rfl) .nil))) (.hole (.cons (.osIf (by simp) rfl (Mode.live_ne rfl) rfl (by first|rfl|(simp only [List.length_set];done)|(simp only [List.length_drop,List.length_take,List.length_append,List.length_set] at *;omega))) (.cons (.cl .int) .nil))) rfl rfl rfl rfl rfl (by simp only [List.length_drop,List.length_take,List.length_append,List.length_set] at *;omega) (by simp only [List.length_drop,List.length_take,List.length_append,List.length_set] at *;omega) (by simp only [List.length_drop,List.length_take,List.length_append,List.length_set] at *;omega) (by simp only [List.length_drop,List.length_take,List.length_append,List.length_set] at *;omega) (.int) (quot_less.cs Hq6)) ?_
      refine O.pu (Pu.assign (.tmp (v:=.int _ _) rfl)) ?_
      refine O.nil ?_
      refine X.block ?_
      refine X.inv (fun k s=>k≤k1∧∃ x0 x1 x6 x7 x8 x10 x11 n0 n1 n7 u1 u24 u36,s.b 24=⟨u24, .own, .ints .u64 x0,77⟩∧s.t 0 = .os 24 u24 0 n0 true∧x0.length=n0∧s.b 1=⟨u1, .own, .ints .u64 x1,77⟩∧s.t 1 = .os 1 u1 0 n1 false∧x1.length=n1∧s.t 6 = .int .u64 x6∧s.b 36=⟨u36, .own, .ints .u64 x7,77⟩∧s.t 7 = .os 36 u36 0 n7 true∧x7.length=n7∧s.t 8 = .int .i64 x8∧s.t 10 = .int .u64 x10∧s.t 11 = .int .u64 x11∧s.t 9 = .os 24 u24 x8.toNat ((wrap64 ((wrap64 (x8 + (x1.length:Int))) + 1)).toNat - x8.toNat) false∧0≤x8∧x8 < wrap64 ((wrap64 (x8 + (x1.length:Int))) + 1)∧wrap64 ((wrap64 (x8 + (x1.length:Int))) + 1)≤(x0.length:Int)∧quot_long.l1 k x0 x1 x6 x7 x8 x10 x11=some r) ?_ ?_ ⟨(by omega),_,_,_,_,_,_,_,_,_,_,_,_,_,rfl,rfl,(by first|rfl|(simp only [List.length_set];done)|(simp only [List.length_drop,List.length_take,List.length_append,List.length_set] at *;omega)),rfl,rfl,(by first|rfl|(simp only [List.length_set];done)|(simp only [List.length_drop,List.length_take,List.length_append,List.length_set] at *;omega)),rfl,rfl,rfl,(by first|rfl|(simp only [List.length_set];done)|(simp only [List.length_drop,List.length_take,List.length_append,List.length_set] at *;omega)),rfl,rfl,rfl,rfl,(by first|omega|(simp only [List.length_drop,List.length_take,List.length_append,List.length_set] at *;omega)),(by first|omega|(simp only [List.length_drop,List.length_take,List.length_append,List.length_set] at *;omega)),(by first|omega|(simp only [List.length_drop,List.length_take,List.length_append,List.length_set] at *;omega)),h⟩
      · rintro s ⟨_,_,_,_,_,_,_,_,_,_,_,_,_,_,_,_,_,_,_,_,_,_,_,_,_,_,_,_,_,_,_,h⟩;unfold quot_long.l1 at h;cases h
      · rintro k2 s2 ⟨kl2,x0,x1,x6,x7,x8,x10,x11,n0,n1,n7,u1,u24,u36,e0,e1,rfl,e3,e4,rfl,e6,e7,e8,rfl,e10,e11,e12,e13,_,_,_,h⟩
        unfold quot_long.l1 at h
        rw [St.fixB e0,St.fixT e1,St.fixB e3,St.fixT e4,St.fixT e6,St.fixB e7,St.fixT e8,St.fixT e10,St.fixT e11,St.fixT e12,St.fixT e13]
        refine X.seq ?_
        refine X.seq ?_
        refine X.still ?_
        refine O.pu (Pu.move (.tmp (v:=.int _ _) rfl)) ?_
        refine O.pu (Pu.bin (.tmp rfl) .int .neq) ?_
        refine O.nil ?_
        refine X.condN (.tmp rfl) (fun c=>?_) (fun c=>?_)
        · rw [if_neg c] at h
          refine X.skip ?_
          refine X.block ?_
          refine X.seq ?_
          refine X.still ?_
          refine O.pu (Pu.move (.tmp (v:=.int _ _) rfl)) ?_
          refine O.pu (Pu.bin (.tmp rfl) .int .sub) ?_
          refine O.pu (Pu.assign (.tmp (v:=.int _ _) rfl)) ?_
          refine O.nil ?_
          refine X.seq ?_
          refine X.still ?_
          refine O.pu (Pu.move (.tmp (v:=.os _ _ _ _ _) rfl)) ?_
          refine O.pu (Pu.move (.tmp (v:=.os _ _ _ _ _) rfl)) ?_
          obtain ⟨q7,Hq7,h⟩:=Option.bind_eq_some_iff.1 h
          obtain ⟨⟨_,_,_⟩,q8,Hq8,rfl⟩:=win_e Hq7
          have hlq8:=quot_back_len Hq8
          refine O.ef (U.callW (res:=[]) (ss:=[1]) (.cons (.tmp (v:=.os _ _ _ _ _) rfl) (.cons (.tmp (v:=.os _ _ _ _ _) rfl) .nil)) (.hole (.cons (.osIf (by simp) rfl (Mode.live_ne rfl) rfl (by first|rfl|(simp only [List.length_set];done)|(simp only [List.length_drop,List.length_take,List.length_append,List.length_set] at *;omega))) .nil)) rfl rfl rfl rfl rfl (by simp only [List.length_drop,List.length_take,List.length_append,List.length_set] at *;omega) (by simp only [List.length_drop,List.length_take,List.length_append,List.length_set] at *;omega) (by simp only [List.length_drop,List.length_take,List.length_append,List.length_set] at *;omega) (by simp only [List.length_drop,List.length_take,List.length_append,List.length_set] at *;omega) (.tupL .nil) (quot_back.cs Hq8)) ?_
          refine O.nil ?_
          refine X.seq ?_
          refine X.still ?_
          refine O.pu (Pu.move (.tmp (v:=.os _ _ _ _ _) rfl)) ?_
          refine O.pu (Pu.move (.tmp (v:=.os _ _ _ _ _) rfl)) ?_
          refine O.pu (Pu.lenO rfl (.tmp rfl)) ?_
          repeat (rw [giff] at h;obtain ⟨_,h⟩:=h)
          refine O.pu (U.indexW (n:=((x1.length:Int) + x8)) rfl (.tmp rfl) rfl rfl (.tmp rfl) (by omega) (by omega) rfl rfl (by omega)) ?_
          refine O.pu (U.rdO (.tmp rfl) rfl rfl rfl rfl rfl) ?_
          refine O.pu (Pu.bin (.tmp rfl) .int .eql) ?_
          refine O.nil ?_
          refine X.condE (.tmp rfl) (fun c=>?_) (fun c=>?_)
          · rw [if_pos c] at h
            refine X.still ?_
            refine O.pu (Pu.assign .int) ?_
            refine O.nil ?_
            exact ⟨_,(by omega),(by omega),_,_,_,_,_,_,_,_,_,_,_,_,_,rfl,rfl,(by first|rfl|(simp only [List.length_set];done)|(simp only [List.length_drop,List.length_take,List.length_append,List.length_set] at *;omega)),rfl,rfl,(by first|rfl|(simp only [List.length_set];done)|(simp only [List.length_drop,List.length_take,List.length_append,List.length_set] at *;omega)),rfl,rfl,rfl,(by first|rfl|(simp only [List.length_set];done)|(simp only [List.length_drop,List.length_take,List.length_append,List.length_set] at *;omega)),rfl,rfl,rfl,rfl,(by first|omega|(simp only [List.length_drop,List.length_take,List.length_append,List.length_set] at *;omega)),(by first|omega|(simp only [List.length_drop,List.length_take,List.length_append,List.length_set] at *;omega)),(by first|omega|(simp only [List.length_drop,List.length_take,List.length_append,List.length_set] at *;omega)),h⟩
          · rw [if_neg c] at h
            refine X.skip ?_
            exact ⟨_,(by omega),(by omega),_,_,_,_,_,_,_,_,_,_,_,_,_,rfl,rfl,(by first|rfl|(simp only [List.length_set];done)|(simp only [List.length_drop,List.length_take,List.length_append,List.length_set] at *;omega)),rfl,rfl,(by first|rfl|(simp only [List.length_set];done)|(simp only [List.length_drop,List.length_take,List.length_append,List.length_set] at *;omega)),rfl,rfl,rfl,(by first|rfl|(simp only [List.length_set];done)|(simp only [List.length_drop,List.length_take,List.length_append,List.length_set] at *;omega)),rfl,rfl,rfl,rfl,(by first|omega|(simp only [List.length_drop,List.length_take,List.length_append,List.length_set] at *;omega)),(by first|omega|(simp only [List.length_drop,List.length_take,List.length_append,List.length_set] at *;omega)),(by first|omega|(simp only [List.length_drop,List.length_take,List.length_append,List.length_set] at *;omega)),h⟩
        · rw [if_pos c] at h
          refine X.exit (B.out ?_)
          refine X.still ?_
          refine O.pu (Pu.move (.tmp (v:=.os _ _ _ _ _) rfl)) ?_
          refine O.pu (Pu.move (.tmp (v:=.int _ _) rfl)) ?_
          refine O.pu (Pu.move (.tmp (v:=.int _ _) rfl)) ?_
          repeat (rw [giff] at h;obtain ⟨_,h⟩:=h)
          refine O.pu (U.indexO0 rfl (.tmp rfl) rfl rfl (.tmp rfl) (by first|omega|(simp only [List.length_set] at *;omega)) (by first|omega|(simp only [List.length_set] at *;omega)) rfl rfl) ?_
          refine O.ef0 (U.storeE (.tmp rfl) rfl rfl (.tmp (v:=.int _ _) rfl) rfl rfl (.whole (notBad_ne rfl) rfl) .ints) ?_
          refine O.nil ?_
          refine X.still ?_
          refine O.pu (Pu.move (.tmp (v:=.int _ _) rfl)) ?_
          refine O.pu (Pu.bin (.tmp rfl) .int U.sub64) ?_
          refine O.pu (Pu.assign (.tmp (v:=.int _ _) rfl)) ?_
          refine O.nil ?_
          exact ⟨_,(by omega),_,_,_,_,_,_,_,_,_,_,_,rfl,rfl,(by first|rfl|(simp only [List.length_set];done)|(simp only [List.length_drop,List.length_take,List.length_append,List.length_set] at *;omega)),rfl,rfl,(by first|rfl|(simp only [List.length_set];done)|(simp only [List.length_drop,List.length_take,List.length_append,List.length_set] at *;omega)),rfl,rfl,rfl,(by first|rfl|(simp only [List.length_set];done)|(simp only [List.length_drop,List.length_take,List.length_append,List.length_set] at *;omega)),rfl,h⟩
    · rw [if_neg c] at h
      refine X.exit (B.out ?_)
      refine X.seq ?_
      refine X.still ?_
      refine O.pu (Pu.move (.tmp (v:=.os _ _ _ _ _) rfl)) ?_
      obtain ⟨q9,Hq9,h⟩:=Option.bind_eq_some_iff.1 h
      refine O.ef (U.callZ (ss:=[24]) (.cons (.tmp (v:=.os _ _ _ _ _) rfl) .nil) (.cons (.osIf (by simp) rfl (Mode.live_ne rfl) rfl (by first|rfl|(simp only [List.length_set];done)|(simp only [List.length_drop,List.length_take,List.length_append,List.length_set] at *;omega))) .nil) (nat_Of.cs Hq9) (.aggL (.cons .fi .nil)) (nowin rfl)) ?_
      refine O.pu (Pu.move (.tmp (v:=.int _ _) rfl)) ?_
      refine O.pu (U.conv64 rfl (.tmp rfl)) ?_
      obtain ⟨q10,Hq10,h⟩:=Option.bind_eq_some_iff.1 h
      refine O.pu (U.call (ss:=[]) (.cons (.tmp (v:=.agg _) rfl) (.cons (.tmp (v:=.int _ _) rfl) .nil)) (.cons (.cl (.aggL (.cons .fi .nil))) (.cons (.cl .int) .nil)) (quot_Shr.cs Hq10) (.inl rfl) (.tupL (.cons (.aggL (.cons .fi .nil)) (.cons .int .nil)))) ?_
      refine O.pu (Pu.move (.tmp (v:=.tup _) rfl)) ?_
      refine O.pu (Pu.extract (.tmp rfl) rfl) ?_
      refine O.pu (Pu.extract (.tmp rfl) rfl) ?_
      refine O.puE (v':=.op 12 ((s1.b 12).ver + 1) 0 0) (b':=⟨(s1.b 12).ver + 1, .own,(.vals [.agg [.fi .u64 []]]),_⟩) Pu.alloc rfl rfl ?_
      refine O.ef0 (U.storeE (.tmp rfl) rfl rfl (.tmp (v:=.agg _) rfl) rfl rfl (.whole (notBad_ne rfl) rfl) .one) ?_
      refine O.pu (Pu.assign (.tmp (v:=.int _ _) rfl)) ?_
      refine O.nil ?_
      refine X.seq ?_
      refine X.still ?_
      refine O.pu (Pu.move (.tmp (v:=.os _ _ _ _ _) rfl)) ?_
      refine O.pu (U.load (.tmp rfl) rfl rfl (U.whole rfl rfl)) ?_
      obtain ⟨q11,Hq11,h⟩:=Option.bind_eq_some_iff.1 h
      refine O.puE (v':=.os 86 ((s1.b 86).ver + 1) 0 _ true) (b':=⟨(s1.b 86).ver + 1, .own,_,_⟩) (U.callF (ss:=[]) (.cons (.tmp (v:=.agg _) rfl) .nil) (.cons (.cl (.aggL (.cons .fi .nil))) .nil) (nat_Nat_Limbs.cs Hq11)) rfl rfl ?_
      refine O.pu (Pu.assign (.tmp (v:=.os _ _ _ _ _) rfl)) ?_
      refine O.pu (Pu.assign (.tmp (v:=.os _ _ _ _ _) rfl)) ?_
      refine O.nil ?_
      refine X.ret ?_
      cases h
      exact E.fin [36,86] (.tmp (v:=.os _ _ _ _ _) rfl (.tmp (v:=.os _ _ _ _ _) rfl .nil)) (.cons (.osIf (by simp) rfl (Mode.live_ne rfl) rfl (by first|rfl|(simp only [List.length_set];done)|(simp only [List.length_drop,List.length_take,List.length_append,List.length_set] at *;omega))) (.cons (.osIf (by simp) rfl (Mode.live_ne rfl) rfl (by first|rfl|(simp only [List.length_set];done)|(simp only [List.length_drop,List.length_take,List.length_append,List.length_set] at *;omega))) .nil))
noncomputable def c64:Code:=Try.f64.body.getD .skip
theorem fn64:FnOk Try.prog 64 Try.f64 c64:=⟨Try.func64,rfl,by kernel_rfl,by kernel_rfl,mixed⟩
theorem quot_Div.cs {k:Nat} {l0_0:List Int} {l1_0:List Int} {r:List Int×List Int×Int} (h:quot_Div.f k l0_0 l1_0=some r):CS Try.prog 64 [.agg [.fi .u64 l0_0], .agg [.fi .u64 l1_0]] .no [.agg [.fi .u64 r.1], .agg [.fi .u64 r.2.1], .int .i64 r.2.2]:=by
  unfold quot_Div.f at h
  refine E.pure fn64 rfl ?_
  refine X.seq ?_
  refine X.still ?_
  refine O.puE (v':=.op 2 (1) 0 0) (b':=⟨1, .own,_,_⟩) (Pu.box (.tmp (v:=.agg _) rfl) rfl rfl) rfl rfl ?_
  refine O.puE (v':=.op 3 (1) 0 0) (b':=⟨1, .own,_,_⟩) (Pu.box (.tmp (v:=.agg _) rfl) rfl rfl) rfl rfl ?_
  refine O.puE (v':=.op 4 (1) 0 0) (b':=⟨1, .own,(.vals [.agg [.fi .u64 []]]),_⟩) Pu.alloc rfl rfl ?_
  refine O.puE (v':=.op 5 (1) 0 0) (b':=⟨1, .own,(.vals [.agg [.fi .u64 []]]),_⟩) Pu.alloc rfl rfl ?_
  refine O.pu (Pu.assign .int) ?_
  refine O.nil ?_
  refine X.seq ?_
  refine X.seq ?_
  refine X.still ?_
  refine O.pu (U.load (.tmp rfl) rfl rfl (U.whole rfl rfl)) ?_
  obtain ⟨q1,Hq1,h⟩:=Option.bind_eq_some_iff.1 h
  refine O.pu (U.call (ss:=[]) (.cons (.tmp (v:=.agg _) rfl) .nil) (.cons (.cl (.aggL (.cons .fi .nil))) .nil) (nat_Nat_Zero.cs Hq1) (.inl rfl) (.bool)) ?_
  refine O.nil ?_
  refine X.cond (.tmp rfl) (fun c=>?_) (fun c=>?_)
  · rw [if_pos c] at h
    refine X.seq ?_
    refine X.still ?_
    refine O.pu (Pu.build rfl .nil) ?_
    refine O.pu (Pu.build rfl .nil) ?_
    refine O.ef0 (U.storeE (.tmp rfl) rfl rfl (.tmp (v:=.agg _) rfl) rfl rfl (.whole (notBad_ne rfl) rfl) .one) ?_
    refine O.ef0 (U.storeE (.tmp rfl) rfl rfl (.tmp (v:=.agg _) rfl) rfl rfl (.whole (notBad_ne rfl) rfl) .one) ?_
    refine O.pu (Pu.assign .int) ?_
    refine O.nil ?_
    refine X.ret ?_
    cases h
    exact E.fin [] (.cell rfl rfl (Mode.live_ne rfl) (U.whole rfl rfl) (.cell rfl rfl (Mode.live_ne rfl) (U.whole rfl rfl) (.tmp (v:=.int _ _) rfl .nil))) (.cons (.cl (.aggL (.cons .fi .nil))) (.cons (.cl (.aggL (.cons .fi .nil))) (.cons (.cl .int) .nil)))
  · rw [if_neg (bf c)] at h
    refine X.skip ?_
    refine X.seq ?_
    refine X.seq ?_
    refine X.still ?_
    refine O.pu (U.load (.tmp rfl) rfl rfl (U.whole rfl rfl)) ?_
    refine O.pu (U.load (.tmp rfl) rfl rfl (U.whole rfl rfl)) ?_
    obtain ⟨q2,Hq2,h⟩:=Option.bind_eq_some_iff.1 h
    refine O.pu (U.call (ss:=[]) (.cons (.tmp (v:=.agg _) rfl) (.cons (.tmp (v:=.agg _) rfl) .nil)) (.cons (.cl (.aggL (.cons .fi .nil))) (.cons (.cl (.aggL (.cons .fi .nil))) .nil)) (nat_Nat_Cmp.cs Hq2) (.inl rfl) (.int)) ?_
    refine O.pu (Pu.bin (.tmp rfl) .int .lss) ?_
    refine O.nil ?_
    refine X.condP (.tmp rfl) (fun c=>?_) (fun c=>?_)
    · rw [if_pos c] at h
      refine X.seq ?_
      refine X.drawn ?_
      refine D.pu (Pu.build rfl .nil) ?_
      refine D.pu (U.load (.tmp rfl) rfl rfl (U.whole rfl rfl)) ?_
      refine D.ef0 (C.storeE (.tmp rfl) rfl rfl (.tmp (v:=.agg _) rfl) rfl rfl (.whole (notBad_ne rfl) rfl) .one) ?_
      refine D.ef0 (C.storeE (.tmp rfl) rfl rfl (.tmp (v:=.agg _) rfl) rfl rfl (.whole (notBad_ne rfl) rfl) .one) ?_
      refine D.pu (Pu.assign .int) ?_
      refine D.nil (by kernel_rfl) ?_
      refine X.ret ?_
      cases h
      exact E.fin [] (.cell rfl rfl (Mode.live_ne rfl) (U.whole rfl rfl) (.cell rfl rfl (Mode.live_ne rfl) (U.whole rfl rfl) (.tmp (v:=.int _ _) rfl .nil))) (.cons (.cl (.aggL (.cons .fi .nil))) (.cons (.cl (.aggL (.cons .fi .nil))) (.cons (.cl .int) .nil)))
    · rw [if_neg c] at h
      refine X.skip ?_
      refine X.seq ?_
      refine X.drawn ?_
      refine D.pu (U.load (.tmp rfl) rfl rfl (U.whole rfl rfl)) ?_
      obtain ⟨q3,Hq3,h⟩:=Option.bind_eq_some_iff.1 h
      refine D.puE (v':=.os 24 (1) 0 _ true) (b':=⟨1, .own,_,_⟩) (U.callF (ss:=[]) (.cons (.tmp (v:=.agg _) rfl) .nil) (.cons (.cl (.aggL (.cons .fi .nil))) .nil) (nat_Nat_Limbs.cs Hq3)) rfl rfl ?_
      refine D.pu (U.load (.tmp rfl) rfl rfl (U.whole rfl rfl)) ?_
      obtain ⟨q4,Hq4,h⟩:=Option.bind_eq_some_iff.1 h
      refine D.puE (v':=.os 26 (1) 0 _ true) (b':=⟨1, .own,_,_⟩) (U.callF (ss:=[]) (.cons (.tmp (v:=.agg _) rfl) .nil) (.cons (.cl (.aggL (.cons .fi .nil))) .nil) (nat_Nat_Limbs.cs Hq4)) rfl rfl ?_
      refine D.pu (Pu.assign (.tmp (v:=.os _ _ _ _ _) rfl)) ?_
      refine D.pu (Pu.assign (.tmp (v:=.os _ _ _ _ _) rfl)) ?_
      refine D.nil (by kernel_rfl) ?_
      refine X.seq ?_
      refine X.seq ?_
      refine X.still ?_
      refine O.pu (Pu.move (.tmp (v:=.os _ _ _ _ _) rfl)) ?_
      refine O.pu (Pu.lenO rfl (.tmp rfl)) ?_
      refine O.pu (Pu.bin (.tmp rfl) .int .eql) ?_
      refine O.nil ?_
      refine X.condE (.tmp rfl) (fun c=>?_) (fun c=>?_)
      · rw [if_pos c] at h
        refine X.seq ?_
        refine X.still ?_
        refine O.pu (Pu.move (.tmp (v:=.os _ _ _ _ _) rfl)) ?_
        refine O.pu (Pu.move (.tmp (v:=.os _ _ _ _ _) rfl)) ?_
        repeat (rw [giff] at h;obtain ⟨_,h⟩:=h)
        refine O.pu (U.indexO0 rfl (.tmp rfl) rfl rfl .int (by first|omega|(simp only [List.length_set] at *;omega)) (by first|omega|(simp only [List.length_set] at *;omega)) rfl rfl) ?_
        refine O.pu (U.rdO (.tmp rfl) rfl rfl rfl rfl rfl) ?_
        obtain ⟨q5,Hq5,h⟩:=Option.bind_eq_some_iff.1 h
        refine O.ef (U.callZ (ss:=[24]) (.cons (.tmp (v:=.os _ _ _ _ _) rfl) (.cons (.tmp (v:=.int _ _) rfl) .nil)) (.cons (.osIf (by simp) rfl (Mode.live_ne rfl) rfl (by first|rfl|(simp only [List.length_set];done)|(simp only [List.length_drop,List.length_take,List.length_append,List.length_set] at *;omega))) (.cons (.cl .int) .nil)) (quot_by.cs Hq5) (.tupL (.cons .fi (.cons .int .nil))) (nowin rfl)) ?_
        refine O.pu (Pu.move (.tmp (v:=.tup _) rfl)) ?_
        refine O.pu (Pu.extract (.tmp rfl) rfl) ?_
        refine O.pu (Pu.extract (.tmp rfl) rfl) ?_
        refine O.pu (Pu.assign (.tmp (v:=.fi _ _) rfl)) ?_
        refine O.pu (Pu.assign (.tmp (v:=.int _ _) rfl)) ?_
        refine O.nil ?_
        refine X.seq ?_
        refine X.still ?_
        refine O.pu (Pu.move (.tmp (v:=.fi _ _) rfl)) ?_
        obtain ⟨q6,Hq6,h⟩:=Option.bind_eq_some_iff.1 h
        refine O.pu (U.call (ss:=[]) (.cons (.tmp (v:=.fi _ _) rfl) .nil) (.cons (.cl .fi) .nil) (nat_Of.cs Hq6) (.inl rfl) (.aggL (.cons .fi .nil))) ?_
        refine O.pu (Pu.move (.tmp (v:=.int _ _) rfl)) ?_
        refine O.puE (v':=.os 41 (1) 0 _ true) (b':=⟨1, .own,_,_⟩) (U.litI rfl rfl (.cons (.tmp (v:=.int _ _) rfl) .nil) rfl rfl) rfl rfl ?_
        obtain ⟨q7,Hq7,h⟩:=Option.bind_eq_some_iff.1 h
        refine O.ef (U.callZ (ss:=[41]) (.cons (.tmp (v:=.os _ _ _ _ _) rfl) .nil) (.cons (.osIf (by simp) rfl (Mode.live_ne rfl) rfl (by first|rfl|(simp only [List.length_set];done)|(simp only [List.length_drop,List.length_take,List.length_append,List.length_set] at *;omega))) .nil) (nat_Of.cs Hq7) (.aggL (.cons .fi .nil)) (nowin rfl)) ?_
        refine O.ef0 (U.storeE (.tmp rfl) rfl rfl (.tmp (v:=.agg _) rfl) rfl rfl (.whole (notBad_ne rfl) rfl) .one) ?_
        refine O.ef0 (U.storeE (.tmp rfl) rfl rfl (.tmp (v:=.agg _) rfl) rfl rfl (.whole (notBad_ne rfl) rfl) .one) ?_
        refine O.pu (Pu.assign .int) ?_
        refine O.nil ?_
        refine X.ret ?_
        cases h
        exact E.fin [] (.cell rfl rfl (Mode.live_ne rfl) (U.whole rfl rfl) (.cell rfl rfl (Mode.live_ne rfl) (U.whole rfl rfl) (.tmp (v:=.int _ _) rfl .nil))) (.cons (.cl (.aggL (.cons .fi .nil))) (.cons (.cl (.aggL (.cons .fi .nil))) (.cons (.cl .int) .nil)))
      · rw [if_neg c] at h
        refine X.skip ?_
        refine X.seq ?_
        refine X.still ?_
        refine O.pu (Pu.move (.tmp (v:=.os _ _ _ _ _) rfl)) ?_
        refine O.pu (Pu.move (.tmp (v:=.os _ _ _ _ _) rfl)) ?_
        obtain ⟨q8,Hq8,h⟩:=Option.bind_eq_some_iff.1 h
        refine O.ef (U.callZ (ss:=[24,26]) (.cons (.tmp (v:=.os _ _ _ _ _) rfl) (.cons (.tmp (v:=.os _ _ _ _ _) rfl) .nil)) (.cons (.osIf (by simp) rfl (Mode.live_ne rfl) rfl (by first|rfl|(simp only [List.length_set];done)|(simp only [List.length_drop,List.length_take,List.length_append,List.length_set] at *;omega))) (.cons (.osIf (by simp) rfl (Mode.live_ne rfl) rfl (by first|rfl|(simp only [List.length_set];done)|(simp only [List.length_drop,List.length_take,List.length_append,List.length_set] at *;omega))) .nil)) (quot_long.cs Hq8) (.tupL (.cons .fi (.cons .fi .nil))) (nowin rfl)) ?_
        refine O.pu (Pu.move (.tmp (v:=.tup _) rfl)) ?_
        refine O.pu (Pu.extract (.tmp rfl) rfl) ?_
        refine O.pu (Pu.extract (.tmp rfl) rfl) ?_
        refine O.pu (Pu.assign (.tmp (v:=.fi _ _) rfl)) ?_
        refine O.pu (Pu.assign (.tmp (v:=.fi _ _) rfl)) ?_
        refine O.nil ?_
        refine X.seq ?_
        refine X.still ?_
        refine O.pu (Pu.move (.tmp (v:=.fi _ _) rfl)) ?_
        obtain ⟨q9,Hq9,h⟩:=Option.bind_eq_some_iff.1 h
        refine O.pu (U.call (ss:=[]) (.cons (.tmp (v:=.fi _ _) rfl) .nil) (.cons (.cl .fi) .nil) (nat_Of.cs Hq9) (.inl rfl) (.aggL (.cons .fi .nil))) ?_
        refine O.pu (Pu.move (.tmp (v:=.fi _ _) rfl)) ?_
        obtain ⟨q10,Hq10,h⟩:=Option.bind_eq_some_iff.1 h
        refine O.pu (U.call (ss:=[]) (.cons (.tmp (v:=.fi _ _) rfl) .nil) (.cons (.cl .fi) .nil) (nat_Of.cs Hq10) (.inl rfl) (.aggL (.cons .fi .nil))) ?_
        refine O.ef0 (U.storeE (.tmp rfl) rfl rfl (.tmp (v:=.agg _) rfl) rfl rfl (.whole (notBad_ne rfl) rfl) .one) ?_
        refine O.ef0 (U.storeE (.tmp rfl) rfl rfl (.tmp (v:=.agg _) rfl) rfl rfl (.whole (notBad_ne rfl) rfl) .one) ?_
        refine O.pu (Pu.assign .int) ?_
        refine O.nil ?_
        refine X.ret ?_
        cases h
        exact E.fin [] (.cell rfl rfl (Mode.live_ne rfl) (U.whole rfl rfl) (.cell rfl rfl (Mode.live_ne rfl) (U.whole rfl rfl) (.tmp (v:=.int _ _) rfl .nil))) (.cons (.cl (.aggL (.cons .fi .nil))) (.cons (.cl (.aggL (.cons .fi .nil))) (.cons (.cl .int) .nil)))
noncomputable def c80:Code:=Try.f80.body.getD .skip
theorem fn80:FnOk Try.prog 80 Try.f80 c80:=⟨Try.func80,rfl,by kernel_rfl,by kernel_rfl,mixed⟩
theorem quot_Gcd.cs {k:Nat} {l0_0:List Int} {l1_0:List Int} {r:List Int} (h:quot_Gcd.f k l0_0 l1_0=some r):CS Try.prog 80 [.agg [.fi .u64 l0_0], .agg [.fi .u64 l1_0]] .no [.agg [.fi .u64 r]]:=by
  unfold quot_Gcd.f at h
  refine E.pure fn80 rfl ?_
  refine X.seq ?_
  refine X.still ?_
  refine O.puE (v':=.op 2 (1) 0 0) (b':=⟨1, .own,_,_⟩) (Pu.box (.tmp (v:=.agg _) rfl) rfl rfl) rfl rfl ?_
  refine O.puE (v':=.op 3 (1) 0 0) (b':=⟨1, .own,_,_⟩) (Pu.box (.tmp (v:=.agg _) rfl) rfl rfl) rfl rfl ?_
  refine O.puE (v':=.op 4 (1) 0 0) (b':=⟨1, .own,(.vals [.agg [.fi .u64 []]]),_⟩) Pu.alloc rfl rfl ?_
  refine O.nil ?_
  refine X.seq ?_
  refine X.block ?_
  refine X.inv (fun k s=>∃ x289000 x290000 u2 u3 u4,s.t 2 = .op 2 u2 0 0∧s.b 2=⟨u2, .own, .vals [.agg [.fi .u64 x289000]],24⟩∧s.t 3 = .op 3 u3 0 0∧s.b 3=⟨u3, .own, .vals [.agg [.fi .u64 x290000]],24⟩∧s.t 4 = .op 4 u4 0 0∧s.b 4=⟨u4, .own, .vals [.agg [.fi .u64 []]],24⟩∧quot_Gcd.l0 k x289000 x290000=some r) ?_ ?_ ⟨_,_,_,_,_,rfl,rfl,rfl,rfl,rfl,rfl,h⟩
  · rintro s ⟨_,_,_,_,_,_,_,_,_,_,_,h⟩;unfold quot_Gcd.l0 at h;cases h
  · rintro k1 s1 ⟨x289000,x290000,u2,u3,u4,e0,e1,e2,e3,e4,e5,h⟩
    unfold quot_Gcd.l0 at h
    rw [St.fixT e0,St.fixB e1,St.fixT e2,St.fixB e3,St.fixT e4,St.fixB e5]
    refine X.seq ?_
    refine X.seq ?_
    refine X.still ?_
    refine O.pu (U.load (.tmp rfl) rfl rfl (U.whole rfl rfl)) ?_
    obtain ⟨q1,Hq1,h⟩:=Option.bind_eq_some_iff.1 h
    refine O.pu (U.call (ss:=[]) (.cons (.tmp (v:=.agg _) rfl) .nil) (.cons (.cl (.aggL (.cons .fi .nil))) .nil) (nat_Nat_Zero.cs Hq1) (.inl rfl) (.bool)) ?_
    refine O.pu (Pu.un (.tmp rfl) .not) ?_
    refine O.nil ?_
    refine X.condNot (.tmp rfl) (fun c=>?_) (fun c=>?_)
    · rw [if_neg (bf c)] at h
      refine X.skip ?_
      refine X.block ?_
      refine X.seq ?_
      refine X.still ?_
      refine O.pu (U.load (.tmp rfl) rfl rfl (U.whole rfl rfl)) ?_
      refine O.pu (U.load (.tmp rfl) rfl rfl (U.whole rfl rfl)) ?_
      obtain ⟨q2,Hq2,h⟩:=Option.bind_eq_some_iff.1 h
      refine O.pu (U.call (ss:=[]) (.cons (.tmp (v:=.agg _) rfl) (.cons (.tmp (v:=.agg _) rfl) .nil)) (.cons (.cl (.aggL (.cons .fi .nil))) (.cons (.cl (.aggL (.cons .fi .nil))) .nil)) (quot_Div.cs Hq2) (.inl rfl) (.tupL (.cons (.aggL (.cons .fi .nil)) (.cons (.aggL (.cons .fi .nil)) (.cons .int .nil))))) ?_
      refine O.pu (Pu.move (.tmp (v:=.tup _) rfl)) ?_
      refine O.pu (Pu.extract (.tmp rfl) rfl) ?_
      refine O.pu (Pu.extract (.tmp rfl) rfl) ?_
      refine O.pu (Pu.extract (.tmp rfl) rfl) ?_
      refine O.puE (v':=.op 5 ((s1.b 5).ver + 1) 0 0) (b':=⟨(s1.b 5).ver + 1, .own,(.vals [.agg [.fi .u64 []]]),_⟩) Pu.alloc rfl rfl ?_
      refine O.puE (v':=.op 6 ((s1.b 6).ver + 1) 0 0) (b':=⟨(s1.b 6).ver + 1, .own,(.vals [.agg [.fi .u64 []]]),_⟩) Pu.alloc rfl rfl ?_
      refine O.ef0 (U.storeE (.tmp rfl) rfl rfl (.tmp (v:=.agg _) rfl) rfl rfl (.whole (notBad_ne rfl) rfl) .one) ?_
      refine O.ef0 (U.storeE (.tmp rfl) rfl rfl (.tmp (v:=.agg _) rfl) rfl rfl (.whole (notBad_ne rfl) rfl) .one) ?_
      refine O.pu (Pu.assign (.tmp (v:=.int _ _) rfl)) ?_
      refine O.nil ?_
      refine X.drawn ?_
      refine D.pu (U.load (.tmp rfl) rfl rfl (U.whole rfl rfl)) ?_
      refine D.pu (U.load (.tmp rfl) rfl rfl (U.whole rfl rfl)) ?_
      refine D.ef0 (C.storeE (.tmp rfl) rfl rfl (.tmp (v:=.agg _) rfl) rfl rfl (.whole (notBad_ne rfl) rfl) .one) ?_
      refine D.ef0 (C.storeE (.tmp rfl) rfl rfl (.tmp (v:=.agg _) rfl) rfl rfl (.whole (notBad_ne rfl) rfl) .one) ?_
      refine D.nil (by kernel_rfl) ?_
      exact ⟨_,(by omega),_,_,_,_,_,rfl,rfl,rfl,rfl,rfl,rfl,h⟩
    · rw [if_pos c] at h
      refine X.exit (B.out ?_)
      refine X.seq ?_
      refine X.still ?_
      refine O.pu (U.load (.tmp rfl) rfl rfl (U.whole rfl rfl)) ?_
      refine O.ef0 (U.storeE (.tmp rfl) rfl rfl (.tmp (v:=.agg _) rfl) rfl rfl (.whole (notBad_ne rfl) rfl) .one) ?_
      refine O.nil ?_
      refine X.ret ?_
      cases h
      exact E.fin [] (.cell rfl rfl (Mode.live_ne rfl) (U.whole rfl rfl) .nil) (.cons (.cl (.aggL (.cons .fi .nil))) .nil)
noncomputable def c54:Code:=Try.f54.body.getD .skip
theorem fn54:FnOk Try.prog 54 Try.f54 c54:=⟨Try.func54,rfl,by kernel_rfl,by kernel_rfl,mixed⟩
theorem frac_made.cs {k:Nat} {l0_0:List Int} {a0_1:Bool} {l1_0:List Int} {r:List Int×Bool×List Int} (h:frac_made.f k l0_0 a0_1 l1_0=some r):CS Try.prog 54 [.agg [.fi .u64 l0_0, .bool a0_1], .agg [.fi .u64 l1_0]] .no [.agg [.fi .u64 r.1, .bool r.2.1, .fi .u64 r.2.2]]:=by
  unfold frac_made.f at h
  refine E.pure fn54 rfl ?_
  refine X.seq ?_
  refine X.still ?_
  refine O.puE (v':=.op 2 (1) 0 0) (b':=⟨1, .own,_,_⟩) (Pu.box (.tmp (v:=.agg _) rfl) rfl rfl) rfl rfl ?_
  refine O.puE (v':=.op 3 (1) 0 0) (b':=⟨1, .own,_,_⟩) (Pu.box (.tmp (v:=.agg _) rfl) rfl rfl) rfl rfl ?_
  refine O.puE (v':=.op 4 (1) 0 0) (b':=⟨1, .own,(.vals [.agg [.fi .u64 [], .bool false, .fi .u64 []]]),_⟩) Pu.alloc rfl rfl ?_
  refine O.nil ?_
  refine X.seq ?_
  refine X.drawn ?_
  refine D.pu (U.load (.tmp rfl) rfl rfl (U.whole rfl rfl)) ?_
  obtain ⟨q1,Hq1,h⟩:=Option.bind_eq_some_iff.1 h
  refine D.pu (U.call (ss:=[]) (.cons (.tmp (v:=.agg _) rfl) .nil) (.cons (.cl (.aggL (.cons .fi (.cons .bool .nil)))) .nil) (whole_Int_Abs.cs Hq1) (.inl rfl) (.aggL (.cons .fi .nil))) ?_
  refine D.pu (U.load (.tmp rfl) rfl rfl (U.whole rfl rfl)) ?_
  obtain ⟨q2,Hq2,h⟩:=Option.bind_eq_some_iff.1 h
  refine D.pu (U.call (ss:=[]) (.cons (.tmp (v:=.agg _) rfl) (.cons (.tmp (v:=.agg _) rfl) .nil)) (.cons (.cl (.aggL (.cons .fi .nil))) (.cons (.cl (.aggL (.cons .fi .nil))) .nil)) (quot_Gcd.cs Hq2) (.inl rfl) (.aggL (.cons .fi .nil))) ?_
  refine D.puE (v':=.op 5 (1) 0 0) (b':=⟨1, .own,(.vals [.agg [.fi .u64 []]]),_⟩) Pu.alloc rfl rfl ?_
  refine D.ef0 (C.storeE (.tmp rfl) rfl rfl (.tmp (v:=.agg _) rfl) rfl rfl (.whole (notBad_ne rfl) rfl) .one) ?_
  refine D.nil (by kernel_rfl) ?_
  refine X.seq ?_
  refine X.drawn ?_
  refine D.pu (U.load (.tmp rfl) rfl rfl (U.whole rfl rfl)) ?_
  obtain ⟨q3,Hq3,h⟩:=Option.bind_eq_some_iff.1 h
  refine D.pu (U.call (ss:=[]) (.cons (.tmp (v:=.agg _) rfl) .nil) (.cons (.cl (.aggL (.cons .fi (.cons .bool .nil)))) .nil) (whole_Int_Abs.cs Hq3) (.inl rfl) (.aggL (.cons .fi .nil))) ?_
  refine D.pu (U.load (.tmp rfl) rfl rfl (U.whole rfl rfl)) ?_
  obtain ⟨q4,Hq4,h⟩:=Option.bind_eq_some_iff.1 h
  refine D.pu (U.call (ss:=[]) (.cons (.tmp (v:=.agg _) rfl) (.cons (.tmp (v:=.agg _) rfl) .nil)) (.cons (.cl (.aggL (.cons .fi .nil))) (.cons (.cl (.aggL (.cons .fi .nil))) .nil)) (quot_Div.cs Hq4) (.inl rfl) (.tupL (.cons (.aggL (.cons .fi .nil)) (.cons (.aggL (.cons .fi .nil)) (.cons .int .nil))))) ?_
  refine D.pu (Pu.move (.tmp (v:=.tup _) rfl)) ?_
  refine D.pu (Pu.extract (.tmp rfl) rfl) ?_
  refine D.pu (Pu.extract (.tmp rfl) rfl) ?_
  refine D.pu (Pu.extract (.tmp rfl) rfl) ?_
  refine D.puE (v':=.op 6 (1) 0 0) (b':=⟨1, .own,(.vals [.agg [.fi .u64 []]]),_⟩) Pu.alloc rfl rfl ?_
  refine D.puE (v':=.op 7 (1) 0 0) (b':=⟨1, .own,(.vals [.agg [.fi .u64 []]]),_⟩) Pu.alloc rfl rfl ?_
  refine D.ef0 (C.storeE (.tmp rfl) rfl rfl (.tmp (v:=.agg _) rfl) rfl rfl (.whole (notBad_ne rfl) rfl) .one) ?_
  refine D.ef0 (C.storeE (.tmp rfl) rfl rfl (.tmp (v:=.agg _) rfl) rfl rfl (.whole (notBad_ne rfl) rfl) .one) ?_
  refine D.pu (Pu.assign (.tmp (v:=.int _ _) rfl)) ?_
  refine D.nil (by kernel_rfl) ?_
  refine X.seq ?_
  refine X.still ?_
  refine O.pu (U.load (.tmp rfl) rfl rfl (U.whole rfl rfl)) ?_
  refine O.pu (U.load (.tmp rfl) rfl rfl (U.whole rfl rfl)) ?_
  obtain ⟨q5,Hq5,h⟩:=Option.bind_eq_some_iff.1 h
  refine O.pu (U.call (ss:=[]) (.cons (.tmp (v:=.agg _) rfl) (.cons (.tmp (v:=.agg _) rfl) .nil)) (.cons (.cl (.aggL (.cons .fi .nil))) (.cons (.cl (.aggL (.cons .fi .nil))) .nil)) (quot_Div.cs Hq5) (.inl rfl) (.tupL (.cons (.aggL (.cons .fi .nil)) (.cons (.aggL (.cons .fi .nil)) (.cons .int .nil))))) ?_
  refine O.pu (Pu.move (.tmp (v:=.tup _) rfl)) ?_
  refine O.pu (Pu.extract (.tmp rfl) rfl) ?_
  refine O.pu (Pu.extract (.tmp rfl) rfl) ?_
  refine O.pu (Pu.extract (.tmp rfl) rfl) ?_
  refine O.puE (v':=.op 9 (1) 0 0) (b':=⟨1, .own,(.vals [.agg [.fi .u64 []]]),_⟩) Pu.alloc rfl rfl ?_
  refine O.puE (v':=.op 10 (1) 0 0) (b':=⟨1, .own,(.vals [.agg [.fi .u64 []]]),_⟩) Pu.alloc rfl rfl ?_
  refine O.ef0 (U.storeE (.tmp rfl) rfl rfl (.tmp (v:=.agg _) rfl) rfl rfl (.whole (notBad_ne rfl) rfl) .one) ?_
  refine O.ef0 (U.storeE (.tmp rfl) rfl rfl (.tmp (v:=.agg _) rfl) rfl rfl (.whole (notBad_ne rfl) rfl) .one) ?_
  refine O.pu (Pu.assign (.tmp (v:=.int _ _) rfl)) ?_
  refine O.nil ?_
  refine X.seq ?_
  refine X.drawn ?_
  refine D.pu (U.load (.tmp rfl) rfl rfl (U.whole rfl rfl)) ?_
  refine D.puE (v':=.os 35 (1) 0 _ true) (b':=⟨1, .own,_,_⟩) (U.litI rfl rfl (.cons .int .nil) rfl rfl) rfl rfl ?_
  obtain ⟨q6,Hq6,h⟩:=Option.bind_eq_some_iff.1 h
  refine D.ef (C.callZ (ss:=[35]) (.cons (.tmp (v:=.os _ _ _ _ _) rfl) .nil) (.cons (.osIf (by simp) rfl (Mode.live_ne rfl) rfl (by first|rfl|(simp only [List.length_set];done)|(simp only [List.length_drop,List.length_take,List.length_append,List.length_set] at *;omega))) .nil) (nat_Of.cs Hq6) (.aggL (.cons .fi .nil)) (nowin rfl)) ?_
  obtain ⟨q7,Hq7,h⟩:=Option.bind_eq_some_iff.1 h
  refine D.pu (U.call (ss:=[]) (.cons (.tmp (v:=.agg _) rfl) (.cons (.tmp (v:=.agg _) rfl) .nil)) (.cons (.cl (.aggL (.cons .fi .nil))) (.cons (.cl (.aggL (.cons .fi .nil))) .nil)) (nat_Nat_Sub.cs Hq7) (.inl rfl) (.tupL (.cons (.aggL (.cons .fi .nil)) (.cons .bool .nil)))) ?_
  refine D.pu (Pu.move (.tmp (v:=.tup _) rfl)) ?_
  refine D.pu (Pu.extract (.tmp rfl) rfl) ?_
  refine D.pu (Pu.extract (.tmp rfl) rfl) ?_
  refine D.puE (v':=.op 12 (1) 0 0) (b':=⟨1, .own,(.vals [.agg [.fi .u64 []]]),_⟩) Pu.alloc rfl rfl ?_
  refine D.ef0 (C.storeE (.tmp rfl) rfl rfl (.tmp (v:=.agg _) rfl) rfl rfl (.whole (notBad_ne rfl) rfl) .one) ?_
  refine D.pu (Pu.assign (.tmp (v:=.bool _) rfl)) ?_
  refine D.nil (by kernel_rfl) ?_
  refine X.seq ?_
  refine X.drawn ?_
  refine D.pu (U.load (.tmp rfl) rfl rfl (U.whole rfl rfl)) ?_
  refine D.pu (U.load (.tmp rfl) rfl rfl (U.whole rfl rfl)) ?_
  obtain ⟨q8,Hq8,h⟩:=Option.bind_eq_some_iff.1 h
  refine D.pu (U.call (ss:=[]) (.cons (.tmp (v:=.agg _) rfl) .nil) (.cons (.cl (.aggL (.cons .fi (.cons .bool .nil)))) .nil) (whole_Int_Sign.cs Hq8) (.inl rfl) (.int)) ?_
  refine D.pu (Pu.bin (.tmp rfl) .int .lss) ?_
  obtain ⟨q9,Hq9,h⟩:=Option.bind_eq_some_iff.1 h
  refine D.pu (U.call (ss:=[]) (.cons (.tmp (v:=.agg _) rfl) (.cons (.tmp (v:=.bool _) rfl) .nil)) (.cons (.cl (.aggL (.cons .fi .nil))) (.cons (.cl .bool) .nil)) (whole_Of.cs Hq9) (.inl rfl) (.aggL (.cons .fi (.cons .bool .nil)))) ?_
  refine D.pu (U.load (.tmp rfl) rfl rfl (U.whole rfl rfl)) ?_
  refine D.pu (Pu.build rfl (.cons (.tmp (v:=.agg _) rfl) rfl rfl rfl (.put (.put .done)) (.cons (.tmp (v:=.agg _) rfl) rfl rfl rfl (.skip (.skip (.put .done))) .nil))) ?_
  refine D.ef0 (C.storeE (.tmp rfl) rfl rfl (.tmp (v:=.agg _) rfl) rfl rfl (.whole (notBad_ne rfl) rfl) .one) ?_
  refine D.nil (by kernel_rfl) ?_
  refine X.ret ?_
  cases h
  exact E.fin [] (.cell rfl rfl (Mode.live_ne rfl) (U.whole rfl rfl) .nil) (.cons (.cl (.aggL (.cons .fi (.cons .bool (.cons .fi .nil))))) .nil)
noncomputable def c55:Code:=Try.f55.body.getD .skip
theorem fn55:FnOk Try.prog 55 Try.f55 c55:=⟨Try.func55,rfl,by kernel_rfl,by kernel_rfl,mixed⟩
theorem whole_Int_Neg.cs {l0_0:List Int} {a0_1:Bool} {r:List Int×Bool} (h:whole_Int_Neg.f l0_0 a0_1=some r):CS Try.prog 55 [.agg [.fi .u64 l0_0, .bool a0_1]] .no [.agg [.fi .u64 r.1, .bool r.2]]:=by
  unfold whole_Int_Neg.f at h
  refine E.pure fn55 rfl ?_
  refine X.seq ?_
  refine X.still ?_
  refine O.puE (v':=.op 1 (1) 0 0) (b':=⟨1, .own,_,_⟩) (Pu.box (.tmp (v:=.agg _) rfl) rfl rfl) rfl rfl ?_
  refine O.puE (v':=.op 2 (1) 0 0) (b':=⟨1, .own,(.vals [.agg [.fi .u64 [], .bool false]]),_⟩) Pu.alloc rfl rfl ?_
  refine O.nil ?_
  refine X.seq ?_
  refine X.still ?_
  refine O.pu (U.fieldA rfl rfl rfl (.tmp rfl)) ?_
  refine O.pu (U.load (.tmp rfl) rfl rfl (U.sub rfl (.take .done))) ?_
  refine O.pu (U.fieldA rfl rfl rfl (.tmp rfl)) ?_
  refine O.pu (U.load (.tmp rfl) rfl rfl (U.cell rfl rfl rfl)) ?_
  refine O.pu (Pu.un (.tmp rfl) .not) ?_
  obtain ⟨q1,Hq1,h⟩:=Option.bind_eq_some_iff.1 h
  refine O.pu (U.call (ss:=[]) (.cons (.tmp (v:=.agg _) rfl) (.cons (.tmp (v:=.bool _) rfl) .nil)) (.cons (.cl (.aggL (.cons .fi .nil))) (.cons (.cl .bool) .nil)) (whole_Of.cs Hq1) (.inl rfl) (.aggL (.cons .fi (.cons .bool .nil)))) ?_
  refine O.ef0 (U.storeE (.tmp rfl) rfl rfl (.tmp (v:=.agg _) rfl) rfl rfl (.whole (notBad_ne rfl) rfl) .one) ?_
  refine O.nil ?_
  refine X.ret ?_
  cases h
  exact E.fin [] (.cell rfl rfl (Mode.live_ne rfl) (U.whole rfl rfl) .nil) (.cons (.cl (.aggL (.cons .fi (.cons .bool .nil)))) .nil)
noncomputable def c28:Code:=Try.f28.body.getD .skip
theorem fn28:FnOk Try.prog 28 Try.f28 c28:=⟨Try.func28,rfl,by kernel_rfl,by kernel_rfl,mixed⟩
theorem frac_Of.cs {k:Nat} {l0_0:List Int} {a0_1:Bool} {l1_0:List Int} {a1_1:Bool} {r:List Int×Bool×List Int×Int} (h:frac_Of.f k l0_0 a0_1 l1_0 a1_1=some r):CS Try.prog 28 [.agg [.fi .u64 l0_0, .bool a0_1], .agg [.fi .u64 l1_0, .bool a1_1]] .no [.agg [.fi .u64 r.1, .bool r.2.1, .fi .u64 r.2.2.1], .int .i64 r.2.2.2]:=by
  unfold frac_Of.f at h
  refine E.pure fn28 rfl ?_
  refine X.seq ?_
  refine X.still ?_
  refine O.puE (v':=.op 2 (1) 0 0) (b':=⟨1, .own,_,_⟩) (Pu.box (.tmp (v:=.agg _) rfl) rfl rfl) rfl rfl ?_
  refine O.puE (v':=.op 3 (1) 0 0) (b':=⟨1, .own,_,_⟩) (Pu.box (.tmp (v:=.agg _) rfl) rfl rfl) rfl rfl ?_
  refine O.puE (v':=.op 4 (1) 0 0) (b':=⟨1, .own,(.vals [.agg [.fi .u64 [], .bool false, .fi .u64 []]]),_⟩) Pu.alloc rfl rfl ?_
  refine O.pu (Pu.assign .int) ?_
  refine O.nil ?_
  refine X.seq ?_
  refine X.seq ?_
  refine X.still ?_
  refine O.pu (U.load (.tmp rfl) rfl rfl (U.whole rfl rfl)) ?_
  obtain ⟨q1,Hq1,h⟩:=Option.bind_eq_some_iff.1 h
  refine O.pu (U.call (ss:=[]) (.cons (.tmp (v:=.agg _) rfl) .nil) (.cons (.cl (.aggL (.cons .fi (.cons .bool .nil)))) .nil) (whole_Int_Sign.cs Hq1) (.inl rfl) (.int)) ?_
  refine O.nil ?_
  refine X.block ?_
  refine X.seq ?_
  refine X.still ?_
  refine O.pu (Pu.bin (.tmp rfl) .int .eql) ?_
  refine O.pu (Pu.assign (.tmp (v:=.bool _) rfl)) ?_
  refine O.nil ?_
  refine X.condE (.tmp rfl) (fun c=>?_) (fun c=>?_)
  · rw [if_pos c] at h
    refine X.seq ?_
    refine X.still ?_
    refine O.pu (Pu.build rfl .nil) ?_
    refine O.ef0 (U.storeE (.tmp rfl) rfl rfl (.tmp (v:=.agg _) rfl) rfl rfl (.whole (notBad_ne rfl) rfl) .one) ?_
    refine O.pu (Pu.assign .int) ?_
    refine O.nil ?_
    refine X.ret ?_
    cases h
    exact E.fin [] (.cell rfl rfl (Mode.live_ne rfl) (U.whole rfl rfl) (.tmp (v:=.int _ _) rfl .nil)) (.cons (.cl (.aggL (.cons .fi (.cons .bool (.cons .fi .nil))))) (.cons (.cl .int) .nil))
  · rw [if_neg c] at h
    refine X.seq ?_
    refine X.still ?_
    refine O.pu (Pu.bin (.tmp rfl) .int .eql) ?_
    refine O.pu (Pu.assign (.tmp (v:=.bool _) rfl)) ?_
    refine O.nil ?_
    refine X.condE (.tmp rfl) (fun c=>?_) (fun c=>?_)
    · rw [if_pos c] at h
      refine X.still ?_
      refine O.pu (U.load (.tmp rfl) rfl rfl (U.whole rfl rfl)) ?_
      obtain ⟨q2,Hq2,h⟩:=Option.bind_eq_some_iff.1 h
      refine O.pu (U.call (ss:=[]) (.cons (.tmp (v:=.agg _) rfl) .nil) (.cons (.cl (.aggL (.cons .fi (.cons .bool .nil)))) .nil) (whole_Int_Neg.cs Hq2) (.inl rfl) (.aggL (.cons .fi (.cons .bool .nil)))) ?_
      refine O.ef0 (U.storeE (.tmp rfl) rfl rfl (.tmp (v:=.agg _) rfl) rfl rfl (.whole (notBad_ne rfl) rfl) .one) ?_
      refine O.nil ?_
      refine X.seq ?_
      refine X.drawn ?_
      refine D.pu (U.load (.tmp rfl) rfl rfl (U.whole rfl rfl)) ?_
      refine D.pu (U.load (.tmp rfl) rfl rfl (U.whole rfl rfl)) ?_
      obtain ⟨q3,Hq3,h⟩:=Option.bind_eq_some_iff.1 h
      refine D.pu (U.call (ss:=[]) (.cons (.tmp (v:=.agg _) rfl) .nil) (.cons (.cl (.aggL (.cons .fi (.cons .bool .nil)))) .nil) (whole_Int_Abs.cs Hq3) (.inl rfl) (.aggL (.cons .fi .nil))) ?_
      obtain ⟨q4,Hq4,h⟩:=Option.bind_eq_some_iff.1 h
      refine D.pu (U.call (ss:=[]) (.cons (.tmp (v:=.agg _) rfl) (.cons (.tmp (v:=.agg _) rfl) .nil)) (.cons (.cl (.aggL (.cons .fi (.cons .bool .nil)))) (.cons (.cl (.aggL (.cons .fi .nil))) .nil)) (frac_made.cs Hq4) (.inl rfl) (.aggL (.cons .fi (.cons .bool (.cons .fi .nil))))) ?_
      refine D.ef0 (C.storeE (.tmp rfl) rfl rfl (.tmp (v:=.agg _) rfl) rfl rfl (.whole (notBad_ne rfl) rfl) .one) ?_
      refine D.pu (Pu.assign .int) ?_
      refine D.nil (by kernel_rfl) ?_
      refine X.ret ?_
      cases h
      exact E.fin [] (.cell rfl rfl (Mode.live_ne rfl) (U.whole rfl rfl) (.tmp (v:=.int _ _) rfl .nil)) (.cons (.cl (.aggL (.cons .fi (.cons .bool (.cons .fi .nil))))) (.cons (.cl .int) .nil))
    · rw [if_neg c] at h
      refine X.skip ?_
      refine X.seq ?_
      refine X.drawn ?_
      refine D.pu (U.load (.tmp rfl) rfl rfl (U.whole rfl rfl)) ?_
      refine D.pu (U.load (.tmp rfl) rfl rfl (U.whole rfl rfl)) ?_
      obtain ⟨q5,Hq5,h⟩:=Option.bind_eq_some_iff.1 h
      refine D.pu (U.call (ss:=[]) (.cons (.tmp (v:=.agg _) rfl) .nil) (.cons (.cl (.aggL (.cons .fi (.cons .bool .nil)))) .nil) (whole_Int_Abs.cs Hq5) (.inl rfl) (.aggL (.cons .fi .nil))) ?_
      obtain ⟨q6,Hq6,h⟩:=Option.bind_eq_some_iff.1 h
      refine D.pu (U.call (ss:=[]) (.cons (.tmp (v:=.agg _) rfl) (.cons (.tmp (v:=.agg _) rfl) .nil)) (.cons (.cl (.aggL (.cons .fi (.cons .bool .nil)))) (.cons (.cl (.aggL (.cons .fi .nil))) .nil)) (frac_made.cs Hq6) (.inl rfl) (.aggL (.cons .fi (.cons .bool (.cons .fi .nil))))) ?_
      refine D.ef0 (C.storeE (.tmp rfl) rfl rfl (.tmp (v:=.agg _) rfl) rfl rfl (.whole (notBad_ne rfl) rfl) .one) ?_
      refine D.pu (Pu.assign .int) ?_
      refine D.nil (by kernel_rfl) ?_
      refine X.ret ?_
      cases h
      exact E.fin [] (.cell rfl rfl (Mode.live_ne rfl) (U.whole rfl rfl) (.tmp (v:=.int _ _) rfl .nil)) (.cons (.cl (.aggL (.cons .fi (.cons .bool (.cons .fi .nil))))) (.cons (.cl .int) .nil))
noncomputable def c29:Code:=Try.f29.body.getD .skip
theorem fn29:FnOk Try.prog 29 Try.f29 c29:=⟨Try.func29,rfl,by kernel_rfl,by kernel_rfl,mixed⟩
theorem whole_From.cs {k:Nat} {a0:Int} {r:List Int×Bool} (h:whole_From.f k a0=some r):CS Try.prog 29 [.int .i64 a0] .no [.agg [.fi .u64 r.1, .bool r.2]]:=by
  unfold whole_From.f at h
  refine E.pure fn29 rfl ?_
  refine X.seq ?_
  refine X.still ?_
  refine O.puE (v':=.op 2 (1) 0 0) (b':=⟨1, .own,(.vals [.agg [.fi .u64 [], .bool false]]),_⟩) Pu.alloc rfl rfl ?_
  refine O.nil ?_
  refine X.seq ?_
  refine X.seq ?_
  refine X.still ?_
  refine O.pu (Pu.move (.tmp (v:=.int _ _) rfl)) ?_
  refine O.pu (Pu.bin (.tmp rfl) .int .lss) ?_
  refine O.nil ?_
  refine X.condP (.tmp rfl) (fun c=>?_) (fun c=>?_)
  · rw [if_pos c] at h
    refine X.seq ?_
    refine X.still ?_
    refine O.pu (Pu.move (.tmp (v:=.int _ _) rfl)) ?_
    refine O.pu (U.convI rfl (.tmp rfl)) ?_
    refine O.pu (Pu.un (.tmp rfl) U.neg) ?_
    refine O.puE (v':=.os 8 (1) 0 _ true) (b':=⟨1, .own,_,_⟩) (U.litI rfl rfl (.cons (.tmp (v:=.int _ _) rfl) .nil) rfl rfl) rfl rfl ?_
    obtain ⟨q1,Hq1,h⟩:=Option.bind_eq_some_iff.1 h
    refine O.ef (U.callZ (ss:=[8]) (.cons (.tmp (v:=.os _ _ _ _ _) rfl) .nil) (.cons (.osIf (by simp) rfl (Mode.live_ne rfl) rfl (by first|rfl|(simp only [List.length_set];done)|(simp only [List.length_drop,List.length_take,List.length_append,List.length_set] at *;omega))) .nil) (nat_Of.cs Hq1) (.aggL (.cons .fi .nil)) (nowin rfl)) ?_
    obtain ⟨q2,Hq2,h⟩:=Option.bind_eq_some_iff.1 h
    refine O.pu (U.call (ss:=[]) (.cons (.tmp (v:=.agg _) rfl) (.cons .bool .nil)) (.cons (.cl (.aggL (.cons .fi .nil))) (.cons (.cl .bool) .nil)) (whole_Of.cs Hq2) (.inl rfl) (.aggL (.cons .fi (.cons .bool .nil)))) ?_
    refine O.ef0 (U.storeE (.tmp rfl) rfl rfl (.tmp (v:=.agg _) rfl) rfl rfl (.whole (notBad_ne rfl) rfl) .one) ?_
    refine O.nil ?_
    refine X.ret ?_
    cases h
    exact E.fin [] (.cell rfl rfl (Mode.live_ne rfl) (U.whole rfl rfl) .nil) (.cons (.cl (.aggL (.cons .fi (.cons .bool .nil)))) .nil)
  · rw [if_neg c] at h
    refine X.skip ?_
    refine X.seq ?_
    refine X.still ?_
    refine O.pu (Pu.move (.tmp (v:=.int _ _) rfl)) ?_
    refine O.pu (U.convI rfl (.tmp rfl)) ?_
    refine O.puE (v':=.os 13 (1) 0 _ true) (b':=⟨1, .own,_,_⟩) (U.litI rfl rfl (.cons (.tmp (v:=.int _ _) rfl) .nil) rfl rfl) rfl rfl ?_
    obtain ⟨q3,Hq3,h⟩:=Option.bind_eq_some_iff.1 h
    refine O.ef (U.callZ (ss:=[13]) (.cons (.tmp (v:=.os _ _ _ _ _) rfl) .nil) (.cons (.osIf (by simp) rfl (Mode.live_ne rfl) rfl (by first|rfl|(simp only [List.length_set];done)|(simp only [List.length_drop,List.length_take,List.length_append,List.length_set] at *;omega))) .nil) (nat_Of.cs Hq3) (.aggL (.cons .fi .nil)) (nowin rfl)) ?_
    obtain ⟨q4,Hq4,h⟩:=Option.bind_eq_some_iff.1 h
    refine O.pu (U.call (ss:=[]) (.cons (.tmp (v:=.agg _) rfl) (.cons .bool .nil)) (.cons (.cl (.aggL (.cons .fi .nil))) (.cons (.cl .bool) .nil)) (whole_Of.cs Hq4) (.inl rfl) (.aggL (.cons .fi (.cons .bool .nil)))) ?_
    refine O.ef0 (U.storeE (.tmp rfl) rfl rfl (.tmp (v:=.agg _) rfl) rfl rfl (.whole (notBad_ne rfl) rfl) .one) ?_
    refine O.nil ?_
    refine X.ret ?_
    cases h
    exact E.fin [] (.cell rfl rfl (Mode.live_ne rfl) (U.whole rfl rfl) .nil) (.cons (.cl (.aggL (.cons .fi (.cons .bool .nil)))) .nil)
noncomputable def c76:Code:=Try.f76.body.getD .skip
theorem fn76:FnOk Try.prog 76 Try.f76 c76:=⟨Try.func76,rfl,by kernel_rfl,by kernel_rfl,mixed⟩
theorem chattelref04_Of.cs {l0:List Int} {a1:Bool} {r:List Int×Bool} (h:chattelref04_Of.f l0 a1=some r):CS Try.prog 76 [.fi .i64 l0, .bool a1] .no [.agg [.fi .i64 r.1, .bool r.2]]:=by
  unfold chattelref04_Of.f at h
  refine E.pure fn76 rfl ?_
  refine X.seq ?_
  refine X.still ?_
  refine O.puE (v':=.op 4 (1) 0 0) (b':=⟨1, .own,(.vals [.agg [.fi .i64 [], .bool false]]),_⟩) Pu.alloc rfl rfl ?_
  refine O.nil ?_
  refine X.seq ?_
  refine X.still ?_
  refine O.pu (Pu.move (.tmp (v:=.fi _ _) rfl)) ?_
  refine O.pu (Pu.move (.tmp (v:=.bool _) rfl)) ?_
  refine O.pu (Pu.move (.tmp (v:=.bool _) rfl)) ?_
  refine O.split (fun c=>?_) (fun c=>?_)
  · rw [if_pos c] at h
    refine G.pu (W.t rfl rfl) (Pu.move (.tmp (v:=.fi _ _) rfl)) ?_
    refine G.pu (W.t rfl rfl) (Pu.lenI rfl (.tmp rfl)) ?_
    refine G.pu (W.t rfl rfl) (Pu.bin (.tmp rfl) .int .gtr) ?_
    refine O.pu (Pu.pickT (.tmp rfl) (.tmp (v:=.bool _) rfl)) ?_
    refine O.pu (Pu.build rfl (.cons (.tmp (v:=.fi _ _) rfl) rfl rfl rfl (.put .done) (.cons (.tmp (v:=.bool _) rfl) rfl rfl rfl (.skip (.put .done)) .nil))) ?_
    refine O.ef0 (U.storeE (.tmp rfl) rfl rfl (.tmp (v:=.agg _) rfl) rfl rfl (.whole (notBad_ne rfl) rfl) .one) ?_
    refine O.nil ?_
    refine X.ret ?_
    cases h
    exact E.fin [] (.cell rfl rfl (Mode.live_ne rfl) (U.whole rfl rfl) .nil) (.cons (.cl (.aggL (.cons .fi (.cons .bool .nil)))) .nil)
  · rw [if_neg (bf c)] at h
    refine G.skip (W.f rfl rfl rfl) ?_
    refine G.skip (W.f rfl rfl rfl) ?_
    refine G.skip (W.f rfl rfl rfl) ?_
    refine O.pu (Pu.pickF (.tmp rfl) .bool) ?_
    refine O.pu (Pu.build rfl (.cons (.tmp (v:=.fi _ _) rfl) rfl rfl rfl (.put .done) (.cons (.tmp (v:=.bool _) rfl) rfl rfl rfl (.skip (.put .done)) .nil))) ?_
    refine O.ef0 (U.storeE (.tmp rfl) rfl rfl (.tmp (v:=.agg _) rfl) rfl rfl (.whole (notBad_ne rfl) rfl) .one) ?_
    refine O.nil ?_
    refine X.ret ?_
    cases h
    exact E.fin [] (.cell rfl rfl (Mode.live_ne rfl) (U.whole rfl rfl) .nil) (.cons (.cl (.aggL (.cons .fi (.cons .bool .nil)))) .nil)
noncomputable def c81:Code:=Try.f81.body.getD .skip
theorem fn81:FnOk Try.prog 81 Try.f81 c81:=⟨Try.func81,rfl,by kernel_rfl,by kernel_rfl,mixed⟩
theorem chattelref01_Small.cs {k:Nat} {a0:Int} {r:List Int} (h:chattelref01_Small.f k a0=some r):CS Try.prog 81 [.int .i64 a0] .no [.fi .i64 r]:=by
  unfold chattelref01_Small.f at h
  refine E.pure fn81 rfl ?_
  refine X.seq ?_
  refine X.still ?_
  refine O.pu (Pu.assign (.nilI (k:=.i64))) ?_
  refine O.nil ?_
  refine X.seq ?_
  refine X.still ?_
  refine O.ef (U.nilOE (u:=1) (row:=.ints .i64 []) (e:=3) rfl rfl) ?_
  refine O.nil ?_
  refine X.seq ?_
  refine X.block ?_
  refine X.inv (fun k s=>∃ x0 x3 n3 u3,s.t 0 = .int .i64 x0∧s.b 3=⟨u3, .own, .ints .i64 x3,3⟩∧s.t 3 = .os 3 u3 0 n3 true∧x3.length=n3∧chattelref01_Small.l0 k x0 x3=some r) ?_ ?_ ⟨_,_,_,_,rfl,rfl,rfl,rfl,h⟩
  · rintro s ⟨_,_,_,_,_,_,_,_,h⟩;unfold chattelref01_Small.l0 at h;cases h
  · rintro k1 s1 ⟨x0,x3,n3,u3,e0,e1,e2,rfl,h⟩
    unfold chattelref01_Small.l0 at h
    rw [St.fixT e0,St.fixB e1,St.fixT e2]
    refine X.seq ?_
    refine X.seq ?_
    refine X.still ?_
    refine O.pu (Pu.move (.tmp (v:=.int _ _) rfl)) ?_
    refine O.pu (Pu.bin (.tmp rfl) .int .gtr) ?_
    refine O.nil ?_
    refine X.condP (.tmp rfl) (fun c=>?_) (fun c=>?_)
    · rw [if_pos c] at h
      refine X.skip ?_
      refine X.block ?_
      refine X.seq ?_
      refine X.still ?_
      refine O.pu (Pu.move (.tmp (v:=.os _ _ _ _ _) rfl)) ?_
      refine O.pu (Pu.move (.tmp (v:=.int _ _) rfl)) ?_
      repeat (rw [giff] at h;obtain ⟨_,h⟩:=h)
      refine O.pu (Pu.bin (.tmp rfl) .int (.rem (by omega))) ?_
      refine O.puE (v':=.os 9 ((s1.b 9).ver + 1) 0 _ true) (b':=⟨(s1.b 9).ver + 1, .own,_,_⟩) (U.litI rfl rfl (.cons (.tmp (v:=.int _ _) rfl) .nil) rfl rfl) rfl rfl ?_
      refine O.ef (U.appendE (u':=(s1.b 10).ver + 1) rfl rfl (.tmp rfl) rfl (by first|rfl|(simp only [List.length_set];done)|(simp only [List.length_drop,List.length_take,List.length_append,List.length_set] at *;omega)) (.tmp rfl) (.osIf (List.mem_singleton.2 rfl) rfl (Mode.live_ne rfl) rfl (by first|rfl|(simp only [List.length_set];done)|(simp only [List.length_drop,List.length_take,List.length_append,List.length_set] at *;omega))) rfl (by first|exact Nat.le_of_lt (by assumption)|(simp only [List.length_cons,List.length_nil];omega)) rfl) ?_
      refine O.ef (U.takeE (u':=u3 + 1) (.tmp rfl) rfl (ne_of_beq rfl) rfl) ?_
      refine O.nil ?_
      refine X.still ?_
      refine O.pu (Pu.move (.tmp (v:=.int _ _) rfl)) ?_
      refine O.pu (Pu.bin (.tmp rfl) .int (U.quo64 (by omega))) ?_
      refine O.pu (Pu.assign (.tmp (v:=.int _ _) rfl)) ?_
      refine O.nil ?_
      exact ⟨_,(by omega),_,_,_,_,rfl,rfl,rfl,(by first|rfl|(simp only [List.length_set];done)|(simp only [List.length_drop,List.length_take,List.length_append,List.length_set] at *;omega)),h⟩
    · rw [if_neg c] at h
      refine X.exit (B.out ?_)
      refine X.seq ?_
      refine X.still ?_
      refine O.pu (Pu.move (.tmp (v:=.os _ _ _ _ _) rfl)) ?_
      refine O.pu (Pu.assign (.tmp (v:=.os _ _ _ _ _) rfl)) ?_
      refine O.nil ?_
      refine X.ret ?_
      cases h
      exact E.fin [3] (.tmp (v:=.os _ _ _ _ _) rfl .nil) (.cons (.osIf (by simp) rfl (Mode.live_ne rfl) rfl (by first|rfl|(simp only [List.length_set];done)|(simp only [List.length_drop,List.length_take,List.length_append,List.length_set] at *;omega))) .nil)
noncomputable def c57:Code:=Try.f57.body.getD .skip
theorem fn57:FnOk Try.prog 57 Try.f57 c57:=⟨Try.func57,rfl,by kernel_rfl,by kernel_rfl,mixed⟩
theorem chattelref04_From.cs {k:Nat} {a0:Int} {r:List Int×Bool} (h:chattelref04_From.f k a0=some r):CS Try.prog 57 [.int .i64 a0] .no [.agg [.fi .i64 r.1, .bool r.2]]:=by
  unfold chattelref04_From.f at h
  refine E.pure fn57 rfl ?_
  refine X.seq ?_
  refine X.still ?_
  refine O.puE (v':=.op 2 (1) 0 0) (b':=⟨1, .own,(.vals [.agg [.fi .i64 [], .bool false]]),_⟩) Pu.alloc rfl rfl ?_
  refine O.nil ?_
  refine X.seq ?_
  refine X.seq ?_
  refine X.still ?_
  refine O.pu (Pu.move (.tmp (v:=.int _ _) rfl)) ?_
  refine O.pu (Pu.bin (.tmp rfl) .int .lss) ?_
  refine O.nil ?_
  refine X.condP (.tmp rfl) (fun c=>?_) (fun c=>?_)
  · rw [if_pos c] at h
    refine X.seq ?_
    refine X.still ?_
    refine O.pu (Pu.move (.tmp (v:=.int _ _) rfl)) ?_
    refine O.pu (Pu.un (.tmp rfl) U.neg64) ?_
    obtain ⟨q1,Hq1,h⟩:=Option.bind_eq_some_iff.1 h
    refine O.pu (U.call (ss:=[]) (.cons (.tmp (v:=.int _ _) rfl) .nil) (.cons (.cl .int) .nil) (chattelref01_Small.cs Hq1) (.inl rfl) (.fi)) ?_
    refine O.pu (Pu.assign (.tmp (v:=.fi _ _) rfl)) ?_
    refine O.nil ?_
    refine X.seq ?_
    refine X.still ?_
    refine O.pu (Pu.move (.tmp (v:=.fi _ _) rfl)) ?_
    obtain ⟨q2,Hq2,h⟩:=Option.bind_eq_some_iff.1 h
    refine O.pu (U.call (ss:=[]) (.cons (.tmp (v:=.fi _ _) rfl) (.cons .bool .nil)) (.cons (.cl .fi) (.cons (.cl .bool) .nil)) (chattelref04_Of.cs Hq2) (.inl rfl) (.aggL (.cons .fi (.cons .bool .nil)))) ?_
    refine O.ef0 (U.storeE (.tmp rfl) rfl rfl (.tmp (v:=.agg _) rfl) rfl rfl (.whole (notBad_ne rfl) rfl) .one) ?_
    refine O.nil ?_
    refine X.ret ?_
    cases h
    exact E.fin [] (.cell rfl rfl (Mode.live_ne rfl) (U.whole rfl rfl) .nil) (.cons (.cl (.aggL (.cons .fi (.cons .bool .nil)))) .nil)
  · rw [if_neg c] at h
    refine X.skip ?_
    refine X.seq ?_
    refine X.still ?_
    refine O.pu (Pu.move (.tmp (v:=.int _ _) rfl)) ?_
    obtain ⟨q3,Hq3,h⟩:=Option.bind_eq_some_iff.1 h
    refine O.pu (U.call (ss:=[]) (.cons (.tmp (v:=.int _ _) rfl) .nil) (.cons (.cl .int) .nil) (chattelref01_Small.cs Hq3) (.inl rfl) (.fi)) ?_
    refine O.pu (Pu.assign (.tmp (v:=.fi _ _) rfl)) ?_
    refine O.nil ?_
    refine X.seq ?_
    refine X.still ?_
    refine O.pu (Pu.move (.tmp (v:=.fi _ _) rfl)) ?_
    obtain ⟨q4,Hq4,h⟩:=Option.bind_eq_some_iff.1 h
    refine O.pu (U.call (ss:=[]) (.cons (.tmp (v:=.fi _ _) rfl) (.cons .bool .nil)) (.cons (.cl .fi) (.cons (.cl .bool) .nil)) (chattelref04_Of.cs Hq4) (.inl rfl) (.aggL (.cons .fi (.cons .bool .nil)))) ?_
    refine O.ef0 (U.storeE (.tmp rfl) rfl rfl (.tmp (v:=.agg _) rfl) rfl rfl (.whole (notBad_ne rfl) rfl) .one) ?_
    refine O.nil ?_
    refine X.ret ?_
    cases h
    exact E.fin [] (.cell rfl rfl (Mode.live_ne rfl) (U.whole rfl rfl) .nil) (.cons (.cl (.aggL (.cons .fi (.cons .bool .nil)))) .nil)
noncomputable def c86:Code:=Try.f86.body.getD .skip
theorem fn86:FnOk Try.prog 86 Try.f86 c86:=⟨Try.func86,rfl,by kernel_rfl,by kernel_rfl,mixed⟩
theorem chattelref01_at.cs {l0:List Int} {a1:Int} {r:Int} (h:chattelref01_at.f l0 a1=some r):CS Try.prog 86 [.fi .i64 l0, .int .i64 a1] .no [.int .i64 r]:=by
  unfold chattelref01_at.f at h
  refine E.pure fn86 rfl ?_
  refine X.seq ?_
  refine X.still ?_
  refine O.pu (Pu.assign .int) ?_
  refine O.nil ?_
  refine X.seq ?_
  refine X.seq ?_
  refine X.still ?_
  refine O.pu (Pu.move (.tmp (v:=.int _ _) rfl)) ?_
  refine O.pu (Pu.move (.tmp (v:=.fi _ _) rfl)) ?_
  refine O.pu (Pu.lenI rfl (.tmp rfl)) ?_
  refine O.pu (Pu.bin (.tmp rfl) (.tmp rfl) .geq) ?_
  refine O.nil ?_
  refine X.condP (.tmp rfl) (fun c=>?_) (fun c=>?_)
  · rw [if_pos c] at h
    refine X.seq ?_
    refine X.still ?_
    refine O.pu (Pu.assign .int) ?_
    refine O.nil ?_
    refine X.ret ?_
    cases h
    exact E.fin [] (.tmp (v:=.int _ _) rfl .nil) (.cons (.cl .int) .nil)
  · rw [if_neg c] at h
    refine X.skip ?_
    refine X.seq ?_
    refine X.still ?_
    refine O.pu (Pu.move (.tmp (v:=.fi _ _) rfl)) ?_
    refine O.pu (Pu.move (.tmp (v:=.int _ _) rfl)) ?_
    repeat (rw [giff] at h;obtain ⟨_,h⟩:=h)
    refine O.pu (U.rdI rfl rfl (.tmp rfl) (.tmp rfl) (by omega) (by omega)) ?_
    refine O.pu (Pu.loadR (.tmp rfl) (U.self rfl rfl rfl)) ?_
    refine O.pu (Pu.assign (.tmp (v:=.int _ _) rfl)) ?_
    refine O.nil ?_
    refine X.ret ?_
    cases h
    exact E.fin [] (.tmp (v:=.int _ _) rfl .nil) (.cons (.cl .int) .nil)
noncomputable def c87:Code:=Try.f87.body.getD .skip
theorem fn87:FnOk Try.prog 87 Try.f87 c87:=⟨Try.func87,rfl,by kernel_rfl,by kernel_rfl,mixed⟩
theorem chattelref01_Trim.cs {k:Nat} {l0:List Int} {r:List Int} (h:chattelref01_Trim.f k l0=some r):CS Try.prog 87 [.fi .i64 l0] .no [.fi .i64 r]:=by
  unfold chattelref01_Trim.f at h
  refine E.pure fn87 rfl ?_
  refine X.seq ?_
  refine X.still ?_
  refine O.pu (Pu.assign (.nilI (k:=.i64))) ?_
  refine O.nil ?_
  refine X.seq ?_
  refine X.still ?_
  refine O.pu (Pu.move (.tmp (v:=.fi _ _) rfl)) ?_
  refine O.pu (Pu.lenI rfl (.tmp rfl)) ?_
  refine O.pu (Pu.assign (.tmp (v:=.int _ _) rfl)) ?_
  refine O.nil ?_
  refine X.seq ?_
  refine X.block ?_
  refine X.inv (fun k s=>∃ x0 x3,s.t 0 = .fi .i64 x0∧s.t 3 = .int .i64 x3∧chattelref01_Trim.l0 k x0 x3=some r) ?_ ?_ ⟨_,_,rfl,rfl,h⟩
  · rintro s ⟨_,_,_,_,h⟩;unfold chattelref01_Trim.l0 at h;cases h
  · rintro k1 s1 ⟨x0,x3,e0,e1,h⟩
    unfold chattelref01_Trim.l0 at h
    rw [St.fixT e0,St.fixT e1]
    refine X.seq ?_
    refine X.seq ?_
    refine X.still ?_
    refine O.pu (Pu.move (.tmp (v:=.int _ _) rfl)) ?_
    refine O.pu (Pu.bin (.tmp rfl) .int .gtr) ?_
    refine O.pu (Pu.move (.tmp (v:=.bool _) rfl)) ?_
    refine O.splitP (fun c=>?_) (fun c=>?_)
    · rw [if_pos c] at h
      refine G.pu (W.t rfl rfl) (Pu.move (.tmp (v:=.fi _ _) rfl)) ?_
      refine G.pu (W.t rfl rfl) (Pu.move (.tmp (v:=.int _ _) rfl)) ?_
      refine G.pu (W.t rfl rfl) (Pu.bin (.tmp rfl) .int U.sub64) ?_
      repeat (rw [giff] at h;obtain ⟨_,h⟩:=h)
      refine G.pu (W.t rfl rfl) (U.rdI rfl rfl (.tmp rfl) (.tmp rfl) (by omega) (by omega)) ?_
      refine G.pu (W.t rfl rfl) (Pu.loadR (.tmp rfl) (U.self rfl rfl rfl)) ?_
      refine G.pu (W.t rfl rfl) (Pu.bin (.tmp rfl) .int .eql) ?_
      refine O.pu (Pu.pickT (.tmp rfl) (.tmp (v:=.bool _) rfl)) ?_
      refine O.nil ?_
      refine X.condE (.tmp rfl) (fun c=>?_) (fun c=>?_)
      · rw [if_pos c] at h
        refine X.skip ?_
        refine X.block ?_
        refine X.still ?_
        refine O.pu (Pu.move (.tmp (v:=.int _ _) rfl)) ?_
        refine O.pu (Pu.bin (.tmp rfl) .int U.sub64) ?_
        refine O.pu (Pu.assign (.tmp (v:=.int _ _) rfl)) ?_
        refine O.nil ?_
        exact ⟨_,(by omega),_,_,rfl,rfl,h⟩
      · rw [if_neg c] at h
        refine X.exit (B.out ?_)
        refine X.seq ?_
        refine X.still ?_
        refine O.pu (Pu.move (.tmp (v:=.fi _ _) rfl)) ?_
        refine O.pu (Pu.move (.tmp (v:=.int _ _) rfl)) ?_
        repeat (rw [giff] at h;obtain ⟨_,h⟩:=h)
        refine O.pu (U.sliceH rfl rfl (.tmp rfl) .no (.yes (.tmp rfl) (by omega)) .no (by omega) (by omega)) ?_
        refine O.pu (Pu.assign (.tmp (v:=.fi _ _) rfl)) ?_
        refine O.nil ?_
        refine X.ret ?_
        cases h
        exact E.fin [] (.tmp (v:=.fi _ _) rfl .nil) (.cons (.cl .fi) .nil)
    · rw [if_neg c] at h
      refine G.skip (W.f rfl rfl rfl) ?_
      refine G.skip (W.f rfl rfl rfl) ?_
      refine G.skip (W.f rfl rfl rfl) ?_
      refine G.skip (W.f rfl rfl rfl) ?_
      refine G.skip (W.f rfl rfl rfl) ?_
      refine G.skip (W.f rfl rfl rfl) ?_
      refine O.pu (Pu.pickF (.tmp rfl) .bool) ?_
      refine O.nil ?_
      refine X.condF (.tmp rfl) ?_
      refine X.exit (B.out ?_)
      refine X.seq ?_
      refine X.still ?_
      refine O.pu (Pu.move (.tmp (v:=.fi _ _) rfl)) ?_
      refine O.pu (Pu.move (.tmp (v:=.int _ _) rfl)) ?_
      repeat (rw [giff] at h;obtain ⟨_,h⟩:=h)
      refine O.pu (U.sliceH rfl rfl (.tmp rfl) .no (.yes (.tmp rfl) (by omega)) .no (by omega) (by omega)) ?_
      refine O.pu (Pu.assign (.tmp (v:=.fi _ _) rfl)) ?_
      refine O.nil ?_
      refine X.ret ?_
      cases h
      exact E.fin [] (.tmp (v:=.fi _ _) rfl .nil) (.cons (.cl .fi) .nil)
end Go.Proofs.Ytiikhhemgplocaa
end
