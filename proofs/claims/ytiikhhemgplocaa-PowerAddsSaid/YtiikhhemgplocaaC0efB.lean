import Derived.Test.YtiikhhemgplocaaC0efX
import Derived.Shelf.Strings.Builder1
namespace Go.Proofs.YtiikhhemgplocaaX
open Go.RowKit Go.Proofs.YtiikhhemgplocaaW.PrintWords Go.Proofs.YtiikhhemgplocaaW.PrintLast Go.Proofs.YtiikhhemgplocaaW.PrintMore
def bren:Go.Shelf.Ren:=⟨fun|166=>67|240=>85|276=>103|169=>68|n=>n,fun|37=>105|70=>104|72=>107|75=>109|80=>44|127=>128|164=>141|n=>n,fun n=>n⟩
theorem blays166:Lays.n166 Try.prog bren where
  mixed:=by kernel_rfl
  f166:=Try.func67.trans (congrArg some (by kernel_rfl))
  f240:=Try.func85.trans (congrArg some (by kernel_rfl))
  f276:=Try.func103.trans (congrArg some (by kernel_rfl))
  t0:=Try.underlying0
  a0:=Try.isAgg0
  z0:=Try.sizeOf0
  v0:=Try.zeroValue0
  t3:=Try.underlying3
  a3:=Try.isAgg3
  z3:=Try.sizeOf3
  v3:=Try.zeroValue3
  t4:=Try.underlying4
  a4:=Try.isAgg4
  z4:=Try.sizeOf4
  v4:=Try.zeroValue4
  t9:=Try.underlying9
  a9:=Try.isAgg9
  z9:=Try.sizeOf9
  v9:=Try.zeroValue9
  t20:=Try.underlying20
  a20:=Try.isAgg20
  z20:=Try.sizeOf20
  v20:=Try.zeroValue20
  t37:=Try.underlying105
  a37:=Try.isAgg105
  z37:=Try.sizeOf105
  v37:=Try.zeroValue105
  t70:=Try.underlying104
  a70:=Try.isAgg104
  z70:=Try.sizeOf104
  v70:=Try.zeroValue104
  t72:=Try.underlying107
  a72:=Try.isAgg107
  z72:=Try.sizeOf107
  v72:=Try.zeroValue107
  t75:=Try.underlying109
  a75:=Try.isAgg109
  z75:=Try.sizeOf109
  v75:=Try.zeroValue109
  t164:=Try.underlying141
  a164:=Try.isAgg141
  z164:=Try.sizeOf141
  v164:=Try.zeroValue141
theorem blays169:Lays.n169 Try.prog bren where
  mixed:=by kernel_rfl
  f169:=Try.func68.trans (congrArg some (by kernel_rfl))
  t0:=Try.underlying0
  a0:=Try.isAgg0
  z0:=Try.sizeOf0
  v0:=Try.zeroValue0
  t3:=Try.underlying3
  a3:=Try.isAgg3
  z3:=Try.sizeOf3
  v3:=Try.zeroValue3
  t9:=Try.underlying9
  a9:=Try.isAgg9
  z9:=Try.sizeOf9
  v9:=Try.zeroValue9
  t37:=Try.underlying105
  a37:=Try.isAgg105
  z37:=Try.sizeOf105
  v37:=Try.zeroValue105
  t70:=Try.underlying104
  a70:=Try.isAgg104
  z70:=Try.sizeOf104
  v70:=Try.zeroValue104
  t72:=Try.underlying107
  a72:=Try.isAgg107
  z72:=Try.sizeOf107
  v72:=Try.zeroValue107
  t127:=Try.underlying128
  a127:=Try.isAgg128
  z127:=Try.sizeOf128
  v127:=Try.zeroValue128
theorem bextra:Builder.Extra Try.prog bren where
  sizeBuilder:=by kernel_rfl
  liesBuilder:=by kernel_rfl
  t5:=Try.underlying5
  a5:=Try.isAgg5
  z5:=Try.sizeOf5
  v5:=Try.zeroValue5
  infoByte:=by kernel_rfl
  cellsByte:=by kernel_rfl
  sizeByte:=by kernel_rfl
  neB5:=by decide
theorem bwrite (B b:Nat) (l:List UInt8) (s:ByteArray) (w:World) (h:Lib.IsBuilder 107 5 B b (Lib.byteCells l) w) (hlen:l.length + s.size≤140737488355328) (hBw:B≤w.heap.size) :
    Calls Try.prog 67 #[.pointer (some ⟨b,0,none⟩), .string s] w fun e w'=>e = .returned (.tuple #[.int .i64 s.size, .nilIface])∧Lib.IsBuilder 107 5 B b (Lib.byteCells (l ++ s.data.toList)) w'∧Below B w w':=by
  refine (Any.Builder_WriteString blays166 bextra B b (Lib.byteCells l) s w h (by rw [Lib.byteCells_length];exact hlen) hBw).mono ?_
  rintro e w' ⟨rfl,h1,h2⟩
  refine ⟨rfl,Or.inr ?_,h2⟩
  rw [Lib.byteCells_append,← Lib.strCells_eq]
  exact h1
theorem bstring (B b:Nat) (l:List UInt8) (w:World) (h:Lib.IsBuilder 107 5 B b (Lib.byteCells l) w) (hBw:B≤w.heap.size) :
    Calls Try.prog 68 #[.pointer (some ⟨b,0,none⟩)] w fun e w'=>e = .returned (.string ⟨l.toArray⟩)∧Below B w w':=Any.Builder_String_any blays169 bextra B b l w h hBw
theorem bfresh (w:World):Lib.IsBuilder 107 5 w.heap.size w.heap.size (Lib.byteCells []) (w.alloc (.cells #[.pointer none, .slice none 0 0] 107)) :=
  Or.inl ⟨Nat.le_refl _, .slice none 0 0,blk_new w _,⟨rfl,Or.inl ⟨rfl,rfl⟩⟩,by simp [Value.ownBlock]⟩
end Go.Proofs.YtiikhhemgplocaaX
