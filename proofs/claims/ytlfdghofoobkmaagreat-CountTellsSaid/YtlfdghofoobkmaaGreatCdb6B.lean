import Derived.Test.YtlfdghofoobkmaaGreatCdb6X
import Derived.Shelf.Strings.Builder1
namespace Go.Proofs.YtlfdghofoobkmaaGreatX
open Go.RowKit Go.Proofs.YtlfdghofoobkmaaGreatW.PrintWords Go.Proofs.YtlfdghofoobkmaaGreatW.PrintLast Go.Proofs.YtlfdghofoobkmaaGreatW.PrintMore
def bren:Go.Shelf.Ren:=⟨fun|166=>46|240=>73|276=>99|169=>47|n=>n,fun|37=>79|70=>78|72=>81|75=>83|80=>41|127=>108|164=>133|n=>n,fun n=>n⟩
theorem blays166:Lays.n166 Tryz.prog bren where
  mixed:=by kernel_rfl
  f166:=Tryz.func46.trans (congrArg some (by kernel_rfl))
  f240:=Tryz.func73.trans (congrArg some (by kernel_rfl))
  f276:=Tryz.func99.trans (congrArg some (by kernel_rfl))
  t0:=Tryz.underlying0
  a0:=Tryz.isAgg0
  z0:=Tryz.sizeOf0
  v0:=Tryz.zeroValue0
  t3:=Tryz.underlying3
  a3:=Tryz.isAgg3
  z3:=Tryz.sizeOf3
  v3:=Tryz.zeroValue3
  t4:=Tryz.underlying4
  a4:=Tryz.isAgg4
  z4:=Tryz.sizeOf4
  v4:=Tryz.zeroValue4
  t9:=Tryz.underlying9
  a9:=Tryz.isAgg9
  z9:=Tryz.sizeOf9
  v9:=Tryz.zeroValue9
  t20:=Tryz.underlying20
  a20:=Tryz.isAgg20
  z20:=Tryz.sizeOf20
  v20:=Tryz.zeroValue20
  t37:=Tryz.underlying79
  a37:=Tryz.isAgg79
  z37:=Tryz.sizeOf79
  v37:=Tryz.zeroValue79
  t70:=Tryz.underlying78
  a70:=Tryz.isAgg78
  z70:=Tryz.sizeOf78
  v70:=Tryz.zeroValue78
  t72:=Tryz.underlying81
  a72:=Tryz.isAgg81
  z72:=Tryz.sizeOf81
  v72:=Tryz.zeroValue81
  t75:=Tryz.underlying83
  a75:=Tryz.isAgg83
  z75:=Tryz.sizeOf83
  v75:=Tryz.zeroValue83
  t164:=Tryz.underlying133
  a164:=Tryz.isAgg133
  z164:=Tryz.sizeOf133
  v164:=Tryz.zeroValue133
theorem blays169:Lays.n169 Tryz.prog bren where
  mixed:=by kernel_rfl
  f169:=Tryz.func47.trans (congrArg some (by kernel_rfl))
  t0:=Tryz.underlying0
  a0:=Tryz.isAgg0
  z0:=Tryz.sizeOf0
  v0:=Tryz.zeroValue0
  t3:=Tryz.underlying3
  a3:=Tryz.isAgg3
  z3:=Tryz.sizeOf3
  v3:=Tryz.zeroValue3
  t9:=Tryz.underlying9
  a9:=Tryz.isAgg9
  z9:=Tryz.sizeOf9
  v9:=Tryz.zeroValue9
  t37:=Tryz.underlying79
  a37:=Tryz.isAgg79
  z37:=Tryz.sizeOf79
  v37:=Tryz.zeroValue79
  t70:=Tryz.underlying78
  a70:=Tryz.isAgg78
  z70:=Tryz.sizeOf78
  v70:=Tryz.zeroValue78
  t72:=Tryz.underlying81
  a72:=Tryz.isAgg81
  z72:=Tryz.sizeOf81
  v72:=Tryz.zeroValue81
  t127:=Tryz.underlying108
  a127:=Tryz.isAgg108
  z127:=Tryz.sizeOf108
  v127:=Tryz.zeroValue108
theorem bextra:Builder.Extra Tryz.prog bren where
  sizeBuilder:=by kernel_rfl
  liesBuilder:=by kernel_rfl
  t5:=Tryz.underlying5
  a5:=Tryz.isAgg5
  z5:=Tryz.sizeOf5
  v5:=Tryz.zeroValue5
  infoByte:=by kernel_rfl
  cellsByte:=by kernel_rfl
  sizeByte:=by kernel_rfl
  neB5:=by decide
theorem bwrite (B b:Nat) (l:List UInt8) (s:ByteArray) (w:World) (h:Lib.IsBuilder 81 5 B b (Lib.byteCells l) w) (hlen:l.length + s.size≤140737488355328) (hBw:B≤w.heap.size) :
    Calls Tryz.prog 46 #[.pointer (some ⟨b,0,none⟩), .string s] w fun e w'=>e = .returned (.tuple #[.int .i64 s.size, .nilIface])∧Lib.IsBuilder 81 5 B b (Lib.byteCells (l ++ s.data.toList)) w'∧Below B w w':=by
  refine (Any.Builder_WriteString blays166 bextra B b (Lib.byteCells l) s w h (by rw [Lib.byteCells_length];exact hlen) hBw).mono ?_
  rintro e w' ⟨rfl,h1,h2⟩
  refine ⟨rfl,Or.inr ?_,h2⟩
  rw [Lib.byteCells_append,← Lib.strCells_eq]
  exact h1
theorem bstring (B b:Nat) (l:List UInt8) (w:World) (h:Lib.IsBuilder 81 5 B b (Lib.byteCells l) w) (hBw:B≤w.heap.size) :
    Calls Tryz.prog 47 #[.pointer (some ⟨b,0,none⟩)] w fun e w'=>e = .returned (.string ⟨l.toArray⟩)∧Below B w w':=Any.Builder_String_any blays169 bextra B b l w h hBw
theorem bfresh (w:World):Lib.IsBuilder 81 5 w.heap.size w.heap.size (Lib.byteCells []) (w.alloc (.cells #[.pointer none, .slice none 0 0] 81)) :=
  Or.inl ⟨Nat.le_refl _, .slice none 0 0,blk_new w _,⟨rfl,Or.inl ⟨rfl,rfl⟩⟩,by simp [Value.ownBlock]⟩
end Go.Proofs.YtlfdghofoobkmaaGreatX
