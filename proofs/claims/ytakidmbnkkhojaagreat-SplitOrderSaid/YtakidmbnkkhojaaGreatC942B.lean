import Derived.Test.YtakidmbnkkhojaaGreatC942X
import Derived.Shelf.Strings.Builder1
namespace Go.Proofs.YtakidmbnkkhojaaGreatX
open Go.RowKit Go.Proofs.YtakidmbnkkhojaaGreatW.PrintWords Go.Proofs.YtakidmbnkkhojaaGreatW.PrintLast Go.Proofs.YtakidmbnkkhojaaGreatW.PrintMore
def bren:Go.Shelf.Ren:=⟨fun|166=>93|240=>127|276=>147|169=>94|n=>n,fun|37=>142|70=>141|72=>144|75=>146|80=>74|127=>181|164=>198|n=>n,fun n=>n⟩
theorem blays166:Lays.n166 Tryz.prog bren where
  mixed:=by kernel_rfl
  f166:=Tryz.func93.trans (congrArg some (by kernel_rfl))
  f240:=Tryz.func127.trans (congrArg some (by kernel_rfl))
  f276:=Tryz.func147.trans (congrArg some (by kernel_rfl))
  t0:=Tryz.underlying0
  a0:=Tryz.isAgg0
  z0:=Tryz.sizeOf0
  v0:=Tryz.zeroValue0
  t3:=Tryz.underlying3
  a3:=Tryz.isAgg3
  z3:=Tryz.sizeOf3
  v3:=Tryz.zeroValue3
  t4:=Tryz.underlying4
  a4:=Tryz.isAgg4
  z4:=Tryz.sizeOf4
  v4:=Tryz.zeroValue4
  t9:=Tryz.underlying9
  a9:=Tryz.isAgg9
  z9:=Tryz.sizeOf9
  v9:=Tryz.zeroValue9
  t20:=Tryz.underlying20
  a20:=Tryz.isAgg20
  z20:=Tryz.sizeOf20
  v20:=Tryz.zeroValue20
  t37:=Tryz.underlying142
  a37:=Tryz.isAgg142
  z37:=Tryz.sizeOf142
  v37:=Tryz.zeroValue142
  t70:=Tryz.underlying141
  a70:=Tryz.isAgg141
  z70:=Tryz.sizeOf141
  v70:=Tryz.zeroValue141
  t72:=Tryz.underlying144
  a72:=Tryz.isAgg144
  z72:=Tryz.sizeOf144
  v72:=Tryz.zeroValue144
  t75:=Tryz.underlying146
  a75:=Tryz.isAgg146
  z75:=Tryz.sizeOf146
  v75:=Tryz.zeroValue146
  t164:=Tryz.underlying198
  a164:=Tryz.isAgg198
  z164:=Tryz.sizeOf198
  v164:=Tryz.zeroValue198
theorem blays169:Lays.n169 Tryz.prog bren where
  mixed:=by kernel_rfl
  f169:=Tryz.func94.trans (congrArg some (by kernel_rfl))
  t0:=Tryz.underlying0
  a0:=Tryz.isAgg0
  z0:=Tryz.sizeOf0
  v0:=Tryz.zeroValue0
  t3:=Tryz.underlying3
  a3:=Tryz.isAgg3
  z3:=Tryz.sizeOf3
  v3:=Tryz.zeroValue3
  t9:=Tryz.underlying9
  a9:=Tryz.isAgg9
  z9:=Tryz.sizeOf9
  v9:=Tryz.zeroValue9
  t37:=Tryz.underlying142
  a37:=Tryz.isAgg142
  z37:=Tryz.sizeOf142
  v37:=Tryz.zeroValue142
  t70:=Tryz.underlying141
  a70:=Tryz.isAgg141
  z70:=Tryz.sizeOf141
  v70:=Tryz.zeroValue141
  t72:=Tryz.underlying144
  a72:=Tryz.isAgg144
  z72:=Tryz.sizeOf144
  v72:=Tryz.zeroValue144
  t127:=Tryz.underlying181
  a127:=Tryz.isAgg181
  z127:=Tryz.sizeOf181
  v127:=Tryz.zeroValue181
theorem bextra:Builder.Extra Tryz.prog bren where
  sizeBuilder:=by kernel_rfl
  liesBuilder:=by kernel_rfl
  t5:=Tryz.underlying5
  a5:=Tryz.isAgg5
  z5:=Tryz.sizeOf5
  v5:=Tryz.zeroValue5
  infoByte:=by kernel_rfl
  cellsByte:=by kernel_rfl
  sizeByte:=by kernel_rfl
  neB5:=by decide
theorem bwrite (B b:Nat) (l:List UInt8) (s:ByteArray) (w:World) (h:Lib.IsBuilder 144 5 B b (Lib.byteCells l) w) (hlen:l.length + s.size≤140737488355328) (hBw:B≤w.heap.size) :
    Calls Tryz.prog 93 #[.pointer (some ⟨b,0,none⟩), .string s] w fun e w'=>e = .returned (.tuple #[.int .i64 s.size, .nilIface])∧Lib.IsBuilder 144 5 B b (Lib.byteCells (l ++ s.data.toList)) w'∧Below B w w':=by
  refine (Any.Builder_WriteString blays166 bextra B b (Lib.byteCells l) s w h (by rw [Lib.byteCells_length];exact hlen) hBw).mono ?_
  rintro e w' ⟨rfl,h1,h2⟩
  refine ⟨rfl,Or.inr ?_,h2⟩
  rw [Lib.byteCells_append,← Lib.strCells_eq]
  exact h1
theorem bstring (B b:Nat) (l:List UInt8) (w:World) (h:Lib.IsBuilder 144 5 B b (Lib.byteCells l) w) (hBw:B≤w.heap.size) :
    Calls Tryz.prog 94 #[.pointer (some ⟨b,0,none⟩)] w fun e w'=>e = .returned (.string ⟨l.toArray⟩)∧Below B w w':=Any.Builder_String_any blays169 bextra B b l w h hBw
theorem bfresh (w:World):Lib.IsBuilder 144 5 w.heap.size w.heap.size (Lib.byteCells []) (w.alloc (.cells #[.pointer none, .slice none 0 0] 144)) :=
  Or.inl ⟨Nat.le_refl _, .slice none 0 0,blk_new w _,⟨rfl,Or.inl ⟨rfl,rfl⟩⟩,by simp [Value.ownBlock]⟩
end Go.Proofs.YtakidmbnkkhojaaGreatX
