/-
  No cell of these rows narrows 'for every input' (looked for: loops, veiled, ifaces, maps, wideKeys, modest, calm, conditions, laid).
  DERIVED. THE GIVEN ROWS OF THIS SEAT. 5 by the template 'for every input the law returns true; each argument reads behind the call as it read before'; 0 by the template 'total and deterministic' (their statements: YtakidmbnkkhojaaGreatTotals.lean).
  GIVEN WITH THE SEED: the statements are not yours to turn. If you find one false, say at which input.
  Laid BY PROGRAM, IN A SANDBOX (cutbox-rows.mjs): the forced cells as the released guide's own fill.sh prints them over the translation 39f0b4bd27f0d368… (all of the seat's roots in one cut). By AI agents, Wed Nov 11 2026. No macro, syntax, notation, axiom, sorry.
-/
import Derived.Test.YtakidmbnkkhojaaGreatChecked
import GoSem.Claim
import GoSem.ClaimJoined
import GoSem.ClaimMapViews
import Derived.JoinedTies
import Derived.KernelRfl
namespace Go.Proofs.YtakidmbnkkhojaaGreat
/- THE CELL 'sum', in the pinned program and in every row, IS THE sha256 OF THE DUMP (.gsa) THAT YtakidmbnkkhojaaGreatProg.lean LOADS. Nothing in Lean hashes anything: it is a label: what it is worth is what the hold of that sum in a sandbox is worth. -/
noncomputable def Tryz.pinned : Pinned := { name := "ytakidmbnkkhojaagreat", sum := "39f0b4bd27f0d36862cb3e65d996122c625fef010925296a884248707ca8693c", checked := Tryz.checked }
namespace Rows
def none {H : Type} : Left H := { results := [], args := [] }

/-- 'chattellaw12.SplitTells': WHATEVER THE INPUT: true; the input reads as it did. -/
def splitTellsSpec : ChangeSpec := { name := "splitTells", fn := fun _ => fun
  | [d] => { results := [.lit (.bool true)], args := [d] }
  | _ => none }
def splitTellsRow : OpenClaim := { program := "ytakidmbnkkhojaagreat", sum := "39f0b4bd27f0d36862cb3e65d996122c625fef010925296a884248707ca8693c", func := "chattel/chattellaw12.SplitTells", spec := "splitTells", inPlace := ["math/bits.Add64", "math/bits.Sub64", "internal/abi.NoEscape"], unfollowed := true, recurses := true, named := ["math/bits.divideError", "math/bits.overflowError"], apart := false }
def SplitTellsSaid : Prop := splitTellsRow.holds Tryz.pinned (OpenSpec.ofChange splitTellsSpec)

/-- ITS FALSE NEIGHBOUR: 'it returns false'. Refute it at one input. -/
def splitTellsWrong : ChangeSpec := { name := "splitTells", fn := fun _ => fun
  | [d] => { results := [.lit (.bool false)], args := [d] }
  | _ => none }
def SplitTellsWrongFalsely : Prop := splitTellsRow.holds Tryz.pinned (OpenSpec.ofChange splitTellsWrong)

/-- 'chattellaw12.SplitRefuses': WHATEVER THE INPUT: true; the input reads as it did. -/
def splitRefusesSpec : ChangeSpec := { name := "splitRefuses", fn := fun _ => fun
  | [d] => { results := [.lit (.bool true)], args := [d] }
  | _ => none }
def splitRefusesRow : OpenClaim := { program := "ytakidmbnkkhojaagreat", sum := "39f0b4bd27f0d36862cb3e65d996122c625fef010925296a884248707ca8693c", func := "chattel/chattellaw12.SplitRefuses", spec := "splitRefuses", inPlace := ["math/bits.Add64", "math/bits.Sub64", "internal/abi.NoEscape"], unfollowed := true, recurses := true, named := ["math/bits.divideError", "math/bits.overflowError"], apart := false }
def SplitRefusesSaid : Prop := splitRefusesRow.holds Tryz.pinned (OpenSpec.ofChange splitRefusesSpec)

/-- ITS FALSE NEIGHBOUR: 'it returns false'. Refute it at one input. -/
def splitRefusesWrong : ChangeSpec := { name := "splitRefuses", fn := fun _ => fun
  | [d] => { results := [.lit (.bool false)], args := [d] }
  | _ => none }
def SplitRefusesWrongFalsely : Prop := splitRefusesRow.holds Tryz.pinned (OpenSpec.ofChange splitRefusesWrong)

/-- 'chattellaw12.SplitSums': WHATEVER THE INPUT: true; the input reads as it did. -/
def splitSumsSpec : ChangeSpec := { name := "splitSums", fn := fun _ => fun
  | [d] => { results := [.lit (.bool true)], args := [d] }
  | _ => none }
def splitSumsRow : OpenClaim := { program := "ytakidmbnkkhojaagreat", sum := "39f0b4bd27f0d36862cb3e65d996122c625fef010925296a884248707ca8693c", func := "chattel/chattellaw12.SplitSums", spec := "splitSums", inPlace := ["math/bits.Add64", "math/bits.Sub64", "internal/abi.NoEscape"], unfollowed := true, recurses := true, named := ["math/bits.divideError", "math/bits.overflowError"], apart := false }
def SplitSumsSaid : Prop := splitSumsRow.holds Tryz.pinned (OpenSpec.ofChange splitSumsSpec)

/-- ITS FALSE NEIGHBOUR: 'it returns false'. Refute it at one input. -/
def splitSumsWrong : ChangeSpec := { name := "splitSums", fn := fun _ => fun
  | [d] => { results := [.lit (.bool false)], args := [d] }
  | _ => none }
def SplitSumsWrongFalsely : Prop := splitSumsRow.holds Tryz.pinned (OpenSpec.ofChange splitSumsWrong)

/-- 'chattellaw12.SplitWhole': WHATEVER THE INPUT: true; the input reads as it did. -/
def splitWholeSpec : ChangeSpec := { name := "splitWhole", fn := fun _ => fun
  | [d] => { results := [.lit (.bool true)], args := [d] }
  | _ => none }
def splitWholeRow : OpenClaim := { program := "ytakidmbnkkhojaagreat", sum := "39f0b4bd27f0d36862cb3e65d996122c625fef010925296a884248707ca8693c", func := "chattel/chattellaw12.SplitWhole", spec := "splitWhole", inPlace := ["math/bits.Add64", "math/bits.Sub64", "internal/abi.NoEscape"], unfollowed := true, recurses := true, named := ["math/bits.divideError", "math/bits.overflowError"], apart := false }
def SplitWholeSaid : Prop := splitWholeRow.holds Tryz.pinned (OpenSpec.ofChange splitWholeSpec)

/-- ITS FALSE NEIGHBOUR: 'it returns false'. Refute it at one input. -/
def splitWholeWrong : ChangeSpec := { name := "splitWhole", fn := fun _ => fun
  | [d] => { results := [.lit (.bool false)], args := [d] }
  | _ => none }
def SplitWholeWrongFalsely : Prop := splitWholeRow.holds Tryz.pinned (OpenSpec.ofChange splitWholeWrong)

/-- 'chattellaw12.SplitOrder': WHATEVER THE INPUT: true; the input reads as it did. -/
def splitOrderSpec : ChangeSpec := { name := "splitOrder", fn := fun _ => fun
  | [d1, d2] => { results := [.lit (.bool true)], args := [d1, d2] }
  | _ => none }
def splitOrderRow : OpenClaim := { program := "ytakidmbnkkhojaagreat", sum := "39f0b4bd27f0d36862cb3e65d996122c625fef010925296a884248707ca8693c", func := "chattel/chattellaw12.SplitOrder", spec := "splitOrder", inPlace := ["math/bits.Add64", "math/bits.Sub64", "internal/abi.NoEscape"], unfollowed := true, recurses := true, named := ["math/bits.divideError", "math/bits.overflowError"], apart := false }
def SplitOrderSaid : Prop := splitOrderRow.holds Tryz.pinned (OpenSpec.ofChange splitOrderSpec)

/-- ITS FALSE NEIGHBOUR: 'it returns false'. Refute it at one input. -/
def splitOrderWrong : ChangeSpec := { name := "splitOrder", fn := fun _ => fun
  | [d1, d2] => { results := [.lit (.bool false)], args := [d1, d2] }
  | _ => none }
def SplitOrderWrongFalsely : Prop := splitOrderRow.holds Tryz.pinned (OpenSpec.ofChange splitOrderWrong)

/- THE SECOND FORM. 'bulk': how many values and letters a reading holds, each counted each time it is reached (what is shared counts as often as it is met; a slice's spare places count too). A statement '..UptoSaid' is the law's where the arguments, and the package variables that the reading takes, are together of bulk at most 1048576: NARROWER than '..Said'. Prove '..Said' where nothing that the law and all that it calls make is longer than what came in: it says more and counts as full. Else prove '..UptoSaid'. A law counts once. -/
mutual
def uptoBulk {H : Type} : DataW H → Nat
  | .lit (.string bytes) => bytes.length + 1
  | .lit _ => 1
  | .nil => 1
  | .ptr d => uptoBulk d + 1
  | .slice elems spare => uptoBulkAll elems + uptoBulkAll spare + 1
  | .agg parts => uptoBulkAll parts + 1
  | .iface _ d => uptoBulk d + 1
  | .map entries => uptoBulkEntries entries + 1
  | .held _ => 1
def uptoBulkAll {H : Type} : List (DataW H) → Nat
  | [] => 0
  | d :: r => uptoBulk d + uptoBulkAll r
def uptoBulkEntries {H : Type} : List (Lit × DataW H) → Nat
  | [] => 0
  | x :: r => uptoBulkEntry x + uptoBulkEntries r
def uptoBulkEntry {H : Type} : Lit × DataW H → Nat
  | (.string bytes, d) => bytes.length + uptoBulk d + 1
  | (_, d) => uptoBulk d + 1
 end
def uptoSmall : (H : Type) → List (DataW H) → Bool := fun _ ds => decide (uptoBulkAll ds ≤ 1048576)
def OpenSpec.upto (s : _root_.Go.ChangeSpec) : _root_.Go.OpenSpec := { _root_.Go.OpenSpec.ofChange s with cond := some uptoSmall }

/-- 'chattellaw12.SplitTells', WHERE WHAT IT READS IS OF BULK AT MOST 1048576: true; the input reads as it did. -/
def splitTellsUptoRow : OpenClaim := { program := "ytakidmbnkkhojaagreat", sum := "39f0b4bd27f0d36862cb3e65d996122c625fef010925296a884248707ca8693c", func := "chattel/chattellaw12.SplitTells", spec := "splitTells", inPlace := ["math/bits.Add64", "math/bits.Sub64", "internal/abi.NoEscape"], unfollowed := true, recurses := true, named := ["math/bits.divideError", "math/bits.overflowError"], apart := false, narrowed := true }
def SplitTellsUptoSaid : Prop := splitTellsUptoRow.holds Tryz.pinned (OpenSpec.upto splitTellsSpec)

/-- 'chattellaw12.SplitRefuses', WHERE WHAT IT READS IS OF BULK AT MOST 1048576: true; the input reads as it did. -/
def splitRefusesUptoRow : OpenClaim := { program := "ytakidmbnkkhojaagreat", sum := "39f0b4bd27f0d36862cb3e65d996122c625fef010925296a884248707ca8693c", func := "chattel/chattellaw12.SplitRefuses", spec := "splitRefuses", inPlace := ["math/bits.Add64", "math/bits.Sub64", "internal/abi.NoEscape"], unfollowed := true, recurses := true, named := ["math/bits.divideError", "math/bits.overflowError"], apart := false, narrowed := true }
def SplitRefusesUptoSaid : Prop := splitRefusesUptoRow.holds Tryz.pinned (OpenSpec.upto splitRefusesSpec)

/-- 'chattellaw12.SplitSums', WHERE WHAT IT READS IS OF BULK AT MOST 1048576: true; the input reads as it did. -/
def splitSumsUptoRow : OpenClaim := { program := "ytakidmbnkkhojaagreat", sum := "39f0b4bd27f0d36862cb3e65d996122c625fef010925296a884248707ca8693c", func := "chattel/chattellaw12.SplitSums", spec := "splitSums", inPlace := ["math/bits.Add64", "math/bits.Sub64", "internal/abi.NoEscape"], unfollowed := true, recurses := true, named := ["math/bits.divideError", "math/bits.overflowError"], apart := false, narrowed := true }
def SplitSumsUptoSaid : Prop := splitSumsUptoRow.holds Tryz.pinned (OpenSpec.upto splitSumsSpec)

/-- 'chattellaw12.SplitWhole', WHERE WHAT IT READS IS OF BULK AT MOST 1048576: true; the input reads as it did. -/
def splitWholeUptoRow : OpenClaim := { program := "ytakidmbnkkhojaagreat", sum := "39f0b4bd27f0d36862cb3e65d996122c625fef010925296a884248707ca8693c", func := "chattel/chattellaw12.SplitWhole", spec := "splitWhole", inPlace := ["math/bits.Add64", "math/bits.Sub64", "internal/abi.NoEscape"], unfollowed := true, recurses := true, named := ["math/bits.divideError", "math/bits.overflowError"], apart := false, narrowed := true }
def SplitWholeUptoSaid : Prop := splitWholeUptoRow.holds Tryz.pinned (OpenSpec.upto splitWholeSpec)

/-- 'chattellaw12.SplitOrder', WHERE WHAT IT READS IS OF BULK AT MOST 1048576: true; the input reads as it did. -/
def splitOrderUptoRow : OpenClaim := { program := "ytakidmbnkkhojaagreat", sum := "39f0b4bd27f0d36862cb3e65d996122c625fef010925296a884248707ca8693c", func := "chattel/chattellaw12.SplitOrder", spec := "splitOrder", inPlace := ["math/bits.Add64", "math/bits.Sub64", "internal/abi.NoEscape"], unfollowed := true, recurses := true, named := ["math/bits.divideError", "math/bits.overflowError"], apart := false, narrowed := true }
def SplitOrderUptoSaid : Prop := splitOrderUptoRow.holds Tryz.pinned (OpenSpec.upto splitOrderSpec)

end Rows
end Go.Proofs.YtakidmbnkkhojaaGreat
