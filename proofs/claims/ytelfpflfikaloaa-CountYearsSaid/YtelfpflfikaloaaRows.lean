/-
  No cell of these rows narrows 'for every input' (looked for: loops, veiled, ifaces, maps, wideKeys, modest, calm, conditions, laid).
  DERIVED. THE GIVEN ROWS OF THIS SEAT. 3 by the template 'for every input the law returns true; each argument reads behind the call as it read before'; 0 by the template 'total and deterministic' (their statements: YtelfpflfikaloaaTotals.lean).
  GIVEN WITH THE SEED: the statements are not yours to turn. If you find one false, say at which input.
  Laid BY PROGRAM, IN A SANDBOX (cutbox-rows.mjs): the forced cells as the released guide's own fill.sh prints them over the translation dde8872a05d1d6f1… (all of the seat's roots in one cut). By AI agents, Wed Nov 11 2026. No macro, syntax, notation, axiom, sorry.
-/
import Derived.Test.YtelfpflfikaloaaChecked
import GoSem.Claim
import GoSem.ClaimJoined
import GoSem.ClaimMapViews
import Derived.JoinedTies
import Derived.KernelRfl
namespace Go.Proofs.Ytelfpflfikaloaa
/- THE CELL 'sum', in the pinned program and in every row, IS THE sha256 OF THE DUMP (.gsa) THAT YtelfpflfikaloaaProg.lean LOADS. Nothing in Lean hashes anything: it is a label: what it is worth is what the hold of that sum in a sandbox is worth. -/
noncomputable def Try.pinned : Pinned := { name := "ytelfpflfikaloaa", sum := "dde8872a05d1d6f1f7c101c1644a8ef50b7b5293028de939073f0012d4b42740", checked := Try.checked }
namespace Rows
def none {H : Type} : Left H := { results := [], args := [] }

/-- 'chattellaw11.CountWords': WHATEVER THE INPUT: true; the input reads as it did. -/
def countWordsSpec : ChangeSpec := { name := "countWords", fn := fun _ => fun
  | [d1, d2] => { results := [.lit (.bool true)], args := [d1, d2] }
  | _ => none }
def countWordsRow : OpenClaim := { program := "ytelfpflfikaloaa", sum := "dde8872a05d1d6f1f7c101c1644a8ef50b7b5293028de939073f0012d4b42740", func := "chattel/chattellaw11.CountWords", spec := "countWords", inPlace := ["math/bits.Add64", "math/bits.Sub64", "internal/abi.NoEscape"], named := ["math/bits.divideError", "math/bits.overflowError"], apart := false }
def CountWordsSaid : Prop := countWordsRow.holds Try.pinned (OpenSpec.ofChange countWordsSpec)

/-- ITS FALSE NEIGHBOUR: 'it returns false'. Refute it at one input. -/
def countWordsWrong : ChangeSpec := { name := "countWords", fn := fun _ => fun
  | [d1, d2] => { results := [.lit (.bool false)], args := [d1, d2] }
  | _ => none }
def CountWordsWrongFalsely : Prop := countWordsRow.holds Try.pinned (OpenSpec.ofChange countWordsWrong)

/-- 'chattellaw11.CountParts': WHATEVER THE INPUT: true; the input reads as it did. -/
def countPartsSpec : ChangeSpec := { name := "countParts", fn := fun _ => fun
  | [d1, d2, d3] => { results := [.lit (.bool true)], args := [d1, d2, d3] }
  | _ => none }
def countPartsRow : OpenClaim := { program := "ytelfpflfikaloaa", sum := "dde8872a05d1d6f1f7c101c1644a8ef50b7b5293028de939073f0012d4b42740", func := "chattel/chattellaw11.CountParts", spec := "countParts", inPlace := ["math/bits.Add64", "math/bits.Sub64", "internal/abi.NoEscape"], named := ["math/bits.divideError", "math/bits.overflowError"], apart := false }
def CountPartsSaid : Prop := countPartsRow.holds Try.pinned (OpenSpec.ofChange countPartsSpec)

/-- ITS FALSE NEIGHBOUR: 'it returns false'. Refute it at one input. -/
def countPartsWrong : ChangeSpec := { name := "countParts", fn := fun _ => fun
  | [d1, d2, d3] => { results := [.lit (.bool false)], args := [d1, d2, d3] }
  | _ => none }
def CountPartsWrongFalsely : Prop := countPartsRow.holds Try.pinned (OpenSpec.ofChange countPartsWrong)

/-- 'chattellaw11.CountYears': WHATEVER THE INPUT: true; the input reads as it did. -/
def countYearsSpec : ChangeSpec := { name := "countYears", fn := fun _ => fun
  | [d1, d2] => { results := [.lit (.bool true)], args := [d1, d2] }
  | _ => none }
def countYearsRow : OpenClaim := { program := "ytelfpflfikaloaa", sum := "dde8872a05d1d6f1f7c101c1644a8ef50b7b5293028de939073f0012d4b42740", func := "chattel/chattellaw11.CountYears", spec := "countYears", inPlace := ["math/bits.Add64", "math/bits.Sub64", "internal/abi.NoEscape"], named := ["math/bits.divideError", "math/bits.overflowError"], apart := false }
def CountYearsSaid : Prop := countYearsRow.holds Try.pinned (OpenSpec.ofChange countYearsSpec)

/-- ITS FALSE NEIGHBOUR: 'it returns false'. Refute it at one input. -/
def countYearsWrong : ChangeSpec := { name := "countYears", fn := fun _ => fun
  | [d1, d2] => { results := [.lit (.bool false)], args := [d1, d2] }
  | _ => none }
def CountYearsWrongFalsely : Prop := countYearsRow.holds Try.pinned (OpenSpec.ofChange countYearsWrong)

/- THE SECOND FORM. 'bulk': how many values and letters a reading holds, each counted each time it is reached (what is shared counts as often as it is met; a slice's spare places count too). A statement '..UptoSaid' is the law's where the arguments, and the package variables that the reading takes, are together of bulk at most 1048576: NARROWER than '..Said'. Prove '..Said' where nothing that the law and all that it calls make is longer than what came in: it says more and counts as full. Else prove '..UptoSaid'. A law counts once. -/
mutual
def uptoBulk {H : Type} : DataW H → Nat
  | .lit (.string bytes) => bytes.length + 1
  | .lit _ => 1
  | .nil => 1
  | .ptr d => uptoBulk d + 1
  | .slice elems spare => uptoBulkAll elems + uptoBulkAll spare + 1
  | .agg parts => uptoBulkAll parts + 1
  | .iface _ d => uptoBulk d + 1
  | .map entries => uptoBulkEntries entries + 1
  | .held _ => 1
def uptoBulkAll {H : Type} : List (DataW H) → Nat
  | [] => 0
  | d :: r => uptoBulk d + uptoBulkAll r
def uptoBulkEntries {H : Type} : List (Lit × DataW H) → Nat
  | [] => 0
  | x :: r => uptoBulkEntry x + uptoBulkEntries r
def uptoBulkEntry {H : Type} : Lit × DataW H → Nat
  | (.string bytes, d) => bytes.length + uptoBulk d + 1
  | (_, d) => uptoBulk d + 1
 end
def uptoSmall : (H : Type) → List (DataW H) → Bool := fun _ ds => decide (uptoBulkAll ds ≤ 1048576)
def OpenSpec.upto (s : _root_.Go.ChangeSpec) : _root_.Go.OpenSpec := { _root_.Go.OpenSpec.ofChange s with cond := some uptoSmall }

/-- 'chattellaw11.CountWords', WHERE WHAT IT READS IS OF BULK AT MOST 1048576: true; the input reads as it did. -/
def countWordsUptoRow : OpenClaim := { program := "ytelfpflfikaloaa", sum := "dde8872a05d1d6f1f7c101c1644a8ef50b7b5293028de939073f0012d4b42740", func := "chattel/chattellaw11.CountWords", spec := "countWords", inPlace := ["math/bits.Add64", "math/bits.Sub64", "internal/abi.NoEscape"], named := ["math/bits.divideError", "math/bits.overflowError"], apart := false, narrowed := true }
def CountWordsUptoSaid : Prop := countWordsUptoRow.holds Try.pinned (OpenSpec.upto countWordsSpec)

/-- 'chattellaw11.CountParts', WHERE WHAT IT READS IS OF BULK AT MOST 1048576: true; the input reads as it did. -/
def countPartsUptoRow : OpenClaim := { program := "ytelfpflfikaloaa", sum := "dde8872a05d1d6f1f7c101c1644a8ef50b7b5293028de939073f0012d4b42740", func := "chattel/chattellaw11.CountParts", spec := "countParts", inPlace := ["math/bits.Add64", "math/bits.Sub64", "internal/abi.NoEscape"], named := ["math/bits.divideError", "math/bits.overflowError"], apart := false, narrowed := true }
def CountPartsUptoSaid : Prop := countPartsUptoRow.holds Try.pinned (OpenSpec.upto countPartsSpec)

/-- 'chattellaw11.CountYears', WHERE WHAT IT READS IS OF BULK AT MOST 1048576: true; the input reads as it did. -/
def countYearsUptoRow : OpenClaim := { program := "ytelfpflfikaloaa", sum := "dde8872a05d1d6f1f7c101c1644a8ef50b7b5293028de939073f0012d4b42740", func := "chattel/chattellaw11.CountYears", spec := "countYears", inPlace := ["math/bits.Add64", "math/bits.Sub64", "internal/abi.NoEscape"], named := ["math/bits.divideError", "math/bits.overflowError"], apart := false, narrowed := true }
def CountYearsUptoSaid : Prop := countYearsUptoRow.holds Try.pinned (OpenSpec.upto countYearsSpec)

end Rows
end Go.Proofs.Ytelfpflfikaloaa
