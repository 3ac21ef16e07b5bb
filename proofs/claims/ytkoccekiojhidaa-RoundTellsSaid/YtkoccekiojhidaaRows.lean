/-
  No cell of these rows narrows 'for every input' (looked for: loops, veiled, ifaces, maps, wideKeys, modest, calm, conditions, laid).
  DERIVED. THE GIVEN ROWS OF THIS SEAT. 9 by the template 'for every input the law returns true; each argument reads behind the call as it read before'; 0 by the template 'total and deterministic' (their statements: YtkoccekiojhidaaTotals.lean).
  GIVEN WITH THE SEED: the statements are not yours to turn. If you find one false, say at which input.
  Laid BY PROGRAM, IN A SANDBOX (cutbox-rows.mjs): the forced cells as the released guide's own fill.sh prints them over the translation fc164fd4db523bbb… (all of the seat's roots in one cut). By AI agents, Wed Nov 11 2026. No macro, syntax, notation, axiom, sorry.
-/
import Derived.Test.YtkoccekiojhidaaChecked
import GoSem.Claim
import GoSem.ClaimJoined
import GoSem.ClaimMapViews
import Derived.JoinedTies
import Derived.KernelRfl
namespace Go.Proofs.Ytkoccekiojhidaa
/- THE CELL 'sum', in the pinned program and in every row, IS THE sha256 OF THE DUMP (.gsa) THAT YtkoccekiojhidaaProg.lean LOADS. Nothing in Lean hashes anything: it is a label: what it is worth is what the hold of that sum in a sandbox is worth. -/
noncomputable def Try.pinned : Pinned := { name := "ytkoccekiojhidaa", sum := "fc164fd4db523bbb720661251e54295bc52a3d464aadf8a9d762a373c47785b5", checked := Try.checked }
namespace Rows
def none {H : Type} : Left H := { results := [], args := [] }

/-- 'chattellaw05.FracFloors': WHATEVER THE INPUT: true; the input reads as it did. -/
def fracFloorsSpec : ChangeSpec := { name := "fracFloors", fn := fun _ => fun
  | [d1, d2] => { results := [.lit (.bool true)], args := [d1, d2] }
  | _ => none }
def fracFloorsRow : OpenClaim := { program := "ytkoccekiojhidaa", sum := "fc164fd4db523bbb720661251e54295bc52a3d464aadf8a9d762a373c47785b5", func := "chattel/chattellaw05.FracFloors", spec := "fracFloors", inPlace := ["math/bits.Add64", "math/bits.Sub64", "internal/abi.NoEscape"], named := ["math/bits.divideError", "math/bits.overflowError"], apart := false }
def FracFloorsSaid : Prop := fracFloorsRow.holds Try.pinned (OpenSpec.ofChange fracFloorsSpec)

/-- ITS FALSE NEIGHBOUR: 'it returns false'. Refute it at one input. -/
def fracFloorsWrong : ChangeSpec := { name := "fracFloors", fn := fun _ => fun
  | [d1, d2] => { results := [.lit (.bool false)], args := [d1, d2] }
  | _ => none }
def FracFloorsWrongFalsely : Prop := fracFloorsRow.holds Try.pinned (OpenSpec.ofChange fracFloorsWrong)

/-- 'chattellaw05.FracLowest': WHATEVER THE INPUT: true; the input reads as it did. -/
def fracLowestSpec : ChangeSpec := { name := "fracLowest", fn := fun _ => fun
  | [d1, d2, d3] => { results := [.lit (.bool true)], args := [d1, d2, d3] }
  | _ => none }
def fracLowestRow : OpenClaim := { program := "ytkoccekiojhidaa", sum := "fc164fd4db523bbb720661251e54295bc52a3d464aadf8a9d762a373c47785b5", func := "chattel/chattellaw05.FracLowest", spec := "fracLowest", inPlace := ["math/bits.Add64", "math/bits.Sub64", "internal/abi.NoEscape"], named := ["math/bits.divideError", "math/bits.overflowError"], apart := false }
def FracLowestSaid : Prop := fracLowestRow.holds Try.pinned (OpenSpec.ofChange fracLowestSpec)

/-- ITS FALSE NEIGHBOUR: 'it returns false'. Refute it at one input. -/
def fracLowestWrong : ChangeSpec := { name := "fracLowest", fn := fun _ => fun
  | [d1, d2, d3] => { results := [.lit (.bool false)], args := [d1, d2, d3] }
  | _ => none }
def FracLowestWrongFalsely : Prop := fracLowestRow.holds Try.pinned (OpenSpec.ofChange fracLowestWrong)

/-- 'chattellaw05.FracSums': WHATEVER THE INPUT: true; the input reads as it did. -/
def fracSumsSpec : ChangeSpec := { name := "fracSums", fn := fun _ => fun
  | [d1, d2] => { results := [.lit (.bool true)], args := [d1, d2] }
  | _ => none }
def fracSumsRow : OpenClaim := { program := "ytkoccekiojhidaa", sum := "fc164fd4db523bbb720661251e54295bc52a3d464aadf8a9d762a373c47785b5", func := "chattel/chattellaw05.FracSums", spec := "fracSums", inPlace := ["math/bits.Add64", "math/bits.Sub64", "internal/abi.NoEscape"], named := ["math/bits.divideError", "math/bits.overflowError"], apart := false }
def FracSumsSaid : Prop := fracSumsRow.holds Try.pinned (OpenSpec.ofChange fracSumsSpec)

/-- ITS FALSE NEIGHBOUR: 'it returns false'. Refute it at one input. -/
def fracSumsWrong : ChangeSpec := { name := "fracSums", fn := fun _ => fun
  | [d1, d2] => { results := [.lit (.bool false)], args := [d1, d2] }
  | _ => none }
def FracSumsWrongFalsely : Prop := fracSumsRow.holds Try.pinned (OpenSpec.ofChange fracSumsWrong)

/-- 'chattellaw05.FracRules': WHATEVER THE INPUT: true; the input reads as it did. -/
def fracRulesSpec : ChangeSpec := { name := "fracRules", fn := fun _ => fun
  | [d1, d2, d3] => { results := [.lit (.bool true)], args := [d1, d2, d3] }
  | _ => none }
def fracRulesRow : OpenClaim := { program := "ytkoccekiojhidaa", sum := "fc164fd4db523bbb720661251e54295bc52a3d464aadf8a9d762a373c47785b5", func := "chattel/chattellaw05.FracRules", spec := "fracRules", inPlace := ["math/bits.Add64", "math/bits.Sub64", "internal/abi.NoEscape"], named := ["math/bits.divideError", "math/bits.overflowError"], apart := false }
def FracRulesSaid : Prop := fracRulesRow.holds Try.pinned (OpenSpec.ofChange fracRulesSpec)

/-- ITS FALSE NEIGHBOUR: 'it returns false'. Refute it at one input. -/
def fracRulesWrong : ChangeSpec := { name := "fracRules", fn := fun _ => fun
  | [d1, d2, d3] => { results := [.lit (.bool false)], args := [d1, d2, d3] }
  | _ => none }
def FracRulesWrongFalsely : Prop := fracRulesRow.holds Try.pinned (OpenSpec.ofChange fracRulesWrong)

/-- 'chattellaw05.FracMiddle': WHATEVER THE INPUT: true; the input reads as it did. -/
def fracMiddleSpec : ChangeSpec := { name := "fracMiddle", fn := fun _ => fun
  | [d1, d2, d3] => { results := [.lit (.bool true)], args := [d1, d2, d3] }
  | _ => none }
def fracMiddleRow : OpenClaim := { program := "ytkoccekiojhidaa", sum := "fc164fd4db523bbb720661251e54295bc52a3d464aadf8a9d762a373c47785b5", func := "chattel/chattellaw05.FracMiddle", spec := "fracMiddle", inPlace := ["math/bits.Add64", "math/bits.Sub64", "internal/abi.NoEscape"], named := ["math/bits.divideError", "math/bits.overflowError"], apart := false }
def FracMiddleSaid : Prop := fracMiddleRow.holds Try.pinned (OpenSpec.ofChange fracMiddleSpec)

/-- ITS FALSE NEIGHBOUR: 'it returns false'. Refute it at one input. -/
def fracMiddleWrong : ChangeSpec := { name := "fracMiddle", fn := fun _ => fun
  | [d1, d2, d3] => { results := [.lit (.bool false)], args := [d1, d2, d3] }
  | _ => none }
def FracMiddleWrongFalsely : Prop := fracMiddleRow.holds Try.pinned (OpenSpec.ofChange fracMiddleWrong)

/-- 'chattellaw06.RoundTells': WHATEVER THE INPUT: true; the input reads as it did. -/
def roundTellsSpec : ChangeSpec := { name := "roundTells", fn := fun _ => fun
  | [d1, d2, d3] => { results := [.lit (.bool true)], args := [d1, d2, d3] }
  | _ => none }
def roundTellsRow : OpenClaim := { program := "ytkoccekiojhidaa", sum := "fc164fd4db523bbb720661251e54295bc52a3d464aadf8a9d762a373c47785b5", func := "chattel/chattellaw06.RoundTells", spec := "roundTells", inPlace := ["math/bits.Add64", "math/bits.Sub64", "internal/abi.NoEscape"], named := ["math/bits.divideError", "math/bits.overflowError"], apart := false }
def RoundTellsSaid : Prop := roundTellsRow.holds Try.pinned (OpenSpec.ofChange roundTellsSpec)

/-- ITS FALSE NEIGHBOUR: 'it returns false'. Refute it at one input. -/
def roundTellsWrong : ChangeSpec := { name := "roundTells", fn := fun _ => fun
  | [d1, d2, d3] => { results := [.lit (.bool false)], args := [d1, d2, d3] }
  | _ => none }
def RoundTellsWrongFalsely : Prop := roundTellsRow.holds Try.pinned (OpenSpec.ofChange roundTellsWrong)

/-- 'chattellaw06.RoundWords': WHATEVER THE INPUT: true; the input reads as it did. -/
def roundWordsSpec : ChangeSpec := { name := "roundWords", fn := fun _ => fun
  | [d1, d2] => { results := [.lit (.bool true)], args := [d1, d2] }
  | _ => none }
def roundWordsRow : OpenClaim := { program := "ytkoccekiojhidaa", sum := "fc164fd4db523bbb720661251e54295bc52a3d464aadf8a9d762a373c47785b5", func := "chattel/chattellaw06.RoundWords", spec := "roundWords", inPlace := ["math/bits.Add64", "math/bits.Sub64", "internal/abi.NoEscape"], named := ["math/bits.divideError", "math/bits.overflowError"], apart := false }
def RoundWordsSaid : Prop := roundWordsRow.holds Try.pinned (OpenSpec.ofChange roundWordsSpec)

/-- ITS FALSE NEIGHBOUR: 'it returns false'. Refute it at one input. -/
def roundWordsWrong : ChangeSpec := { name := "roundWords", fn := fun _ => fun
  | [d1, d2] => { results := [.lit (.bool false)], args := [d1, d2] }
  | _ => none }
def RoundWordsWrongFalsely : Prop := roundWordsRow.holds Try.pinned (OpenSpec.ofChange roundWordsWrong)

/-- 'chattellaw06.RoundHalves': WHATEVER THE INPUT: true; the input reads as it did. -/
def roundHalvesSpec : ChangeSpec := { name := "roundHalves", fn := fun _ => fun
  | [d1, d2, d3] => { results := [.lit (.bool true)], args := [d1, d2, d3] }
  | _ => none }
def roundHalvesRow : OpenClaim := { program := "ytkoccekiojhidaa", sum := "fc164fd4db523bbb720661251e54295bc52a3d464aadf8a9d762a373c47785b5", func := "chattel/chattellaw06.RoundHalves", spec := "roundHalves", inPlace := ["math/bits.Add64", "math/bits.Sub64", "internal/abi.NoEscape"], named := ["math/bits.divideError", "math/bits.overflowError"], apart := false }
def RoundHalvesSaid : Prop := roundHalvesRow.holds Try.pinned (OpenSpec.ofChange roundHalvesSpec)

/-- ITS FALSE NEIGHBOUR: 'it returns false'. Refute it at one input. -/
def roundHalvesWrong : ChangeSpec := { name := "roundHalves", fn := fun _ => fun
  | [d1, d2, d3] => { results := [.lit (.bool false)], args := [d1, d2, d3] }
  | _ => none }
def RoundHalvesWrongFalsely : Prop := roundHalvesRow.holds Try.pinned (OpenSpec.ofChange roundHalvesWrong)

/-- 'chattellaw06.RoundNear': WHATEVER THE INPUT: true; the input reads as it did. -/
def roundNearSpec : ChangeSpec := { name := "roundNear", fn := fun _ => fun
  | [d] => { results := [.lit (.bool true)], args := [d] }
  | _ => none }
def roundNearRow : OpenClaim := { program := "ytkoccekiojhidaa", sum := "fc164fd4db523bbb720661251e54295bc52a3d464aadf8a9d762a373c47785b5", func := "chattel/chattellaw06.RoundNear", spec := "roundNear", inPlace := ["math/bits.Add64", "math/bits.Sub64", "internal/abi.NoEscape"], named := ["math/bits.divideError", "math/bits.overflowError"], apart := false }
def RoundNearSaid : Prop := roundNearRow.holds Try.pinned (OpenSpec.ofChange roundNearSpec)

/-- ITS FALSE NEIGHBOUR: 'it returns false'. Refute it at one input. -/
def roundNearWrong : ChangeSpec := { name := "roundNear", fn := fun _ => fun
  | [d] => { results := [.lit (.bool false)], args := [d] }
  | _ => none }
def RoundNearWrongFalsely : Prop := roundNearRow.holds Try.pinned (OpenSpec.ofChange roundNearWrong)

/- THE SECOND FORM. 'bulk': how many values and letters a reading holds, each counted each time it is reached (what is shared counts as often as it is met; a slice's spare places count too). A statement '..UptoSaid' is the law's where the arguments, and the package variables that the reading takes, are together of bulk at most 1048576: NARROWER than '..Said'. Prove '..Said' where nothing that the law and all that it calls make is longer than what came in: it says more and counts as full. Else prove '..UptoSaid'. A law counts once. -/
mutual
def uptoBulk {H : Type} : DataW H → Nat
  | .lit (.string bytes) => bytes.length + 1
  | .lit _ => 1
  | .nil => 1
  | .ptr d => uptoBulk d + 1
  | .slice elems spare => uptoBulkAll elems + uptoBulkAll spare + 1
  | .agg parts => uptoBulkAll parts + 1
  | .iface _ d => uptoBulk d + 1
  | .map entries => uptoBulkEntries entries + 1
  | .held _ => 1
def uptoBulkAll {H : Type} : List (DataW H) → Nat
  | [] => 0
  | d :: r => uptoBulk d + uptoBulkAll r
def uptoBulkEntries {H : Type} : List (Lit × DataW H) → Nat
  | [] => 0
  | x :: r => uptoBulkEntry x + uptoBulkEntries r
def uptoBulkEntry {H : Type} : Lit × DataW H → Nat
  | (.string bytes, d) => bytes.length + uptoBulk d + 1
  | (_, d) => uptoBulk d + 1
 end
def uptoSmall : (H : Type) → List (DataW H) → Bool := fun _ ds => decide (uptoBulkAll ds ≤ 1048576)
def OpenSpec.upto (s : _root_.Go.ChangeSpec) : _root_.Go.OpenSpec := { _root_.Go.OpenSpec.ofChange s with cond := some uptoSmall }

/-- 'chattellaw05.FracFloors', WHERE WHAT IT READS IS OF BULK AT MOST 1048576: true; the input reads as it did. -/
def fracFloorsUptoRow : OpenClaim := { program := "ytkoccekiojhidaa", sum := "fc164fd4db523bbb720661251e54295bc52a3d464aadf8a9d762a373c47785b5", func := "chattel/chattellaw05.FracFloors", spec := "fracFloors", inPlace := ["math/bits.Add64", "math/bits.Sub64", "internal/abi.NoEscape"], named := ["math/bits.divideError", "math/bits.overflowError"], apart := false, narrowed := true }
def FracFloorsUptoSaid : Prop := fracFloorsUptoRow.holds Try.pinned (OpenSpec.upto fracFloorsSpec)

/-- 'chattellaw05.FracLowest', WHERE WHAT IT READS IS OF BULK AT MOST 1048576: true; the input reads as it did. -/
def fracLowestUptoRow : OpenClaim := { program := "ytkoccekiojhidaa", sum := "fc164fd4db523bbb720661251e54295bc52a3d464aadf8a9d762a373c47785b5", func := "chattel/chattellaw05.FracLowest", spec := "fracLowest", inPlace := ["math/bits.Add64", "math/bits.Sub64", "internal/abi.NoEscape"], named := ["math/bits.divideError", "math/bits.overflowError"], apart := false, narrowed := true }
def FracLowestUptoSaid : Prop := fracLowestUptoRow.holds Try.pinned (OpenSpec.upto fracLowestSpec)

/-- 'chattellaw05.FracSums', WHERE WHAT IT READS IS OF BULK AT MOST 1048576: true; the input reads as it did. -/
def fracSumsUptoRow : OpenClaim := { program := "ytkoccekiojhidaa", sum := "fc164fd4db523bbb720661251e54295bc52a3d464aadf8a9d762a373c47785b5", func := "chattel/chattellaw05.FracSums", spec := "fracSums", inPlace := ["math/bits.Add64", "math/bits.Sub64", "internal/abi.NoEscape"], named := ["math/bits.divideError", "math/bits.overflowError"], apart := false, narrowed := true }
def FracSumsUptoSaid : Prop := fracSumsUptoRow.holds Try.pinned (OpenSpec.upto fracSumsSpec)

/-- 'chattellaw05.FracRules', WHERE WHAT IT READS IS OF BULK AT MOST 1048576: true; the input reads as it did. -/
def fracRulesUptoRow : OpenClaim := { program := "ytkoccekiojhidaa", sum := "fc164fd4db523bbb720661251e54295bc52a3d464aadf8a9d762a373c47785b5", func := "chattel/chattellaw05.FracRules", spec := "fracRules", inPlace := ["math/bits.Add64", "math/bits.Sub64", "internal/abi.NoEscape"], named := ["math/bits.divideError", "math/bits.overflowError"], apart := false, narrowed := true }
def FracRulesUptoSaid : Prop := fracRulesUptoRow.holds Try.pinned (OpenSpec.upto fracRulesSpec)

/-- 'chattellaw05.FracMiddle', WHERE WHAT IT READS IS OF BULK AT MOST 1048576: true; the input reads as it did. -/
def fracMiddleUptoRow : OpenClaim := { program := "ytkoccekiojhidaa", sum := "fc164fd4db523bbb720661251e54295bc52a3d464aadf8a9d762a373c47785b5", func := "chattel/chattellaw05.FracMiddle", spec := "fracMiddle", inPlace := ["math/bits.Add64", "math/bits.Sub64", "internal/abi.NoEscape"], named := ["math/bits.divideError", "math/bits.overflowError"], apart := false, narrowed := true }
def FracMiddleUptoSaid : Prop := fracMiddleUptoRow.holds Try.pinned (OpenSpec.upto fracMiddleSpec)

/-- 'chattellaw06.RoundTells', WHERE WHAT IT READS IS OF BULK AT MOST 1048576: true; the input reads as it did. -/
def roundTellsUptoRow : OpenClaim := { program := "ytkoccekiojhidaa", sum := "fc164fd4db523bbb720661251e54295bc52a3d464aadf8a9d762a373c47785b5", func := "chattel/chattellaw06.RoundTells", spec := "roundTells", inPlace := ["math/bits.Add64", "math/bits.Sub64", "internal/abi.NoEscape"], named := ["math/bits.divideError", "math/bits.overflowError"], apart := false, narrowed := true }
def RoundTellsUptoSaid : Prop := roundTellsUptoRow.holds Try.pinned (OpenSpec.upto roundTellsSpec)

/-- 'chattellaw06.RoundWords', WHERE WHAT IT READS IS OF BULK AT MOST 1048576: true; the input reads as it did. -/
def roundWordsUptoRow : OpenClaim := { program := "ytkoccekiojhidaa", sum := "fc164fd4db523bbb720661251e54295bc52a3d464aadf8a9d762a373c47785b5", func := "chattel/chattellaw06.RoundWords", spec := "roundWords", inPlace := ["math/bits.Add64", "math/bits.Sub64", "internal/abi.NoEscape"], named := ["math/bits.divideError", "math/bits.overflowError"], apart := false, narrowed := true }
def RoundWordsUptoSaid : Prop := roundWordsUptoRow.holds Try.pinned (OpenSpec.upto roundWordsSpec)

/-- 'chattellaw06.RoundHalves', WHERE WHAT IT READS IS OF BULK AT MOST 1048576: true; the input reads as it did. -/
def roundHalvesUptoRow : OpenClaim := { program := "ytkoccekiojhidaa", sum := "fc164fd4db523bbb720661251e54295bc52a3d464aadf8a9d762a373c47785b5", func := "chattel/chattellaw06.RoundHalves", spec := "roundHalves", inPlace := ["math/bits.Add64", "math/bits.Sub64", "internal/abi.NoEscape"], named := ["math/bits.divideError", "math/bits.overflowError"], apart := false, narrowed := true }
def RoundHalvesUptoSaid : Prop := roundHalvesUptoRow.holds Try.pinned (OpenSpec.upto roundHalvesSpec)

/-- 'chattellaw06.RoundNear', WHERE WHAT IT READS IS OF BULK AT MOST 1048576: true; the input reads as it did. -/
def roundNearUptoRow : OpenClaim := { program := "ytkoccekiojhidaa", sum := "fc164fd4db523bbb720661251e54295bc52a3d464aadf8a9d762a373c47785b5", func := "chattel/chattellaw06.RoundNear", spec := "roundNear", inPlace := ["math/bits.Add64", "math/bits.Sub64", "internal/abi.NoEscape"], named := ["math/bits.divideError", "math/bits.overflowError"], apart := false, narrowed := true }
def RoundNearUptoSaid : Prop := roundNearUptoRow.holds Try.pinned (OpenSpec.upto roundNearSpec)

end Rows
end Go.Proofs.Ytkoccekiojhidaa
