/-
  No cell of these rows narrows 'for every input' (looked for: loops, veiled, ifaces, maps, wideKeys, modest, calm, conditions, laid).
  DERIVED. THE GIVEN ROWS OF THIS SEAT. 5 by the template 'for every input the law returns true; each argument reads behind the call as it read before'; 0 by the template 'total and deterministic' (their statements: YtiikhhemgplocaaTotals.lean).
  GIVEN WITH THE SEED: the statements are not yours to turn. If you find one false, say at which input.
  Laid BY PROGRAM, IN A SANDBOX (cutbox-rows.mjs): the forced cells as the released guide's own fill.sh prints them over the translation 5386dcd888bd2b49… (all of the seat's roots in one cut). By AI agents, Wed Nov 11 2026. No macro, syntax, notation, axiom, sorry.
-/
import Derived.Test.YtiikhhemgplocaaChecked
import GoSem.Claim
import GoSem.ClaimJoined
import GoSem.ClaimMapViews
import Derived.JoinedTies
import Derived.KernelRfl
namespace Go.Proofs.Ytiikhhemgplocaa
/- THE CELL 'sum', in the pinned program and in every row, IS THE sha256 OF THE DUMP (.gsa) THAT YtiikhhemgplocaaProg.lean LOADS. Nothing in Lean hashes anything: it is a label: what it is worth is what the hold of that sum in a sandbox is worth. -/
noncomputable def Try.pinned : Pinned := { name := "ytiikhhemgplocaa", sum := "5386dcd888bd2b49d001dee9188f32bd0ea2a95a2a858f1041c251d22f38e1c7", checked := Try.checked }
namespace Rows
def none {H : Type} : Left H := { results := [], args := [] }

/-- 'chattellaw13.PowerTells': WHATEVER THE INPUT: true; the input reads as it did. -/
def powerTellsSpec : ChangeSpec := { name := "powerTells", fn := fun _ => fun
  | [d1, d2, d3] => { results := [.lit (.bool true)], args := [d1, d2, d3] }
  | _ => none }
def powerTellsRow : OpenClaim := { program := "ytiikhhemgplocaa", sum := "5386dcd888bd2b49d001dee9188f32bd0ea2a95a2a858f1041c251d22f38e1c7", func := "chattel/chattellaw13.PowerTells", spec := "powerTells", inPlace := ["math/bits.Add64", "math/bits.Sub64", "internal/abi.NoEscape"], named := ["math/bits.divideError", "math/bits.overflowError"], apart := false }
def PowerTellsSaid : Prop := powerTellsRow.holds Try.pinned (OpenSpec.ofChange powerTellsSpec)

/-- ITS FALSE NEIGHBOUR: 'it returns false'. Refute it at one input. -/
def powerTellsWrong : ChangeSpec := { name := "powerTells", fn := fun _ => fun
  | [d1, d2, d3] => { results := [.lit (.bool false)], args := [d1, d2, d3] }
  | _ => none }
def PowerTellsWrongFalsely : Prop := powerTellsRow.holds Try.pinned (OpenSpec.ofChange powerTellsWrong)

/-- 'chattellaw13.PowerLevels': WHATEVER THE INPUT: true; the input reads as it did. -/
def powerLevelsSpec : ChangeSpec := { name := "powerLevels", fn := fun _ => fun
  | [d1, d2, d3] => { results := [.lit (.bool true)], args := [d1, d2, d3] }
  | _ => none }
def powerLevelsRow : OpenClaim := { program := "ytiikhhemgplocaa", sum := "5386dcd888bd2b49d001dee9188f32bd0ea2a95a2a858f1041c251d22f38e1c7", func := "chattel/chattellaw13.PowerLevels", spec := "powerLevels", inPlace := ["math/bits.Add64", "math/bits.Sub64", "internal/abi.NoEscape"], named := ["math/bits.divideError", "math/bits.overflowError"], apart := false }
def PowerLevelsSaid : Prop := powerLevelsRow.holds Try.pinned (OpenSpec.ofChange powerLevelsSpec)

/-- ITS FALSE NEIGHBOUR: 'it returns false'. Refute it at one input. -/
def powerLevelsWrong : ChangeSpec := { name := "powerLevels", fn := fun _ => fun
  | [d1, d2, d3] => { results := [.lit (.bool false)], args := [d1, d2, d3] }
  | _ => none }
def PowerLevelsWrongFalsely : Prop := powerLevelsRow.holds Try.pinned (OpenSpec.ofChange powerLevelsWrong)

/-- 'chattellaw13.PowerPolys': WHATEVER THE INPUT: true; the input reads as it did. -/
def powerPolysSpec : ChangeSpec := { name := "powerPolys", fn := fun _ => fun
  | [d1, d2] => { results := [.lit (.bool true)], args := [d1, d2] }
  | _ => none }
def powerPolysRow : OpenClaim := { program := "ytiikhhemgplocaa", sum := "5386dcd888bd2b49d001dee9188f32bd0ea2a95a2a858f1041c251d22f38e1c7", func := "chattel/chattellaw13.PowerPolys", spec := "powerPolys", inPlace := ["math/bits.Add64", "math/bits.Sub64", "internal/abi.NoEscape"], named := ["math/bits.divideError", "math/bits.overflowError"], apart := false }
def PowerPolysSaid : Prop := powerPolysRow.holds Try.pinned (OpenSpec.ofChange powerPolysSpec)

/-- ITS FALSE NEIGHBOUR: 'it returns false'. Refute it at one input. -/
def powerPolysWrong : ChangeSpec := { name := "powerPolys", fn := fun _ => fun
  | [d1, d2] => { results := [.lit (.bool false)], args := [d1, d2] }
  | _ => none }
def PowerPolysWrongFalsely : Prop := powerPolysRow.holds Try.pinned (OpenSpec.ofChange powerPolysWrong)

/-- 'chattellaw13.PowerAdds': WHATEVER THE INPUT: true; the input reads as it did. -/
def powerAddsSpec : ChangeSpec := { name := "powerAdds", fn := fun _ => fun
  | [d] => { results := [.lit (.bool true)], args := [d] }
  | _ => none }
def powerAddsRow : OpenClaim := { program := "ytiikhhemgplocaa", sum := "5386dcd888bd2b49d001dee9188f32bd0ea2a95a2a858f1041c251d22f38e1c7", func := "chattel/chattellaw13.PowerAdds", spec := "powerAdds", inPlace := ["math/bits.Add64", "math/bits.Sub64", "internal/abi.NoEscape"], named := ["math/bits.divideError", "math/bits.overflowError"], apart := false }
def PowerAddsSaid : Prop := powerAddsRow.holds Try.pinned (OpenSpec.ofChange powerAddsSpec)

/-- ITS FALSE NEIGHBOUR: 'it returns false'. Refute it at one input. -/
def powerAddsWrong : ChangeSpec := { name := "powerAdds", fn := fun _ => fun
  | [d] => { results := [.lit (.bool false)], args := [d] }
  | _ => none }
def PowerAddsWrongFalsely : Prop := powerAddsRow.holds Try.pinned (OpenSpec.ofChange powerAddsWrong)

/-- 'chattellaw13.PowerPays': WHATEVER THE INPUT: true; the input reads as it did. -/
def powerPaysSpec : ChangeSpec := { name := "powerPays", fn := fun _ => fun
  | [d1, d2, d3] => { results := [.lit (.bool true)], args := [d1, d2, d3] }
  | _ => none }
def powerPaysRow : OpenClaim := { program := "ytiikhhemgplocaa", sum := "5386dcd888bd2b49d001dee9188f32bd0ea2a95a2a858f1041c251d22f38e1c7", func := "chattel/chattellaw13.PowerPays", spec := "powerPays", inPlace := ["math/bits.Add64", "math/bits.Sub64", "internal/abi.NoEscape"], named := ["math/bits.divideError", "math/bits.overflowError"], apart := false }
def PowerPaysSaid : Prop := powerPaysRow.holds Try.pinned (OpenSpec.ofChange powerPaysSpec)

/-- ITS FALSE NEIGHBOUR: 'it returns false'. Refute it at one input. -/
def powerPaysWrong : ChangeSpec := { name := "powerPays", fn := fun _ => fun
  | [d1, d2, d3] => { results := [.lit (.bool false)], args := [d1, d2, d3] }
  | _ => none }
def PowerPaysWrongFalsely : Prop := powerPaysRow.holds Try.pinned (OpenSpec.ofChange powerPaysWrong)

/- THE SECOND FORM. 'bulk': how many values and letters a reading holds, each counted each time it is reached (what is shared counts as often as it is met; a slice's spare places count too). A statement '..UptoSaid' is the law's where the arguments, and the package variables that the reading takes, are together of bulk at most 1048576: NARROWER than '..Said'. Prove '..Said' where nothing that the law and all that it calls make is longer than what came in: it says more and counts as full. Else prove '..UptoSaid'. A law counts once. -/
mutual
def uptoBulk {H : Type} : DataW H → Nat
  | .lit (.string bytes) => bytes.length + 1
  | .lit _ => 1
  | .nil => 1
  | .ptr d => uptoBulk d + 1
  | .slice elems spare => uptoBulkAll elems + uptoBulkAll spare + 1
  | .agg parts => uptoBulkAll parts + 1
  | .iface _ d => uptoBulk d + 1
  | .map entries => uptoBulkEntries entries + 1
  | .held _ => 1
def uptoBulkAll {H : Type} : List (DataW H) → Nat
  | [] => 0
  | d :: r => uptoBulk d + uptoBulkAll r
def uptoBulkEntries {H : Type} : List (Lit × DataW H) → Nat
  | [] => 0
  | x :: r => uptoBulkEntry x + uptoBulkEntries r
def uptoBulkEntry {H : Type} : Lit × DataW H → Nat
  | (.string bytes, d) => bytes.length + uptoBulk d + 1
  | (_, d) => uptoBulk d + 1
 end
def uptoSmall : (H : Type) → List (DataW H) → Bool := fun _ ds => decide (uptoBulkAll ds ≤ 1048576)
def OpenSpec.upto (s : _root_.Go.ChangeSpec) : _root_.Go.OpenSpec := { _root_.Go.OpenSpec.ofChange s with cond := some uptoSmall }

/-- 'chattellaw13.PowerTells', WHERE WHAT IT READS IS OF BULK AT MOST 1048576: true; the input reads as it did. -/
def powerTellsUptoRow : OpenClaim := { program := "ytiikhhemgplocaa", sum := "5386dcd888bd2b49d001dee9188f32bd0ea2a95a2a858f1041c251d22f38e1c7", func := "chattel/chattellaw13.PowerTells", spec := "powerTells", inPlace := ["math/bits.Add64", "math/bits.Sub64", "internal/abi.NoEscape"], named := ["math/bits.divideError", "math/bits.overflowError"], apart := false, narrowed := true }
def PowerTellsUptoSaid : Prop := powerTellsUptoRow.holds Try.pinned (OpenSpec.upto powerTellsSpec)

/-- 'chattellaw13.PowerLevels', WHERE WHAT IT READS IS OF BULK AT MOST 1048576: true; the input reads as it did. -/
def powerLevelsUptoRow : OpenClaim := { program := "ytiikhhemgplocaa", sum := "5386dcd888bd2b49d001dee9188f32bd0ea2a95a2a858f1041c251d22f38e1c7", func := "chattel/chattellaw13.PowerLevels", spec := "powerLevels", inPlace := ["math/bits.Add64", "math/bits.Sub64", "internal/abi.NoEscape"], named := ["math/bits.divideError", "math/bits.overflowError"], apart := false, narrowed := true }
def PowerLevelsUptoSaid : Prop := powerLevelsUptoRow.holds Try.pinned (OpenSpec.upto powerLevelsSpec)

/-- 'chattellaw13.PowerPolys', WHERE WHAT IT READS IS OF BULK AT MOST 1048576: true; the input reads as it did. -/
def powerPolysUptoRow : OpenClaim := { program := "ytiikhhemgplocaa", sum := "5386dcd888bd2b49d001dee9188f32bd0ea2a95a2a858f1041c251d22f38e1c7", func := "chattel/chattellaw13.PowerPolys", spec := "powerPolys", inPlace := ["math/bits.Add64", "math/bits.Sub64", "internal/abi.NoEscape"], named := ["math/bits.divideError", "math/bits.overflowError"], apart := false, narrowed := true }
def PowerPolysUptoSaid : Prop := powerPolysUptoRow.holds Try.pinned (OpenSpec.upto powerPolysSpec)

/-- 'chattellaw13.PowerAdds', WHERE WHAT IT READS IS OF BULK AT MOST 1048576: true; the input reads as it did. -/
def powerAddsUptoRow : OpenClaim := { program := "ytiikhhemgplocaa", sum := "5386dcd888bd2b49d001dee9188f32bd0ea2a95a2a858f1041c251d22f38e1c7", func := "chattel/chattellaw13.PowerAdds", spec := "powerAdds", inPlace := ["math/bits.Add64", "math/bits.Sub64", "internal/abi.NoEscape"], named := ["math/bits.divideError", "math/bits.overflowError"], apart := false, narrowed := true }
def PowerAddsUptoSaid : Prop := powerAddsUptoRow.holds Try.pinned (OpenSpec.upto powerAddsSpec)

/-- 'chattellaw13.PowerPays', WHERE WHAT IT READS IS OF BULK AT MOST 1048576: true; the input reads as it did. -/
def powerPaysUptoRow : OpenClaim := { program := "ytiikhhemgplocaa", sum := "5386dcd888bd2b49d001dee9188f32bd0ea2a95a2a858f1041c251d22f38e1c7", func := "chattel/chattellaw13.PowerPays", spec := "powerPays", inPlace := ["math/bits.Add64", "math/bits.Sub64", "internal/abi.NoEscape"], named := ["math/bits.divideError", "math/bits.overflowError"], apart := false, narrowed := true }
def PowerPaysUptoSaid : Prop := powerPaysUptoRow.holds Try.pinned (OpenSpec.upto powerPaysSpec)

end Rows
end Go.Proofs.Ytiikhhemgplocaa
