/-
  No cell of these rows narrows 'for every input' (looked for: loops, veiled, ifaces, maps, wideKeys, modest, calm, conditions, laid).
  DERIVED. THE GIVEN ROWS OF THIS SEAT. 10 by the template 'for every input the law returns true; each argument reads behind the call as it read before'; 0 by the template 'total and deterministic' (their statements: YtebjbmgfbejapaaTotals.lean).
  GIVEN WITH THE SEED: the statements are not yours to turn. If you find one false, say at which input.
  Laid BY PROGRAM, IN A SANDBOX (cutbox-rows.mjs): the forced cells as the released guide's own fill.sh prints them over the translation f10d73e6e4182fa9… (all of the seat's roots in one cut). By AI agents, Wed Nov 11 2026. No macro, syntax, notation, axiom, sorry.
-/
import Derived.Test.YtebjbmgfbejapaaChecked
import GoSem.Claim
import GoSem.ClaimJoined
import GoSem.ClaimMapViews
import Derived.JoinedTies
import Derived.KernelRfl
namespace Go.Proofs.Ytebjbmgfbejapaa
/- THE CELL 'sum', in the pinned program and in every row, IS THE sha256 OF THE DUMP (.gsa) THAT YtebjbmgfbejapaaProg.lean LOADS. Nothing in Lean hashes anything: it is a label: what it is worth is what the hold of that sum in a sandbox is worth. -/
noncomputable def Try.pinned : Pinned := { name := "ytebjbmgfbejapaa", sum := "f10d73e6e4182fa96d0d2e05f182242a69ef658ea10635059dfece40819b3ddf", checked := Try.checked }
namespace Rows
def none {H : Type} : Left H := { results := [], args := [] }

/-- 'chattellaw01.NatLimbs': WHATEVER THE INPUT: true; the input reads as it did. -/
def natLimbsSpec : ChangeSpec := { name := "natLimbs", fn := fun _ => fun
  | [d1, d2] => { results := [.lit (.bool true)], args := [d1, d2] }
  | _ => none }
def natLimbsRow : OpenClaim := { program := "ytebjbmgfbejapaa", sum := "f10d73e6e4182fa96d0d2e05f182242a69ef658ea10635059dfece40819b3ddf", func := "chattel/chattellaw01.NatLimbs", spec := "natLimbs", inPlace := ["math/bits.Add64"], apart := false }
def NatLimbsSaid : Prop := natLimbsRow.holds Try.pinned (OpenSpec.ofChange natLimbsSpec)

/-- ITS FALSE NEIGHBOUR: 'it returns false'. Refute it at one input. -/
def natLimbsWrong : ChangeSpec := { name := "natLimbs", fn := fun _ => fun
  | [d1, d2] => { results := [.lit (.bool false)], args := [d1, d2] }
  | _ => none }
def NatLimbsWrongFalsely : Prop := natLimbsRow.holds Try.pinned (OpenSpec.ofChange natLimbsWrong)

/-- 'chattellaw01.NatBits': WHATEVER THE INPUT: true; the input reads as it did. -/
def natBitsSpec : ChangeSpec := { name := "natBits", fn := fun _ => fun
  | [d1, d2] => { results := [.lit (.bool true)], args := [d1, d2] }
  | _ => none }
def natBitsRow : OpenClaim := { program := "ytebjbmgfbejapaa", sum := "f10d73e6e4182fa96d0d2e05f182242a69ef658ea10635059dfece40819b3ddf", func := "chattel/chattellaw01.NatBits", spec := "natBits", inPlace := ["math/bits.Add64"], apart := false }
def NatBitsSaid : Prop := natBitsRow.holds Try.pinned (OpenSpec.ofChange natBitsSpec)

/-- ITS FALSE NEIGHBOUR: 'it returns false'. Refute it at one input. -/
def natBitsWrong : ChangeSpec := { name := "natBits", fn := fun _ => fun
  | [d1, d2] => { results := [.lit (.bool false)], args := [d1, d2] }
  | _ => none }
def NatBitsWrongFalsely : Prop := natBitsRow.holds Try.pinned (OpenSpec.ofChange natBitsWrong)

/-- 'chattellaw01.NatSums': WHATEVER THE INPUT: true; the input reads as it did. -/
def natSumsSpec : ChangeSpec := { name := "natSums", fn := fun _ => fun
  | [d1, d2] => { results := [.lit (.bool true)], args := [d1, d2] }
  | _ => none }
def natSumsRow : OpenClaim := { program := "ytebjbmgfbejapaa", sum := "f10d73e6e4182fa96d0d2e05f182242a69ef658ea10635059dfece40819b3ddf", func := "chattel/chattellaw01.NatSums", spec := "natSums", inPlace := ["math/bits.Sub64", "math/bits.Add64"], apart := false }
def NatSumsSaid : Prop := natSumsRow.holds Try.pinned (OpenSpec.ofChange natSumsSpec)

/-- ITS FALSE NEIGHBOUR: 'it returns false'. Refute it at one input. -/
def natSumsWrong : ChangeSpec := { name := "natSums", fn := fun _ => fun
  | [d1, d2] => { results := [.lit (.bool false)], args := [d1, d2] }
  | _ => none }
def NatSumsWrongFalsely : Prop := natSumsRow.holds Try.pinned (OpenSpec.ofChange natSumsWrong)

/-- 'chattellaw01.NatRules': WHATEVER THE INPUT: true; the input reads as it did. -/
def natRulesSpec : ChangeSpec := { name := "natRules", fn := fun _ => fun
  | [d1, d2, d3] => { results := [.lit (.bool true)], args := [d1, d2, d3] }
  | _ => none }
def natRulesRow : OpenClaim := { program := "ytebjbmgfbejapaa", sum := "f10d73e6e4182fa96d0d2e05f182242a69ef658ea10635059dfece40819b3ddf", func := "chattel/chattellaw01.NatRules", spec := "natRules", inPlace := ["math/bits.Add64", "math/bits.Sub64"], apart := false }
def NatRulesSaid : Prop := natRulesRow.holds Try.pinned (OpenSpec.ofChange natRulesSpec)

/-- ITS FALSE NEIGHBOUR: 'it returns false'. Refute it at one input. -/
def natRulesWrong : ChangeSpec := { name := "natRules", fn := fun _ => fun
  | [d1, d2, d3] => { results := [.lit (.bool false)], args := [d1, d2, d3] }
  | _ => none }
def NatRulesWrongFalsely : Prop := natRulesRow.holds Try.pinned (OpenSpec.ofChange natRulesWrong)

/-- 'chattellaw01.NatCarries': WHATEVER THE INPUT: true; the input reads as it did. -/
def natCarriesSpec : ChangeSpec := { name := "natCarries", fn := fun _ => fun
  | [d] => { results := [.lit (.bool true)], args := [d] }
  | _ => none }
def natCarriesRow : OpenClaim := { program := "ytebjbmgfbejapaa", sum := "f10d73e6e4182fa96d0d2e05f182242a69ef658ea10635059dfece40819b3ddf", func := "chattel/chattellaw01.NatCarries", spec := "natCarries", inPlace := ["math/bits.Add64", "math/bits.Sub64"], apart := false }
def NatCarriesSaid : Prop := natCarriesRow.holds Try.pinned (OpenSpec.ofChange natCarriesSpec)

/-- ITS FALSE NEIGHBOUR: 'it returns false'. Refute it at one input. -/
def natCarriesWrong : ChangeSpec := { name := "natCarries", fn := fun _ => fun
  | [d] => { results := [.lit (.bool false)], args := [d] }
  | _ => none }
def NatCarriesWrongFalsely : Prop := natCarriesRow.holds Try.pinned (OpenSpec.ofChange natCarriesWrong)

/-- 'chattellaw02.QuotDivides': WHATEVER THE INPUT: true; the input reads as it did. -/
def quotDividesSpec : ChangeSpec := { name := "quotDivides", fn := fun _ => fun
  | [d1, d2] => { results := [.lit (.bool true)], args := [d1, d2] }
  | _ => none }
def quotDividesRow : OpenClaim := { program := "ytebjbmgfbejapaa", sum := "f10d73e6e4182fa96d0d2e05f182242a69ef658ea10635059dfece40819b3ddf", func := "chattel/chattellaw02.QuotDivides", spec := "quotDivides", inPlace := ["math/bits.Add64", "math/bits.Sub64"], named := ["math/bits.divideError", "math/bits.overflowError"], apart := false }
def QuotDividesSaid : Prop := quotDividesRow.holds Try.pinned (OpenSpec.ofChange quotDividesSpec)

/-- ITS FALSE NEIGHBOUR: 'it returns false'. Refute it at one input. -/
def quotDividesWrong : ChangeSpec := { name := "quotDivides", fn := fun _ => fun
  | [d1, d2] => { results := [.lit (.bool false)], args := [d1, d2] }
  | _ => none }
def QuotDividesWrongFalsely : Prop := quotDividesRow.holds Try.pinned (OpenSpec.ofChange quotDividesWrong)

/-- 'chattellaw02.QuotShifts': WHATEVER THE INPUT: true; the input reads as it did. -/
def quotShiftsSpec : ChangeSpec := { name := "quotShifts", fn := fun _ => fun
  | [d1, d2] => { results := [.lit (.bool true)], args := [d1, d2] }
  | _ => none }
def quotShiftsRow : OpenClaim := { program := "ytebjbmgfbejapaa", sum := "f10d73e6e4182fa96d0d2e05f182242a69ef658ea10635059dfece40819b3ddf", func := "chattel/chattellaw02.QuotShifts", spec := "quotShifts", inPlace := ["math/bits.Add64", "math/bits.Sub64"], named := ["math/bits.divideError", "math/bits.overflowError"], apart := false }
def QuotShiftsSaid : Prop := quotShiftsRow.holds Try.pinned (OpenSpec.ofChange quotShiftsSpec)

/-- ITS FALSE NEIGHBOUR: 'it returns false'. Refute it at one input. -/
def quotShiftsWrong : ChangeSpec := { name := "quotShifts", fn := fun _ => fun
  | [d1, d2] => { results := [.lit (.bool false)], args := [d1, d2] }
  | _ => none }
def QuotShiftsWrongFalsely : Prop := quotShiftsRow.holds Try.pinned (OpenSpec.ofChange quotShiftsWrong)

/-- 'chattellaw02.QuotPowers': WHATEVER THE INPUT: true; the input reads as it did. -/
def quotPowersSpec : ChangeSpec := { name := "quotPowers", fn := fun _ => fun
  | [d1, d2, d3] => { results := [.lit (.bool true)], args := [d1, d2, d3] }
  | _ => none }
def quotPowersRow : OpenClaim := { program := "ytebjbmgfbejapaa", sum := "f10d73e6e4182fa96d0d2e05f182242a69ef658ea10635059dfece40819b3ddf", func := "chattel/chattellaw02.QuotPowers", spec := "quotPowers", inPlace := ["math/bits.Add64", "math/bits.Sub64"], named := ["math/bits.divideError", "math/bits.overflowError"], apart := false }
def QuotPowersSaid : Prop := quotPowersRow.holds Try.pinned (OpenSpec.ofChange quotPowersSpec)

/-- ITS FALSE NEIGHBOUR: 'it returns false'. Refute it at one input. -/
def quotPowersWrong : ChangeSpec := { name := "quotPowers", fn := fun _ => fun
  | [d1, d2, d3] => { results := [.lit (.bool false)], args := [d1, d2, d3] }
  | _ => none }
def QuotPowersWrongFalsely : Prop := quotPowersRow.holds Try.pinned (OpenSpec.ofChange quotPowersWrong)

/-- 'chattellaw02.QuotGcd': WHATEVER THE INPUT: true; the input reads as it did. -/
def quotGcdSpec : ChangeSpec := { name := "quotGcd", fn := fun _ => fun
  | [d1, d2, d3] => { results := [.lit (.bool true)], args := [d1, d2, d3] }
  | _ => none }
def quotGcdRow : OpenClaim := { program := "ytebjbmgfbejapaa", sum := "f10d73e6e4182fa96d0d2e05f182242a69ef658ea10635059dfece40819b3ddf", func := "chattel/chattellaw02.QuotGcd", spec := "quotGcd", inPlace := ["math/bits.Add64", "math/bits.Sub64"], named := ["math/bits.divideError", "math/bits.overflowError"], apart := false }
def QuotGcdSaid : Prop := quotGcdRow.holds Try.pinned (OpenSpec.ofChange quotGcdSpec)

/-- ITS FALSE NEIGHBOUR: 'it returns false'. Refute it at one input. -/
def quotGcdWrong : ChangeSpec := { name := "quotGcd", fn := fun _ => fun
  | [d1, d2, d3] => { results := [.lit (.bool false)], args := [d1, d2, d3] }
  | _ => none }
def QuotGcdWrongFalsely : Prop := quotGcdRow.holds Try.pinned (OpenSpec.ofChange quotGcdWrong)

/-- 'chattellaw02.QuotBack': WHATEVER THE INPUT: true; the input reads as it did. -/
def quotBackSpec : ChangeSpec := { name := "quotBack", fn := fun _ => fun
  | [d1, d2, d3] => { results := [.lit (.bool true)], args := [d1, d2, d3] }
  | _ => none }
def quotBackRow : OpenClaim := { program := "ytebjbmgfbejapaa", sum := "f10d73e6e4182fa96d0d2e05f182242a69ef658ea10635059dfece40819b3ddf", func := "chattel/chattellaw02.QuotBack", spec := "quotBack", inPlace := ["math/bits.Add64", "math/bits.Sub64"], named := ["math/bits.divideError", "math/bits.overflowError"], apart := false }
def QuotBackSaid : Prop := quotBackRow.holds Try.pinned (OpenSpec.ofChange quotBackSpec)

/-- ITS FALSE NEIGHBOUR: 'it returns false'. Refute it at one input. -/
def quotBackWrong : ChangeSpec := { name := "quotBack", fn := fun _ => fun
  | [d1, d2, d3] => { results := [.lit (.bool false)], args := [d1, d2, d3] }
  | _ => none }
def QuotBackWrongFalsely : Prop := quotBackRow.holds Try.pinned (OpenSpec.ofChange quotBackWrong)

/- THE SECOND FORM. 'bulk': how many values and letters a reading holds, each counted each time it is reached (what is shared counts as often as it is met; a slice's spare places count too). A statement '..UptoSaid' is the law's where the arguments, and the package variables that the reading takes, are together of bulk at most 1048576: NARROWER than '..Said'. Prove '..Said' where nothing that the law and all that it calls make is longer than what came in: it says more and counts as full. Else prove '..UptoSaid'. A law counts once. -/
mutual
def uptoBulk {H : Type} : DataW H → Nat
  | .lit (.string bytes) => bytes.length + 1
  | .lit _ => 1
  | .nil => 1
  | .ptr d => uptoBulk d + 1
  | .slice elems spare => uptoBulkAll elems + uptoBulkAll spare + 1
  | .agg parts => uptoBulkAll parts + 1
  | .iface _ d => uptoBulk d + 1
  | .map entries => uptoBulkEntries entries + 1
  | .held _ => 1
def uptoBulkAll {H : Type} : List (DataW H) → Nat
  | [] => 0
  | d :: r => uptoBulk d + uptoBulkAll r
def uptoBulkEntries {H : Type} : List (Lit × DataW H) → Nat
  | [] => 0
  | x :: r => uptoBulkEntry x + uptoBulkEntries r
def uptoBulkEntry {H : Type} : Lit × DataW H → Nat
  | (.string bytes, d) => bytes.length + uptoBulk d + 1
  | (_, d) => uptoBulk d + 1
 end
def uptoSmall : (H : Type) → List (DataW H) → Bool := fun _ ds => decide (uptoBulkAll ds ≤ 1048576)
def OpenSpec.upto (s : _root_.Go.ChangeSpec) : _root_.Go.OpenSpec := { _root_.Go.OpenSpec.ofChange s with cond := some uptoSmall }

/-- 'chattellaw01.NatLimbs', WHERE WHAT IT READS IS OF BULK AT MOST 1048576: true; the input reads as it did. -/
def natLimbsUptoRow : OpenClaim := { program := "ytebjbmgfbejapaa", sum := "f10d73e6e4182fa96d0d2e05f182242a69ef658ea10635059dfece40819b3ddf", func := "chattel/chattellaw01.NatLimbs", spec := "natLimbs", inPlace := ["math/bits.Add64"], apart := false, narrowed := true }
def NatLimbsUptoSaid : Prop := natLimbsUptoRow.holds Try.pinned (OpenSpec.upto natLimbsSpec)

/-- 'chattellaw01.NatBits', WHERE WHAT IT READS IS OF BULK AT MOST 1048576: true; the input reads as it did. -/
def natBitsUptoRow : OpenClaim := { program := "ytebjbmgfbejapaa", sum := "f10d73e6e4182fa96d0d2e05f182242a69ef658ea10635059dfece40819b3ddf", func := "chattel/chattellaw01.NatBits", spec := "natBits", inPlace := ["math/bits.Add64"], apart := false, narrowed := true }
def NatBitsUptoSaid : Prop := natBitsUptoRow.holds Try.pinned (OpenSpec.upto natBitsSpec)

/-- 'chattellaw01.NatSums', WHERE WHAT IT READS IS OF BULK AT MOST 1048576: true; the input reads as it did. -/
def natSumsUptoRow : OpenClaim := { program := "ytebjbmgfbejapaa", sum := "f10d73e6e4182fa96d0d2e05f182242a69ef658ea10635059dfece40819b3ddf", func := "chattel/chattellaw01.NatSums", spec := "natSums", inPlace := ["math/bits.Sub64", "math/bits.Add64"], apart := false, narrowed := true }
def NatSumsUptoSaid : Prop := natSumsUptoRow.holds Try.pinned (OpenSpec.upto natSumsSpec)

/-- 'chattellaw01.NatRules', WHERE WHAT IT READS IS OF BULK AT MOST 1048576: true; the input reads as it did. -/
def natRulesUptoRow : OpenClaim := { program := "ytebjbmgfbejapaa", sum := "f10d73e6e4182fa96d0d2e05f182242a69ef658ea10635059dfece40819b3ddf", func := "chattel/chattellaw01.NatRules", spec := "natRules", inPlace := ["math/bits.Add64", "math/bits.Sub64"], apart := false, narrowed := true }
def NatRulesUptoSaid : Prop := natRulesUptoRow.holds Try.pinned (OpenSpec.upto natRulesSpec)

/-- 'chattellaw01.NatCarries', WHERE WHAT IT READS IS OF BULK AT MOST 1048576: true; the input reads as it did. -/
def natCarriesUptoRow : OpenClaim := { program := "ytebjbmgfbejapaa", sum := "f10d73e6e4182fa96d0d2e05f182242a69ef658ea10635059dfece40819b3ddf", func := "chattel/chattellaw01.NatCarries", spec := "natCarries", inPlace := ["math/bits.Add64", "math/bits.Sub64"], apart := false, narrowed := true }
def NatCarriesUptoSaid : Prop := natCarriesUptoRow.holds Try.pinned (OpenSpec.upto natCarriesSpec)

/-- 'chattellaw02.QuotDivides', WHERE WHAT IT READS IS OF BULK AT MOST 1048576: true; the input reads as it did. -/
def quotDividesUptoRow : OpenClaim := { program := "ytebjbmgfbejapaa", sum := "f10d73e6e4182fa96d0d2e05f182242a69ef658ea10635059dfece40819b3ddf", func := "chattel/chattellaw02.QuotDivides", spec := "quotDivides", inPlace := ["math/bits.Add64", "math/bits.Sub64"], named := ["math/bits.divideError", "math/bits.overflowError"], apart := false, narrowed := true }
def QuotDividesUptoSaid : Prop := quotDividesUptoRow.holds Try.pinned (OpenSpec.upto quotDividesSpec)

/-- 'chattellaw02.QuotShifts', WHERE WHAT IT READS IS OF BULK AT MOST 1048576: true; the input reads as it did. -/
def quotShiftsUptoRow : OpenClaim := { program := "ytebjbmgfbejapaa", sum := "f10d73e6e4182fa96d0d2e05f182242a69ef658ea10635059dfece40819b3ddf", func := "chattel/chattellaw02.QuotShifts", spec := "quotShifts", inPlace := ["math/bits.Add64", "math/bits.Sub64"], named := ["math/bits.divideError", "math/bits.overflowError"], apart := false, narrowed := true }
def QuotShiftsUptoSaid : Prop := quotShiftsUptoRow.holds Try.pinned (OpenSpec.upto quotShiftsSpec)

/-- 'chattellaw02.QuotPowers', WHERE WHAT IT READS IS OF BULK AT MOST 1048576: true; the input reads as it did. -/
def quotPowersUptoRow : OpenClaim := { program := "ytebjbmgfbejapaa", sum := "f10d73e6e4182fa96d0d2e05f182242a69ef658ea10635059dfece40819b3ddf", func := "chattel/chattellaw02.QuotPowers", spec := "quotPowers", inPlace := ["math/bits.Add64", "math/bits.Sub64"], named := ["math/bits.divideError", "math/bits.overflowError"], apart := false, narrowed := true }
def QuotPowersUptoSaid : Prop := quotPowersUptoRow.holds Try.pinned (OpenSpec.upto quotPowersSpec)

/-- 'chattellaw02.QuotGcd', WHERE WHAT IT READS IS OF BULK AT MOST 1048576: true; the input reads as it did. -/
def quotGcdUptoRow : OpenClaim := { program := "ytebjbmgfbejapaa", sum := "f10d73e6e4182fa96d0d2e05f182242a69ef658ea10635059dfece40819b3ddf", func := "chattel/chattellaw02.QuotGcd", spec := "quotGcd", inPlace := ["math/bits.Add64", "math/bits.Sub64"], named := ["math/bits.divideError", "math/bits.overflowError"], apart := false, narrowed := true }
def QuotGcdUptoSaid : Prop := quotGcdUptoRow.holds Try.pinned (OpenSpec.upto quotGcdSpec)

/-- 'chattellaw02.QuotBack', WHERE WHAT IT READS IS OF BULK AT MOST 1048576: true; the input reads as it did. -/
def quotBackUptoRow : OpenClaim := { program := "ytebjbmgfbejapaa", sum := "f10d73e6e4182fa96d0d2e05f182242a69ef658ea10635059dfece40819b3ddf", func := "chattel/chattellaw02.QuotBack", spec := "quotBack", inPlace := ["math/bits.Add64", "math/bits.Sub64"], named := ["math/bits.divideError", "math/bits.overflowError"], apart := false, narrowed := true }
def QuotBackUptoSaid : Prop := quotBackUptoRow.holds Try.pinned (OpenSpec.upto quotBackSpec)

end Rows
end Go.Proofs.Ytebjbmgfbejapaa
