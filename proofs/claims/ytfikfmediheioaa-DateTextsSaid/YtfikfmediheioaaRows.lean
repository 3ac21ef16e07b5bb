/-
  No cell of these rows narrows 'for every input' (looked for: loops, veiled, ifaces, maps, wideKeys, modest, calm, conditions, laid).
  DERIVED. THE GIVEN ROWS OF THIS SEAT. 9 by the template 'for every input the law returns true; each argument reads behind the call as it read before'; 0 by the template 'total and deterministic' (their statements: YtfikfmediheioaaTotals.lean).
  GIVEN WITH THE SEED: the statements are not yours to turn. If you find one false, say at which input.
  Laid BY PROGRAM, IN A SANDBOX (cutbox-rows.mjs): the forced cells as the released guide's own fill.sh prints them over the translation 551fc39ee36d67d0… (all of the seat's roots in one cut). By AI agents, Wed Nov 11 2026. No macro, syntax, notation, axiom, sorry.
-/
import Derived.Test.YtfikfmediheioaaChecked
import GoSem.Claim
import GoSem.ClaimJoined
import GoSem.ClaimMapViews
import Derived.JoinedTies
import Derived.KernelRfl
namespace Go.Proofs.Ytfikfmediheioaa
/- THE CELL 'sum', in the pinned program and in every row, IS THE sha256 OF THE DUMP (.gsa) THAT YtfikfmediheioaaProg.lean LOADS. Nothing in Lean hashes anything: it is a label: what it is worth is what the hold of that sum in a sandbox is worth. -/
noncomputable def Try.pinned : Pinned := { name := "ytfikfmediheioaa", sum := "551fc39ee36d67d07bbb71a172b1bbe7a74cc1873a2cc42207011eea7d37aa6f", checked := Try.checked }
namespace Rows
def none {H : Type} : Left H := { results := [], args := [] }

/-- 'chattellaw10.MonthSeries': WHATEVER THE INPUT: true; the input reads as it did. -/
def monthSeriesSpec : ChangeSpec := { name := "monthSeries", fn := fun _ => fun
  | [d1, d2, d3] => { results := [.lit (.bool true)], args := [d1, d2, d3] }
  | _ => none }
def monthSeriesRow : OpenClaim := { program := "ytfikfmediheioaa", sum := "551fc39ee36d67d07bbb71a172b1bbe7a74cc1873a2cc42207011eea7d37aa6f", func := "chattel/chattellaw10.MonthSeries", spec := "monthSeries", apart := false }
def MonthSeriesSaid : Prop := monthSeriesRow.holds Try.pinned (OpenSpec.ofChange monthSeriesSpec)

/-- ITS FALSE NEIGHBOUR: 'it returns false'. Refute it at one input. -/
def monthSeriesWrong : ChangeSpec := { name := "monthSeries", fn := fun _ => fun
  | [d1, d2, d3] => { results := [.lit (.bool false)], args := [d1, d2, d3] }
  | _ => none }
def MonthSeriesWrongFalsely : Prop := monthSeriesRow.holds Try.pinned (OpenSpec.ofChange monthSeriesWrong)

/-- 'chattellaw10.MonthTwice': WHATEVER THE INPUT: true; the input reads as it did. -/
def monthTwiceSpec : ChangeSpec := { name := "monthTwice", fn := fun _ => fun
  | [d1, d2, d3] => { results := [.lit (.bool true)], args := [d1, d2, d3] }
  | _ => none }
def monthTwiceRow : OpenClaim := { program := "ytfikfmediheioaa", sum := "551fc39ee36d67d07bbb71a172b1bbe7a74cc1873a2cc42207011eea7d37aa6f", func := "chattel/chattellaw10.MonthTwice", spec := "monthTwice", apart := false }
def MonthTwiceSaid : Prop := monthTwiceRow.holds Try.pinned (OpenSpec.ofChange monthTwiceSpec)

/-- ITS FALSE NEIGHBOUR: 'it returns false'. Refute it at one input. -/
def monthTwiceWrong : ChangeSpec := { name := "monthTwice", fn := fun _ => fun
  | [d1, d2, d3] => { results := [.lit (.bool false)], args := [d1, d2, d3] }
  | _ => none }
def MonthTwiceWrongFalsely : Prop := monthTwiceRow.holds Try.pinned (OpenSpec.ofChange monthTwiceWrong)

/-- 'chattellaw10.MonthRises': WHATEVER THE INPUT: true; the input reads as it did. -/
def monthRisesSpec : ChangeSpec := { name := "monthRises", fn := fun _ => fun
  | [d1, d2, d3] => { results := [.lit (.bool true)], args := [d1, d2, d3] }
  | _ => none }
def monthRisesRow : OpenClaim := { program := "ytfikfmediheioaa", sum := "551fc39ee36d67d07bbb71a172b1bbe7a74cc1873a2cc42207011eea7d37aa6f", func := "chattel/chattellaw10.MonthRises", spec := "monthRises", apart := false }
def MonthRisesSaid : Prop := monthRisesRow.holds Try.pinned (OpenSpec.ofChange monthRisesSpec)

/-- ITS FALSE NEIGHBOUR: 'it returns false'. Refute it at one input. -/
def monthRisesWrong : ChangeSpec := { name := "monthRises", fn := fun _ => fun
  | [d1, d2, d3] => { results := [.lit (.bool false)], args := [d1, d2, d3] }
  | _ => none }
def MonthRisesWrongFalsely : Prop := monthRisesRow.holds Try.pinned (OpenSpec.ofChange monthRisesWrong)

/-- 'chattellaw09.DateTells': WHATEVER THE INPUT: true; the input reads as it did. -/
def dateTellsSpec : ChangeSpec := { name := "dateTells", fn := fun _ => fun
  | [d] => { results := [.lit (.bool true)], args := [d] }
  | _ => none }
def dateTellsRow : OpenClaim := { program := "ytfikfmediheioaa", sum := "551fc39ee36d67d07bbb71a172b1bbe7a74cc1873a2cc42207011eea7d37aa6f", func := "chattel/chattellaw09.DateTells", spec := "dateTells", apart := false }
def DateTellsSaid : Prop := dateTellsRow.holds Try.pinned (OpenSpec.ofChange dateTellsSpec)

/-- ITS FALSE NEIGHBOUR: 'it returns false'. Refute it at one input. -/
def dateTellsWrong : ChangeSpec := { name := "dateTells", fn := fun _ => fun
  | [d] => { results := [.lit (.bool false)], args := [d] }
  | _ => none }
def DateTellsWrongFalsely : Prop := dateTellsRow.holds Try.pinned (OpenSpec.ofChange dateTellsWrong)

/-- 'chattellaw09.DateBack': WHATEVER THE INPUT: true; the input reads as it did. -/
def dateBackSpec : ChangeSpec := { name := "dateBack", fn := fun _ => fun
  | [d] => { results := [.lit (.bool true)], args := [d] }
  | _ => none }
def dateBackRow : OpenClaim := { program := "ytfikfmediheioaa", sum := "551fc39ee36d67d07bbb71a172b1bbe7a74cc1873a2cc42207011eea7d37aa6f", func := "chattel/chattellaw09.DateBack", spec := "dateBack", apart := false }
def DateBackSaid : Prop := dateBackRow.holds Try.pinned (OpenSpec.ofChange dateBackSpec)

/-- ITS FALSE NEIGHBOUR: 'it returns false'. Refute it at one input. -/
def dateBackWrong : ChangeSpec := { name := "dateBack", fn := fun _ => fun
  | [d] => { results := [.lit (.bool false)], args := [d] }
  | _ => none }
def DateBackWrongFalsely : Prop := dateBackRow.holds Try.pinned (OpenSpec.ofChange dateBackWrong)

/-- 'chattellaw09.DateTexts': WHATEVER THE INPUT: true; the input reads as it did. -/
def dateTextsSpec : ChangeSpec := { name := "dateTexts", fn := fun _ => fun
  | [d1, d2] => { results := [.lit (.bool true)], args := [d1, d2] }
  | _ => none }
def dateTextsRow : OpenClaim := { program := "ytfikfmediheioaa", sum := "551fc39ee36d67d07bbb71a172b1bbe7a74cc1873a2cc42207011eea7d37aa6f", func := "chattel/chattellaw09.DateTexts", spec := "dateTexts", apart := false }
def DateTextsSaid : Prop := dateTextsRow.holds Try.pinned (OpenSpec.ofChange dateTextsSpec)

/-- ITS FALSE NEIGHBOUR: 'it returns false'. Refute it at one input. -/
def dateTextsWrong : ChangeSpec := { name := "dateTexts", fn := fun _ => fun
  | [d1, d2] => { results := [.lit (.bool false)], args := [d1, d2] }
  | _ => none }
def DateTextsWrongFalsely : Prop := dateTextsRow.holds Try.pinned (OpenSpec.ofChange dateTextsWrong)

/-- 'chattellaw10.MonthAdds': WHATEVER THE INPUT: true; the input reads as it did. -/
def monthAddsSpec : ChangeSpec := { name := "monthAdds", fn := fun _ => fun
  | [d1, d2] => { results := [.lit (.bool true)], args := [d1, d2] }
  | _ => none }
def monthAddsRow : OpenClaim := { program := "ytfikfmediheioaa", sum := "551fc39ee36d67d07bbb71a172b1bbe7a74cc1873a2cc42207011eea7d37aa6f", func := "chattel/chattellaw10.MonthAdds", spec := "monthAdds", apart := false }
def MonthAddsSaid : Prop := monthAddsRow.holds Try.pinned (OpenSpec.ofChange monthAddsSpec)

/-- ITS FALSE NEIGHBOUR: 'it returns false'. Refute it at one input. -/
def monthAddsWrong : ChangeSpec := { name := "monthAdds", fn := fun _ => fun
  | [d1, d2] => { results := [.lit (.bool false)], args := [d1, d2] }
  | _ => none }
def MonthAddsWrongFalsely : Prop := monthAddsRow.holds Try.pinned (OpenSpec.ofChange monthAddsWrong)

/-- 'chattellaw10.MonthBetween': WHATEVER THE INPUT: true; the input reads as it did. -/
def monthBetweenSpec : ChangeSpec := { name := "monthBetween", fn := fun _ => fun
  | [d1, d2] => { results := [.lit (.bool true)], args := [d1, d2] }
  | _ => none }
def monthBetweenRow : OpenClaim := { program := "ytfikfmediheioaa", sum := "551fc39ee36d67d07bbb71a172b1bbe7a74cc1873a2cc42207011eea7d37aa6f", func := "chattel/chattellaw10.MonthBetween", spec := "monthBetween", apart := false }
def MonthBetweenSaid : Prop := monthBetweenRow.holds Try.pinned (OpenSpec.ofChange monthBetweenSpec)

/-- ITS FALSE NEIGHBOUR: 'it returns false'. Refute it at one input. -/
def monthBetweenWrong : ChangeSpec := { name := "monthBetween", fn := fun _ => fun
  | [d1, d2] => { results := [.lit (.bool false)], args := [d1, d2] }
  | _ => none }
def MonthBetweenWrongFalsely : Prop := monthBetweenRow.holds Try.pinned (OpenSpec.ofChange monthBetweenWrong)

/-- 'chattellaw09.DateOrder': WHATEVER THE INPUT: true; the input reads as it did. -/
def dateOrderSpec : ChangeSpec := { name := "dateOrder", fn := fun _ => fun
  | [d1, d2] => { results := [.lit (.bool true)], args := [d1, d2] }
  | _ => none }
def dateOrderRow : OpenClaim := { program := "ytfikfmediheioaa", sum := "551fc39ee36d67d07bbb71a172b1bbe7a74cc1873a2cc42207011eea7d37aa6f", func := "chattel/chattellaw09.DateOrder", spec := "dateOrder", apart := false }
def DateOrderSaid : Prop := dateOrderRow.holds Try.pinned (OpenSpec.ofChange dateOrderSpec)

/-- ITS FALSE NEIGHBOUR: 'it returns false'. Refute it at one input. -/
def dateOrderWrong : ChangeSpec := { name := "dateOrder", fn := fun _ => fun
  | [d1, d2] => { results := [.lit (.bool false)], args := [d1, d2] }
  | _ => none }
def DateOrderWrongFalsely : Prop := dateOrderRow.holds Try.pinned (OpenSpec.ofChange dateOrderWrong)

/- THE SECOND FORM. 'bulk': how many values and letters a reading holds, each counted each time it is reached (what is shared counts as often as it is met; a slice's spare places count too). A statement '..UptoSaid' is the law's where the arguments, and the package variables that the reading takes, are together of bulk at most 1048576: NARROWER than '..Said'. Prove '..Said' where nothing that the law and all that it calls make is longer than what came in: it says more and counts as full. Else prove '..UptoSaid'. A law counts once. -/
mutual
def uptoBulk {H : Type} : DataW H → Nat
  | .lit (.string bytes) => bytes.length + 1
  | .lit _ => 1
  | .nil => 1
  | .ptr d => uptoBulk d + 1
  | .slice elems spare => uptoBulkAll elems + uptoBulkAll spare + 1
  | .agg parts => uptoBulkAll parts + 1
  | .iface _ d => uptoBulk d + 1
  | .map entries => uptoBulkEntries entries + 1
  | .held _ => 1
def uptoBulkAll {H : Type} : List (DataW H) → Nat
  | [] => 0
  | d :: r => uptoBulk d + uptoBulkAll r
def uptoBulkEntries {H : Type} : List (Lit × DataW H) → Nat
  | [] => 0
  | x :: r => uptoBulkEntry x + uptoBulkEntries r
def uptoBulkEntry {H : Type} : Lit × DataW H → Nat
  | (.string bytes, d) => bytes.length + uptoBulk d + 1
  | (_, d) => uptoBulk d + 1
 end
def uptoSmall : (H : Type) → List (DataW H) → Bool := fun _ ds => decide (uptoBulkAll ds ≤ 1048576)
def OpenSpec.upto (s : _root_.Go.ChangeSpec) : _root_.Go.OpenSpec := { _root_.Go.OpenSpec.ofChange s with cond := some uptoSmall }

/-- 'chattellaw10.MonthSeries', WHERE WHAT IT READS IS OF BULK AT MOST 1048576: true; the input reads as it did. -/
def monthSeriesUptoRow : OpenClaim := { program := "ytfikfmediheioaa", sum := "551fc39ee36d67d07bbb71a172b1bbe7a74cc1873a2cc42207011eea7d37aa6f", func := "chattel/chattellaw10.MonthSeries", spec := "monthSeries", apart := false, narrowed := true }
def MonthSeriesUptoSaid : Prop := monthSeriesUptoRow.holds Try.pinned (OpenSpec.upto monthSeriesSpec)

/-- 'chattellaw10.MonthTwice', WHERE WHAT IT READS IS OF BULK AT MOST 1048576: true; the input reads as it did. -/
def monthTwiceUptoRow : OpenClaim := { program := "ytfikfmediheioaa", sum := "551fc39ee36d67d07bbb71a172b1bbe7a74cc1873a2cc42207011eea7d37aa6f", func := "chattel/chattellaw10.MonthTwice", spec := "monthTwice", apart := false, narrowed := true }
def MonthTwiceUptoSaid : Prop := monthTwiceUptoRow.holds Try.pinned (OpenSpec.upto monthTwiceSpec)

/-- 'chattellaw10.MonthRises', WHERE WHAT IT READS IS OF BULK AT MOST 1048576: true; the input reads as it did. -/
def monthRisesUptoRow : OpenClaim := { program := "ytfikfmediheioaa", sum := "551fc39ee36d67d07bbb71a172b1bbe7a74cc1873a2cc42207011eea7d37aa6f", func := "chattel/chattellaw10.MonthRises", spec := "monthRises", apart := false, narrowed := true }
def MonthRisesUptoSaid : Prop := monthRisesUptoRow.holds Try.pinned (OpenSpec.upto monthRisesSpec)

/-- 'chattellaw09.DateTells', WHERE WHAT IT READS IS OF BULK AT MOST 1048576: true; the input reads as it did. -/
def dateTellsUptoRow : OpenClaim := { program := "ytfikfmediheioaa", sum := "551fc39ee36d67d07bbb71a172b1bbe7a74cc1873a2cc42207011eea7d37aa6f", func := "chattel/chattellaw09.DateTells", spec := "dateTells", apart := false, narrowed := true }
def DateTellsUptoSaid : Prop := dateTellsUptoRow.holds Try.pinned (OpenSpec.upto dateTellsSpec)

/-- 'chattellaw09.DateBack', WHERE WHAT IT READS IS OF BULK AT MOST 1048576: true; the input reads as it did. -/
def dateBackUptoRow : OpenClaim := { program := "ytfikfmediheioaa", sum := "551fc39ee36d67d07bbb71a172b1bbe7a74cc1873a2cc42207011eea7d37aa6f", func := "chattel/chattellaw09.DateBack", spec := "dateBack", apart := false, narrowed := true }
def DateBackUptoSaid : Prop := dateBackUptoRow.holds Try.pinned (OpenSpec.upto dateBackSpec)

/-- 'chattellaw09.DateTexts', WHERE WHAT IT READS IS OF BULK AT MOST 1048576: true; the input reads as it did. -/
def dateTextsUptoRow : OpenClaim := { program := "ytfikfmediheioaa", sum := "551fc39ee36d67d07bbb71a172b1bbe7a74cc1873a2cc42207011eea7d37aa6f", func := "chattel/chattellaw09.DateTexts", spec := "dateTexts", apart := false, narrowed := true }
def DateTextsUptoSaid : Prop := dateTextsUptoRow.holds Try.pinned (OpenSpec.upto dateTextsSpec)

/-- 'chattellaw10.MonthAdds', WHERE WHAT IT READS IS OF BULK AT MOST 1048576: true; the input reads as it did. -/
def monthAddsUptoRow : OpenClaim := { program := "ytfikfmediheioaa", sum := "551fc39ee36d67d07bbb71a172b1bbe7a74cc1873a2cc42207011eea7d37aa6f", func := "chattel/chattellaw10.MonthAdds", spec := "monthAdds", apart := false, narrowed := true }
def MonthAddsUptoSaid : Prop := monthAddsUptoRow.holds Try.pinned (OpenSpec.upto monthAddsSpec)

/-- 'chattellaw10.MonthBetween', WHERE WHAT IT READS IS OF BULK AT MOST 1048576: true; the input reads as it did. -/
def monthBetweenUptoRow : OpenClaim := { program := "ytfikfmediheioaa", sum := "551fc39ee36d67d07bbb71a172b1bbe7a74cc1873a2cc42207011eea7d37aa6f", func := "chattel/chattellaw10.MonthBetween", spec := "monthBetween", apart := false, narrowed := true }
def MonthBetweenUptoSaid : Prop := monthBetweenUptoRow.holds Try.pinned (OpenSpec.upto monthBetweenSpec)

/-- 'chattellaw09.DateOrder', WHERE WHAT IT READS IS OF BULK AT MOST 1048576: true; the input reads as it did. -/
def dateOrderUptoRow : OpenClaim := { program := "ytfikfmediheioaa", sum := "551fc39ee36d67d07bbb71a172b1bbe7a74cc1873a2cc42207011eea7d37aa6f", func := "chattel/chattellaw09.DateOrder", spec := "dateOrder", apart := false, narrowed := true }
def DateOrderUptoSaid : Prop := dateOrderUptoRow.holds Try.pinned (OpenSpec.upto dateOrderSpec)

end Rows
end Go.Proofs.Ytfikfmediheioaa
