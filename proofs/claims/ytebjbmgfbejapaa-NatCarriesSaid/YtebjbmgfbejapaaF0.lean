-- Written by this session's printer (wip/tools), out of the translation's own print. Lean checks it.
import Derived.Test.YtebjbmgfbejapaaProg
import Derived.Below
import Derived.Deep.Draws
import Derived.Deep.AppendLies
import Derived.Maps.AppendAt
import Derived.OwnWalk
import Derived.Laws.BytesArg
import Derived.Laws.MakeOwn
import Derived.Laws.OwnMore
import Derived.Deep.OwnRows
import Derived.Tactics
import Derived.Lib.ConvBytes
import Derived.Laws.Slices
import Derived.WalkKit
import Derived.KernelRfl
import Derived.RowKit3
import Derived.Deep.LoopGhost
import Derived.Deep.QuietTactic
import Derived.BigQuiet
import Derived.WideLaws
import Derived.Deep.DeepCutAuto
import Derived.Deep.CutBlock
import Derived.Deep.RegionHeld3
import Derived.Laws.Rows
import Derived.Lib.AppendStr
import Derived.ArgAppend
import Derived.Laws.IdiomCopy
import Derived.OrdersHeld
import Derived.Laws.BitsLemmas
import Derived.RowKit
import Derived.Test.YtebjbmgfbejapaaWWords
import Derived.Test.YtebjbmgfbejapaaWLast
import Derived.Test.YtebjbmgfbejapaaWTab
import Derived.Test.YtebjbmgfbejapaaWFour
import Derived.Test.YtebjbmgfbejapaaWQPut
import Derived.Test.YtebjbmgfbejapaaWApart
import Derived.Test.YtebjbmgfbejapaaWArr
import Derived.Test.YtebjbmgfbejapaaWZeros
import Derived.Test.YtebjbmgfbejapaaWFoot
import Derived.Test.YtebjbmgfbejapaaWKept
import Derived.Test.YtebjbmgfbejapaaWShare
import Derived.Test.YtebjbmgfbejapaaWN
import Derived.Test.YtebjbmgfbejapaaWFootNe
import Derived.Test.YtebjbmgfbejapaaWAt
import Derived.Test.YtebjbmgfbejapaaWEqStruct
import Derived.Test.YtebjbmgfbejapaaWRepsOne
import Derived.Test.YtebjbmgfbejapaaWInv
import Derived.Test.YtebjbmgfbejapaaWInvWords
import Derived.Test.YtebjbmgfbejapaaWGuard
import Derived.Test.YtebjbmgfbejapaaWNEv
import Derived.Test.YtebjbmgfbejapaaWMore
import Derived.Test.YtebjbmgfbejapaaX
namespace Go.Proofs.Ytebjbmgfbejapaa.F
open Go.RowKit Go.Proofs.YtebjbmgfbejapaaW.PrintWords Go.Proofs.YtebjbmgfbejapaaW.PrintLast Go.Proofs.YtebjbmgfbejapaaW.PrintMore Go.Proofs.YtebjbmgfbejapaaX
attribute [local go_sem] max2_int cell_some xrun_add64 xrun_sub64
attribute [local go_sem] max2_int min2_int max_two min_two max_three min_three max_four min_four   -- for this text's walks alone
set_option linter.unusedVariables false
set_option linter.unusedSimpArgs false



def errW : Option Int → Value
  | none => .nilIface
  | some c => .iface 0 (.int .i64 c)
theorem errW_none : errW none = .nilIface := rfl
theorem errW_some (c : Int) : errW (some c) = .iface 0 (.int .i64 c) := rfl

theorem info3 : (Try.prog.info? 3).map (fun i => (i.zero, i.size, i.bytes)) = some (some (.int .i64 0), 1, 8) := by kernel_rfl
theorem info27 : (Try.prog.info? 27).map (fun i => (i.zero, i.size, i.bytes)) = some (some (.int .u64 0), 1, 8) := by kernel_rfl
-- the values' own types

end Go.Proofs.Ytebjbmgfbejapaa.F
