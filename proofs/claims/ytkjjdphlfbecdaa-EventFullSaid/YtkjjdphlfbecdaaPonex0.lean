-- Written by a program of this work, after the translation.
import Derived.Test.YtkjjdphlfbecdaaProg
import Derived.Below
import Derived.Deep.Draws
import Derived.Deep.AppendLies
import Derived.Maps.AppendAt
import Derived.OwnWalk
import Derived.Laws.BytesArg
import Derived.Laws.MakeOwn
import Derived.Laws.OwnMore
import Derived.Deep.OwnRows
import Derived.Tactics
import Derived.Lib.ConvBytes
import Derived.Laws.Slices
import Derived.WalkKit
import Derived.KernelRfl
import Derived.RowKit3
import Derived.Deep.LoopGhost
import Derived.Deep.QuietTactic
import Derived.BigQuiet
import Derived.WideLaws
import Derived.Deep.DeepCutAuto
import Derived.Deep.CutBlock
import Derived.Deep.RegionHeld3
import Derived.Laws.Rows
import Derived.Lib.AppendStr
import Derived.ArgAppend
import Derived.Laws.IdiomCopy
import Derived.OrdersHeld
import Derived.Laws.BitsLemmas
import Derived.RowKit
import Derived.Test.YtkjjdphlfbecdaaWWords
import Derived.Test.YtkjjdphlfbecdaaWLast
import Derived.Test.YtkjjdphlfbecdaaWTab
import Derived.Test.YtkjjdphlfbecdaaWFour
import Derived.Test.YtkjjdphlfbecdaaWQPut
import Derived.Test.YtkjjdphlfbecdaaWApart
import Derived.Test.YtkjjdphlfbecdaaWArr
import Derived.Test.YtkjjdphlfbecdaaWZeros
import Derived.Test.YtkjjdphlfbecdaaWFoot
import Derived.Test.YtkjjdphlfbecdaaWKept
import Derived.Test.YtkjjdphlfbecdaaWShare
import Derived.Test.YtkjjdphlfbecdaaWN
import Derived.Test.YtkjjdphlfbecdaaWFootNe
import Derived.Test.YtkjjdphlfbecdaaWAt
import Derived.Test.YtkjjdphlfbecdaaWEqStruct
import Derived.Test.YtkjjdphlfbecdaaWRepsOne
import Derived.Test.YtkjjdphlfbecdaaWInv
import Derived.Test.YtkjjdphlfbecdaaWInvWords
import Derived.Test.YtkjjdphlfbecdaaWGuard
import Derived.Test.YtkjjdphlfbecdaaWNEv
import Derived.Test.YtkjjdphlfbecdaaWMore
namespace Go.Proofs.Ytkjjdphlfbecdaa.Pone
open Go.RowKit Go.Proofs.YtkjjdphlfbecdaaW.PrintWords Go.Proofs.YtkjjdphlfbecdaaW.PrintLast Go.Proofs.YtkjjdphlfbecdaaW.PrintMore
attribute [local go_sem] max2_int min2_int max_two min_two max_three min_three max_four min_four   -- for this text's walks alone
set_option linter.unusedVariables false
set_option linter.unusedSimpArgs false



def errW : Option Int → Value
  | none => .nilIface
  | some c => .iface 0 (.int .i64 c)
theorem errW_none : errW none = .nilIface := rfl
theorem errW_some (c : Int) : errW (some c) = .iface 0 (.int .i64 c) := rfl

theorem info3 : (Try.prog.info? 3).map (fun i => (i.zero, i.size, i.bytes)) = some (some (.int .i64 0), 1, 8) := by kernel_rfl
theorem info53 : (Try.prog.info? 53).map (fun i => (i.zero, i.size, i.bytes)) = some (some (.int .u64 0), 1, 8) := by kernel_rfl
-- the values' own types

end Go.Proofs.Ytkjjdphlfbecdaa.Pone
