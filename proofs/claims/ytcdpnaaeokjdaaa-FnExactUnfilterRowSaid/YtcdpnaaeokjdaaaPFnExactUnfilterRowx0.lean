/- Walks of functions that the law FnExactUnfilterRow reaches: each call comes to what the Lean function of its name tells. Written by p2.py, a program of this session, by way of the kit's print. -/
import Derived.Test.YtcdpnaaeokjdaaaProg
import Derived.Below
import Derived.Deep.Draws
import Derived.Deep.AppendLies
import Derived.Maps.AppendAt
import Derived.OwnWalk
import Derived.Laws.BytesArg
import Derived.Laws.MakeOwn
import Derived.Laws.OwnMore
import Derived.Deep.OwnRows
import Derived.Tactics
import Derived.Lib.ConvBytes
import Derived.Laws.Slices
import Derived.WalkKit
import Derived.KernelRfl
import Derived.RowKit3
import Derived.Deep.LoopGhost
import Derived.Deep.QuietTactic
import Derived.BigQuiet
import Derived.WideLaws
import Derived.Deep.DeepCutAuto
import Derived.Deep.CutBlock
import Derived.Deep.RegionHeld3
import Derived.Laws.Rows
import Derived.Lib.AppendStr
import Derived.ArgAppend
import Derived.Laws.IdiomCopy
import Derived.OrdersHeld
import Derived.Laws.BitsLemmas
import Derived.RowKit
import Derived.Deep.CutRange
import Derived.Test.YtcdpnaaeokjdaaaHandKit
import Derived.Test.YtcdpnaaeokjdaaaWWords
import Derived.Test.YtcdpnaaeokjdaaaWLast
import Derived.Test.YtcdpnaaeokjdaaaWTab
import Derived.Test.YtcdpnaaeokjdaaaWFour
import Derived.Test.YtcdpnaaeokjdaaaWQPut
import Derived.Test.YtcdpnaaeokjdaaaWApart
import Derived.Test.YtcdpnaaeokjdaaaWArr
import Derived.Test.YtcdpnaaeokjdaaaWZeros
import Derived.Test.YtcdpnaaeokjdaaaWFoot
import Derived.Test.YtcdpnaaeokjdaaaWKept
import Derived.Test.YtcdpnaaeokjdaaaWShare
import Derived.Test.YtcdpnaaeokjdaaaWN
import Derived.Test.YtcdpnaaeokjdaaaWFootNe
import Derived.Test.YtcdpnaaeokjdaaaWAt
import Derived.Test.YtcdpnaaeokjdaaaWEqStruct
import Derived.Test.YtcdpnaaeokjdaaaWRepsOne
import Derived.Test.YtcdpnaaeokjdaaaWInv
import Derived.Test.YtcdpnaaeokjdaaaWInvWords
import Derived.Test.YtcdpnaaeokjdaaaWGuard
import Derived.Test.YtcdpnaaeokjdaaaWNEv
import Derived.Test.YtcdpnaaeokjdaaaWMore
namespace Go.Proofs.Ytcdpnaaeokjdaaa.PFnExactUnfilterRow
open Go.RowKit Go.Proofs.YtcdpnaaeokjdaaaW.PrintWords Go.Proofs.YtcdpnaaeokjdaaaW.PrintLast Go.Proofs.YtcdpnaaeokjdaaaW.PrintMore
attribute [local go_sem] max2_int min2_int max_two min_two max_three min_three max_four min_four   -- for this text's walks alone
set_option linter.unusedVariables false
set_option linter.unusedSimpArgs false



def errW : Option Int → Value
  | none => .nilIface
  | some c => .iface 0 (.int .i64 c)
theorem errW_none : errW none = .nilIface := rfl
theorem errW_some (c : Int) : errW (some c) = .iface 0 (.int .i64 c) := rfl

theorem info3 : (Try.prog.info? 3).map (fun i => (i.zero, i.size, i.bytes)) = some (some (.int .i64 0), 1, 8) := by kernel_rfl
theorem info5 : (Try.prog.info? 5).map (fun i => (i.zero, i.size, i.bytes)) = some (some (.int .u8 0), 1, 1) := by kernel_rfl
-- the values' own types

end Go.Proofs.Ytcdpnaaeokjdaaa.PFnExactUnfilterRow
