/- Walks of functions that the law FnExactReadHead reaches: each call comes to what the Lean function of its name tells. Written by p2.py, a program of this session, by way of the kit's print. -/
import Derived.Test.YtefoebmcimnapaaProg
import Derived.Below
import Derived.Deep.Draws
import Derived.Deep.AppendLies
import Derived.Maps.AppendAt
import Derived.OwnWalk
import Derived.Laws.BytesArg
import Derived.Laws.MakeOwn
import Derived.Laws.OwnMore
import Derived.Deep.OwnRows
import Derived.Tactics
import Derived.Lib.ConvBytes
import Derived.Laws.Slices
import Derived.WalkKit
import Derived.KernelRfl
import Derived.RowKit3
import Derived.Deep.LoopGhost
import Derived.Deep.QuietTactic
import Derived.BigQuiet
import Derived.WideLaws
import Derived.Deep.DeepCutAuto
import Derived.Deep.CutBlock
import Derived.Deep.RegionHeld3
import Derived.Laws.Rows
import Derived.Lib.AppendStr
import Derived.ArgAppend
import Derived.Laws.IdiomCopy
import Derived.OrdersHeld
import Derived.Laws.BitsLemmas
import Derived.RowKit
import Derived.Deep.CutRange
import Derived.Test.YtefoebmcimnapaaHandKit
import Derived.Test.YtefoebmcimnapaaWWords
import Derived.Test.YtefoebmcimnapaaWLast
import Derived.Test.YtefoebmcimnapaaWTab
import Derived.Test.YtefoebmcimnapaaWFour
import Derived.Test.YtefoebmcimnapaaWQPut
import Derived.Test.YtefoebmcimnapaaWApart
import Derived.Test.YtefoebmcimnapaaWArr
import Derived.Test.YtefoebmcimnapaaWZeros
import Derived.Test.YtefoebmcimnapaaWFoot
import Derived.Test.YtefoebmcimnapaaWKept
import Derived.Test.YtefoebmcimnapaaWShare
import Derived.Test.YtefoebmcimnapaaWN
import Derived.Test.YtefoebmcimnapaaWFootNe
import Derived.Test.YtefoebmcimnapaaWAt
import Derived.Test.YtefoebmcimnapaaWEqStruct
import Derived.Test.YtefoebmcimnapaaWRepsOne
import Derived.Test.YtefoebmcimnapaaWInv
import Derived.Test.YtefoebmcimnapaaWInvWords
import Derived.Test.YtefoebmcimnapaaWGuard
import Derived.Test.YtefoebmcimnapaaWNEv
import Derived.Test.YtefoebmcimnapaaWMore
namespace Go.Proofs.Ytefoebmcimnapaa.PFnExactReadHead
open Go.RowKit Go.Proofs.YtefoebmcimnapaaW.PrintWords Go.Proofs.YtefoebmcimnapaaW.PrintLast Go.Proofs.YtefoebmcimnapaaW.PrintMore
attribute [local go_sem] max2_int min2_int max_two min_two max_three min_three max_four min_four   -- for this text's walks alone
set_option linter.unusedVariables false
set_option linter.unusedSimpArgs false



def errW : Option Int → Value
  | none => .nilIface
  | some c => .iface 0 (.int .i64 c)
theorem errW_none : errW none = .nilIface := rfl
theorem errW_some (c : Int) : errW (some c) = .iface 0 (.int .i64 c) := rfl

theorem info5 : (Try.prog.info? 5).map (fun i => (i.zero, i.size, i.bytes)) = some (some (.int .u8 0), 1, 1) := by kernel_rfl
-- the values' own types

end Go.Proofs.Ytefoebmcimnapaa.PFnExactReadHead
