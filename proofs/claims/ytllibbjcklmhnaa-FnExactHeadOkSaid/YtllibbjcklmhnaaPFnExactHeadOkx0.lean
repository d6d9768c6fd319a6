-- PRINTED BY print.sh 35421559b90ae4d0a3588c463048766b98c2df88dd9212a6774a882060cdf62d: not written by this session
import Derived.Test.YtllibbjcklmhnaaProg
import Derived.Below
import Derived.Deep.Draws
import Derived.Deep.AppendLies
import Derived.Maps.AppendAt
import Derived.OwnWalk
import Derived.Laws.BytesArg
import Derived.Laws.MakeOwn
import Derived.Laws.OwnMore
import Derived.Deep.OwnRows
import Derived.Tactics
import Derived.Lib.ConvBytes
import Derived.Laws.Slices
import Derived.WalkKit
import Derived.KernelRfl
import Derived.RowKit3
import Derived.Deep.LoopGhost
import Derived.Deep.QuietTactic
import Derived.BigQuiet
import Derived.WideLaws
import Derived.Deep.DeepCutAuto
import Derived.Deep.CutBlock
import Derived.Deep.RegionHeld3
import Derived.Laws.Rows
import Derived.Lib.AppendStr
import Derived.ArgAppend
import Derived.Laws.IdiomCopy
import Derived.OrdersHeld
import Derived.Laws.BitsLemmas
import Derived.RowKit
import Derived.Test.YtllibbjcklmhnaaWWords
import Derived.Test.YtllibbjcklmhnaaWLast
import Derived.Test.YtllibbjcklmhnaaWTab
import Derived.Test.YtllibbjcklmhnaaWFour
import Derived.Test.YtllibbjcklmhnaaWQPut
import Derived.Test.YtllibbjcklmhnaaWApart
import Derived.Test.YtllibbjcklmhnaaWArr
import Derived.Test.YtllibbjcklmhnaaWZeros
import Derived.Test.YtllibbjcklmhnaaWFoot
import Derived.Test.YtllibbjcklmhnaaWKept
import Derived.Test.YtllibbjcklmhnaaWShare
import Derived.Test.YtllibbjcklmhnaaWN
import Derived.Test.YtllibbjcklmhnaaWFootNe
import Derived.Test.YtllibbjcklmhnaaWAt
import Derived.Test.YtllibbjcklmhnaaWEqStruct
import Derived.Test.YtllibbjcklmhnaaWRepsOne
import Derived.Test.YtllibbjcklmhnaaWInv
import Derived.Test.YtllibbjcklmhnaaWInvWords
import Derived.Test.YtllibbjcklmhnaaWGuard
import Derived.Test.YtllibbjcklmhnaaWNEv
import Derived.Test.YtllibbjcklmhnaaWMore
namespace Go.Proofs.Ytllibbjcklmhnaa.PFnExactHeadOk
open Go.RowKit Go.Proofs.YtllibbjcklmhnaaW.PrintWords Go.Proofs.YtllibbjcklmhnaaW.PrintLast Go.Proofs.YtllibbjcklmhnaaW.PrintMore
attribute [local go_sem] max2_int min2_int max_two min_two max_three min_three max_four min_four   -- for this text's walks alone
set_option linter.unusedVariables false
set_option linter.unusedSimpArgs false



def errW : Option Int → Value
  | none => .nilIface
  | some c => .iface 0 (.int .i64 c)
theorem errW_none : errW none = .nilIface := rfl
theorem errW_some (c : Int) : errW (some c) = .iface 0 (.int .i64 c) := rfl

-- the values' own types

end Go.Proofs.Ytllibbjcklmhnaa.PFnExactHeadOk
