/-
  No cell of these rows narrows 'for every input' (looked for: loops, veiled, ifaces, maps, wideKeys, modest, calm, conditions, laid).
  DERIVED. THE GIVEN ROWS OF THIS SEAT. 12 by the template 'for every input the law returns true; each argument reads behind the call as it read before'; 0 by the template 'total and deterministic' (their statements: YtllibbjcklmhnaaTotals.lean).
  GIVEN WITH THE SEED: the statements are not yours to turn. If you find one false, say at which input.
  Laid BY PROGRAM, IN A SANDBOX (cutbox-rows.mjs): the forced cells as the released guide's own fill.sh prints them over the translation 53c17c9899805c2c… (all of the seat's roots in one cut). By AI agents, Wed Nov 11 2026. No macro, syntax, notation, axiom, sorry.
-/
import Derived.Test.YtllibbjcklmhnaaChecked
import GoSem.Claim
import GoSem.ClaimJoined
import GoSem.ClaimMapViews
import Derived.JoinedTies
import Derived.KernelRfl
namespace Go.Proofs.Ytllibbjcklmhnaa
/- THE CELL 'sum', in the pinned program and in every row, IS THE sha256 OF THE DUMP (.gsa) THAT YtllibbjcklmhnaaProg.lean LOADS. Nothing in Lean hashes anything: it is a label: what it is worth is what the hold of that sum in a sandbox is worth. -/
noncomputable def Try.pinned : Pinned := { name := "ytllibbjcklmhnaa", sum := "53c17c9899805c2cc827d8e03271646420b7fcda797cc78226cead21ee298740", checked := Try.checked }
namespace Rows
def none {H : Type} : Left H := { results := [], args := [] }

/-- 'laws.FnExactNameOk': WHATEVER THE INPUT: true; the input reads as it did. -/
def fnExactNameOkSpec : ChangeSpec := { name := "fnExactNameOk", fn := fun _ => fun
  | [d] => { results := [.lit (.bool true)], args := [d] }
  | _ => none }
def fnExactNameOkRow : OpenClaim := { program := "ytllibbjcklmhnaa", sum := "53c17c9899805c2cc827d8e03271646420b7fcda797cc78226cead21ee298740", func := "loop.example/g00099/laws.FnExactNameOk", spec := "fnExactNameOk", apart := false }
def FnExactNameOkSaid : Prop := fnExactNameOkRow.holds Try.pinned (OpenSpec.ofChange fnExactNameOkSpec)

/-- ITS FALSE NEIGHBOUR: 'it returns false'. Refute it at one input. -/
def fnExactNameOkWrong : ChangeSpec := { name := "fnExactNameOk", fn := fun _ => fun
  | [d] => { results := [.lit (.bool false)], args := [d] }
  | _ => none }
def FnExactNameOkWrongFalsely : Prop := fnExactNameOkRow.holds Try.pinned (OpenSpec.ofChange fnExactNameOkWrong)

/-- 'laws.FnExactNeedless': WHATEVER THE INPUT: true; the input reads as it did. -/
def fnExactNeedlessSpec : ChangeSpec := { name := "fnExactNeedless", fn := fun _ => fun
  | [d] => { results := [.lit (.bool true)], args := [d] }
  | _ => none }
def fnExactNeedlessRow : OpenClaim := { program := "ytllibbjcklmhnaa", sum := "53c17c9899805c2cc827d8e03271646420b7fcda797cc78226cead21ee298740", func := "loop.example/g00099/laws.FnExactNeedless", spec := "fnExactNeedless", apart := false }
def FnExactNeedlessSaid : Prop := fnExactNeedlessRow.holds Try.pinned (OpenSpec.ofChange fnExactNeedlessSpec)

/-- ITS FALSE NEIGHBOUR: 'it returns false'. Refute it at one input. -/
def fnExactNeedlessWrong : ChangeSpec := { name := "fnExactNeedless", fn := fun _ => fun
  | [d] => { results := [.lit (.bool false)], args := [d] }
  | _ => none }
def FnExactNeedlessWrongFalsely : Prop := fnExactNeedlessRow.holds Try.pinned (OpenSpec.ofChange fnExactNeedlessWrong)

/-- 'laws.FnExactSafeToCopy': WHATEVER THE INPUT: true; the input reads as it did. -/
def fnExactSafeToCopySpec : ChangeSpec := { name := "fnExactSafeToCopy", fn := fun _ => fun
  | [d] => { results := [.lit (.bool true)], args := [d] }
  | _ => none }
def fnExactSafeToCopyRow : OpenClaim := { program := "ytllibbjcklmhnaa", sum := "53c17c9899805c2cc827d8e03271646420b7fcda797cc78226cead21ee298740", func := "loop.example/g00099/laws.FnExactSafeToCopy", spec := "fnExactSafeToCopy", apart := false }
def FnExactSafeToCopySaid : Prop := fnExactSafeToCopyRow.holds Try.pinned (OpenSpec.ofChange fnExactSafeToCopySpec)

/-- ITS FALSE NEIGHBOUR: 'it returns false'. Refute it at one input. -/
def fnExactSafeToCopyWrong : ChangeSpec := { name := "fnExactSafeToCopy", fn := fun _ => fun
  | [d] => { results := [.lit (.bool false)], args := [d] }
  | _ => none }
def FnExactSafeToCopyWrongFalsely : Prop := fnExactSafeToCopyRow.holds Try.pinned (OpenSpec.ofChange fnExactSafeToCopyWrong)

/-- 'laws.FnExactRowWeight': WHATEVER THE INPUT: true; the input reads as it did. -/
def fnExactRowWeightSpec : ChangeSpec := { name := "fnExactRowWeight", fn := fun _ => fun
  | [d] => { results := [.lit (.bool true)], args := [d] }
  | _ => none }
def fnExactRowWeightRow : OpenClaim := { program := "ytllibbjcklmhnaa", sum := "53c17c9899805c2cc827d8e03271646420b7fcda797cc78226cead21ee298740", func := "loop.example/g00099/laws.FnExactRowWeight", spec := "fnExactRowWeight", apart := false }
def FnExactRowWeightSaid : Prop := fnExactRowWeightRow.holds Try.pinned (OpenSpec.ofChange fnExactRowWeightSpec)

/-- ITS FALSE NEIGHBOUR: 'it returns false'. Refute it at one input. -/
def fnExactRowWeightWrong : ChangeSpec := { name := "fnExactRowWeight", fn := fun _ => fun
  | [d] => { results := [.lit (.bool false)], args := [d] }
  | _ => none }
def FnExactRowWeightWrongFalsely : Prop := fnExactRowWeightRow.holds Try.pinned (OpenSpec.ofChange fnExactRowWeightWrong)

/-- 'laws.FnExactChannelsOf': WHATEVER THE INPUT: true; the input reads as it did. -/
def fnExactChannelsOfSpec : ChangeSpec := { name := "fnExactChannelsOf", fn := fun _ => fun
  | [d] => { results := [.lit (.bool true)], args := [d] }
  | _ => none }
def fnExactChannelsOfRow : OpenClaim := { program := "ytllibbjcklmhnaa", sum := "53c17c9899805c2cc827d8e03271646420b7fcda797cc78226cead21ee298740", func := "loop.example/g00099/laws.FnExactChannelsOf", spec := "fnExactChannelsOf", apart := false }
def FnExactChannelsOfSaid : Prop := fnExactChannelsOfRow.holds Try.pinned (OpenSpec.ofChange fnExactChannelsOfSpec)

/-- ITS FALSE NEIGHBOUR: 'it returns false'. Refute it at one input. -/
def fnExactChannelsOfWrong : ChangeSpec := { name := "fnExactChannelsOf", fn := fun _ => fun
  | [d] => { results := [.lit (.bool false)], args := [d] }
  | _ => none }
def FnExactChannelsOfWrongFalsely : Prop := fnExactChannelsOfRow.holds Try.pinned (OpenSpec.ofChange fnExactChannelsOfWrong)

/-- 'laws.FnExactDepthOk': WHATEVER THE INPUT: true; the input reads as it did. -/
def fnExactDepthOkSpec : ChangeSpec := { name := "fnExactDepthOk", fn := fun _ => fun
  | [d1, d2] => { results := [.lit (.bool true)], args := [d1, d2] }
  | _ => none }
def fnExactDepthOkRow : OpenClaim := { program := "ytllibbjcklmhnaa", sum := "53c17c9899805c2cc827d8e03271646420b7fcda797cc78226cead21ee298740", func := "loop.example/g00099/laws.FnExactDepthOk", spec := "fnExactDepthOk", apart := false }
def FnExactDepthOkSaid : Prop := fnExactDepthOkRow.holds Try.pinned (OpenSpec.ofChange fnExactDepthOkSpec)

/-- ITS FALSE NEIGHBOUR: 'it returns false'. Refute it at one input. -/
def fnExactDepthOkWrong : ChangeSpec := { name := "fnExactDepthOk", fn := fun _ => fun
  | [d1, d2] => { results := [.lit (.bool false)], args := [d1, d2] }
  | _ => none }
def FnExactDepthOkWrongFalsely : Prop := fnExactDepthOkRow.holds Try.pinned (OpenSpec.ofChange fnExactDepthOkWrong)

/-- 'laws.FnExactPaeth': WHATEVER THE INPUT: true; the input reads as it did. -/
def fnExactPaethSpec : ChangeSpec := { name := "fnExactPaeth", fn := fun _ => fun
  | [d1, d2, d3] => { results := [.lit (.bool true)], args := [d1, d2, d3] }
  | _ => none }
def fnExactPaethRow : OpenClaim := { program := "ytllibbjcklmhnaa", sum := "53c17c9899805c2cc827d8e03271646420b7fcda797cc78226cead21ee298740", func := "loop.example/g00099/laws.FnExactPaeth", spec := "fnExactPaeth", apart := false }
def FnExactPaethSaid : Prop := fnExactPaethRow.holds Try.pinned (OpenSpec.ofChange fnExactPaethSpec)

/-- ITS FALSE NEIGHBOUR: 'it returns false'. Refute it at one input. -/
def fnExactPaethWrong : ChangeSpec := { name := "fnExactPaeth", fn := fun _ => fun
  | [d1, d2, d3] => { results := [.lit (.bool false)], args := [d1, d2, d3] }
  | _ => none }
def FnExactPaethWrongFalsely : Prop := fnExactPaethRow.holds Try.pinned (OpenSpec.ofChange fnExactPaethWrong)

/-- 'laws.FnExactPassStep': WHATEVER THE INPUT: true; the input reads as it did. -/
def fnExactPassStepSpec : ChangeSpec := { name := "fnExactPassStep", fn := fun _ => fun
  | [d] => { results := [.lit (.bool true)], args := [d] }
  | _ => none }
def fnExactPassStepRow : OpenClaim := { program := "ytllibbjcklmhnaa", sum := "53c17c9899805c2cc827d8e03271646420b7fcda797cc78226cead21ee298740", func := "loop.example/g00099/laws.FnExactPassStep", spec := "fnExactPassStep", apart := false }
def FnExactPassStepSaid : Prop := fnExactPassStepRow.holds Try.pinned (OpenSpec.ofChange fnExactPassStepSpec)

/-- ITS FALSE NEIGHBOUR: 'it returns false'. Refute it at one input. -/
def fnExactPassStepWrong : ChangeSpec := { name := "fnExactPassStep", fn := fun _ => fun
  | [d] => { results := [.lit (.bool false)], args := [d] }
  | _ => none }
def FnExactPassStepWrongFalsely : Prop := fnExactPassStepRow.holds Try.pinned (OpenSpec.ofChange fnExactPassStepWrong)

/-- 'laws.FnExactHeadOk': WHATEVER THE INPUT: true; the input reads as it did. -/
def fnExactHeadOkSpec : ChangeSpec := { name := "fnExactHeadOk", fn := fun _ => fun
  | [d] => { results := [.lit (.bool true)], args := [d] }
  | _ => none }
def fnExactHeadOkRow : OpenClaim := { program := "ytllibbjcklmhnaa", sum := "53c17c9899805c2cc827d8e03271646420b7fcda797cc78226cead21ee298740", func := "loop.example/g00099/laws.FnExactHeadOk", spec := "fnExactHeadOk", apart := false }
def FnExactHeadOkSaid : Prop := fnExactHeadOkRow.holds Try.pinned (OpenSpec.ofChange fnExactHeadOkSpec)

/-- ITS FALSE NEIGHBOUR: 'it returns false'. Refute it at one input. -/
def fnExactHeadOkWrong : ChangeSpec := { name := "fnExactHeadOk", fn := fun _ => fun
  | [d] => { results := [.lit (.bool false)], args := [d] }
  | _ => none }
def FnExactHeadOkWrongFalsely : Prop := fnExactHeadOkRow.holds Try.pinned (OpenSpec.ofChange fnExactHeadOkWrong)

/-- 'laws.FnExactRowBytes': WHATEVER THE INPUT: true; the input reads as it did. -/
def fnExactRowBytesSpec : ChangeSpec := { name := "fnExactRowBytes", fn := fun _ => fun
  | [d1, d2, d3] => { results := [.lit (.bool true)], args := [d1, d2, d3] }
  | _ => none }
def fnExactRowBytesRow : OpenClaim := { program := "ytllibbjcklmhnaa", sum := "53c17c9899805c2cc827d8e03271646420b7fcda797cc78226cead21ee298740", func := "loop.example/g00099/laws.FnExactRowBytes", spec := "fnExactRowBytes", apart := false }
def FnExactRowBytesSaid : Prop := fnExactRowBytesRow.holds Try.pinned (OpenSpec.ofChange fnExactRowBytesSpec)

/-- ITS FALSE NEIGHBOUR: 'it returns false'. Refute it at one input. -/
def fnExactRowBytesWrong : ChangeSpec := { name := "fnExactRowBytes", fn := fun _ => fun
  | [d1, d2, d3] => { results := [.lit (.bool false)], args := [d1, d2, d3] }
  | _ => none }
def FnExactRowBytesWrongFalsely : Prop := fnExactRowBytesRow.holds Try.pinned (OpenSpec.ofChange fnExactRowBytesWrong)

/-- 'laws.FnExactReadTable': WHATEVER THE INPUT: true; the input reads as it did. -/
def fnExactReadTableSpec : ChangeSpec := { name := "fnExactReadTable", fn := fun _ => fun
  | [d] => { results := [.lit (.bool true)], args := [d] }
  | _ => none }
def fnExactReadTableRow : OpenClaim := { program := "ytllibbjcklmhnaa", sum := "53c17c9899805c2cc827d8e03271646420b7fcda797cc78226cead21ee298740", func := "loop.example/g00099/laws.FnExactReadTable", spec := "fnExactReadTable", apart := false }
def FnExactReadTableSaid : Prop := fnExactReadTableRow.holds Try.pinned (OpenSpec.ofChange fnExactReadTableSpec)

/-- ITS FALSE NEIGHBOUR: 'it returns false'. Refute it at one input. -/
def fnExactReadTableWrong : ChangeSpec := { name := "fnExactReadTable", fn := fun _ => fun
  | [d] => { results := [.lit (.bool false)], args := [d] }
  | _ => none }
def FnExactReadTableWrongFalsely : Prop := fnExactReadTableRow.holds Try.pinned (OpenSpec.ofChange fnExactReadTableWrong)

/-- 'laws.FnExactPassSize': WHATEVER THE INPUT: true; the input reads as it did. -/
def fnExactPassSizeSpec : ChangeSpec := { name := "fnExactPassSize", fn := fun _ => fun
  | [d1, d2, d3] => { results := [.lit (.bool true)], args := [d1, d2, d3] }
  | _ => none }
def fnExactPassSizeRow : OpenClaim := { program := "ytllibbjcklmhnaa", sum := "53c17c9899805c2cc827d8e03271646420b7fcda797cc78226cead21ee298740", func := "loop.example/g00099/laws.FnExactPassSize", spec := "fnExactPassSize", apart := false }
def FnExactPassSizeSaid : Prop := fnExactPassSizeRow.holds Try.pinned (OpenSpec.ofChange fnExactPassSizeSpec)

/-- ITS FALSE NEIGHBOUR: 'it returns false'. Refute it at one input. -/
def fnExactPassSizeWrong : ChangeSpec := { name := "fnExactPassSize", fn := fun _ => fun
  | [d1, d2, d3] => { results := [.lit (.bool false)], args := [d1, d2, d3] }
  | _ => none }
def FnExactPassSizeWrongFalsely : Prop := fnExactPassSizeRow.holds Try.pinned (OpenSpec.ofChange fnExactPassSizeWrong)

/- THE SECOND FORM. 'bulk': how many values and letters a reading holds, each counted each time it is reached (what is shared counts as often as it is met; a slice's spare places count too). A statement '..UptoSaid' is the law's where the arguments, and the package variables that the reading takes, are together of bulk at most 1048576: NARROWER than '..Said'. Prove '..Said' where nothing that the law and all that it calls make is longer than what came in: it says more and counts as full. Else prove '..UptoSaid'. A law counts once. -/
mutual
def uptoBulk {H : Type} : DataW H → Nat
  | .lit (.string bytes) => bytes.length + 1
  | .lit _ => 1
  | .nil => 1
  | .ptr d => uptoBulk d + 1
  | .slice elems spare => uptoBulkAll elems + uptoBulkAll spare + 1
  | .agg parts => uptoBulkAll parts + 1
  | .iface _ d => uptoBulk d + 1
  | .map entries => uptoBulkEntries entries + 1
  | .held _ => 1
def uptoBulkAll {H : Type} : List (DataW H) → Nat
  | [] => 0
  | d :: r => uptoBulk d + uptoBulkAll r
def uptoBulkEntries {H : Type} : List (Lit × DataW H) → Nat
  | [] => 0
  | x :: r => uptoBulkEntry x + uptoBulkEntries r
def uptoBulkEntry {H : Type} : Lit × DataW H → Nat
  | (.string bytes, d) => bytes.length + uptoBulk d + 1
  | (_, d) => uptoBulk d + 1
 end
def uptoSmall : (H : Type) → List (DataW H) → Bool := fun _ ds => decide (uptoBulkAll ds ≤ 1048576)
def OpenSpec.upto (s : _root_.Go.ChangeSpec) : _root_.Go.OpenSpec := { _root_.Go.OpenSpec.ofChange s with cond := some uptoSmall }

/-- 'laws.FnExactNameOk', WHERE WHAT IT READS IS OF BULK AT MOST 1048576: true; the input reads as it did. -/
def fnExactNameOkUptoRow : OpenClaim := { program := "ytllibbjcklmhnaa", sum := "53c17c9899805c2cc827d8e03271646420b7fcda797cc78226cead21ee298740", func := "loop.example/g00099/laws.FnExactNameOk", spec := "fnExactNameOk", apart := false, narrowed := true }
def FnExactNameOkUptoSaid : Prop := fnExactNameOkUptoRow.holds Try.pinned (OpenSpec.upto fnExactNameOkSpec)

/-- 'laws.FnExactNeedless', WHERE WHAT IT READS IS OF BULK AT MOST 1048576: true; the input reads as it did. -/
def fnExactNeedlessUptoRow : OpenClaim := { program := "ytllibbjcklmhnaa", sum := "53c17c9899805c2cc827d8e03271646420b7fcda797cc78226cead21ee298740", func := "loop.example/g00099/laws.FnExactNeedless", spec := "fnExactNeedless", apart := false, narrowed := true }
def FnExactNeedlessUptoSaid : Prop := fnExactNeedlessUptoRow.holds Try.pinned (OpenSpec.upto fnExactNeedlessSpec)

/-- 'laws.FnExactSafeToCopy', WHERE WHAT IT READS IS OF BULK AT MOST 1048576: true; the input reads as it did. -/
def fnExactSafeToCopyUptoRow : OpenClaim := { program := "ytllibbjcklmhnaa", sum := "53c17c9899805c2cc827d8e03271646420b7fcda797cc78226cead21ee298740", func := "loop.example/g00099/laws.FnExactSafeToCopy", spec := "fnExactSafeToCopy", apart := false, narrowed := true }
def FnExactSafeToCopyUptoSaid : Prop := fnExactSafeToCopyUptoRow.holds Try.pinned (OpenSpec.upto fnExactSafeToCopySpec)

/-- 'laws.FnExactRowWeight', WHERE WHAT IT READS IS OF BULK AT MOST 1048576: true; the input reads as it did. -/
def fnExactRowWeightUptoRow : OpenClaim := { program := "ytllibbjcklmhnaa", sum := "53c17c9899805c2cc827d8e03271646420b7fcda797cc78226cead21ee298740", func := "loop.example/g00099/laws.FnExactRowWeight", spec := "fnExactRowWeight", apart := false, narrowed := true }
def FnExactRowWeightUptoSaid : Prop := fnExactRowWeightUptoRow.holds Try.pinned (OpenSpec.upto fnExactRowWeightSpec)

/-- 'laws.FnExactChannelsOf', WHERE WHAT IT READS IS OF BULK AT MOST 1048576: true; the input reads as it did. -/
def fnExactChannelsOfUptoRow : OpenClaim := { program := "ytllibbjcklmhnaa", sum := "53c17c9899805c2cc827d8e03271646420b7fcda797cc78226cead21ee298740", func := "loop.example/g00099/laws.FnExactChannelsOf", spec := "fnExactChannelsOf", apart := false, narrowed := true }
def FnExactChannelsOfUptoSaid : Prop := fnExactChannelsOfUptoRow.holds Try.pinned (OpenSpec.upto fnExactChannelsOfSpec)

/-- 'laws.FnExactDepthOk', WHERE WHAT IT READS IS OF BULK AT MOST 1048576: true; the input reads as it did. -/
def fnExactDepthOkUptoRow : OpenClaim := { program := "ytllibbjcklmhnaa", sum := "53c17c9899805c2cc827d8e03271646420b7fcda797cc78226cead21ee298740", func := "loop.example/g00099/laws.FnExactDepthOk", spec := "fnExactDepthOk", apart := false, narrowed := true }
def FnExactDepthOkUptoSaid : Prop := fnExactDepthOkUptoRow.holds Try.pinned (OpenSpec.upto fnExactDepthOkSpec)

/-- 'laws.FnExactPaeth', WHERE WHAT IT READS IS OF BULK AT MOST 1048576: true; the input reads as it did. -/
def fnExactPaethUptoRow : OpenClaim := { program := "ytllibbjcklmhnaa", sum := "53c17c9899805c2cc827d8e03271646420b7fcda797cc78226cead21ee298740", func := "loop.example/g00099/laws.FnExactPaeth", spec := "fnExactPaeth", apart := false, narrowed := true }
def FnExactPaethUptoSaid : Prop := fnExactPaethUptoRow.holds Try.pinned (OpenSpec.upto fnExactPaethSpec)

/-- 'laws.FnExactPassStep', WHERE WHAT IT READS IS OF BULK AT MOST 1048576: true; the input reads as it did. -/
def fnExactPassStepUptoRow : OpenClaim := { program := "ytllibbjcklmhnaa", sum := "53c17c9899805c2cc827d8e03271646420b7fcda797cc78226cead21ee298740", func := "loop.example/g00099/laws.FnExactPassStep", spec := "fnExactPassStep", apart := false, narrowed := true }
def FnExactPassStepUptoSaid : Prop := fnExactPassStepUptoRow.holds Try.pinned (OpenSpec.upto fnExactPassStepSpec)

/-- 'laws.FnExactHeadOk', WHERE WHAT IT READS IS OF BULK AT MOST 1048576: true; the input reads as it did. -/
def fnExactHeadOkUptoRow : OpenClaim := { program := "ytllibbjcklmhnaa", sum := "53c17c9899805c2cc827d8e03271646420b7fcda797cc78226cead21ee298740", func := "loop.example/g00099/laws.FnExactHeadOk", spec := "fnExactHeadOk", apart := false, narrowed := true }
def FnExactHeadOkUptoSaid : Prop := fnExactHeadOkUptoRow.holds Try.pinned (OpenSpec.upto fnExactHeadOkSpec)

/-- 'laws.FnExactRowBytes', WHERE WHAT IT READS IS OF BULK AT MOST 1048576: true; the input reads as it did. -/
def fnExactRowBytesUptoRow : OpenClaim := { program := "ytllibbjcklmhnaa", sum := "53c17c9899805c2cc827d8e03271646420b7fcda797cc78226cead21ee298740", func := "loop.example/g00099/laws.FnExactRowBytes", spec := "fnExactRowBytes", apart := false, narrowed := true }
def FnExactRowBytesUptoSaid : Prop := fnExactRowBytesUptoRow.holds Try.pinned (OpenSpec.upto fnExactRowBytesSpec)

/-- 'laws.FnExactReadTable', WHERE WHAT IT READS IS OF BULK AT MOST 1048576: true; the input reads as it did. -/
def fnExactReadTableUptoRow : OpenClaim := { program := "ytllibbjcklmhnaa", sum := "53c17c9899805c2cc827d8e03271646420b7fcda797cc78226cead21ee298740", func := "loop.example/g00099/laws.FnExactReadTable", spec := "fnExactReadTable", apart := false, narrowed := true }
def FnExactReadTableUptoSaid : Prop := fnExactReadTableUptoRow.holds Try.pinned (OpenSpec.upto fnExactReadTableSpec)

/-- 'laws.FnExactPassSize', WHERE WHAT IT READS IS OF BULK AT MOST 1048576: true; the input reads as it did. -/
def fnExactPassSizeUptoRow : OpenClaim := { program := "ytllibbjcklmhnaa", sum := "53c17c9899805c2cc827d8e03271646420b7fcda797cc78226cead21ee298740", func := "loop.example/g00099/laws.FnExactPassSize", spec := "fnExactPassSize", apart := false, narrowed := true }
def FnExactPassSizeUptoSaid : Prop := fnExactPassSizeUptoRow.holds Try.pinned (OpenSpec.upto fnExactPassSizeSpec)

end Rows
end Go.Proofs.Ytllibbjcklmhnaa
