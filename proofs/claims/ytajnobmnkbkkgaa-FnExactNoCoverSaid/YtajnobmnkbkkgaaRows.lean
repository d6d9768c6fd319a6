/-
  No cell of these rows narrows 'for every input' (looked for: loops, veiled, ifaces, maps, wideKeys, modest, calm, conditions, laid).
  DERIVED. THE GIVEN ROWS OF THIS SEAT. 9 by the template 'for every input the law returns true; each argument reads behind the call as it read before'; 0 by the template 'total and deterministic' (their statements: YtajnobmnkbkkgaaTotals.lean).
  GIVEN WITH THE SEED: the statements are not yours to turn. If you find one false, say at which input.
  Laid BY PROGRAM, IN A SANDBOX (cutbox-rows.mjs): the forced cells as the released guide's own fill.sh prints them over the translation f4875df3666591be… (all of the seat's roots in one cut). By AI agents, Wed Nov 11 2026. No macro, syntax, notation, axiom, sorry.
-/
import Derived.Test.YtajnobmnkbkkgaaChecked
import GoSem.Claim
import GoSem.ClaimJoined
import GoSem.ClaimMapViews
import Derived.JoinedTies
import Derived.KernelRfl
namespace Go.Proofs.Ytajnobmnkbkkgaa
/- THE CELL 'sum', in the pinned program and in every row, IS THE sha256 OF THE DUMP (.gsa) THAT YtajnobmnkbkkgaaProg.lean LOADS. Nothing in Lean hashes anything: it is a label: what it is worth is what the hold of that sum in a sandbox is worth. -/
noncomputable def Try.pinned : Pinned := { name := "ytajnobmnkbkkgaa", sum := "f4875df3666591becf986b28e07c9d8df5bfad1c70c596d5682596844cffb042", checked := Try.checked }
namespace Rows
def none {H : Type} : Left H := { results := [], args := [] }

/-- 'laws.FnExactPassesOf': WHATEVER THE INPUT: true; the input reads as it did. -/
def fnExactPassesOfSpec : ChangeSpec := { name := "fnExactPassesOf", fn := fun _ => fun
  | [d] => { results := [.lit (.bool true)], args := [d] }
  | _ => none }
def fnExactPassesOfRow : OpenClaim := { program := "ytajnobmnkbkkgaa", sum := "f4875df3666591becf986b28e07c9d8df5bfad1c70c596d5682596844cffb042", func := "loop.example/g00099/laws.FnExactPassesOf", spec := "fnExactPassesOf", apart := false }
def FnExactPassesOfSaid : Prop := fnExactPassesOfRow.holds Try.pinned (OpenSpec.ofChange fnExactPassesOfSpec)

/-- ITS FALSE NEIGHBOUR: 'it returns false'. Refute it at one input. -/
def fnExactPassesOfWrong : ChangeSpec := { name := "fnExactPassesOf", fn := fun _ => fun
  | [d] => { results := [.lit (.bool false)], args := [d] }
  | _ => none }
def FnExactPassesOfWrongFalsely : Prop := fnExactPassesOfRow.holds Try.pinned (OpenSpec.ofChange fnExactPassesOfWrong)

/-- 'laws.FnHeads': WHATEVER THE INPUT: true; the input reads as it did. -/
def fnHeadsSpec : ChangeSpec := { name := "fnHeads", fn := fun _ => fun
  | [d] => { results := [.lit (.bool true)], args := [d] }
  | _ => none }
def fnHeadsRow : OpenClaim := { program := "ytajnobmnkbkkgaa", sum := "f4875df3666591becf986b28e07c9d8df5bfad1c70c596d5682596844cffb042", func := "loop.example/g00099/laws.FnHeads", spec := "fnHeads", apart := false }
def FnHeadsSaid : Prop := fnHeadsRow.holds Try.pinned (OpenSpec.ofChange fnHeadsSpec)

/-- ITS FALSE NEIGHBOUR: 'it returns false'. Refute it at one input. -/
def fnHeadsWrong : ChangeSpec := { name := "fnHeads", fn := fun _ => fun
  | [d] => { results := [.lit (.bool false)], args := [d] }
  | _ => none }
def FnHeadsWrongFalsely : Prop := fnHeadsRow.holds Try.pinned (OpenSpec.ofChange fnHeadsWrong)

/-- 'laws.FnExactFromPasses': WHATEVER THE INPUT: true; the input reads as it did. -/
def fnExactFromPassesSpec : ChangeSpec := { name := "fnExactFromPasses", fn := fun _ => fun
  | [d1, d2, d3] => { results := [.lit (.bool true)], args := [d1, d2, d3] }
  | _ => none }
def fnExactFromPassesRow : OpenClaim := { program := "ytajnobmnkbkkgaa", sum := "f4875df3666591becf986b28e07c9d8df5bfad1c70c596d5682596844cffb042", func := "loop.example/g00099/laws.FnExactFromPasses", spec := "fnExactFromPasses", unfollowed := true, recurses := true, apart := false }
def FnExactFromPassesSaid : Prop := fnExactFromPassesRow.holds Try.pinned (OpenSpec.ofChange fnExactFromPassesSpec)

/-- ITS FALSE NEIGHBOUR: 'it returns false'. Refute it at one input. -/
def fnExactFromPassesWrong : ChangeSpec := { name := "fnExactFromPasses", fn := fun _ => fun
  | [d1, d2, d3] => { results := [.lit (.bool false)], args := [d1, d2, d3] }
  | _ => none }
def FnExactFromPassesWrongFalsely : Prop := fnExactFromPassesRow.holds Try.pinned (OpenSpec.ofChange fnExactFromPassesWrong)

/-- 'laws.FnExactPngOk': WHATEVER THE INPUT: true; the input reads as it did. -/
def fnExactPngOkSpec : ChangeSpec := { name := "fnExactPngOk", fn := fun _ => fun
  | [d] => { results := [.lit (.bool true)], args := [d] }
  | _ => none }
def fnExactPngOkRow : OpenClaim := { program := "ytajnobmnkbkkgaa", sum := "f4875df3666591becf986b28e07c9d8df5bfad1c70c596d5682596844cffb042", func := "loop.example/g00099/laws.FnExactPngOk", spec := "fnExactPngOk", apart := false }
def FnExactPngOkSaid : Prop := fnExactPngOkRow.holds Try.pinned (OpenSpec.ofChange fnExactPngOkSpec)

/-- ITS FALSE NEIGHBOUR: 'it returns false'. Refute it at one input. -/
def fnExactPngOkWrong : ChangeSpec := { name := "fnExactPngOk", fn := fun _ => fun
  | [d] => { results := [.lit (.bool false)], args := [d] }
  | _ => none }
def FnExactPngOkWrongFalsely : Prop := fnExactPngOkRow.holds Try.pinned (OpenSpec.ofChange fnExactPngOkWrong)

/-- 'laws.FnScans': WHATEVER THE INPUT: true; the input reads as it did. -/
def fnScansSpec : ChangeSpec := { name := "fnScans", fn := fun _ => fun
  | [d] => { results := [.lit (.bool true)], args := [d] }
  | _ => none }
def fnScansRow : OpenClaim := { program := "ytajnobmnkbkkgaa", sum := "f4875df3666591becf986b28e07c9d8df5bfad1c70c596d5682596844cffb042", func := "loop.example/g00099/laws.FnScans", spec := "fnScans", inPlace := ["internal/abi.NoEscape", "internal/bytealg.MakeNoZero"], unfollowed := true, recurses := true, apart := false }
def FnScansSaid : Prop := fnScansRow.holds Try.pinned (OpenSpec.ofChange fnScansSpec)

/-- ITS FALSE NEIGHBOUR: 'it returns false'. Refute it at one input. -/
def fnScansWrong : ChangeSpec := { name := "fnScans", fn := fun _ => fun
  | [d] => { results := [.lit (.bool false)], args := [d] }
  | _ => none }
def FnScansWrongFalsely : Prop := fnScansRow.holds Try.pinned (OpenSpec.ofChange fnScansWrong)

/-- 'laws.FnExactMeaningOf': WHATEVER THE INPUT: true; the input reads as it did. -/
def fnExactMeaningOfSpec : ChangeSpec := { name := "fnExactMeaningOf", fn := fun _ => fun
  | [d] => { results := [.lit (.bool true)], args := [d] }
  | _ => none }
def fnExactMeaningOfRow : OpenClaim := { program := "ytajnobmnkbkkgaa", sum := "f4875df3666591becf986b28e07c9d8df5bfad1c70c596d5682596844cffb042", func := "loop.example/g00099/laws.FnExactMeaningOf", spec := "fnExactMeaningOf", apart := false }
def FnExactMeaningOfSaid : Prop := fnExactMeaningOfRow.holds Try.pinned (OpenSpec.ofChange fnExactMeaningOfSpec)

/-- ITS FALSE NEIGHBOUR: 'it returns false'. Refute it at one input. -/
def fnExactMeaningOfWrong : ChangeSpec := { name := "fnExactMeaningOf", fn := fun _ => fun
  | [d] => { results := [.lit (.bool false)], args := [d] }
  | _ => none }
def FnExactMeaningOfWrongFalsely : Prop := fnExactMeaningOfRow.holds Try.pinned (OpenSpec.ofChange fnExactMeaningOfWrong)

/-- 'laws.FnExactNoCover': WHATEVER THE INPUT: true; the input reads as it did. -/
def fnExactNoCoverSpec : ChangeSpec := { name := "fnExactNoCover", fn := fun _ => fun
  | [d] => { results := [.lit (.bool true)], args := [d] }
  | _ => none }
def fnExactNoCoverRow : OpenClaim := { program := "ytajnobmnkbkkgaa", sum := "f4875df3666591becf986b28e07c9d8df5bfad1c70c596d5682596844cffb042", func := "loop.example/g00099/laws.FnExactNoCover", spec := "fnExactNoCover", apart := false }
def FnExactNoCoverSaid : Prop := fnExactNoCoverRow.holds Try.pinned (OpenSpec.ofChange fnExactNoCoverSpec)

/-- ITS FALSE NEIGHBOUR: 'it returns false'. Refute it at one input. -/
def fnExactNoCoverWrong : ChangeSpec := { name := "fnExactNoCover", fn := fun _ => fun
  | [d] => { results := [.lit (.bool false)], args := [d] }
  | _ => none }
def FnExactNoCoverWrongFalsely : Prop := fnExactNoCoverRow.holds Try.pinned (OpenSpec.ofChange fnExactNoCoverWrong)

/-- 'laws.FnExactScanOf': WHATEVER THE INPUT: true; the input reads as it did. -/
def fnExactScanOfSpec : ChangeSpec := { name := "fnExactScanOf", fn := fun _ => fun
  | [d1, d2, d3] => { results := [.lit (.bool true)], args := [d1, d2, d3] }
  | _ => none }
def fnExactScanOfRow : OpenClaim := { program := "ytajnobmnkbkkgaa", sum := "f4875df3666591becf986b28e07c9d8df5bfad1c70c596d5682596844cffb042", func := "loop.example/g00099/laws.FnExactScanOf", spec := "fnExactScanOf", inPlace := ["internal/abi.NoEscape", "internal/bytealg.MakeNoZero"], apart := false }
def FnExactScanOfSaid : Prop := fnExactScanOfRow.holds Try.pinned (OpenSpec.ofChange fnExactScanOfSpec)

/-- ITS FALSE NEIGHBOUR: 'it returns false'. Refute it at one input. -/
def fnExactScanOfWrong : ChangeSpec := { name := "fnExactScanOf", fn := fun _ => fun
  | [d1, d2, d3] => { results := [.lit (.bool false)], args := [d1, d2, d3] }
  | _ => none }
def FnExactScanOfWrongFalsely : Prop := fnExactScanOfRow.holds Try.pinned (OpenSpec.ofChange fnExactScanOfWrong)

/-- 'laws.FnExactScanRead': WHATEVER THE INPUT: true; the input reads as it did. -/
def fnExactScanReadSpec : ChangeSpec := { name := "fnExactScanRead", fn := fun _ => fun
  | [d1, d2, d3, d4, d5, d6] => { results := [.lit (.bool true)], args := [d1, d2, d3, d4, d5, d6] }
  | _ => none }
def fnExactScanReadRow : OpenClaim := { program := "ytajnobmnkbkkgaa", sum := "f4875df3666591becf986b28e07c9d8df5bfad1c70c596d5682596844cffb042", func := "loop.example/g00099/laws.FnExactScanRead", spec := "fnExactScanRead", inPlace := ["internal/abi.NoEscape", "internal/bytealg.MakeNoZero"], unfollowed := true, recurses := true, apart := false }
def FnExactScanReadSaid : Prop := fnExactScanReadRow.holds Try.pinned (OpenSpec.ofChange fnExactScanReadSpec)

/-- ITS FALSE NEIGHBOUR: 'it returns false'. Refute it at one input. -/
def fnExactScanReadWrong : ChangeSpec := { name := "fnExactScanRead", fn := fun _ => fun
  | [d1, d2, d3, d4, d5, d6] => { results := [.lit (.bool false)], args := [d1, d2, d3, d4, d5, d6] }
  | _ => none }
def FnExactScanReadWrongFalsely : Prop := fnExactScanReadRow.holds Try.pinned (OpenSpec.ofChange fnExactScanReadWrong)

/- THE SECOND FORM. 'bulk': how many values and letters a reading holds, each counted each time it is reached (what is shared counts as often as it is met; a slice's spare places count too). A statement '..UptoSaid' is the law's where the arguments, and the package variables that the reading takes, are together of bulk at most 1048576: NARROWER than '..Said'. Prove '..Said' where nothing that the law and all that it calls make is longer than what came in: it says more and counts as full. Else prove '..UptoSaid'. A law counts once. -/
mutual
def uptoBulk {H : Type} : DataW H → Nat
  | .lit (.string bytes) => bytes.length + 1
  | .lit _ => 1
  | .nil => 1
  | .ptr d => uptoBulk d + 1
  | .slice elems spare => uptoBulkAll elems + uptoBulkAll spare + 1
  | .agg parts => uptoBulkAll parts + 1
  | .iface _ d => uptoBulk d + 1
  | .map entries => uptoBulkEntries entries + 1
  | .held _ => 1
def uptoBulkAll {H : Type} : List (DataW H) → Nat
  | [] => 0
  | d :: r => uptoBulk d + uptoBulkAll r
def uptoBulkEntries {H : Type} : List (Lit × DataW H) → Nat
  | [] => 0
  | x :: r => uptoBulkEntry x + uptoBulkEntries r
def uptoBulkEntry {H : Type} : Lit × DataW H → Nat
  | (.string bytes, d) => bytes.length + uptoBulk d + 1
  | (_, d) => uptoBulk d + 1
 end
def uptoSmall : (H : Type) → List (DataW H) → Bool := fun _ ds => decide (uptoBulkAll ds ≤ 1048576)
def OpenSpec.upto (s : _root_.Go.ChangeSpec) : _root_.Go.OpenSpec := { _root_.Go.OpenSpec.ofChange s with cond := some uptoSmall }

/-- 'laws.FnExactPassesOf', WHERE WHAT IT READS IS OF BULK AT MOST 1048576: true; the input reads as it did. -/
def fnExactPassesOfUptoRow : OpenClaim := { program := "ytajnobmnkbkkgaa", sum := "f4875df3666591becf986b28e07c9d8df5bfad1c70c596d5682596844cffb042", func := "loop.example/g00099/laws.FnExactPassesOf", spec := "fnExactPassesOf", apart := false, narrowed := true }
def FnExactPassesOfUptoSaid : Prop := fnExactPassesOfUptoRow.holds Try.pinned (OpenSpec.upto fnExactPassesOfSpec)

/-- 'laws.FnHeads', WHERE WHAT IT READS IS OF BULK AT MOST 1048576: true; the input reads as it did. -/
def fnHeadsUptoRow : OpenClaim := { program := "ytajnobmnkbkkgaa", sum := "f4875df3666591becf986b28e07c9d8df5bfad1c70c596d5682596844cffb042", func := "loop.example/g00099/laws.FnHeads", spec := "fnHeads", apart := false, narrowed := true }
def FnHeadsUptoSaid : Prop := fnHeadsUptoRow.holds Try.pinned (OpenSpec.upto fnHeadsSpec)

/-- 'laws.FnExactFromPasses', WHERE WHAT IT READS IS OF BULK AT MOST 1048576: true; the input reads as it did. -/
def fnExactFromPassesUptoRow : OpenClaim := { program := "ytajnobmnkbkkgaa", sum := "f4875df3666591becf986b28e07c9d8df5bfad1c70c596d5682596844cffb042", func := "loop.example/g00099/laws.FnExactFromPasses", spec := "fnExactFromPasses", unfollowed := true, recurses := true, apart := false, narrowed := true }
def FnExactFromPassesUptoSaid : Prop := fnExactFromPassesUptoRow.holds Try.pinned (OpenSpec.upto fnExactFromPassesSpec)

/-- 'laws.FnExactPngOk', WHERE WHAT IT READS IS OF BULK AT MOST 1048576: true; the input reads as it did. -/
def fnExactPngOkUptoRow : OpenClaim := { program := "ytajnobmnkbkkgaa", sum := "f4875df3666591becf986b28e07c9d8df5bfad1c70c596d5682596844cffb042", func := "loop.example/g00099/laws.FnExactPngOk", spec := "fnExactPngOk", apart := false, narrowed := true }
def FnExactPngOkUptoSaid : Prop := fnExactPngOkUptoRow.holds Try.pinned (OpenSpec.upto fnExactPngOkSpec)

/-- 'laws.FnScans', WHERE WHAT IT READS IS OF BULK AT MOST 1048576: true; the input reads as it did. -/
def fnScansUptoRow : OpenClaim := { program := "ytajnobmnkbkkgaa", sum := "f4875df3666591becf986b28e07c9d8df5bfad1c70c596d5682596844cffb042", func := "loop.example/g00099/laws.FnScans", spec := "fnScans", inPlace := ["internal/abi.NoEscape", "internal/bytealg.MakeNoZero"], unfollowed := true, recurses := true, apart := false, narrowed := true }
def FnScansUptoSaid : Prop := fnScansUptoRow.holds Try.pinned (OpenSpec.upto fnScansSpec)

/-- 'laws.FnExactMeaningOf', WHERE WHAT IT READS IS OF BULK AT MOST 1048576: true; the input reads as it did. -/
def fnExactMeaningOfUptoRow : OpenClaim := { program := "ytajnobmnkbkkgaa", sum := "f4875df3666591becf986b28e07c9d8df5bfad1c70c596d5682596844cffb042", func := "loop.example/g00099/laws.FnExactMeaningOf", spec := "fnExactMeaningOf", apart := false, narrowed := true }
def FnExactMeaningOfUptoSaid : Prop := fnExactMeaningOfUptoRow.holds Try.pinned (OpenSpec.upto fnExactMeaningOfSpec)

/-- 'laws.FnExactNoCover', WHERE WHAT IT READS IS OF BULK AT MOST 1048576: true; the input reads as it did. -/
def fnExactNoCoverUptoRow : OpenClaim := { program := "ytajnobmnkbkkgaa", sum := "f4875df3666591becf986b28e07c9d8df5bfad1c70c596d5682596844cffb042", func := "loop.example/g00099/laws.FnExactNoCover", spec := "fnExactNoCover", apart := false, narrowed := true }
def FnExactNoCoverUptoSaid : Prop := fnExactNoCoverUptoRow.holds Try.pinned (OpenSpec.upto fnExactNoCoverSpec)

/-- 'laws.FnExactScanOf', WHERE WHAT IT READS IS OF BULK AT MOST 1048576: true; the input reads as it did. -/
def fnExactScanOfUptoRow : OpenClaim := { program := "ytajnobmnkbkkgaa", sum := "f4875df3666591becf986b28e07c9d8df5bfad1c70c596d5682596844cffb042", func := "loop.example/g00099/laws.FnExactScanOf", spec := "fnExactScanOf", inPlace := ["internal/abi.NoEscape", "internal/bytealg.MakeNoZero"], apart := false, narrowed := true }
def FnExactScanOfUptoSaid : Prop := fnExactScanOfUptoRow.holds Try.pinned (OpenSpec.upto fnExactScanOfSpec)

/-- 'laws.FnExactScanRead', WHERE WHAT IT READS IS OF BULK AT MOST 1048576: true; the input reads as it did. -/
def fnExactScanReadUptoRow : OpenClaim := { program := "ytajnobmnkbkkgaa", sum := "f4875df3666591becf986b28e07c9d8df5bfad1c70c596d5682596844cffb042", func := "loop.example/g00099/laws.FnExactScanRead", spec := "fnExactScanRead", inPlace := ["internal/abi.NoEscape", "internal/bytealg.MakeNoZero"], unfollowed := true, recurses := true, apart := false, narrowed := true }
def FnExactScanReadUptoSaid : Prop := fnExactScanReadUptoRow.holds Try.pinned (OpenSpec.upto fnExactScanReadSpec)

end Rows
end Go.Proofs.Ytajnobmnkbkkgaa
