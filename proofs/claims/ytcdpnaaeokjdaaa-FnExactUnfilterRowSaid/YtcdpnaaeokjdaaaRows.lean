/-
  No cell of these rows narrows 'for every input' (looked for: loops, veiled, ifaces, maps, wideKeys, modest, calm, conditions, laid).
  DERIVED. THE GIVEN ROWS OF THIS SEAT. 12 by the template 'for every input the law returns true; each argument reads behind the call as it read before'; 0 by the template 'total and deterministic' (their statements: YtcdpnaaeokjdaaaTotals.lean).
  GIVEN WITH THE SEED: the statements are not yours to turn. If you find one false, say at which input.
  Laid BY PROGRAM, IN A SANDBOX (cutbox-rows.mjs): the forced cells as the released guide's own fill.sh prints them over the translation 9104126f7d6ac556… (all of the seat's roots in one cut). By AI agents, Wed Nov 11 2026. No macro, syntax, notation, axiom, sorry.
-/
import Derived.Test.YtcdpnaaeokjdaaaChecked
import GoSem.Claim
import GoSem.ClaimJoined
import GoSem.ClaimMapViews
import Derived.JoinedTies
import Derived.KernelRfl
namespace Go.Proofs.Ytcdpnaaeokjdaaa
/- THE CELL 'sum', in the pinned program and in every row, IS THE sha256 OF THE DUMP (.gsa) THAT YtcdpnaaeokjdaaaProg.lean LOADS. Nothing in Lean hashes anything: it is a label: what it is worth is what the hold of that sum in a sandbox is worth. -/
noncomputable def Try.pinned : Pinned := { name := "ytcdpnaaeokjdaaa", sum := "9104126f7d6ac556cf83dad9a0a43d30aaa2e67889f2a4b5a609266e0c6de256", checked := Try.checked }
namespace Rows
def none {H : Type} : Left H := { results := [], args := [] }

/-- 'laws.FnExactTableText': WHATEVER THE INPUT: true; the input reads as it did. -/
def fnExactTableTextSpec : ChangeSpec := { name := "fnExactTableText", fn := fun _ => fun
  | [d] => { results := [.lit (.bool true)], args := [d] }
  | _ => none }
def fnExactTableTextRow : OpenClaim := { program := "ytcdpnaaeokjdaaa", sum := "9104126f7d6ac556cf83dad9a0a43d30aaa2e67889f2a4b5a609266e0c6de256", func := "loop.example/g00099/laws.FnExactTableText", spec := "fnExactTableText", apart := false }
def FnExactTableTextSaid : Prop := fnExactTableTextRow.holds Try.pinned (OpenSpec.ofChange fnExactTableTextSpec)

/-- ITS FALSE NEIGHBOUR: 'it returns false'. Refute it at one input. -/
def fnExactTableTextWrong : ChangeSpec := { name := "fnExactTableText", fn := fun _ => fun
  | [d] => { results := [.lit (.bool false)], args := [d] }
  | _ => none }
def FnExactTableTextWrongFalsely : Prop := fnExactTableTextRow.holds Try.pinned (OpenSpec.ofChange fnExactTableTextWrong)

/-- 'laws.FnExactUnpackRow': WHATEVER THE INPUT: true; the input reads as it did. -/
def fnExactUnpackRowSpec : ChangeSpec := { name := "fnExactUnpackRow", fn := fun _ => fun
  | [d1, d2, d3] => { results := [.lit (.bool true)], args := [d1, d2, d3] }
  | _ => none }
def fnExactUnpackRowRow : OpenClaim := { program := "ytcdpnaaeokjdaaa", sum := "9104126f7d6ac556cf83dad9a0a43d30aaa2e67889f2a4b5a609266e0c6de256", func := "loop.example/g00099/laws.FnExactUnpackRow", spec := "fnExactUnpackRow", apart := false }
def FnExactUnpackRowSaid : Prop := fnExactUnpackRowRow.holds Try.pinned (OpenSpec.ofChange fnExactUnpackRowSpec)

/-- ITS FALSE NEIGHBOUR: 'it returns false'. Refute it at one input. -/
def fnExactUnpackRowWrong : ChangeSpec := { name := "fnExactUnpackRow", fn := fun _ => fun
  | [d1, d2, d3] => { results := [.lit (.bool false)], args := [d1, d2, d3] }
  | _ => none }
def FnExactUnpackRowWrongFalsely : Prop := fnExactUnpackRowRow.holds Try.pinned (OpenSpec.ofChange fnExactUnpackRowWrong)

/-- 'laws.FnPaeth': WHATEVER THE INPUT: true; the input reads as it did. -/
def fnPaethSpec : ChangeSpec := { name := "fnPaeth", fn := fun _ => fun
  | [d] => { results := [.lit (.bool true)], args := [d] }
  | _ => none }
def fnPaethRow : OpenClaim := { program := "ytcdpnaaeokjdaaa", sum := "9104126f7d6ac556cf83dad9a0a43d30aaa2e67889f2a4b5a609266e0c6de256", func := "loop.example/g00099/laws.FnPaeth", spec := "fnPaeth", apart := false }
def FnPaethSaid : Prop := fnPaethRow.holds Try.pinned (OpenSpec.ofChange fnPaethSpec)

/-- ITS FALSE NEIGHBOUR: 'it returns false'. Refute it at one input. -/
def fnPaethWrong : ChangeSpec := { name := "fnPaeth", fn := fun _ => fun
  | [d] => { results := [.lit (.bool false)], args := [d] }
  | _ => none }
def FnPaethWrongFalsely : Prop := fnPaethRow.holds Try.pinned (OpenSpec.ofChange fnPaethWrong)

/-- 'laws.FnExactPackRow': WHATEVER THE INPUT: true; the input reads as it did. -/
def fnExactPackRowSpec : ChangeSpec := { name := "fnExactPackRow", fn := fun _ => fun
  | [d1, d2] => { results := [.lit (.bool true)], args := [d1, d2] }
  | _ => none }
def fnExactPackRowRow : OpenClaim := { program := "ytcdpnaaeokjdaaa", sum := "9104126f7d6ac556cf83dad9a0a43d30aaa2e67889f2a4b5a609266e0c6de256", func := "loop.example/g00099/laws.FnExactPackRow", spec := "fnExactPackRow", apart := false }
def FnExactPackRowSaid : Prop := fnExactPackRowRow.holds Try.pinned (OpenSpec.ofChange fnExactPackRowSpec)

/-- ITS FALSE NEIGHBOUR: 'it returns false'. Refute it at one input. -/
def fnExactPackRowWrong : ChangeSpec := { name := "fnExactPackRow", fn := fun _ => fun
  | [d1, d2] => { results := [.lit (.bool false)], args := [d1, d2] }
  | _ => none }
def FnExactPackRowWrongFalsely : Prop := fnExactPackRowRow.holds Try.pinned (OpenSpec.ofChange fnExactPackRowWrong)

/-- 'laws.FnExactClearOk': WHATEVER THE INPUT: true; the input reads as it did. -/
def fnExactClearOkSpec : ChangeSpec := { name := "fnExactClearOk", fn := fun _ => fun
  | [d1, d2, d3] => { results := [.lit (.bool true)], args := [d1, d2, d3] }
  | _ => none }
def fnExactClearOkRow : OpenClaim := { program := "ytcdpnaaeokjdaaa", sum := "9104126f7d6ac556cf83dad9a0a43d30aaa2e67889f2a4b5a609266e0c6de256", func := "loop.example/g00099/laws.FnExactClearOk", spec := "fnExactClearOk", apart := false }
def FnExactClearOkSaid : Prop := fnExactClearOkRow.holds Try.pinned (OpenSpec.ofChange fnExactClearOkSpec)

/-- ITS FALSE NEIGHBOUR: 'it returns false'. Refute it at one input. -/
def fnExactClearOkWrong : ChangeSpec := { name := "fnExactClearOk", fn := fun _ => fun
  | [d1, d2, d3] => { results := [.lit (.bool false)], args := [d1, d2, d3] }
  | _ => none }
def FnExactClearOkWrongFalsely : Prop := fnExactClearOkRow.holds Try.pinned (OpenSpec.ofChange fnExactClearOkWrong)

/-- 'laws.FnExactUnfilterRow': WHATEVER THE INPUT: true; the input reads as it did. -/
def fnExactUnfilterRowSpec : ChangeSpec := { name := "fnExactUnfilterRow", fn := fun _ => fun
  | [d1, d2, d3, d4] => { results := [.lit (.bool true)], args := [d1, d2, d3, d4] }
  | _ => none }
def fnExactUnfilterRowRow : OpenClaim := { program := "ytcdpnaaeokjdaaa", sum := "9104126f7d6ac556cf83dad9a0a43d30aaa2e67889f2a4b5a609266e0c6de256", func := "loop.example/g00099/laws.FnExactUnfilterRow", spec := "fnExactUnfilterRow", apart := false }
def FnExactUnfilterRowSaid : Prop := fnExactUnfilterRowRow.holds Try.pinned (OpenSpec.ofChange fnExactUnfilterRowSpec)

/-- ITS FALSE NEIGHBOUR: 'it returns false'. Refute it at one input. -/
def fnExactUnfilterRowWrong : ChangeSpec := { name := "fnExactUnfilterRow", fn := fun _ => fun
  | [d1, d2, d3, d4] => { results := [.lit (.bool false)], args := [d1, d2, d3, d4] }
  | _ => none }
def FnExactUnfilterRowWrongFalsely : Prop := fnExactUnfilterRowRow.holds Try.pinned (OpenSpec.ofChange fnExactUnfilterRowWrong)

/-- 'laws.FnExactHeadText': WHATEVER THE INPUT: true; the input reads as it did. -/
def fnExactHeadTextSpec : ChangeSpec := { name := "fnExactHeadText", fn := fun _ => fun
  | [d] => { results := [.lit (.bool true)], args := [d] }
  | _ => none }
def fnExactHeadTextRow : OpenClaim := { program := "ytcdpnaaeokjdaaa", sum := "9104126f7d6ac556cf83dad9a0a43d30aaa2e67889f2a4b5a609266e0c6de256", func := "loop.example/g00099/laws.FnExactHeadText", spec := "fnExactHeadText", apart := false }
def FnExactHeadTextSaid : Prop := fnExactHeadTextRow.holds Try.pinned (OpenSpec.ofChange fnExactHeadTextSpec)

/-- ITS FALSE NEIGHBOUR: 'it returns false'. Refute it at one input. -/
def fnExactHeadTextWrong : ChangeSpec := { name := "fnExactHeadText", fn := fun _ => fun
  | [d] => { results := [.lit (.bool false)], args := [d] }
  | _ => none }
def FnExactHeadTextWrongFalsely : Prop := fnExactHeadTextRow.holds Try.pinned (OpenSpec.ofChange fnExactHeadTextWrong)

/-- 'laws.FnExactFilterRow': WHATEVER THE INPUT: true; the input reads as it did. -/
def fnExactFilterRowSpec : ChangeSpec := { name := "fnExactFilterRow", fn := fun _ => fun
  | [d1, d2, d3, d4] => { results := [.lit (.bool true)], args := [d1, d2, d3, d4] }
  | _ => none }
def fnExactFilterRowRow : OpenClaim := { program := "ytcdpnaaeokjdaaa", sum := "9104126f7d6ac556cf83dad9a0a43d30aaa2e67889f2a4b5a609266e0c6de256", func := "loop.example/g00099/laws.FnExactFilterRow", spec := "fnExactFilterRow", apart := false }
def FnExactFilterRowSaid : Prop := fnExactFilterRowRow.holds Try.pinned (OpenSpec.ofChange fnExactFilterRowSpec)

/-- ITS FALSE NEIGHBOUR: 'it returns false'. Refute it at one input. -/
def fnExactFilterRowWrong : ChangeSpec := { name := "fnExactFilterRow", fn := fun _ => fun
  | [d1, d2, d3, d4] => { results := [.lit (.bool false)], args := [d1, d2, d3, d4] }
  | _ => none }
def FnExactFilterRowWrongFalsely : Prop := fnExactFilterRowRow.holds Try.pinned (OpenSpec.ofChange fnExactFilterRowWrong)

/-- 'laws.FnSums': WHATEVER THE INPUT: true; the input reads as it did. -/
def fnSumsSpec : ChangeSpec := { name := "fnSums", fn := fun _ => fun
  | [d] => { results := [.lit (.bool true)], args := [d] }
  | _ => none }
def fnSumsRow : OpenClaim := { program := "ytcdpnaaeokjdaaa", sum := "9104126f7d6ac556cf83dad9a0a43d30aaa2e67889f2a4b5a609266e0c6de256", func := "loop.example/g00099/laws.FnSums", spec := "fnSums", apart := false }
def FnSumsSaid : Prop := fnSumsRow.holds Try.pinned (OpenSpec.ofChange fnSumsSpec)

/-- ITS FALSE NEIGHBOUR: 'it returns false'. Refute it at one input. -/
def fnSumsWrong : ChangeSpec := { name := "fnSums", fn := fun _ => fun
  | [d] => { results := [.lit (.bool false)], args := [d] }
  | _ => none }
def FnSumsWrongFalsely : Prop := fnSumsRow.holds Try.pinned (OpenSpec.ofChange fnSumsWrong)

/-- 'laws.FnExactSameMeaning': WHATEVER THE INPUT: true; the input reads as it did. -/
def fnExactSameMeaningSpec : ChangeSpec := { name := "fnExactSameMeaning", fn := fun _ => fun
  | [d1, d2] => { results := [.lit (.bool true)], args := [d1, d2] }
  | _ => none }
def fnExactSameMeaningRow : OpenClaim := { program := "ytcdpnaaeokjdaaa", sum := "9104126f7d6ac556cf83dad9a0a43d30aaa2e67889f2a4b5a609266e0c6de256", func := "loop.example/g00099/laws.FnExactSameMeaning", spec := "fnExactSameMeaning", apart := false }
def FnExactSameMeaningSaid : Prop := fnExactSameMeaningRow.holds Try.pinned (OpenSpec.ofChange fnExactSameMeaningSpec)

/-- ITS FALSE NEIGHBOUR: 'it returns false'. Refute it at one input. -/
def fnExactSameMeaningWrong : ChangeSpec := { name := "fnExactSameMeaning", fn := fun _ => fun
  | [d1, d2] => { results := [.lit (.bool false)], args := [d1, d2] }
  | _ => none }
def FnExactSameMeaningWrongFalsely : Prop := fnExactSameMeaningRow.holds Try.pinned (OpenSpec.ofChange fnExactSameMeaningWrong)

/-- 'laws.FnRows': WHATEVER THE INPUT: true; the input reads as it did. -/
def fnRowsSpec : ChangeSpec := { name := "fnRows", fn := fun _ => fun
  | [d] => { results := [.lit (.bool true)], args := [d] }
  | _ => none }
def fnRowsRow : OpenClaim := { program := "ytcdpnaaeokjdaaa", sum := "9104126f7d6ac556cf83dad9a0a43d30aaa2e67889f2a4b5a609266e0c6de256", func := "loop.example/g00099/laws.FnRows", spec := "fnRows", apart := false }
def FnRowsSaid : Prop := fnRowsRow.holds Try.pinned (OpenSpec.ofChange fnRowsSpec)

/-- ITS FALSE NEIGHBOUR: 'it returns false'. Refute it at one input. -/
def fnRowsWrong : ChangeSpec := { name := "fnRows", fn := fun _ => fun
  | [d] => { results := [.lit (.bool false)], args := [d] }
  | _ => none }
def FnRowsWrongFalsely : Prop := fnRowsRow.holds Try.pinned (OpenSpec.ofChange fnRowsWrong)

/-- 'laws.FnExactRasterOk': WHATEVER THE INPUT: true; the input reads as it did. -/
def fnExactRasterOkSpec : ChangeSpec := { name := "fnExactRasterOk", fn := fun _ => fun
  | [d] => { results := [.lit (.bool true)], args := [d] }
  | _ => none }
def fnExactRasterOkRow : OpenClaim := { program := "ytcdpnaaeokjdaaa", sum := "9104126f7d6ac556cf83dad9a0a43d30aaa2e67889f2a4b5a609266e0c6de256", func := "loop.example/g00099/laws.FnExactRasterOk", spec := "fnExactRasterOk", apart := false }
def FnExactRasterOkSaid : Prop := fnExactRasterOkRow.holds Try.pinned (OpenSpec.ofChange fnExactRasterOkSpec)

/-- ITS FALSE NEIGHBOUR: 'it returns false'. Refute it at one input. -/
def fnExactRasterOkWrong : ChangeSpec := { name := "fnExactRasterOk", fn := fun _ => fun
  | [d] => { results := [.lit (.bool false)], args := [d] }
  | _ => none }
def FnExactRasterOkWrongFalsely : Prop := fnExactRasterOkRow.holds Try.pinned (OpenSpec.ofChange fnExactRasterOkWrong)

/- THE SECOND FORM. 'bulk': how many values and letters a reading holds, each counted each time it is reached (what is shared counts as often as it is met; a slice's spare places count too). A statement '..UptoSaid' is the law's where the arguments, and the package variables that the reading takes, are together of bulk at most 1048576: NARROWER than '..Said'. Prove '..Said' where nothing that the law and all that it calls make is longer than what came in: it says more and counts as full. Else prove '..UptoSaid'. A law counts once. -/
mutual
def uptoBulk {H : Type} : DataW H → Nat
  | .lit (.string bytes) => bytes.length + 1
  | .lit _ => 1
  | .nil => 1
  | .ptr d => uptoBulk d + 1
  | .slice elems spare => uptoBulkAll elems + uptoBulkAll spare + 1
  | .agg parts => uptoBulkAll parts + 1
  | .iface _ d => uptoBulk d + 1
  | .map entries => uptoBulkEntries entries + 1
  | .held _ => 1
def uptoBulkAll {H : Type} : List (DataW H) → Nat
  | [] => 0
  | d :: r => uptoBulk d + uptoBulkAll r
def uptoBulkEntries {H : Type} : List (Lit × DataW H) → Nat
  | [] => 0
  | x :: r => uptoBulkEntry x + uptoBulkEntries r
def uptoBulkEntry {H : Type} : Lit × DataW H → Nat
  | (.string bytes, d) => bytes.length + uptoBulk d + 1
  | (_, d) => uptoBulk d + 1
 end
def uptoSmall : (H : Type) → List (DataW H) → Bool := fun _ ds => decide (uptoBulkAll ds ≤ 1048576)
def OpenSpec.upto (s : _root_.Go.ChangeSpec) : _root_.Go.OpenSpec := { _root_.Go.OpenSpec.ofChange s with cond := some uptoSmall }

/-- 'laws.FnExactTableText', WHERE WHAT IT READS IS OF BULK AT MOST 1048576: true; the input reads as it did. -/
def fnExactTableTextUptoRow : OpenClaim := { program := "ytcdpnaaeokjdaaa", sum := "9104126f7d6ac556cf83dad9a0a43d30aaa2e67889f2a4b5a609266e0c6de256", func := "loop.example/g00099/laws.FnExactTableText", spec := "fnExactTableText", apart := false, narrowed := true }
def FnExactTableTextUptoSaid : Prop := fnExactTableTextUptoRow.holds Try.pinned (OpenSpec.upto fnExactTableTextSpec)

/-- 'laws.FnExactUnpackRow', WHERE WHAT IT READS IS OF BULK AT MOST 1048576: true; the input reads as it did. -/
def fnExactUnpackRowUptoRow : OpenClaim := { program := "ytcdpnaaeokjdaaa", sum := "9104126f7d6ac556cf83dad9a0a43d30aaa2e67889f2a4b5a609266e0c6de256", func := "loop.example/g00099/laws.FnExactUnpackRow", spec := "fnExactUnpackRow", apart := false, narrowed := true }
def FnExactUnpackRowUptoSaid : Prop := fnExactUnpackRowUptoRow.holds Try.pinned (OpenSpec.upto fnExactUnpackRowSpec)

/-- 'laws.FnPaeth', WHERE WHAT IT READS IS OF BULK AT MOST 1048576: true; the input reads as it did. -/
def fnPaethUptoRow : OpenClaim := { program := "ytcdpnaaeokjdaaa", sum := "9104126f7d6ac556cf83dad9a0a43d30aaa2e67889f2a4b5a609266e0c6de256", func := "loop.example/g00099/laws.FnPaeth", spec := "fnPaeth", apart := false, narrowed := true }
def FnPaethUptoSaid : Prop := fnPaethUptoRow.holds Try.pinned (OpenSpec.upto fnPaethSpec)

/-- 'laws.FnExactPackRow', WHERE WHAT IT READS IS OF BULK AT MOST 1048576: true; the input reads as it did. -/
def fnExactPackRowUptoRow : OpenClaim := { program := "ytcdpnaaeokjdaaa", sum := "9104126f7d6ac556cf83dad9a0a43d30aaa2e67889f2a4b5a609266e0c6de256", func := "loop.example/g00099/laws.FnExactPackRow", spec := "fnExactPackRow", apart := false, narrowed := true }
def FnExactPackRowUptoSaid : Prop := fnExactPackRowUptoRow.holds Try.pinned (OpenSpec.upto fnExactPackRowSpec)

/-- 'laws.FnExactClearOk', WHERE WHAT IT READS IS OF BULK AT MOST 1048576: true; the input reads as it did. -/
def fnExactClearOkUptoRow : OpenClaim := { program := "ytcdpnaaeokjdaaa", sum := "9104126f7d6ac556cf83dad9a0a43d30aaa2e67889f2a4b5a609266e0c6de256", func := "loop.example/g00099/laws.FnExactClearOk", spec := "fnExactClearOk", apart := false, narrowed := true }
def FnExactClearOkUptoSaid : Prop := fnExactClearOkUptoRow.holds Try.pinned (OpenSpec.upto fnExactClearOkSpec)

/-- 'laws.FnExactUnfilterRow', WHERE WHAT IT READS IS OF BULK AT MOST 1048576: true; the input reads as it did. -/
def fnExactUnfilterRowUptoRow : OpenClaim := { program := "ytcdpnaaeokjdaaa", sum := "9104126f7d6ac556cf83dad9a0a43d30aaa2e67889f2a4b5a609266e0c6de256", func := "loop.example/g00099/laws.FnExactUnfilterRow", spec := "fnExactUnfilterRow", apart := false, narrowed := true }
def FnExactUnfilterRowUptoSaid : Prop := fnExactUnfilterRowUptoRow.holds Try.pinned (OpenSpec.upto fnExactUnfilterRowSpec)

/-- 'laws.FnExactHeadText', WHERE WHAT IT READS IS OF BULK AT MOST 1048576: true; the input reads as it did. -/
def fnExactHeadTextUptoRow : OpenClaim := { program := "ytcdpnaaeokjdaaa", sum := "9104126f7d6ac556cf83dad9a0a43d30aaa2e67889f2a4b5a609266e0c6de256", func := "loop.example/g00099/laws.FnExactHeadText", spec := "fnExactHeadText", apart := false, narrowed := true }
def FnExactHeadTextUptoSaid : Prop := fnExactHeadTextUptoRow.holds Try.pinned (OpenSpec.upto fnExactHeadTextSpec)

/-- 'laws.FnExactFilterRow', WHERE WHAT IT READS IS OF BULK AT MOST 1048576: true; the input reads as it did. -/
def fnExactFilterRowUptoRow : OpenClaim := { program := "ytcdpnaaeokjdaaa", sum := "9104126f7d6ac556cf83dad9a0a43d30aaa2e67889f2a4b5a609266e0c6de256", func := "loop.example/g00099/laws.FnExactFilterRow", spec := "fnExactFilterRow", apart := false, narrowed := true }
def FnExactFilterRowUptoSaid : Prop := fnExactFilterRowUptoRow.holds Try.pinned (OpenSpec.upto fnExactFilterRowSpec)

/-- 'laws.FnSums', WHERE WHAT IT READS IS OF BULK AT MOST 1048576: true; the input reads as it did. -/
def fnSumsUptoRow : OpenClaim := { program := "ytcdpnaaeokjdaaa", sum := "9104126f7d6ac556cf83dad9a0a43d30aaa2e67889f2a4b5a609266e0c6de256", func := "loop.example/g00099/laws.FnSums", spec := "fnSums", apart := false, narrowed := true }
def FnSumsUptoSaid : Prop := fnSumsUptoRow.holds Try.pinned (OpenSpec.upto fnSumsSpec)

/-- 'laws.FnExactSameMeaning', WHERE WHAT IT READS IS OF BULK AT MOST 1048576: true; the input reads as it did. -/
def fnExactSameMeaningUptoRow : OpenClaim := { program := "ytcdpnaaeokjdaaa", sum := "9104126f7d6ac556cf83dad9a0a43d30aaa2e67889f2a4b5a609266e0c6de256", func := "loop.example/g00099/laws.FnExactSameMeaning", spec := "fnExactSameMeaning", apart := false, narrowed := true }
def FnExactSameMeaningUptoSaid : Prop := fnExactSameMeaningUptoRow.holds Try.pinned (OpenSpec.upto fnExactSameMeaningSpec)

/-- 'laws.FnRows', WHERE WHAT IT READS IS OF BULK AT MOST 1048576: true; the input reads as it did. -/
def fnRowsUptoRow : OpenClaim := { program := "ytcdpnaaeokjdaaa", sum := "9104126f7d6ac556cf83dad9a0a43d30aaa2e67889f2a4b5a609266e0c6de256", func := "loop.example/g00099/laws.FnRows", spec := "fnRows", apart := false, narrowed := true }
def FnRowsUptoSaid : Prop := fnRowsUptoRow.holds Try.pinned (OpenSpec.upto fnRowsSpec)

/-- 'laws.FnExactRasterOk', WHERE WHAT IT READS IS OF BULK AT MOST 1048576: true; the input reads as it did. -/
def fnExactRasterOkUptoRow : OpenClaim := { program := "ytcdpnaaeokjdaaa", sum := "9104126f7d6ac556cf83dad9a0a43d30aaa2e67889f2a4b5a609266e0c6de256", func := "loop.example/g00099/laws.FnExactRasterOk", spec := "fnExactRasterOk", apart := false, narrowed := true }
def FnExactRasterOkUptoSaid : Prop := fnExactRasterOkUptoRow.holds Try.pinned (OpenSpec.upto fnExactRasterOkSpec)

end Rows
end Go.Proofs.Ytcdpnaaeokjdaaa
