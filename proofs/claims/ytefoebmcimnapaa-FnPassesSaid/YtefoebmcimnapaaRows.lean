/-
  No cell of these rows narrows 'for every input' (looked for: loops, veiled, ifaces, maps, wideKeys, modest, calm, conditions, laid).
  DERIVED. THE GIVEN ROWS OF THIS SEAT. 12 by the template 'for every input the law returns true; each argument reads behind the call as it read before'; 0 by the template 'total and deterministic' (their statements: YtefoebmcimnapaaTotals.lean).
  GIVEN WITH THE SEED: the statements are not yours to turn. If you find one false, say at which input.
  Laid BY PROGRAM, IN A SANDBOX (cutbox-rows.mjs): the forced cells as the released guide's own fill.sh prints them over the translation d1f06304f5f4f90a… (all of the seat's roots in one cut). By AI agents, Wed Nov 11 2026. No macro, syntax, notation, axiom, sorry.
-/
import Derived.Test.YtefoebmcimnapaaChecked
import GoSem.Claim
import GoSem.ClaimJoined
import GoSem.ClaimMapViews
import Derived.JoinedTies
import Derived.KernelRfl
namespace Go.Proofs.Ytefoebmcimnapaa
/- THE CELL 'sum', in the pinned program and in every row, IS THE sha256 OF THE DUMP (.gsa) THAT YtefoebmcimnapaaProg.lean LOADS. Nothing in Lean hashes anything: it is a label: what it is worth is what the hold of that sum in a sandbox is worth. -/
noncomputable def Try.pinned : Pinned := { name := "ytefoebmcimnapaa", sum := "d1f06304f5f4f90ace496ad6c545f75904aacc3336b889bf2e4551751a21c1ea", checked := Try.checked }
namespace Rows
def none {H : Type} : Left H := { results := [], args := [] }

/-- 'laws.FnExactBestFilter': WHATEVER THE INPUT: true; the input reads as it did. -/
def fnExactBestFilterSpec : ChangeSpec := { name := "fnExactBestFilter", fn := fun _ => fun
  | [d1, d2, d3] => { results := [.lit (.bool true)], args := [d1, d2, d3] }
  | _ => none }
def fnExactBestFilterRow : OpenClaim := { program := "ytefoebmcimnapaa", sum := "d1f06304f5f4f90ace496ad6c545f75904aacc3336b889bf2e4551751a21c1ea", func := "loop.example/g00099/laws.FnExactBestFilter", spec := "fnExactBestFilter", apart := false }
def FnExactBestFilterSaid : Prop := fnExactBestFilterRow.holds Try.pinned (OpenSpec.ofChange fnExactBestFilterSpec)

/-- ITS FALSE NEIGHBOUR: 'it returns false'. Refute it at one input. -/
def fnExactBestFilterWrong : ChangeSpec := { name := "fnExactBestFilter", fn := fun _ => fun
  | [d1, d2, d3] => { results := [.lit (.bool false)], args := [d1, d2, d3] }
  | _ => none }
def FnExactBestFilterWrongFalsely : Prop := fnExactBestFilterRow.holds Try.pinned (OpenSpec.ofChange fnExactBestFilterWrong)

/-- 'laws.FnExactReadHead': WHATEVER THE INPUT: true; the input reads as it did. -/
def fnExactReadHeadSpec : ChangeSpec := { name := "fnExactReadHead", fn := fun _ => fun
  | [d] => { results := [.lit (.bool true)], args := [d] }
  | _ => none }
def fnExactReadHeadRow : OpenClaim := { program := "ytefoebmcimnapaa", sum := "d1f06304f5f4f90ace496ad6c545f75904aacc3336b889bf2e4551751a21c1ea", func := "loop.example/g00099/laws.FnExactReadHead", spec := "fnExactReadHead", apart := false }
def FnExactReadHeadSaid : Prop := fnExactReadHeadRow.holds Try.pinned (OpenSpec.ofChange fnExactReadHeadSpec)

/-- ITS FALSE NEIGHBOUR: 'it returns false'. Refute it at one input. -/
def fnExactReadHeadWrong : ChangeSpec := { name := "fnExactReadHead", fn := fun _ => fun
  | [d] => { results := [.lit (.bool false)], args := [d] }
  | _ => none }
def FnExactReadHeadWrongFalsely : Prop := fnExactReadHeadRow.holds Try.pinned (OpenSpec.ofChange fnExactReadHeadWrong)

/-- 'laws.FnExactChunksText': WHATEVER THE INPUT: true; the input reads as it did. -/
def fnExactChunksTextSpec : ChangeSpec := { name := "fnExactChunksText", fn := fun _ => fun
  | [d] => { results := [.lit (.bool true)], args := [d] }
  | _ => none }
def fnExactChunksTextRow : OpenClaim := { program := "ytefoebmcimnapaa", sum := "d1f06304f5f4f90ace496ad6c545f75904aacc3336b889bf2e4551751a21c1ea", func := "loop.example/g00099/laws.FnExactChunksText", spec := "fnExactChunksText", apart := false }
def FnExactChunksTextSaid : Prop := fnExactChunksTextRow.holds Try.pinned (OpenSpec.ofChange fnExactChunksTextSpec)

/-- ITS FALSE NEIGHBOUR: 'it returns false'. Refute it at one input. -/
def fnExactChunksTextWrong : ChangeSpec := { name := "fnExactChunksText", fn := fun _ => fun
  | [d] => { results := [.lit (.bool false)], args := [d] }
  | _ => none }
def FnExactChunksTextWrongFalsely : Prop := fnExactChunksTextRow.holds Try.pinned (OpenSpec.ofChange fnExactChunksTextWrong)

/-- 'laws.FnExactScanBytes': WHATEVER THE INPUT: true; the input reads as it did. -/
def fnExactScanBytesSpec : ChangeSpec := { name := "fnExactScanBytes", fn := fun _ => fun
  | [d1, d2, d3, d4, d5] => { results := [.lit (.bool true)], args := [d1, d2, d3, d4, d5] }
  | _ => none }
def fnExactScanBytesRow : OpenClaim := { program := "ytefoebmcimnapaa", sum := "d1f06304f5f4f90ace496ad6c545f75904aacc3336b889bf2e4551751a21c1ea", func := "loop.example/g00099/laws.FnExactScanBytes", spec := "fnExactScanBytes", apart := false }
def FnExactScanBytesSaid : Prop := fnExactScanBytesRow.holds Try.pinned (OpenSpec.ofChange fnExactScanBytesSpec)

/-- ITS FALSE NEIGHBOUR: 'it returns false'. Refute it at one input. -/
def fnExactScanBytesWrong : ChangeSpec := { name := "fnExactScanBytes", fn := fun _ => fun
  | [d1, d2, d3, d4, d5] => { results := [.lit (.bool false)], args := [d1, d2, d3, d4, d5] }
  | _ => none }
def FnExactScanBytesWrongFalsely : Prop := fnExactScanBytesRow.holds Try.pinned (OpenSpec.ofChange fnExactScanBytesWrong)

/-- 'laws.FnExactClearText': WHATEVER THE INPUT: true; the input reads as it did. -/
def fnExactClearTextSpec : ChangeSpec := { name := "fnExactClearText", fn := fun _ => fun
  | [d1, d2, d3] => { results := [.lit (.bool true)], args := [d1, d2, d3] }
  | _ => none }
def fnExactClearTextRow : OpenClaim := { program := "ytefoebmcimnapaa", sum := "d1f06304f5f4f90ace496ad6c545f75904aacc3336b889bf2e4551751a21c1ea", func := "loop.example/g00099/laws.FnExactClearText", spec := "fnExactClearText", apart := false }
def FnExactClearTextSaid : Prop := fnExactClearTextRow.holds Try.pinned (OpenSpec.ofChange fnExactClearTextSpec)

/-- ITS FALSE NEIGHBOUR: 'it returns false'. Refute it at one input. -/
def fnExactClearTextWrong : ChangeSpec := { name := "fnExactClearText", fn := fun _ => fun
  | [d1, d2, d3] => { results := [.lit (.bool false)], args := [d1, d2, d3] }
  | _ => none }
def FnExactClearTextWrongFalsely : Prop := fnExactClearTextRow.holds Try.pinned (OpenSpec.ofChange fnExactClearTextWrong)

/-- 'laws.FnFilters': WHATEVER THE INPUT: true; the input reads as it did. -/
def fnFiltersSpec : ChangeSpec := { name := "fnFilters", fn := fun _ => fun
  | [d] => { results := [.lit (.bool true)], args := [d] }
  | _ => none }
def fnFiltersRow : OpenClaim := { program := "ytefoebmcimnapaa", sum := "d1f06304f5f4f90ace496ad6c545f75904aacc3336b889bf2e4551751a21c1ea", func := "loop.example/g00099/laws.FnFilters", spec := "fnFilters", apart := false }
def FnFiltersSaid : Prop := fnFiltersRow.holds Try.pinned (OpenSpec.ofChange fnFiltersSpec)

/-- ITS FALSE NEIGHBOUR: 'it returns false'. Refute it at one input. -/
def fnFiltersWrong : ChangeSpec := { name := "fnFilters", fn := fun _ => fun
  | [d] => { results := [.lit (.bool false)], args := [d] }
  | _ => none }
def FnFiltersWrongFalsely : Prop := fnFiltersRow.holds Try.pinned (OpenSpec.ofChange fnFiltersWrong)

/-- 'laws.FnOneChunk': WHATEVER THE INPUT: true; the input reads as it did. -/
def fnOneChunkSpec : ChangeSpec := { name := "fnOneChunk", fn := fun _ => fun
  | [d] => { results := [.lit (.bool true)], args := [d] }
  | _ => none }
def fnOneChunkRow : OpenClaim := { program := "ytefoebmcimnapaa", sum := "d1f06304f5f4f90ace496ad6c545f75904aacc3336b889bf2e4551751a21c1ea", func := "loop.example/g00099/laws.FnOneChunk", spec := "fnOneChunk", apart := false }
def FnOneChunkSaid : Prop := fnOneChunkRow.holds Try.pinned (OpenSpec.ofChange fnOneChunkSpec)

/-- ITS FALSE NEIGHBOUR: 'it returns false'. Refute it at one input. -/
def fnOneChunkWrong : ChangeSpec := { name := "fnOneChunk", fn := fun _ => fun
  | [d] => { results := [.lit (.bool false)], args := [d] }
  | _ => none }
def FnOneChunkWrongFalsely : Prop := fnOneChunkRow.holds Try.pinned (OpenSpec.ofChange fnOneChunkWrong)

/-- 'laws.FnExactReadChunks': WHATEVER THE INPUT: true; the input reads as it did. -/
def fnExactReadChunksSpec : ChangeSpec := { name := "fnExactReadChunks", fn := fun _ => fun
  | [d] => { results := [.lit (.bool true)], args := [d] }
  | _ => none }
def fnExactReadChunksRow : OpenClaim := { program := "ytefoebmcimnapaa", sum := "d1f06304f5f4f90ace496ad6c545f75904aacc3336b889bf2e4551751a21c1ea", func := "loop.example/g00099/laws.FnExactReadChunks", spec := "fnExactReadChunks", apart := false }
def FnExactReadChunksSaid : Prop := fnExactReadChunksRow.holds Try.pinned (OpenSpec.ofChange fnExactReadChunksSpec)

/-- ITS FALSE NEIGHBOUR: 'it returns false'. Refute it at one input. -/
def fnExactReadChunksWrong : ChangeSpec := { name := "fnExactReadChunks", fn := fun _ => fun
  | [d] => { results := [.lit (.bool false)], args := [d] }
  | _ => none }
def FnExactReadChunksWrongFalsely : Prop := fnExactReadChunksRow.holds Try.pinned (OpenSpec.ofChange fnExactReadChunksWrong)

/-- 'laws.FnExactReadClear': WHATEVER THE INPUT: true; the input reads as it did. -/
def fnExactReadClearSpec : ChangeSpec := { name := "fnExactReadClear", fn := fun _ => fun
  | [d1, d2, d3] => { results := [.lit (.bool true)], args := [d1, d2, d3] }
  | _ => none }
def fnExactReadClearRow : OpenClaim := { program := "ytefoebmcimnapaa", sum := "d1f06304f5f4f90ace496ad6c545f75904aacc3336b889bf2e4551751a21c1ea", func := "loop.example/g00099/laws.FnExactReadClear", spec := "fnExactReadClear", apart := false }
def FnExactReadClearSaid : Prop := fnExactReadClearRow.holds Try.pinned (OpenSpec.ofChange fnExactReadClearSpec)

/-- ITS FALSE NEIGHBOUR: 'it returns false'. Refute it at one input. -/
def fnExactReadClearWrong : ChangeSpec := { name := "fnExactReadClear", fn := fun _ => fun
  | [d1, d2, d3] => { results := [.lit (.bool false)], args := [d1, d2, d3] }
  | _ => none }
def FnExactReadClearWrongFalsely : Prop := fnExactReadClearRow.holds Try.pinned (OpenSpec.ofChange fnExactReadClearWrong)

/-- 'laws.FnPasses': WHATEVER THE INPUT: true; the input reads as it did. -/
def fnPassesSpec : ChangeSpec := { name := "fnPasses", fn := fun _ => fun
  | [d] => { results := [.lit (.bool true)], args := [d] }
  | _ => none }
def fnPassesRow : OpenClaim := { program := "ytefoebmcimnapaa", sum := "d1f06304f5f4f90ace496ad6c545f75904aacc3336b889bf2e4551751a21c1ea", func := "loop.example/g00099/laws.FnPasses", spec := "fnPasses", unfollowed := true, recurses := true, apart := false }
def FnPassesSaid : Prop := fnPassesRow.holds Try.pinned (OpenSpec.ofChange fnPassesSpec)

/-- ITS FALSE NEIGHBOUR: 'it returns false'. Refute it at one input. -/
def fnPassesWrong : ChangeSpec := { name := "fnPasses", fn := fun _ => fun
  | [d] => { results := [.lit (.bool false)], args := [d] }
  | _ => none }
def FnPassesWrongFalsely : Prop := fnPassesRow.holds Try.pinned (OpenSpec.ofChange fnPassesWrong)

/-- 'laws.FnExactTouchy': WHATEVER THE INPUT: true; the input reads as it did. -/
def fnExactTouchySpec : ChangeSpec := { name := "fnExactTouchy", fn := fun _ => fun
  | [d] => { results := [.lit (.bool true)], args := [d] }
  | _ => none }
def fnExactTouchyRow : OpenClaim := { program := "ytefoebmcimnapaa", sum := "d1f06304f5f4f90ace496ad6c545f75904aacc3336b889bf2e4551751a21c1ea", func := "loop.example/g00099/laws.FnExactTouchy", spec := "fnExactTouchy", apart := false }
def FnExactTouchySaid : Prop := fnExactTouchyRow.holds Try.pinned (OpenSpec.ofChange fnExactTouchySpec)

/-- ITS FALSE NEIGHBOUR: 'it returns false'. Refute it at one input. -/
def fnExactTouchyWrong : ChangeSpec := { name := "fnExactTouchy", fn := fun _ => fun
  | [d] => { results := [.lit (.bool false)], args := [d] }
  | _ => none }
def FnExactTouchyWrongFalsely : Prop := fnExactTouchyRow.holds Try.pinned (OpenSpec.ofChange fnExactTouchyWrong)

/-- 'laws.FnChunks': WHATEVER THE INPUT: true; the input reads as it did. -/
def fnChunksSpec : ChangeSpec := { name := "fnChunks", fn := fun _ => fun
  | [d] => { results := [.lit (.bool true)], args := [d] }
  | _ => none }
def fnChunksRow : OpenClaim := { program := "ytefoebmcimnapaa", sum := "d1f06304f5f4f90ace496ad6c545f75904aacc3336b889bf2e4551751a21c1ea", func := "loop.example/g00099/laws.FnChunks", spec := "fnChunks", apart := false }
def FnChunksSaid : Prop := fnChunksRow.holds Try.pinned (OpenSpec.ofChange fnChunksSpec)

/-- ITS FALSE NEIGHBOUR: 'it returns false'. Refute it at one input. -/
def fnChunksWrong : ChangeSpec := { name := "fnChunks", fn := fun _ => fun
  | [d] => { results := [.lit (.bool false)], args := [d] }
  | _ => none }
def FnChunksWrongFalsely : Prop := fnChunksRow.holds Try.pinned (OpenSpec.ofChange fnChunksWrong)

/- THE SECOND FORM. 'bulk': how many values and letters a reading holds, each counted each time it is reached (what is shared counts as often as it is met; a slice's spare places count too). A statement '..UptoSaid' is the law's where the arguments, and the package variables that the reading takes, are together of bulk at most 1048576: NARROWER than '..Said'. Prove '..Said' where nothing that the law and all that it calls make is longer than what came in: it says more and counts as full. Else prove '..UptoSaid'. A law counts once. -/
mutual
def uptoBulk {H : Type} : DataW H → Nat
  | .lit (.string bytes) => bytes.length + 1
  | .lit _ => 1
  | .nil => 1
  | .ptr d => uptoBulk d + 1
  | .slice elems spare => uptoBulkAll elems + uptoBulkAll spare + 1
  | .agg parts => uptoBulkAll parts + 1
  | .iface _ d => uptoBulk d + 1
  | .map entries => uptoBulkEntries entries + 1
  | .held _ => 1
def uptoBulkAll {H : Type} : List (DataW H) → Nat
  | [] => 0
  | d :: r => uptoBulk d + uptoBulkAll r
def uptoBulkEntries {H : Type} : List (Lit × DataW H) → Nat
  | [] => 0
  | x :: r => uptoBulkEntry x + uptoBulkEntries r
def uptoBulkEntry {H : Type} : Lit × DataW H → Nat
  | (.string bytes, d) => bytes.length + uptoBulk d + 1
  | (_, d) => uptoBulk d + 1
 end
def uptoSmall : (H : Type) → List (DataW H) → Bool := fun _ ds => decide (uptoBulkAll ds ≤ 1048576)
def OpenSpec.upto (s : _root_.Go.ChangeSpec) : _root_.Go.OpenSpec := { _root_.Go.OpenSpec.ofChange s with cond := some uptoSmall }

/-- 'laws.FnExactBestFilter', WHERE WHAT IT READS IS OF BULK AT MOST 1048576: true; the input reads as it did. -/
def fnExactBestFilterUptoRow : OpenClaim := { program := "ytefoebmcimnapaa", sum := "d1f06304f5f4f90ace496ad6c545f75904aacc3336b889bf2e4551751a21c1ea", func := "loop.example/g00099/laws.FnExactBestFilter", spec := "fnExactBestFilter", apart := false, narrowed := true }
def FnExactBestFilterUptoSaid : Prop := fnExactBestFilterUptoRow.holds Try.pinned (OpenSpec.upto fnExactBestFilterSpec)

/-- 'laws.FnExactReadHead', WHERE WHAT IT READS IS OF BULK AT MOST 1048576: true; the input reads as it did. -/
def fnExactReadHeadUptoRow : OpenClaim := { program := "ytefoebmcimnapaa", sum := "d1f06304f5f4f90ace496ad6c545f75904aacc3336b889bf2e4551751a21c1ea", func := "loop.example/g00099/laws.FnExactReadHead", spec := "fnExactReadHead", apart := false, narrowed := true }
def FnExactReadHeadUptoSaid : Prop := fnExactReadHeadUptoRow.holds Try.pinned (OpenSpec.upto fnExactReadHeadSpec)

/-- 'laws.FnExactChunksText', WHERE WHAT IT READS IS OF BULK AT MOST 1048576: true; the input reads as it did. -/
def fnExactChunksTextUptoRow : OpenClaim := { program := "ytefoebmcimnapaa", sum := "d1f06304f5f4f90ace496ad6c545f75904aacc3336b889bf2e4551751a21c1ea", func := "loop.example/g00099/laws.FnExactChunksText", spec := "fnExactChunksText", apart := false, narrowed := true }
def FnExactChunksTextUptoSaid : Prop := fnExactChunksTextUptoRow.holds Try.pinned (OpenSpec.upto fnExactChunksTextSpec)

/-- 'laws.FnExactScanBytes', WHERE WHAT IT READS IS OF BULK AT MOST 1048576: true; the input reads as it did. -/
def fnExactScanBytesUptoRow : OpenClaim := { program := "ytefoebmcimnapaa", sum := "d1f06304f5f4f90ace496ad6c545f75904aacc3336b889bf2e4551751a21c1ea", func := "loop.example/g00099/laws.FnExactScanBytes", spec := "fnExactScanBytes", apart := false, narrowed := true }
def FnExactScanBytesUptoSaid : Prop := fnExactScanBytesUptoRow.holds Try.pinned (OpenSpec.upto fnExactScanBytesSpec)

/-- 'laws.FnExactClearText', WHERE WHAT IT READS IS OF BULK AT MOST 1048576: true; the input reads as it did. -/
def fnExactClearTextUptoRow : OpenClaim := { program := "ytefoebmcimnapaa", sum := "d1f06304f5f4f90ace496ad6c545f75904aacc3336b889bf2e4551751a21c1ea", func := "loop.example/g00099/laws.FnExactClearText", spec := "fnExactClearText", apart := false, narrowed := true }
def FnExactClearTextUptoSaid : Prop := fnExactClearTextUptoRow.holds Try.pinned (OpenSpec.upto fnExactClearTextSpec)

/-- 'laws.FnFilters', WHERE WHAT IT READS IS OF BULK AT MOST 1048576: true; the input reads as it did. -/
def fnFiltersUptoRow : OpenClaim := { program := "ytefoebmcimnapaa", sum := "d1f06304f5f4f90ace496ad6c545f75904aacc3336b889bf2e4551751a21c1ea", func := "loop.example/g00099/laws.FnFilters", spec := "fnFilters", apart := false, narrowed := true }
def FnFiltersUptoSaid : Prop := fnFiltersUptoRow.holds Try.pinned (OpenSpec.upto fnFiltersSpec)

/-- 'laws.FnOneChunk', WHERE WHAT IT READS IS OF BULK AT MOST 1048576: true; the input reads as it did. -/
def fnOneChunkUptoRow : OpenClaim := { program := "ytefoebmcimnapaa", sum := "d1f06304f5f4f90ace496ad6c545f75904aacc3336b889bf2e4551751a21c1ea", func := "loop.example/g00099/laws.FnOneChunk", spec := "fnOneChunk", apart := false, narrowed := true }
def FnOneChunkUptoSaid : Prop := fnOneChunkUptoRow.holds Try.pinned (OpenSpec.upto fnOneChunkSpec)

/-- 'laws.FnExactReadChunks', WHERE WHAT IT READS IS OF BULK AT MOST 1048576: true; the input reads as it did. -/
def fnExactReadChunksUptoRow : OpenClaim := { program := "ytefoebmcimnapaa", sum := "d1f06304f5f4f90ace496ad6c545f75904aacc3336b889bf2e4551751a21c1ea", func := "loop.example/g00099/laws.FnExactReadChunks", spec := "fnExactReadChunks", apart := false, narrowed := true }
def FnExactReadChunksUptoSaid : Prop := fnExactReadChunksUptoRow.holds Try.pinned (OpenSpec.upto fnExactReadChunksSpec)

/-- 'laws.FnExactReadClear', WHERE WHAT IT READS IS OF BULK AT MOST 1048576: true; the input reads as it did. -/
def fnExactReadClearUptoRow : OpenClaim := { program := "ytefoebmcimnapaa", sum := "d1f06304f5f4f90ace496ad6c545f75904aacc3336b889bf2e4551751a21c1ea", func := "loop.example/g00099/laws.FnExactReadClear", spec := "fnExactReadClear", apart := false, narrowed := true }
def FnExactReadClearUptoSaid : Prop := fnExactReadClearUptoRow.holds Try.pinned (OpenSpec.upto fnExactReadClearSpec)

/-- 'laws.FnPasses', WHERE WHAT IT READS IS OF BULK AT MOST 1048576: true; the input reads as it did. -/
def fnPassesUptoRow : OpenClaim := { program := "ytefoebmcimnapaa", sum := "d1f06304f5f4f90ace496ad6c545f75904aacc3336b889bf2e4551751a21c1ea", func := "loop.example/g00099/laws.FnPasses", spec := "fnPasses", unfollowed := true, recurses := true, apart := false, narrowed := true }
def FnPassesUptoSaid : Prop := fnPassesUptoRow.holds Try.pinned (OpenSpec.upto fnPassesSpec)

/-- 'laws.FnExactTouchy', WHERE WHAT IT READS IS OF BULK AT MOST 1048576: true; the input reads as it did. -/
def fnExactTouchyUptoRow : OpenClaim := { program := "ytefoebmcimnapaa", sum := "d1f06304f5f4f90ace496ad6c545f75904aacc3336b889bf2e4551751a21c1ea", func := "loop.example/g00099/laws.FnExactTouchy", spec := "fnExactTouchy", apart := false, narrowed := true }
def FnExactTouchyUptoSaid : Prop := fnExactTouchyUptoRow.holds Try.pinned (OpenSpec.upto fnExactTouchySpec)

/-- 'laws.FnChunks', WHERE WHAT IT READS IS OF BULK AT MOST 1048576: true; the input reads as it did. -/
def fnChunksUptoRow : OpenClaim := { program := "ytefoebmcimnapaa", sum := "d1f06304f5f4f90ace496ad6c545f75904aacc3336b889bf2e4551751a21c1ea", func := "loop.example/g00099/laws.FnChunks", spec := "fnChunks", apart := false, narrowed := true }
def FnChunksUptoSaid : Prop := fnChunksUptoRow.holds Try.pinned (OpenSpec.upto fnChunksSpec)

end Rows
end Go.Proofs.Ytefoebmcimnapaa
