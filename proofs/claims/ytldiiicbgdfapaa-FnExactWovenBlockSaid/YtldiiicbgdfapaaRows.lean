/-
  No cell of these rows narrows 'for every input' (looked for: loops, veiled, ifaces, maps, wideKeys, modest, calm, conditions, laid).
  DERIVED. THE GIVEN ROWS OF THIS SEAT. 2 by the template 'for every input the law returns true; each argument reads behind the call as it read before'; 0 by the template 'total and deterministic' (their statements: YtldiiicbgdfapaaTotals.lean).
  GIVEN WITH THE SEED: the statements are not yours to turn. If you find one false, say at which input.
  Laid BY PROGRAM, IN A SANDBOX (cutbox-rows.mjs): the forced cells as the released guide's own fill.sh prints them over the translation 72ec67b188b0d274… (all of the seat's roots in one cut). By AI agents, Wed Nov 11 2026. No macro, syntax, notation, axiom, sorry.
-/
import Derived.Test.YtldiiicbgdfapaaChecked
import GoSem.Claim
import GoSem.ClaimJoined
import GoSem.ClaimMapViews
import Derived.JoinedTies
import Derived.KernelRfl
namespace Go.Proofs.Ytldiiicbgdfapaa
/- THE CELL 'sum', in the pinned program and in every row, IS THE sha256 OF THE DUMP (.gsa) THAT YtldiiicbgdfapaaProg.lean LOADS. Nothing in Lean hashes anything: it is a label: what it is worth is what the hold of that sum in a sandbox is worth. -/
noncomputable def Try.pinned : Pinned := { name := "ytldiiicbgdfapaa", sum := "72ec67b188b0d274ccb5c78fd79ea83b7ee99b9de0e947fe76635b28afac769b", checked := Try.checked }
namespace Rows
def none {H : Type} : Left H := { results := [], args := [] }

/-- 'laws.FnExactWovenBlock': WHATEVER THE INPUT: true; the input reads as it did. -/
def fnExactWovenBlockSpec : ChangeSpec := { name := "fnExactWovenBlock", fn := fun _ => fun
  | [d1, d2, d3] => { results := [.lit (.bool true)], args := [d1, d2, d3] }
  | _ => none }
def fnExactWovenBlockRow : OpenClaim := { program := "ytldiiicbgdfapaa", sum := "72ec67b188b0d274ccb5c78fd79ea83b7ee99b9de0e947fe76635b28afac769b", func := "loop.example/g00099/laws.FnExactWovenBlock", spec := "fnExactWovenBlock", unfollowed := true, recurses := true, apart := false }
def FnExactWovenBlockSaid : Prop := fnExactWovenBlockRow.holds Try.pinned (OpenSpec.ofChange fnExactWovenBlockSpec)

/-- ITS FALSE NEIGHBOUR: 'it returns false'. Refute it at one input. -/
def fnExactWovenBlockWrong : ChangeSpec := { name := "fnExactWovenBlock", fn := fun _ => fun
  | [d1, d2, d3] => { results := [.lit (.bool false)], args := [d1, d2, d3] }
  | _ => none }
def FnExactWovenBlockWrongFalsely : Prop := fnExactWovenBlockRow.holds Try.pinned (OpenSpec.ofChange fnExactWovenBlockWrong)

/-- 'laws.FnBestBlock': WHATEVER THE INPUT: true; the input reads as it did. -/
def fnBestBlockSpec : ChangeSpec := { name := "fnBestBlock", fn := fun _ => fun
  | [d] => { results := [.lit (.bool true)], args := [d] }
  | _ => none }
def fnBestBlockRow : OpenClaim := { program := "ytldiiicbgdfapaa", sum := "72ec67b188b0d274ccb5c78fd79ea83b7ee99b9de0e947fe76635b28afac769b", func := "loop.example/g00099/laws.FnBestBlock", spec := "fnBestBlock", unfollowed := true, recurses := true, apart := false }
def FnBestBlockSaid : Prop := fnBestBlockRow.holds Try.pinned (OpenSpec.ofChange fnBestBlockSpec)

/-- ITS FALSE NEIGHBOUR: 'it returns false'. Refute it at one input. -/
def fnBestBlockWrong : ChangeSpec := { name := "fnBestBlock", fn := fun _ => fun
  | [d] => { results := [.lit (.bool false)], args := [d] }
  | _ => none }
def FnBestBlockWrongFalsely : Prop := fnBestBlockRow.holds Try.pinned (OpenSpec.ofChange fnBestBlockWrong)

/- THE SECOND FORM. 'bulk': how many values and letters a reading holds, each counted each time it is reached (what is shared counts as often as it is met; a slice's spare places count too). A statement '..UptoSaid' is the law's where the arguments, and the package variables that the reading takes, are together of bulk at most 1048576: NARROWER than '..Said'. Prove '..Said' where nothing that the law and all that it calls make is longer than what came in: it says more and counts as full. Else prove '..UptoSaid'. A law counts once. -/
mutual
def uptoBulk {H : Type} : DataW H → Nat
  | .lit (.string bytes) => bytes.length + 1
  | .lit _ => 1
  | .nil => 1
  | .ptr d => uptoBulk d + 1
  | .slice elems spare => uptoBulkAll elems + uptoBulkAll spare + 1
  | .agg parts => uptoBulkAll parts + 1
  | .iface _ d => uptoBulk d + 1
  | .map entries => uptoBulkEntries entries + 1
  | .held _ => 1
def uptoBulkAll {H : Type} : List (DataW H) → Nat
  | [] => 0
  | d :: r => uptoBulk d + uptoBulkAll r
def uptoBulkEntries {H : Type} : List (Lit × DataW H) → Nat
  | [] => 0
  | x :: r => uptoBulkEntry x + uptoBulkEntries r
def uptoBulkEntry {H : Type} : Lit × DataW H → Nat
  | (.string bytes, d) => bytes.length + uptoBulk d + 1
  | (_, d) => uptoBulk d + 1
 end
def uptoSmall : (H : Type) → List (DataW H) → Bool := fun _ ds => decide (uptoBulkAll ds ≤ 1048576)
def OpenSpec.upto (s : _root_.Go.ChangeSpec) : _root_.Go.OpenSpec := { _root_.Go.OpenSpec.ofChange s with cond := some uptoSmall }

/-- 'laws.FnExactWovenBlock', WHERE WHAT IT READS IS OF BULK AT MOST 1048576: true; the input reads as it did. -/
def fnExactWovenBlockUptoRow : OpenClaim := { program := "ytldiiicbgdfapaa", sum := "72ec67b188b0d274ccb5c78fd79ea83b7ee99b9de0e947fe76635b28afac769b", func := "loop.example/g00099/laws.FnExactWovenBlock", spec := "fnExactWovenBlock", unfollowed := true, recurses := true, apart := false, narrowed := true }
def FnExactWovenBlockUptoSaid : Prop := fnExactWovenBlockUptoRow.holds Try.pinned (OpenSpec.upto fnExactWovenBlockSpec)

/-- 'laws.FnBestBlock', WHERE WHAT IT READS IS OF BULK AT MOST 1048576: true; the input reads as it did. -/
def fnBestBlockUptoRow : OpenClaim := { program := "ytldiiicbgdfapaa", sum := "72ec67b188b0d274ccb5c78fd79ea83b7ee99b9de0e947fe76635b28afac769b", func := "loop.example/g00099/laws.FnBestBlock", spec := "fnBestBlock", unfollowed := true, recurses := true, apart := false, narrowed := true }
def FnBestBlockUptoSaid : Prop := fnBestBlockUptoRow.holds Try.pinned (OpenSpec.upto fnBestBlockSpec)

end Rows
end Go.Proofs.Ytldiiicbgdfapaa
