/- The row of the law FnExactWovenBlock over its walk and its pure statement: for every input the call returns true. Written by lawrow.py, a program of this session. -/
import Derived.Test.YtldiiicbgdfapaaRows
import Derived.Test.YtldiiicbgdfapaaPureFnExactWovenBlock
import Derived.ProofKit
import Derived.OpenShut
import Derived.ShutString
import Derived.SizedLaws
set_option linter.unusedVariables false
set_option linter.unusedSimpArgs false
namespace Go.Proofs.Ytldiiicbgdfapaa.fnExactWovenBlock
open Go.ChangeShapes Go.WideShapes Go.ChangeAt Go.RowKit Go.Proofs.Ytldiiicbgdfapaa.OpenKit Go.Proofs.YtldiiicbgdfapaaW.PrintWords
open Go.ChangeMaps (open_string shut_string)
theorem own : ownKnob Try.prog.godebug = none := by kernel_rfl
theorem laidOut : laidOutB Try.prog = true := by kernel_rfl
set_option maxRecDepth 100000 in
theorem lifted (os : Os) (started : os.Started) (H : Type) (enc : TypeId × Value → H) :
    ReturnsInHanded {} Try.checked os 3 .any (Rows.fnExactWovenBlockSpec.pre6 enc Try.prog Try.f3 Rows.fnExactWovenBlockRow.domain false) (Rows.fnExactWovenBlockSpec.post enc Try.prog Try.f3 false true false false) := by
  refine returnsInHanded_of_change_sized (C := Try.checked) own started (by kernel_rfl) Try.func3
    (ChangeSpec.witness6 (enc := enc) (C := Try.checked) false ⟨#[], #[.agg #[.string ByteArray.empty, .int .i64 0], .slice none 0 0, .bool false], []⟩ 8 (by kernel_rfl) (by kernel_rfl) (by kernel_rfl) (by kernel_rfl)) ?_
  intro W base args ds gs before hval0 hW hcnd hsz0 _
  have hval : ∀ (j : Nat) t v, Try.f3.params[j]? = some t → args[j]? = some v → Value.okWide Try.prog W .any base t v := hval0
  have hW' := hW
  obtain ⟨p, q, hA0, hV, rfl, hfz, hnd⟩ := hW
  have hA : DataW.TrodAll enc Try.prog W 0 (fun _ => true) true Try.f3.params.toList args.toList ds p := hA0
  rw [Try.params3] at hA hval
  obtain ⟨v0, vs0, d0, ds0, p0, q0, hargs, rfl, rfl, h0, r0⟩ := trodAll_cons hA
  obtain ⟨v1, vs1, d1, ds1, p1, q1, rfl, rfl, rfl, h1, r1⟩ := trodAll_cons r0
  obtain ⟨v2, vs2, d2, ds2, p2, q2, rfl, rfl, rfl, h2, r2⟩ := trodAll_cons r1
  obtain ⟨rfl, rfl, rfl⟩ := trodAll_nil r2
  obtain rfl : args = #[v0, v1, v2] := by cases args; simp_all
  obtain ⟨rfl, rfl⟩ := trodVars_none hV
  have k0 := h0
  have lt0 : ∀ x ∈ p0, x.block < W.heap.size := by obtain ⟨m, hm⟩ := k0; exact DataW.trod_lt m _ _ _ hm
  obtain ⟨cs0, rfl, hcs0⟩ := okWide_struct Try.underlying23 (hval 0 23 v0 rfl rfl)
  obtain ⟨⟨a0_0, a0_1⟩, hx0, hq0⟩ := open_arg (opens_struct Try.underlying23 (by kernel_rfl) (opensF_cons rfl (by kernel_rfl) (opens_string Try.underlying9) (opensF_one rfl (by kernel_rfl) (opens_int Try.underlying3)))) h0
  obtain ⟨q0_0, q0_1⟩ := hq0
  obtain ⟨_, _, e0_0, rfl, rfl⟩ := hx0
  obtain rfl : cs0 = #[.string a0_0, .int .i64 a0_1] := by
    apply Array.ext'
    simp only [Value.cells] at e0_0
    rw [e0_0]
    simp
  have k1 := h1
  have lt1 : ∀ x ∈ p1, x.block < W.heap.size := by obtain ⟨m, hm⟩ := k1; exact DataW.trod_lt m _ _ _ hm
  obtain ⟨l1, ⟨A1, c1, e1, hc1, hr1⟩, qa1, qb1⟩ := open_arg (opens_slice (d := Ytldiiicbgdfapaa.PFnExactWovenBlock.k72) Try.underlying24 (by kernel_rfl) (opens_iso (fun x : Ytldiiicbgdfapaa.PFnExactWovenBlock.S72 => (x.f0, x.f1, x.f2)) (fun a => ⟨a.1, a.2.1, a.2.2⟩) (fun _ => rfl) (opens_struct Try.underlying72 (by kernel_rfl) (opensF_cons rfl (by kernel_rfl) (opens_int Try.underlying3) (opensF_cons rfl (by kernel_rfl) (opens_int Try.underlying3) (opensF_one rfl (by kernel_rfl) (opens_int Try.underlying3))))))) h1
  obtain ⟨x1, y1, z1, rfl⟩ := okWide_slice Try.underlying24 (hval 1 24 v1 rfl rfl)
  simp only [Value.cells, List.cons.injEq, Value.slice.injEq, and_true] at e1
  obtain ⟨rfl, rfl, rfl⟩ := e1
  obtain ⟨a2, rfl, rfl, rfl⟩ := open_bool Try.underlying4 (hval 2 4 v2 rfl rfl) h2
  clear hA0 hval0 hsz0
  obtain ⟨k, h⟩ := Pure.FnExactWovenBlock a0_0 a0_1 l1 a2 q0_0 q0_1 qa1 qb1
  refine (Go.Proofs.Ytldiiicbgdfapaa.PFnExactWovenBlock.laws_FnExactWovenBlock.calls (k := k) (a0_0 := a0_0) (a0_1 := a0_1) (l1 := l1) (a2 := a2) (r := true) (hrt := rfl) (w := W) (hr1 := hr1) (hc1 := hc1) (h := h)).mono fun e W' ⟨he, bel0⟩ => ?_
  have bel : Below W.heap.size W W' := bel0
  subst he
  exact ⟨_, rfl, _, _, _, [], _, [], hW', trodAll_mk1 (shut_bool Try.underlying4 _), (trodAll_cons_mk (Below.trod laidOut (by kernel_rfl) (of_decide_eq_true (by kernel_rfl)) k0 bel lt0) (trodAll_cons_mk (Below.trod laidOut (by kernel_rfl) (of_decide_eq_true (by kernel_rfl)) k1 bel lt1) (trodAll_cons_mk (shut_bool Try.underlying4 _) trodAll_mk0))), rfl, bel.frame _, fun h => by cases h⟩
theorem over : Rows.fnExactWovenBlockRow.holds Try.pinned (OpenSpec.ofChange Rows.fnExactWovenBlockSpec) :=
  OpenClaim.holds_of_wide 3 Try.f3 rfl rfl rfl rfl rfl rfl rfl ⟨rfl, rfl, rfl, rfl, rfl⟩ rfl rfl rfl rfl rfl (by kernel_rfl) Try.func3 (by kernel_rfl)
    (of_decide_eq_true (by kernel_rfl)) (by unfold Func.isWrapper; first | (rw [if_pos (by decide +kernel)]; kernel_rfl) | (rw [if_neg (by decide +kernel)]; exact ⟨rfl, rfl⟩))
    (fun os started H enc _ => lifted os started H enc)
theorem proved : Rows.FnExactWovenBlockSaid := over
#print axioms proved
end Go.Proofs.Ytldiiicbgdfapaa.fnExactWovenBlock
namespace Go.Proofs.Ytldiiicbgdfapaa
/-- The row, under a short name, for the claim. -/
theorem fnExactWovenBlock_holds : Rows.FnExactWovenBlockSaid := fnExactWovenBlock.proved
end Go.Proofs.Ytldiiicbgdfapaa
