/- The row of the law FnExactClearText over its walk and its pure statement: for every input the call returns true. Written by lawrow.py, a program of this session. -/
import Derived.Test.YtefoebmcimnapaaRows
import Derived.Test.YtefoebmcimnapaaPFnExactClearTextx5
import Derived.Test.YtefoebmcimnapaaPureFnExactClearText
import Derived.Test.YtefoebmcimnapaaOpenKit
import Derived.WalkKit
import Derived.ProofKit
import Derived.OpenShut
import Derived.ShutString
import Derived.ChangeOld
import Derived.Below
import Derived.SizedLaws
set_option linter.unusedVariables false
set_option linter.unusedSimpArgs false
namespace Go.Proofs.Ytefoebmcimnapaa.fnExactClearText
open Go.ChangeShapes Go.WideShapes Go.ChangeAt Go.RowKit Go.Proofs.Ytefoebmcimnapaa.OpenKit Go.Proofs.YtefoebmcimnapaaW.PrintWords
open Go.ChangeMaps (open_string shut_string)
theorem own : ownKnob Try.prog.godebug = none := by kernel_rfl
theorem laidOut : laidOutB Try.prog = true := by kernel_rfl
set_option maxRecDepth 100000 in
theorem lifted (os : Os) (started : os.Started) (H : Type) (enc : TypeId × Value → H) :
    ReturnsInHanded {} Try.checked os 7 .any (Rows.fnExactClearTextSpec.pre6 enc Try.prog Try.f7 Rows.fnExactClearTextRow.domain false) (Rows.fnExactClearTextSpec.post enc Try.prog Try.f7 false true false false) := by
  refine returnsInHanded_of_change_sized (C := Try.checked) own started (by kernel_rfl) Try.func7
    (ChangeSpec.witness6 (enc := enc) (C := Try.checked) false ⟨#[], #[.agg #[.int .i64 0, .int .i64 0, .int .i64 0, .int .i64 0, .bool false], .int .i64 0, .slice none 0 0], []⟩ 8 (by kernel_rfl) (by kernel_rfl) (by kernel_rfl) (by kernel_rfl)) ?_
  intro W base args ds gs before hval0 hW hcnd hsz0 _
  have hval : ∀ (j : Nat) t v, Try.f7.params[j]? = some t → args[j]? = some v → Value.okWide Try.prog W .any base t v := hval0
  have hW' := hW
  obtain ⟨p, q, hA0, hV, rfl, hfz, hnd⟩ := hW
  have hA : DataW.TrodAll enc Try.prog W 0 (fun _ => true) true Try.f7.params.toList args.toList ds p := hA0
  rw [Try.params7] at hA hval
  obtain ⟨v0, vs0, d0, ds0, p0, q0, hargs, rfl, rfl, h0, r0⟩ := trodAll_cons hA
  obtain ⟨v1, vs1, d1, ds1, p1, q1, rfl, rfl, rfl, h1, r1⟩ := trodAll_cons r0
  obtain ⟨v2, vs2, d2, ds2, p2, q2, rfl, rfl, rfl, h2, r2⟩ := trodAll_cons r1
  obtain ⟨rfl, rfl, rfl⟩ := trodAll_nil r2
  obtain rfl : args = #[v0, v1, v2] := by cases args; simp_all
  obtain ⟨rfl, rfl⟩ := trodVars_none hV
  have k0 := h0
  have lt0 : ∀ x ∈ p0, x.block < W.heap.size := by obtain ⟨m, hm⟩ := k0; exact DataW.trod_lt m _ _ _ hm
  obtain ⟨cs0, rfl, hcs0⟩ := okWide_struct Try.underlying41 (hval 0 41 v0 rfl rfl)
  obtain ⟨⟨a0_0, a0_1, a0_2, a0_3, a0_4⟩, hx0, hq0⟩ := open_arg (opens_struct Try.underlying41 (by kernel_rfl) (opensF_cons rfl (by kernel_rfl) (opens_int Try.underlying3) (opensF_cons rfl (by kernel_rfl) (opens_int Try.underlying3) (opensF_cons rfl (by kernel_rfl) (opens_int Try.underlying3) (opensF_cons rfl (by kernel_rfl) (opens_int Try.underlying3) (opensF_one rfl (by kernel_rfl) (opens_bool Try.underlying4))))))) h0
  obtain ⟨q0_0, q0_1, q0_2, q0_3, _⟩ := hq0
  obtain ⟨_, _, e0_0, rfl, ⟨_, _, e0_1, rfl, ⟨_, _, e0_2, rfl, ⟨_, _, e0_3, rfl, rfl⟩⟩⟩⟩ := hx0
  obtain rfl : cs0 = #[.int .i64 a0_0, .int .i64 a0_1, .int .i64 a0_2, .int .i64 a0_3, .bool a0_4] := by
    apply Array.ext'
    simp only [Value.cells] at e0_0
    rw [e0_0]
    simp_all
  obtain ⟨a1, rfl, rfl, rfl, w1⟩ := open_int Try.underlying3 (hval 1 3 v1 rfl rfl) h1
  have k2 := h2
  have lt2 : ∀ x ∈ p2, x.block < W.heap.size := by obtain ⟨m, hm⟩ := k2; exact DataW.trod_lt m _ _ _ hm
  obtain ⟨l2, ⟨A2, c2, e2, hc2, hr2⟩, qa2, qb2⟩ := open_arg (opens_slice (d := (Kd.int .i64)) Try.underlying42 (by kernel_rfl) (opens_int Try.underlying3)) h2
  obtain ⟨x2, y2, z2, rfl⟩ := okWide_slice Try.underlying42 (hval 2 42 v2 rfl rfl)
  simp only [Value.cells, List.cons.injEq, Value.slice.injEq, and_true] at e2
  obtain ⟨rfl, rfl, rfl⟩ := e2
  clear hA0 hval0 hsz0
  obtain ⟨k, h⟩ := Pure.FnExactClearText a0_0 a0_1 a0_2 a0_3 a0_4 a1 l2 q0_0 q0_1 q0_2 q0_3 w1 qa2 qb2
  refine (Go.Proofs.Ytefoebmcimnapaa.PFnExactClearText.laws_FnExactClearText.calls (k := k) (a0_0 := a0_0) (a0_1 := a0_1) (a0_2 := a0_2) (a0_3 := a0_3) (a0_4 := a0_4) (a1 := a1) (l2 := l2) (r := true) (w := W) (hr2 := hr2) (hc2 := hc2) (h := h)).mono fun e W' ⟨he, bel0⟩ => ?_
  have bel : Below W.heap.size W W' := bel0
  subst he
  exact ⟨_, rfl, _, _, _, [], _, [], hW', trodAll_mk1 (shut_bool Try.underlying4 _), (trodAll_cons_mk (Below.trod laidOut (by kernel_rfl) (of_decide_eq_true (by kernel_rfl)) k0 bel lt0) (trodAll_cons_mk (shut_int Try.underlying3 w1) (trodAll_cons_mk (Below.trod laidOut (by kernel_rfl) (of_decide_eq_true (by kernel_rfl)) k2 bel lt2) trodAll_mk0))), rfl, bel.frame _, fun h => by cases h⟩
theorem over : Rows.fnExactClearTextRow.holds Try.pinned (OpenSpec.ofChange Rows.fnExactClearTextSpec) :=
  OpenClaim.holds_of_wide 7 Try.f7 rfl rfl rfl rfl rfl rfl rfl ⟨rfl, rfl, rfl, rfl, rfl⟩ rfl rfl rfl rfl rfl (by kernel_rfl) Try.func7 (by kernel_rfl)
    (of_decide_eq_true (by kernel_rfl)) (by unfold Func.isWrapper; first | (rw [if_pos (by decide +kernel)]; kernel_rfl) | (rw [if_neg (by decide +kernel)]; exact ⟨rfl, rfl⟩))
    (fun os started H enc _ => lifted os started H enc)
theorem proved : Rows.FnExactClearTextSaid := over
#print axioms proved
end Go.Proofs.Ytefoebmcimnapaa.fnExactClearText
namespace Go.Proofs.Ytefoebmcimnapaa
/-- The row, under a short name, for the claim. -/
theorem fnExactClearText_holds : Rows.FnExactClearTextSaid := fnExactClearText.proved
end Go.Proofs.Ytefoebmcimnapaa
