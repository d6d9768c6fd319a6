/- The row of the law FnExactSameMeaning over its walk and its pure statement: for every input the call returns true. Written by lawrow.py, a program of this session. -/
import Derived.Test.YtmnbeefcglbklaaRows
import Derived.Test.YtmnbeefcglbklaaPFnExactSameMeaningx6
import Derived.Test.YtmnbeefcglbklaaPureFnExactSameMeaning
import Derived.Test.YtmnbeefcglbklaaOpenKit
import Derived.WalkKit
import Derived.ProofKit
import Derived.OpenShut
import Derived.ShutString
import Derived.ChangeOld
import Derived.Below
import Derived.SizedLaws
set_option linter.unusedVariables false
set_option linter.unusedSimpArgs false
namespace Go.Proofs.Ytmnbeefcglbklaa.fnExactSameMeaning
open Go.ChangeShapes Go.WideShapes Go.ChangeAt Go.RowKit Go.Proofs.Ytmnbeefcglbklaa.OpenKit Go.Proofs.YtmnbeefcglbklaaW.PrintWords
open Go.ChangeMaps (open_string shut_string)
theorem own : ownKnob Try.prog.godebug = none := by kernel_rfl
theorem laidOut : laidOutB Try.prog = true := by kernel_rfl
set_option maxRecDepth 100000 in
theorem lifted (os : Os) (started : os.Started) (H : Type) (enc : TypeId × Value → H) :
    ReturnsInHanded {} Try.checked os 3 .any (Rows.fnExactSameMeaningSpec.pre6 enc Try.prog Try.f3 Rows.fnExactSameMeaningRow.domain false) (Rows.fnExactSameMeaningSpec.post enc Try.prog Try.f3 false true false false) := by
  refine returnsInHanded_of_change_sized (C := Try.checked) own started (by kernel_rfl) Try.func3
    (ChangeSpec.witness6 (enc := enc) (C := Try.checked) false ⟨#[], #[.agg #[.int .i64 0, .int .i64 0, .slice none 0 0, .slice none 0 0], .agg #[.int .i64 0, .int .i64 0, .slice none 0 0, .slice none 0 0]], []⟩ 8 (by kernel_rfl) (by kernel_rfl) (by kernel_rfl) (by kernel_rfl)) ?_
  intro W base args ds gs before hval0 hW hcnd hsz0 _
  have hval : ∀ (j : Nat) t v, Try.f3.params[j]? = some t → args[j]? = some v → Value.okWide Try.prog W .any base t v := hval0
  have hW' := hW
  obtain ⟨p, q, hA0, hV, rfl, hfz, hnd⟩ := hW
  have hA : DataW.TrodAll enc Try.prog W 0 (fun _ => true) true Try.f3.params.toList args.toList ds p := hA0
  rw [Try.params3] at hA hval
  obtain ⟨v0, vs0, d0, ds0, p0, q0, hargs, rfl, rfl, h0, r0⟩ := trodAll_cons hA
  obtain ⟨v1, vs1, d1, ds1, p1, q1, rfl, rfl, rfl, h1, r1⟩ := trodAll_cons r0
  obtain ⟨rfl, rfl, rfl⟩ := trodAll_nil r1
  obtain rfl : args = #[v0, v1] := by cases args; simp_all
  obtain ⟨rfl, rfl⟩ := trodVars_none hV
  have k0 := h0
  have lt0 : ∀ x ∈ p0, x.block < W.heap.size := by obtain ⟨m, hm⟩ := k0; exact DataW.trod_lt m _ _ _ hm
  obtain ⟨cs0, rfl, hcs0⟩ := okWide_struct Try.underlying25 (hval 0 25 v0 rfl rfl)
  obtain ⟨⟨a0_0, a0_1, l0_2, l0_3⟩, hx0, hq0⟩ := open_arg (opens_struct Try.underlying25 (by kernel_rfl) (opensF_cons rfl (by kernel_rfl) (opens_int Try.underlying3) (opensF_cons rfl (by kernel_rfl) (opens_int Try.underlying3) (opensF_cons rfl (by kernel_rfl) (opens_slice (d := (Kd.int .i64)) Try.underlying22 (by kernel_rfl) (opens_int Try.underlying3)) (opensF_one rfl (by kernel_rfl) (opens_slice (d := Ytmnbeefcglbklaa.PFnExactSameMeaning.k42) Try.underlying23 (by kernel_rfl) (opens_iso (fun x : Ytmnbeefcglbklaa.PFnExactSameMeaning.S42 => (x.f0, x.f1)) (fun a => ⟨a.1, a.2⟩) (fun _ => rfl) (opens_struct Try.underlying42 (by kernel_rfl) (opensF_cons rfl (by kernel_rfl) (opens_string Try.underlying9) (opensF_one rfl (by kernel_rfl) (opens_string Try.underlying9))))))))))) h0
  obtain ⟨q0_0, q0_1, ⟨qa0_2, qb0_2⟩, ⟨qa0_3, qb0_3⟩⟩ := hq0
  obtain ⟨_, _, e0_0, rfl, ⟨_, _, e0_1, rfl, ⟨_, _, e0_2, ⟨A0_2, c0_2, rfl, hc0_2, hr0_2⟩, ⟨A0_3, c0_3, rfl, hc0_3, hr0_3⟩⟩⟩⟩ := hx0
  obtain rfl : cs0 = #[.int .i64 a0_0, .int .i64 a0_1, .slice A0_2 l0_2.length c0_2, .slice A0_3 l0_3.length c0_3] := by
    apply Array.ext'
    simp only [Value.cells] at e0_0
    rw [e0_0]
    simp_all
  have k1 := h1
  have lt1 : ∀ x ∈ p1, x.block < W.heap.size := by obtain ⟨m, hm⟩ := k1; exact DataW.trod_lt m _ _ _ hm
  obtain ⟨cs1, rfl, hcs1⟩ := okWide_struct Try.underlying25 (hval 1 25 v1 rfl rfl)
  obtain ⟨⟨a1_0, a1_1, l1_2, l1_3⟩, hx1, hq1⟩ := open_arg (opens_struct Try.underlying25 (by kernel_rfl) (opensF_cons rfl (by kernel_rfl) (opens_int Try.underlying3) (opensF_cons rfl (by kernel_rfl) (opens_int Try.underlying3) (opensF_cons rfl (by kernel_rfl) (opens_slice (d := (Kd.int .i64)) Try.underlying22 (by kernel_rfl) (opens_int Try.underlying3)) (opensF_one rfl (by kernel_rfl) (opens_slice (d := Ytmnbeefcglbklaa.PFnExactSameMeaning.k42) Try.underlying23 (by kernel_rfl) (opens_iso (fun x : Ytmnbeefcglbklaa.PFnExactSameMeaning.S42 => (x.f0, x.f1)) (fun a => ⟨a.1, a.2⟩) (fun _ => rfl) (opens_struct Try.underlying42 (by kernel_rfl) (opensF_cons rfl (by kernel_rfl) (opens_string Try.underlying9) (opensF_one rfl (by kernel_rfl) (opens_string Try.underlying9))))))))))) h1
  obtain ⟨q1_0, q1_1, ⟨qa1_2, qb1_2⟩, ⟨qa1_3, qb1_3⟩⟩ := hq1
  obtain ⟨_, _, e1_0, rfl, ⟨_, _, e1_1, rfl, ⟨_, _, e1_2, ⟨A1_2, c1_2, rfl, hc1_2, hr1_2⟩, ⟨A1_3, c1_3, rfl, hc1_3, hr1_3⟩⟩⟩⟩ := hx1
  obtain rfl : cs1 = #[.int .i64 a1_0, .int .i64 a1_1, .slice A1_2 l1_2.length c1_2, .slice A1_3 l1_3.length c1_3] := by
    apply Array.ext'
    simp only [Value.cells] at e1_0
    rw [e1_0]
    simp_all
  clear hA0 hval0 hsz0
  obtain ⟨k, h⟩ := Pure.FnExactSameMeaning a0_0 a0_1 l0_2 l0_3 a1_0 a1_1 l1_2 l1_3 q0_0 q0_1 qa0_2 qb0_2 qa0_3 qb0_3 q1_0 q1_1 qa1_2 qb1_2 qa1_3 qb1_3
  refine (Go.Proofs.Ytmnbeefcglbklaa.PFnExactSameMeaning.laws_FnExactSameMeaning.calls (k := k) (a0_0 := a0_0) (a0_1 := a0_1) (l0_2 := l0_2) (l0_3 := l0_3) (a1_0 := a1_0) (a1_1 := a1_1) (l1_2 := l1_2) (l1_3 := l1_3) (w := W) (hr0_2 := hr0_2) (hc0_2 := hc0_2) (hr0_3 := hr0_3) (hc0_3 := hc0_3) (hr1_2 := hr1_2) (hc1_2 := hc1_2) (hr1_3 := hr1_3) (hc1_3 := hc1_3) (h := h)).mono fun e W' ⟨he, bel0⟩ => ?_
  have bel : Below W.heap.size W W' := bel0
  subst he
  exact ⟨_, rfl, _, _, _, [], _, [], hW', trodAll_mk1 (shut_bool Try.underlying4 _), (trodAll_cons_mk (Below.trod laidOut (by kernel_rfl) (of_decide_eq_true (by kernel_rfl)) k0 bel lt0) (trodAll_cons_mk (Below.trod laidOut (by kernel_rfl) (of_decide_eq_true (by kernel_rfl)) k1 bel lt1) trodAll_mk0)), rfl, bel.frame _, fun h => by cases h⟩
theorem over : Rows.fnExactSameMeaningRow.holds Try.pinned (OpenSpec.ofChange Rows.fnExactSameMeaningSpec) :=
  OpenClaim.holds_of_wide 3 Try.f3 rfl rfl rfl rfl rfl rfl rfl ⟨rfl, rfl, rfl, rfl, rfl⟩ rfl rfl rfl rfl rfl (by kernel_rfl) Try.func3 (by kernel_rfl)
    (of_decide_eq_true (by kernel_rfl)) (by unfold Func.isWrapper; first | (rw [if_pos (by decide +kernel)]; kernel_rfl) | (rw [if_neg (by decide +kernel)]; exact ⟨rfl, rfl⟩))
    (fun os started H enc _ => lifted os started H enc)
theorem proved : Rows.FnExactSameMeaningSaid := over
#print axioms proved
end Go.Proofs.Ytmnbeefcglbklaa.fnExactSameMeaning
namespace Go.Proofs.Ytmnbeefcglbklaa
/-- The row, under a short name, for the claim. -/
theorem fnExactSameMeaning_holds : Rows.FnExactSameMeaningSaid := fnExactSameMeaning.proved
end Go.Proofs.Ytmnbeefcglbklaa
