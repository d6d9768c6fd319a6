/- The row of the law FnExactNoCover over its walk and its pure statement: for every input the call returns true. Written by lawrow.py, a program of this session. -/
import Derived.Test.YtajnobmnkbkkgaaRows
import Derived.Test.YtajnobmnkbkkgaaPFnExactNoCoverx18
import Derived.Test.YtajnobmnkbkkgaaPureFnExactNoCover
import Derived.Test.YtajnobmnkbkkgaaVFnExactNoCover
import Derived.WalkKit
import Derived.ProofKit
import Derived.OpenShut
import Derived.ShutString
import Derived.ChangeOld
import Derived.Below
import Derived.SizedLaws
set_option linter.unusedVariables false
set_option linter.unusedSimpArgs false
namespace Go.Proofs.Ytajnobmnkbkkgaa.fnExactNoCover
open Go.ChangeShapes Go.WideShapes Go.ChangeAt Go.RowKit Go.Proofs.Ytajnobmnkbkkgaa.OpenKit Go.Proofs.YtajnobmnkbkkgaaW.PrintWords
open Go.ChangeMaps (open_string shut_string)
theorem own : ownKnob Try.prog.godebug = none := by kernel_rfl
theorem laidOut : laidOutB Try.prog = true := by kernel_rfl
set_option maxRecDepth 100000 in
theorem lifted (os : Os) (started : os.Started) (H : Type) (enc : TypeId × Value → H) :
    ReturnsInHanded {} Try.checked os 9 .any (Rows.fnExactNoCoverSpec.pre6 enc Try.prog Try.f9 Rows.fnExactNoCoverRow.domain false) (Rows.fnExactNoCoverSpec.post enc Try.prog Try.f9 false true false false) := by
  refine returnsInHanded_of_change_sized (C := Try.checked) own started (by kernel_rfl) Try.func9
    (ChangeSpec.witness6 (enc := enc) (C := Try.checked) false ⟨#[], #[.agg #[.int .i64 0, .int .i64 0, .int .i64 0, .int .i64 0, .bool false, .slice none 0 0, .slice none 0 0, .int .i64 0, .int .i64 0, .int .i64 0, .int .i64 0, .slice none 0 0, .slice none 0 0]], []⟩ 8 (by kernel_rfl) (by kernel_rfl) (by kernel_rfl) (by kernel_rfl)) ?_
  intro W base args ds gs before hval0 hW hcnd hsz0 _
  have hval : ∀ (j : Nat) t v, Try.f9.params[j]? = some t → args[j]? = some v → Value.okWide Try.prog W .any base t v := hval0
  have hW' := hW
  obtain ⟨p, q, hA0, hV, rfl, hfz, hnd⟩ := hW
  have hA : DataW.TrodAll enc Try.prog W 0 (fun _ => true) true Try.f9.params.toList args.toList ds p := hA0
  rw [Try.params9] at hA hval
  obtain ⟨v0, vs0, d0, ds0, p0, q0, hargs, rfl, rfl, h0, r0⟩ := trodAll_cons hA
  obtain ⟨rfl, rfl, rfl⟩ := trodAll_nil r0
  obtain rfl : args = #[v0] := by cases args; simp_all
  obtain ⟨rfl, rfl⟩ := trodVars_none hV
  have k0 := h0
  have lt0 : ∀ x ∈ p0, x.block < W.heap.size := by obtain ⟨m, hm⟩ := k0; exact DataW.trod_lt m _ _ _ hm
  obtain ⟨cs0, rfl, hcs0⟩ := okWide_struct Try.underlying69 (hval 0 69 v0 rfl rfl)
  obtain ⟨⟨⟨a0_0, a0_1, a0_2, a0_3, a0_4⟩, l0_5, l0_6, ⟨a0_7, a0_8, a0_9, a0_10, l0_11⟩, l0_12⟩, hx0, hq0⟩ := open_arg (opens_struct Try.underlying69 (by kernel_rfl) (opensF_cons rfl (by kernel_rfl) (opens_struct Try.underlying65 (by kernel_rfl) (opensF_cons rfl (by kernel_rfl) (opens_int Try.underlying3) (opensF_cons rfl (by kernel_rfl) (opens_int Try.underlying3) (opensF_cons rfl (by kernel_rfl) (opens_int Try.underlying3) (opensF_cons rfl (by kernel_rfl) (opens_int Try.underlying3) (opensF_one rfl (by kernel_rfl) (opens_bool Try.underlying4))))))) (opensF_cons rfl (by kernel_rfl) (opens_slice (d := Ytajnobmnkbkkgaa.PFnExactNoCover.k170) Try.underlying66 (by kernel_rfl) (opens_iso (fun x : Ytajnobmnkbkkgaa.PFnExactNoCover.S170 => (x.f0, x.f1, x.f2)) (fun a => ⟨a.1, a.2.1, a.2.2⟩) (fun _ => rfl) (opens_struct Try.underlying170 (by kernel_rfl) (opensF_cons rfl (by kernel_rfl) (opens_int Try.underlying3) (opensF_cons rfl (by kernel_rfl) (opens_int Try.underlying3) (opensF_one rfl (by kernel_rfl) (opens_int Try.underlying3))))))) (opensF_cons rfl (by kernel_rfl) (opens_slice (d := (Kd.int .i64)) Try.underlying22 (by kernel_rfl) (opens_int Try.underlying3)) (opensF_cons rfl (by kernel_rfl) (opens_struct Try.underlying24 (by kernel_rfl) (opensF_cons rfl (by kernel_rfl) (opens_int Try.underlying3) (opensF_cons rfl (by kernel_rfl) (opens_int Try.underlying3) (opensF_cons rfl (by kernel_rfl) (opens_int Try.underlying3) (opensF_cons rfl (by kernel_rfl) (opens_int Try.underlying3) (opensF_one rfl (by kernel_rfl) (opens_slice (d := (Kd.int .i64)) Try.underlying22 (by kernel_rfl) (opens_int Try.underlying3)))))))) (opensF_one rfl (by kernel_rfl) (opens_slice (d := Ytajnobmnkbkkgaa.PFnExactNoCover.k166) Try.underlying67 (by kernel_rfl) (opens_iso (fun x : Ytajnobmnkbkkgaa.PFnExactNoCover.S166 => (x.f0, x.f1)) (fun a => ⟨a.1, a.2⟩) (fun _ => rfl) (opens_struct Try.underlying166 (by kernel_rfl) (opensF_cons rfl (by kernel_rfl) (opens_string Try.underlying9) (opensF_one rfl (by kernel_rfl) (opens_string Try.underlying9)))))))))))) h0
  obtain ⟨⟨q0_0, q0_1, q0_2, q0_3, _⟩, ⟨qa0_5, qb0_5⟩, ⟨qa0_6, qb0_6⟩, ⟨q0_7, q0_8, q0_9, q0_10, ⟨qa0_11, qb0_11⟩⟩, ⟨qa0_12, qb0_12⟩⟩ := hq0
  obtain ⟨_, _, e0_0, ⟨_, _, e0_1, rfl, ⟨_, _, e0_2, rfl, ⟨_, _, e0_3, rfl, ⟨_, _, e0_4, rfl, rfl⟩⟩⟩⟩, ⟨_, _, e0_5, ⟨A0_5, c0_5, rfl, hc0_5, hr0_5⟩, ⟨_, _, e0_6, ⟨A0_6, c0_6, rfl, hc0_6, hr0_6⟩, ⟨_, _, e0_7, ⟨_, _, e0_8, rfl, ⟨_, _, e0_9, rfl, ⟨_, _, e0_10, rfl, ⟨_, _, e0_11, rfl, ⟨A0_11, c0_11, rfl, hc0_11, hr0_11⟩⟩⟩⟩⟩, ⟨A0_12, c0_12, rfl, hc0_12, hr0_12⟩⟩⟩⟩⟩ := hx0
  obtain rfl : cs0 = #[.int .i64 a0_0, .int .i64 a0_1, .int .i64 a0_2, .int .i64 a0_3, .bool a0_4, .slice A0_5 l0_5.length c0_5, .slice A0_6 l0_6.length c0_6, .int .i64 a0_7, .int .i64 a0_8, .int .i64 a0_9, .int .i64 a0_10, .slice A0_11 l0_11.length c0_11, .slice A0_12 l0_12.length c0_12] := by
    apply Array.ext'
    simp only [Value.cells] at e0_0
    rw [e0_0]
    simp_all
  clear hA0 hval0 hsz0
  obtain ⟨k, h⟩ := Pure.FnExactNoCover a0_0 a0_1 a0_2 a0_3 a0_4 l0_5 l0_6 a0_7 a0_8 a0_9 a0_10 l0_11 l0_12 q0_0 q0_1 q0_2 q0_3 qa0_5 qb0_5 qa0_6 qb0_6 q0_7 q0_8 q0_9 q0_10 qa0_11 qb0_11 qa0_12 qb0_12
  refine (Go.Proofs.Ytajnobmnkbkkgaa.PFnExactNoCover.laws_FnExactNoCover.calls (k := k) (a0_0 := a0_0) (a0_1 := a0_1) (a0_2 := a0_2) (a0_3 := a0_3) (a0_4 := a0_4) (l0_5 := l0_5) (l0_6 := l0_6) (a0_7 := a0_7) (a0_8 := a0_8) (a0_9 := a0_9) (a0_10 := a0_10) (l0_11 := l0_11) (l0_12 := l0_12) (r := true) (hrt := rfl) (w := W) (hr0_5 := hr0_5) (hc0_5 := hc0_5) (hr0_6 := hr0_6) (hc0_6 := hc0_6) (hr0_11 := hr0_11) (hc0_11 := hc0_11) (hr0_12 := hr0_12) (hc0_12 := hc0_12) (h := h)).mono fun e W' ⟨he, bel0⟩ => ?_
  have bel : Below W.heap.size W W' := bel0
  subst he
  exact ⟨_, rfl, _, _, _, [], _, [], hW', trodAll_mk1 (shut_bool Try.underlying4 _), (trodAll_cons_mk (Below.trod laidOut (by kernel_rfl) (of_decide_eq_true (by kernel_rfl)) k0 bel lt0) trodAll_mk0), rfl, bel.frame _, fun h => by cases h⟩
theorem over : Rows.fnExactNoCoverRow.holds Try.pinned (OpenSpec.ofChange Rows.fnExactNoCoverSpec) :=
  OpenClaim.holds_of_wide 9 Try.f9 rfl rfl rfl rfl rfl rfl rfl ⟨rfl, rfl, rfl, rfl, rfl⟩ rfl rfl rfl rfl rfl (by kernel_rfl) Try.func9 (by kernel_rfl)
    (of_decide_eq_true (by kernel_rfl)) (by unfold Func.isWrapper; first | (rw [if_pos (by decide +kernel)]; kernel_rfl) | (rw [if_neg (by decide +kernel)]; exact ⟨rfl, rfl⟩))
    (fun os started H enc _ => lifted os started H enc)
theorem proved : Rows.FnExactNoCoverSaid := over
#print axioms proved
end Go.Proofs.Ytajnobmnkbkkgaa.fnExactNoCover
namespace Go.Proofs.Ytajnobmnkbkkgaa
/-- The row, under a short name, for the claim. -/
theorem fnExactNoCover_holds : Rows.FnExactNoCoverSaid := fnExactNoCover.proved
end Go.Proofs.Ytajnobmnkbkkgaa
