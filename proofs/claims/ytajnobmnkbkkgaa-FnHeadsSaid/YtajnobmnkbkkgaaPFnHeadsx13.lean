/- Walks of functions that the law FnHeads reaches: each call comes to what the Lean function of its name tells. Written by p2.py, a program of this session, by way of the kit's print. -/
import Derived.Test.YtajnobmnkbkkgaaPFnHeadsx0
import Derived.Test.YtajnobmnkbkkgaaPFnHeadsx1
import Derived.Test.YtajnobmnkbkkgaaPFnHeadsx2
import Derived.Test.YtajnobmnkbkkgaaPFnHeadsx3
import Derived.Test.YtajnobmnkbkkgaaPFnHeadsx4
import Derived.Test.YtajnobmnkbkkgaaPFnHeadsx5
import Derived.Test.YtajnobmnkbkkgaaPFnHeadsx6
import Derived.Test.YtajnobmnkbkkgaaPFnHeadsx7
import Derived.Test.YtajnobmnkbkkgaaPFnHeadsx8
import Derived.Test.YtajnobmnkbkkgaaPFnHeadsx9
import Derived.Test.YtajnobmnkbkkgaaPFnHeadsx10
import Derived.Test.YtajnobmnkbkkgaaPFnHeadsx12
namespace Go.Proofs.Ytajnobmnkbkkgaa.PFnHeads
open Go.RowKit Go.Proofs.YtajnobmnkbkkgaaW.PrintWords Go.Proofs.YtajnobmnkbkkgaaW.PrintLast Go.Proofs.YtajnobmnkbkkgaaW.PrintMore
attribute [local go_sem] max2_int min2_int max_two min_two max_three min_three max_four min_four   -- for this text's walks alone
set_option linter.unusedVariables false
set_option linter.unusedSimpArgs false

attribute [local go_sem high] eqA39 eqA52
/-! ### laws_FnHeads: function 4 -/
mutual
def laws_FnHeads.j0 : Nat → List Int → Option (Bool)
 | 0, _ => none
 | k + 1, x0 => (spec_DrawTableText.f k x0).bind fun t431 => ((impl_TableText.f k t431).bind fun bt434 => ((impl_ReadTable.f k bt434.1).bind fun bt436 => (if (bt434.2 != bt436.2) = true then (laws_FnHeads.j1 k x0 t431 bt436.1 true) else (if bt434.2 = true then (if (bt436.1.length : Int) = (t431.length : Int) then (laws_FnHeads.j1 k x0 t431 bt436.1 ((bt434.1.size : Int) != (wrap64 (3 * (t431.length : Int))))) else (laws_FnHeads.j1 k x0 t431 bt436.1 true)) else (laws_FnHeads.j1 k x0 t431 bt436.1 false)))))
def laws_FnHeads.j1 : Nat → List Int → List (S52) → List (S52) → Bool → Option (Bool)
 | 0, _, _, _, _ => none
 | k + 1, x0, x8, x11, x86 => if x86 = true then (some false) else (laws_FnHeads.l0 k x0 x8 x11 0)
def laws_FnHeads.l0 : Nat → List Int → List (S52) → List (S52) → Int → Option (Bool)
 | 0, _, _, _, _ => none
 | k + 1, x0, x8, x11, x13 => if x13 < (x11.length : Int) then (if 0 ≤ x13 then (if x13 < (x8.length : Int) then (if (!(((rd_T52 x11 x13).f0) == ((rd_T52 x8 x13).f0)) || (!(((rd_T52 x11 x13).f1) == ((rd_T52 x8 x13).f1)) || (!(((rd_T52 x11 x13).f2) == ((rd_T52 x8 x13).f2))))) = true then (some false) else (laws_FnHeads.l0 k x0 x8 x11 (wrap64 (x13 + 1)))) else (none)) else (none)) else ((spec_DrawClearText.f k x0).bind fun bt442 => ((impl_ClearText.f k bt442.1 bt442.2.1 bt442.2.2.1 bt442.2.2.2.1 bt442.2.2.2.2.1 bt442.2.2.2.2.2.1 bt442.2.2.2.2.2.2).bind fun bt452 => ((spec_ClearText.f k bt442.1 bt442.2.1 bt442.2.2.1 bt442.2.2.2.1 bt442.2.2.2.2.1 bt442.2.2.2.2.2.1 bt442.2.2.2.2.2.2).bind fun bt454 => (if (bt452.2 != bt454.2) = true then (some false) else ((impl_ReadClear.f k bt442.1 bt442.2.1 bt442.2.2.1 bt442.2.2.2.1 bt442.2.2.2.2.1 bt442.2.2.2.2.2.1 bt452.1).bind fun bt456 => (if bt452.2 = true then (if bt456.2 = true then ((laws_sameInts.f k bt456.1 bt442.2.2.2.2.2.2).bind fun t460 => (some t460)) else (some false)) else (some true)))))))
end
def laws_FnHeads.f (k : Nat) (l0 : List Int) : Option (Bool) := (laws_big.f l0).bind fun t414 => (if t414 = true then (some true) else ((spec_DrawHeadText.f k l0).bind fun bt415 => ((impl_HeadText.f k bt415.1 bt415.2.1 bt415.2.2.1 bt415.2.2.2.1 bt415.2.2.2.2).bind fun bt421 => ((spec_HeadOk.f k bt415.1 bt415.2.1 bt415.2.2.1 bt415.2.2.2.1 bt415.2.2.2.2).bind fun t423 => (if (bt421.2 != t423) = true then (some false) else (if bt421.2 = true then ((impl_ReadHead.f k bt421.1).bind fun bt424 => (if bt424.2.2.2.2.2 = true then (if (!(bt424.1 == bt415.1) || (!(bt424.2.1 == bt415.2.1) || (!(bt424.2.2.1 == bt415.2.2.1) || (!(bt424.2.2.2.1 == bt415.2.2.2.1) || (!(bt424.2.2.2.2.1 == bt415.2.2.2.2)))))) = true then (some false) else (if (bt421.1.size : Int) = 13 then (laws_FnHeads.j0 k l0) else (some false))) else (some false))) else (laws_FnHeads.j0 k l0)))))))
theorem laws_FnHeads.mono_l : ∀ k, (∀ y0, LeO (laws_FnHeads.j0 k y0) (laws_FnHeads.j0 (k + 1) y0)) ∧ (∀ y0 y1 y2 y3, LeO (laws_FnHeads.j1 k y0 y1 y2 y3) (laws_FnHeads.j1 (k + 1) y0 y1 y2 y3)) ∧ (∀ y0 y1 y2 y3, LeO (laws_FnHeads.l0 k y0 y1 y2 y3) (laws_FnHeads.l0 (k + 1) y0 y1 y2 y3))
 | 0 => ⟨fun _ r h => by simp [laws_FnHeads.j0] at h, fun _ _ _ _ r h => by simp [laws_FnHeads.j1] at h, fun _ _ _ _ r h => by simp [laws_FnHeads.l0] at h⟩
 | k + 1 => by
  obtain ⟨ih0, ih1, ih2⟩ := laws_FnHeads.mono_l k
  refine ⟨?_, ?_, ?_⟩
  ·intro y0
   unfold laws_FnHeads.j0
   repeat' first
   | (with_reducible exact ih0 _)
   | (with_reducible exact ih1 _ _ _ _)
   | (with_reducible exact ih2 _ _ _ _)
   | (with_reducible exact impl_ClearText.mono _ _ _ _ _ _ _ _)
   | (with_reducible exact impl_HeadText.mono _ _ _ _ _ _)
   | (with_reducible exact impl_ReadClear.mono _ _ _ _ _ _ _ _)
   | (with_reducible exact impl_ReadHead.mono _ _)
   | (with_reducible exact impl_ReadTable.mono _ _)
   | (with_reducible exact impl_TableText.mono _ _)
   | (with_reducible exact laws_sameInts.mono _ _ _)
   | (with_reducible exact spec_ClearText.mono _ _ _ _ _ _ _ _)
   | (with_reducible exact spec_DrawClearText.mono _ _)
   | (with_reducible exact spec_DrawHeadText.mono _ _)
   | (with_reducible exact spec_DrawTableText.mono _ _)
   | (with_reducible exact spec_HeadOk.mono _ _ _ _ _ _)
   | (with_reducible exact LeO.refl _)
   | (with_reducible exact LeO.none _)
   | (with_reducible refine LeO.ite ?_ ?_)
   | (with_reducible refine LeO.bind ?_ (fun _ => ?_))
   | exact ih0 _
   | exact ih1 _ _ _ _
   | exact ih2 _ _ _ _
   | exact impl_ClearText.mono _ _ _ _ _ _ _ _
   | exact impl_HeadText.mono _ _ _ _ _ _
   | exact impl_ReadClear.mono _ _ _ _ _ _ _ _
   | exact impl_ReadHead.mono _ _
   | exact impl_ReadTable.mono _ _
   | exact impl_TableText.mono _ _
   | exact laws_sameInts.mono _ _ _
   | exact spec_ClearText.mono _ _ _ _ _ _ _ _
   | exact spec_DrawClearText.mono _ _
   | exact spec_DrawHeadText.mono _ _
   | exact spec_DrawTableText.mono _ _
   | exact spec_HeadOk.mono _ _ _ _ _ _
   | exact LeO.none _
   | refine LeO.ite ?_ ?_
   | refine LeO.bind ?_ (fun _ => ?_)
  ·intro y0 y1 y2 y3
   unfold laws_FnHeads.j1
   repeat' first
   | (with_reducible exact ih0 _)
   | (with_reducible exact ih1 _ _ _ _)
   | (with_reducible exact ih2 _ _ _ _)
   | (with_reducible exact impl_ClearText.mono _ _ _ _ _ _ _ _)
   | (with_reducible exact impl_HeadText.mono _ _ _ _ _ _)
   | (with_reducible exact impl_ReadClear.mono _ _ _ _ _ _ _ _)
   | (with_reducible exact impl_ReadHead.mono _ _)
   | (with_reducible exact impl_ReadTable.mono _ _)
   | (with_reducible exact impl_TableText.mono _ _)
   | (with_reducible exact laws_sameInts.mono _ _ _)
   | (with_reducible exact spec_ClearText.mono _ _ _ _ _ _ _ _)
   | (with_reducible exact spec_DrawClearText.mono _ _)
   | (with_reducible exact spec_DrawHeadText.mono _ _)
   | (with_reducible exact spec_DrawTableText.mono _ _)
   | (with_reducible exact spec_HeadOk.mono _ _ _ _ _ _)
   | (with_reducible exact LeO.refl _)
   | (with_reducible exact LeO.none _)
   | (with_reducible refine LeO.ite ?_ ?_)
   | (with_reducible refine LeO.bind ?_ (fun _ => ?_))
   | exact ih0 _
   | exact ih1 _ _ _ _
   | exact ih2 _ _ _ _
   | exact impl_ClearText.mono _ _ _ _ _ _ _ _
   | exact impl_HeadText.mono _ _ _ _ _ _
   | exact impl_ReadClear.mono _ _ _ _ _ _ _ _
   | exact impl_ReadHead.mono _ _
   | exact impl_ReadTable.mono _ _
   | exact impl_TableText.mono _ _
   | exact laws_sameInts.mono _ _ _
   | exact spec_ClearText.mono _ _ _ _ _ _ _ _
   | exact spec_DrawClearText.mono _ _
   | exact spec_DrawHeadText.mono _ _
   | exact spec_DrawTableText.mono _ _
   | exact spec_HeadOk.mono _ _ _ _ _ _
   | exact LeO.none _
   | refine LeO.ite ?_ ?_
   | refine LeO.bind ?_ (fun _ => ?_)
  ·intro y0 y1 y2 y3
   unfold laws_FnHeads.l0
   repeat' first
   | (with_reducible exact ih0 _)
   | (with_reducible exact ih1 _ _ _ _)
   | (with_reducible exact ih2 _ _ _ _)
   | (with_reducible exact impl_ClearText.mono _ _ _ _ _ _ _ _)
   | (with_reducible exact impl_HeadText.mono _ _ _ _ _ _)
   | (with_reducible exact impl_ReadClear.mono _ _ _ _ _ _ _ _)
   | (with_reducible exact impl_ReadHead.mono _ _)
   | (with_reducible exact impl_ReadTable.mono _ _)
   | (with_reducible exact impl_TableText.mono _ _)
   | (with_reducible exact laws_sameInts.mono _ _ _)
   | (with_reducible exact spec_ClearText.mono _ _ _ _ _ _ _ _)
   | (with_reducible exact spec_DrawClearText.mono _ _)
   | (with_reducible exact spec_DrawHeadText.mono _ _)
   | (with_reducible exact spec_DrawTableText.mono _ _)
   | (with_reducible exact spec_HeadOk.mono _ _ _ _ _ _)
   | (with_reducible exact LeO.refl _)
   | (with_reducible exact LeO.none _)
   | (with_reducible refine LeO.ite ?_ ?_)
   | (with_reducible refine LeO.bind ?_ (fun _ => ?_))
   | exact ih0 _
   | exact ih1 _ _ _ _
   | exact ih2 _ _ _ _
   | exact impl_ClearText.mono _ _ _ _ _ _ _ _
   | exact impl_HeadText.mono _ _ _ _ _ _
   | exact impl_ReadClear.mono _ _ _ _ _ _ _ _
   | exact impl_ReadHead.mono _ _
   | exact impl_ReadTable.mono _ _
   | exact impl_TableText.mono _ _
   | exact laws_sameInts.mono _ _ _
   | exact spec_ClearText.mono _ _ _ _ _ _ _ _
   | exact spec_DrawClearText.mono _ _
   | exact spec_DrawHeadText.mono _ _
   | exact spec_DrawTableText.mono _ _
   | exact spec_HeadOk.mono _ _ _ _ _ _
   | exact LeO.none _
   | refine LeO.ite ?_ ?_
   | refine LeO.bind ?_ (fun _ => ?_)
theorem laws_FnHeads.mono : ∀ a0 k, LeO (laws_FnHeads.f k a0) (laws_FnHeads.f (k + 1) a0) := by
 intro a0 k
 obtain ⟨ih0, ih1, ih2⟩ := laws_FnHeads.mono_l k
 unfold laws_FnHeads.f
 repeat' first
   | (with_reducible exact ih0 _)
   | (with_reducible exact ih1 _ _ _ _)
   | (with_reducible exact ih2 _ _ _ _)
   | (with_reducible exact impl_ClearText.mono _ _ _ _ _ _ _ _)
   | (with_reducible exact impl_HeadText.mono _ _ _ _ _ _)
   | (with_reducible exact impl_ReadClear.mono _ _ _ _ _ _ _ _)
   | (with_reducible exact impl_ReadHead.mono _ _)
   | (with_reducible exact impl_ReadTable.mono _ _)
   | (with_reducible exact impl_TableText.mono _ _)
   | (with_reducible exact laws_sameInts.mono _ _ _)
   | (with_reducible exact spec_ClearText.mono _ _ _ _ _ _ _ _)
   | (with_reducible exact spec_DrawClearText.mono _ _)
   | (with_reducible exact spec_DrawHeadText.mono _ _)
   | (with_reducible exact spec_DrawTableText.mono _ _)
   | (with_reducible exact spec_HeadOk.mono _ _ _ _ _ _)
   | (with_reducible exact LeO.refl _)
   | (with_reducible exact LeO.none _)
   | (with_reducible refine LeO.ite ?_ ?_)
   | (with_reducible refine LeO.bind ?_ (fun _ => ?_))
   | exact ih0 _
   | exact ih1 _ _ _ _
   | exact ih2 _ _ _ _
   | exact impl_ClearText.mono _ _ _ _ _ _ _ _
   | exact impl_HeadText.mono _ _ _ _ _ _
   | exact impl_ReadClear.mono _ _ _ _ _ _ _ _
   | exact impl_ReadHead.mono _ _
   | exact impl_ReadTable.mono _ _
   | exact impl_TableText.mono _ _
   | exact laws_sameInts.mono _ _ _
   | exact spec_ClearText.mono _ _ _ _ _ _ _ _
   | exact spec_DrawClearText.mono _ _
   | exact spec_DrawHeadText.mono _ _
   | exact spec_DrawTableText.mono _ _
   | exact spec_HeadOk.mono _ _ _ _ _ _
   | exact LeO.none _
   | refine LeO.ite ?_ ?_
   | refine LeO.bind ?_ (fun _ => ?_)
set_option maxHeartbeats 8000000 in
set_option maxRecDepth 100000 in
theorem laws_FnHeads.calls (k : Nat) (A0 : Option Addr) (c0 : Nat) (l0 : List Int) (r : Bool) (w : World) (hr0 : Kd.C (Kd.int .u8) w A0 l0.length l0) (hc0 : l0.length ≤ c0) (hrt : r = true) (h : laws_FnHeads.f k l0 = some r) :
  Calls Try.prog 4 #[.slice A0 l0.length c0] w fun e w' => e = .returned (.bool r) ∧ Below w.heap.size w w' := by
 have hu39 := Try.underlying39
 have hu52 := Try.underlying52
 have HR0 := aM hr0
 have HC0 := aM hc0
 clear hr0 hc0
 have HB := aM (Below.refl w.heap.size w)
 unfold laws_FnHeads.f at h; have H := h
 clear h
 replace H := oB.mp H
 obtain ⟨t414, A20, H⟩ := H
 try dsimp only at H
 have A2 := aM A20
 clear A20
 by_cases c3 : t414 = true
 ·subst c3
  have H1 : (some true) = some r := by rw [if_pos rfl] at H; first | done | exact H
  clear H
  have H := H1
  clear H1
  clear hrt
  obtain rfl := Option.some.inj H
  go_enter Try.func4, Try.ntmps4
  go_wp2_with (first | (go_at_call 21; (with_reducible refine (laws_big.calls _ _ l0 true _ ?side1 ?side2 A2.out).mono ?_); (case side1 => repeat (first | exact HR0.out | (with_reducible refine cA ?_ _) | (with_reducible refine cN ?_ _) | (with_reducible refine cD ?_))); (case side2 => exact HC0.out); rintro e w' ⟨rfl, ⟨nd, rfl⟩⟩; (try first | exact ⟨rfl, _, World.drewN_drewN _ _ _⟩ | exact ⟨rfl, _, Eq.trans (World.drewN_drewN _ _ _) (congrArg (World.drewN _) (Nat.add_assoc _ _ _))⟩)))
  repeat (go_quiet (first | (go_at_call 21; (with_reducible refine (laws_big.calls _ _ l0 true _ ?side1 ?side2 A2.out).mono ?_); (case side1 => repeat (first | exact HR0.out | (with_reducible refine cA ?_ _) | (with_reducible refine cN ?_ _) | (with_reducible refine cD ?_))); (case side2 => exact HC0.out); rintro e w' ⟨rfl, ⟨nd, rfl⟩⟩; (try first | exact ⟨rfl, _, World.drewN_drewN _ _ _⟩ | exact ⟨rfl, _, Eq.trans (World.drewN_drewN _ _ _) (congrArg (World.drewN _) (Nat.add_assoc _ _ _))⟩))); try go_wp2_with (first | (go_at_call 21; (with_reducible refine (laws_big.calls _ _ l0 true _ ?side1 ?side2 A2.out).mono ?_); (case side1 => repeat (first | exact HR0.out | (with_reducible refine cA ?_ _) | (with_reducible refine cN ?_ _) | (with_reducible refine cD ?_))); (case side2 => exact HC0.out); rintro e w' ⟨rfl, ⟨nd, rfl⟩⟩; (try first | exact ⟨rfl, _, World.drewN_drewN _ _ _⟩ | exact ⟨rfl, _, Eq.trans (World.drewN_drewN _ _ _) (congrArg (World.drewN _) (Nat.add_assoc _ _ _))⟩))))
  go_ret
  exact ⟨by first | rfl | (simp [errW_none, errW_some] <;> rfl) | (simp [*, errW_none, errW_some] <;> rfl), by repeat (first | (with_reducible first | exact HB.out | apply bA | apply bN | apply bE) | exact HB.out)⟩
 ·replace c3 := Bool.eq_false_iff.mpr c3
  subst c3
  have H1 : ((spec_DrawHeadText.f k l0).bind fun bt415 => ((impl_HeadText.f k bt415.1 bt415.2.1 bt415.2.2.1 bt415.2.2.2.1 bt415.2.2.2.2).bind fun bt421 => ((spec_HeadOk.f k bt415.1 bt415.2.1 bt415.2.2.1 bt415.2.2.2.1 bt415.2.2.2.2).bind fun t423 => (if (bt421.2 != t423) = true then (some false) else (if bt421.2 = true then ((impl_ReadHead.f k bt421.1).bind fun bt424 => (if bt424.2.2.2.2.2 = true then (if (!(bt424.1 == bt415.1) || (!(bt424.2.1 == bt415.2.1) || (!(bt424.2.2.1 == bt415.2.2.1) || (!(bt424.2.2.2.1 == bt415.2.2.2.1) || (!(bt424.2.2.2.2.1 == bt415.2.2.2.2)))))) = true then (some false) else (if (bt421.1.size : Int) = 13 then (laws_FnHeads.j0 k l0) else (some false))) else (some false))) else (laws_FnHeads.j0 k l0)))))) = some r := by rw [if_neg (show ¬ (false = true) by decide)] at H; first | done | exact H
  clear H
  have H := H1
  clear H1
  replace H := oB.mp H
  obtain ⟨⟨t415, t416, t417, t418, t419⟩, A40, H⟩ := H
  try dsimp only at H
  have A4 := aM A40
  clear A40
  replace H := oB.mp H
  obtain ⟨⟨t421, t422⟩, A50, H⟩ := H
  try dsimp only at H
  have A5 := aM A50
  clear A50
  replace H := oB.mp H
  obtain ⟨t423, A60, H⟩ := H
  try dsimp only at H
  have A6 := aM A60
  clear A60
  by_cases c7 : (t422 != t423) = true
  ·rw [if_pos c7] at H
   have c7b0 : (t422 != t423) = true := c7
   (try (have c7b1 : decide (t422 = t423) = false := by simpa using c7))
   (try (have c7b2 : (t422 == t423) = false := by simpa using c7))
   (try (have c7b3 : ¬ (t422 = t423) := by simpa using c7))
   clear c7
   exact absurd ((Option.some.inj H).trans hrt) (by decide)
  ·rw [if_neg c7] at H
   have c7b0 : (t422 != t423) = false := by simpa using c7
   (try (have c7b1 : decide (t422 = t423) = true := by simpa using c7))
   (try (have c7b2 : (t422 == t423) = true := by simpa using c7))
   clear c7
   have HC8 := aM H
   clear H
   go_enter Try.func4, Try.ntmps4
   go_upto_if 36 with (first | (go_at_call 21; (with_reducible refine (laws_big.calls _ _ l0 false _ ?side1 ?side2 A2.out).mono ?_); (case side1 => repeat (first | exact HR0.out | (with_reducible refine cA ?_ _) | (with_reducible refine cN ?_ _) | (with_reducible refine cD ?_))); (case side2 => exact HC0.out); rintro e w' ⟨rfl, ⟨nd, rfl⟩⟩; (try first | exact ⟨rfl, _, World.drewN_drewN _ _ _⟩ | exact ⟨rfl, _, Eq.trans (World.drewN_drewN _ _ _) (congrArg (World.drewN _) (Nat.add_assoc _ _ _))⟩)) | (go_at_call 22; (with_reducible refine (spec_DrawHeadText.calls k _ _ l0 t415 t416 t417 t418 t419 _ ?side1 ?side2 A4.out).mono ?_); (case side1 => repeat (first | exact HR0.out | (with_reducible refine cA ?_ _) | (with_reducible refine cN ?_ _) | (with_reducible refine cD ?_))); (case side2 => exact HC0.out); rintro e w9 ⟨rfl, hb⟩; have n0_ := aM (bT (by repeat (first | (with_reducible first | exact HB.out | apply bA | apply bN | apply bE) | exact HB.out)) hb); clear HB; have HB := n0_; clear n0_; (try clear hb); (try clear hb2); (try clear hk); (try clear hi)) | ((with_reducible refine gate_dst (N := 3) rfl ?_); (try (refine gate_guard (by rfl) ?_; dsimp only)); refine box_event ?hg (N := 3) ?hd (cs := #[.int .i64 0, .int .i64 0, .int .i64 0, .int .i64 0, .bool false]) (t := 39) ?hr ?_; (case hd => rfl); (case hg => rfl); (case hr => first | (go_simp; done) | (go_simp; rfl)); intro gb420 hg w10 hbox hb; have n0_ := aM (bT (by repeat (first | (with_reducible first | exact HB.out | apply bA | apply bN | apply bE) | exact HB.out)) hb); have n1_ := aM (hbox); have n2_ := aM ((by rw [hg]; exact (bZ (by repeat (first | (with_reducible first | exact HB.out | apply bA | apply bN | apply bE) | exact HB.out))) : w.heap.size ≤ gb420)); have n3_ := aM ((by rw [hg]; exact (bZ (by repeat (first | (with_reducible first | exact HB.out | apply bA | apply bN | apply bE) | exact HB.out))) : w.heap.size ≤ gb420)); clear HB; have HB := n0_; have BK420 := n1_; have GW420 := n2_; have GE420 := n3_; clear n0_ n1_ n2_ n3_; clear hb hbox hg; obtain ⟨hcz11_0, hcz11_1, hcz11_2, hcz11_3, hcz11_4⟩ := blk_c5 BK420.out; obtain ⟨hfz11_0, hfz11_1, hfz11_2, hfz11_3, hfz11_4⟩ := blk_f5 BK420.out) | (go_at_call 23; (with_reducible refine (impl_HeadText.calls k t415 t416 t417 t418 t419 t421 t422 _ A5.out).mono ?_); rintro e w12 ⟨rfl, hb⟩; have n0_ := aM (kB (g := gb420) (o := .cells #[.int .i64 t415, .int .i64 t416, .int .i64 t417, .int .i64 t418, .bool t419] 39 (0, 0)) (by (with_reducible repeat (first | refine kN ?_ _ | refine kD ?_ | refine kA ?_ _)); refine blk_put (cs := #[.int .i64 t415, .int .i64 t416, .int .i64 t417, .int .i64 t418, .bool false]) ?_ 4 _ rfl; (with_reducible repeat (first | refine kN ?_ _ | refine kD ?_ | refine kA ?_ _)); refine blk_put (cs := #[.int .i64 t415, .int .i64 t416, .int .i64 t417, .int .i64 0, .bool false]) ?_ 3 _ rfl; (with_reducible repeat (first | refine kN ?_ _ | refine kD ?_ | refine kA ?_ _)); refine blk_put (cs := #[.int .i64 t415, .int .i64 t416, .int .i64 0, .int .i64 0, .bool false]) ?_ 2 _ rfl; (with_reducible repeat (first | refine kN ?_ _ | refine kD ?_ | refine kA ?_ _)); refine blk_put (cs := #[.int .i64 t415, .int .i64 0, .int .i64 0, .int .i64 0, .bool false]) ?_ 1 _ rfl; (with_reducible repeat (first | refine kN ?_ _ | refine kD ?_ | refine kA ?_ _)); refine blk_put (cs := #[.int .i64 0, .int .i64 0, .int .i64 0, .int .i64 0, .bool false]) ?_ 0 _ rfl; (with_reducible repeat (first | refine kN ?_ _ | refine kD ?_ | refine kA ?_ _)); exact BK420.out) hb); have n1_ := aM (bT (by repeat (first | (with_reducible first | exact HB.out | apply bA | apply bN | apply bE | refine bS ?_ GE420.out) | exact HB.out)) hb); clear BK420; clear HB; have BK420 := n0_; have HB := n1_; clear n0_ n1_; (try clear hb); (try clear hb2); (try clear hk); (try clear hi); obtain ⟨hcz13_0, hcz13_1, hcz13_2, hcz13_3, hcz13_4⟩ := blk_c5 BK420.out; obtain ⟨hfz13_0, hfz13_1, hfz13_2, hfz13_3, hfz13_4⟩ := blk_f5 BK420.out) | (go_at_call 24; (with_reducible refine (spec_HeadOk.calls k t415 t416 t417 t418 t419 t423 _ A6.out).mono ?_); rintro e w14 ⟨rfl, hb⟩; have n0_ := aM (kB (g := gb420) (o := .cells #[.int .i64 t415, .int .i64 t416, .int .i64 t417, .int .i64 t418, .bool t419] 39 (0, 0)) (by (with_reducible repeat (first | refine kN ?_ _ | refine kD ?_ | refine kA ?_ _)); exact BK420.out) hb); have n1_ := aM (bT (by repeat (first | (with_reducible first | exact HB.out | apply bA | apply bN | apply bE | refine bS ?_ GE420.out) | exact HB.out)) hb); clear BK420; clear HB; have BK420 := n0_; have HB := n1_; clear n0_ n1_; (try clear hb); (try clear hb2); (try clear hk); (try clear hi)))
   repeat (go_quiet (first | (go_at_call 21; (with_reducible refine (laws_big.calls _ _ l0 false _ ?side1 ?side2 A2.out).mono ?_); (case side1 => repeat (first | exact HR0.out | (with_reducible refine cA ?_ _) | (with_reducible refine cN ?_ _) | (with_reducible refine cD ?_))); (case side2 => exact HC0.out); rintro e w' ⟨rfl, ⟨nd, rfl⟩⟩; (try first | exact ⟨rfl, _, World.drewN_drewN _ _ _⟩ | exact ⟨rfl, _, Eq.trans (World.drewN_drewN _ _ _) (congrArg (World.drewN _) (Nat.add_assoc _ _ _))⟩)) | (go_at_call 22; (with_reducible refine (spec_DrawHeadText.calls k _ _ l0 t415 t416 t417 t418 t419 _ ?side1 ?side2 A4.out).mono ?_); (case side1 => repeat (first | exact HR0.out | (with_reducible refine cA ?_ _) | (with_reducible refine cN ?_ _) | (with_reducible refine cD ?_))); (case side2 => exact HC0.out); rintro e w9 ⟨rfl, hb⟩; have n0_ := aM (bT (by repeat (first | (with_reducible first | exact HB.out | apply bA | apply bN | apply bE) | exact HB.out)) hb); clear HB; have HB := n0_; clear n0_; (try clear hb); (try clear hb2); (try clear hk); (try clear hi)) | ((with_reducible refine gate_dst (N := 3) rfl ?_); (try (refine gate_guard (by rfl) ?_; dsimp only)); refine box_event ?hg (N := 3) ?hd (cs := #[.int .i64 0, .int .i64 0, .int .i64 0, .int .i64 0, .bool false]) (t := 39) ?hr ?_; (case hd => rfl); (case hg => rfl); (case hr => first | (go_simp; done) | (go_simp; rfl)); intro gb420 hg w10 hbox hb; have n0_ := aM (bT (by repeat (first | (with_reducible first | exact HB.out | apply bA | apply bN | apply bE) | exact HB.out)) hb); have n1_ := aM (hbox); have n2_ := aM ((by rw [hg]; exact (bZ (by repeat (first | (with_reducible first | exact HB.out | apply bA | apply bN | apply bE) | exact HB.out))) : w.heap.size ≤ gb420)); have n3_ := aM ((by rw [hg]; exact (bZ (by repeat (first | (with_reducible first | exact HB.out | apply bA | apply bN | apply bE) | exact HB.out))) : w.heap.size ≤ gb420)); clear HB; have HB := n0_; have BK420 := n1_; have GW420 := n2_; have GE420 := n3_; clear n0_ n1_ n2_ n3_; clear hb hbox hg; obtain ⟨hcz11_0, hcz11_1, hcz11_2, hcz11_3, hcz11_4⟩ := blk_c5 BK420.out; obtain ⟨hfz11_0, hfz11_1, hfz11_2, hfz11_3, hfz11_4⟩ := blk_f5 BK420.out) | (go_at_call 23; (with_reducible refine (impl_HeadText.calls k t415 t416 t417 t418 t419 t421 t422 _ A5.out).mono ?_); rintro e w12 ⟨rfl, hb⟩; have n0_ := aM (kB (g := gb420) (o := .cells #[.int .i64 t415, .int .i64 t416, .int .i64 t417, .int .i64 t418, .bool t419] 39 (0, 0)) (by (with_reducible repeat (first | refine kN ?_ _ | refine kD ?_ | refine kA ?_ _)); refine blk_put (cs := #[.int .i64 t415, .int .i64 t416, .int .i64 t417, .int .i64 t418, .bool false]) ?_ 4 _ rfl; (with_reducible repeat (first | refine kN ?_ _ | refine kD ?_ | refine kA ?_ _)); refine blk_put (cs := #[.int .i64 t415, .int .i64 t416, .int .i64 t417, .int .i64 0, .bool false]) ?_ 3 _ rfl; (with_reducible repeat (first | refine kN ?_ _ | refine kD ?_ | refine kA ?_ _)); refine blk_put (cs := #[.int .i64 t415, .int .i64 t416, .int .i64 0, .int .i64 0, .bool false]) ?_ 2 _ rfl; (with_reducible repeat (first | refine kN ?_ _ | refine kD ?_ | refine kA ?_ _)); refine blk_put (cs := #[.int .i64 t415, .int .i64 0, .int .i64 0, .int .i64 0, .bool false]) ?_ 1 _ rfl; (with_reducible repeat (first | refine kN ?_ _ | refine kD ?_ | refine kA ?_ _)); refine blk_put (cs := #[.int .i64 0, .int .i64 0, .int .i64 0, .int .i64 0, .bool false]) ?_ 0 _ rfl; (with_reducible repeat (first | refine kN ?_ _ | refine kD ?_ | refine kA ?_ _)); exact BK420.out) hb); have n1_ := aM (bT (by repeat (first | (with_reducible first | exact HB.out | apply bA | apply bN | apply bE | refine bS ?_ GE420.out) | exact HB.out)) hb); clear BK420; clear HB; have BK420 := n0_; have HB := n1_; clear n0_ n1_; (try clear hb); (try clear hb2); (try clear hk); (try clear hi); obtain ⟨hcz13_0, hcz13_1, hcz13_2, hcz13_3, hcz13_4⟩ := blk_c5 BK420.out; obtain ⟨hfz13_0, hfz13_1, hfz13_2, hfz13_3, hfz13_4⟩ := blk_f5 BK420.out) | (go_at_call 24; (with_reducible refine (spec_HeadOk.calls k t415 t416 t417 t418 t419 t423 _ A6.out).mono ?_); rintro e w14 ⟨rfl, hb⟩; have n0_ := aM (kB (g := gb420) (o := .cells #[.int .i64 t415, .int .i64 t416, .int .i64 t417, .int .i64 t418, .bool t419] 39 (0, 0)) (by (with_reducible repeat (first | refine kN ?_ _ | refine kD ?_ | refine kA ?_ _)); exact BK420.out) hb); have n1_ := aM (bT (by repeat (first | (with_reducible first | exact HB.out | apply bA | apply bN | apply bE | refine bS ?_ GE420.out) | exact HB.out)) hb); clear BK420; clear HB; have BK420 := n0_; have HB := n1_; clear n0_ n1_; (try clear hb); (try clear hb2); (try clear hk); (try clear hi))); go_upto_if 36 with (first | (go_at_call 21; (with_reducible refine (laws_big.calls _ _ l0 false _ ?side1 ?side2 A2.out).mono ?_); (case side1 => repeat (first | exact HR0.out | (with_reducible refine cA ?_ _) | (with_reducible refine cN ?_ _) | (with_reducible refine cD ?_))); (case side2 => exact HC0.out); rintro e w' ⟨rfl, ⟨nd, rfl⟩⟩; (try first | exact ⟨rfl, _, World.drewN_drewN _ _ _⟩ | exact ⟨rfl, _, Eq.trans (World.drewN_drewN _ _ _) (congrArg (World.drewN _) (Nat.add_assoc _ _ _))⟩)) | (go_at_call 22; (with_reducible refine (spec_DrawHeadText.calls k _ _ l0 t415 t416 t417 t418 t419 _ ?side1 ?side2 A4.out).mono ?_); (case side1 => repeat (first | exact HR0.out | (with_reducible refine cA ?_ _) | (with_reducible refine cN ?_ _) | (with_reducible refine cD ?_))); (case side2 => exact HC0.out); rintro e w9 ⟨rfl, hb⟩; have n0_ := aM (bT (by repeat (first | (with_reducible first | exact HB.out | apply bA | apply bN | apply bE) | exact HB.out)) hb); clear HB; have HB := n0_; clear n0_; (try clear hb); (try clear hb2); (try clear hk); (try clear hi)) | ((with_reducible refine gate_dst (N := 3) rfl ?_); (try (refine gate_guard (by rfl) ?_; dsimp only)); refine box_event ?hg (N := 3) ?hd (cs := #[.int .i64 0, .int .i64 0, .int .i64 0, .int .i64 0, .bool false]) (t := 39) ?hr ?_; (case hd => rfl); (case hg => rfl); (case hr => first | (go_simp; done) | (go_simp; rfl)); intro gb420 hg w10 hbox hb; have n0_ := aM (bT (by repeat (first | (with_reducible first | exact HB.out | apply bA | apply bN | apply bE) | exact HB.out)) hb); have n1_ := aM (hbox); have n2_ := aM ((by rw [hg]; exact (bZ (by repeat (first | (with_reducible first | exact HB.out | apply bA | apply bN | apply bE) | exact HB.out))) : w.heap.size ≤ gb420)); have n3_ := aM ((by rw [hg]; exact (bZ (by repeat (first | (with_reducible first | exact HB.out | apply bA | apply bN | apply bE) | exact HB.out))) : w.heap.size ≤ gb420)); clear HB; have HB := n0_; have BK420 := n1_; have GW420 := n2_; have GE420 := n3_; clear n0_ n1_ n2_ n3_; clear hb hbox hg; obtain ⟨hcz11_0, hcz11_1, hcz11_2, hcz11_3, hcz11_4⟩ := blk_c5 BK420.out; obtain ⟨hfz11_0, hfz11_1, hfz11_2, hfz11_3, hfz11_4⟩ := blk_f5 BK420.out) | (go_at_call 23; (with_reducible refine (impl_HeadText.calls k t415 t416 t417 t418 t419 t421 t422 _ A5.out).mono ?_); rintro e w12 ⟨rfl, hb⟩; have n0_ := aM (kB (g := gb420) (o := .cells #[.int .i64 t415, .int .i64 t416, .int .i64 t417, .int .i64 t418, .bool t419] 39 (0, 0)) (by (with_reducible repeat (first | refine kN ?_ _ | refine kD ?_ | refine kA ?_ _)); refine blk_put (cs := #[.int .i64 t415, .int .i64 t416, .int .i64 t417, .int .i64 t418, .bool false]) ?_ 4 _ rfl; (with_reducible repeat (first | refine kN ?_ _ | refine kD ?_ | refine kA ?_ _)); refine blk_put (cs := #[.int .i64 t415, .int .i64 t416, .int .i64 t417, .int .i64 0, .bool false]) ?_ 3 _ rfl; (with_reducible repeat (first | refine kN ?_ _ | refine kD ?_ | refine kA ?_ _)); refine blk_put (cs := #[.int .i64 t415, .int .i64 t416, .int .i64 0, .int .i64 0, .bool false]) ?_ 2 _ rfl; (with_reducible repeat (first | refine kN ?_ _ | refine kD ?_ | refine kA ?_ _)); refine blk_put (cs := #[.int .i64 t415, .int .i64 0, .int .i64 0, .int .i64 0, .bool false]) ?_ 1 _ rfl; (with_reducible repeat (first | refine kN ?_ _ | refine kD ?_ | refine kA ?_ _)); refine blk_put (cs := #[.int .i64 0, .int .i64 0, .int .i64 0, .int .i64 0, .bool false]) ?_ 0 _ rfl; (with_reducible repeat (first | refine kN ?_ _ | refine kD ?_ | refine kA ?_ _)); exact BK420.out) hb); have n1_ := aM (bT (by repeat (first | (with_reducible first | exact HB.out | apply bA | apply bN | apply bE | refine bS ?_ GE420.out) | exact HB.out)) hb); clear BK420; clear HB; have BK420 := n0_; have HB := n1_; clear n0_ n1_; (try clear hb); (try clear hb2); (try clear hk); (try clear hi); obtain ⟨hcz13_0, hcz13_1, hcz13_2, hcz13_3, hcz13_4⟩ := blk_c5 BK420.out; obtain ⟨hfz13_0, hfz13_1, hfz13_2, hfz13_3, hfz13_4⟩ := blk_f5 BK420.out) | (go_at_call 24; (with_reducible refine (spec_HeadOk.calls k t415 t416 t417 t418 t419 t423 _ A6.out).mono ?_); rintro e w14 ⟨rfl, hb⟩; have n0_ := aM (kB (g := gb420) (o := .cells #[.int .i64 t415, .int .i64 t416, .int .i64 t417, .int .i64 t418, .bool t419] 39 (0, 0)) (by (with_reducible repeat (first | refine kN ?_ _ | refine kD ?_ | refine kA ?_ _)); exact BK420.out) hb); have n1_ := aM (bT (by repeat (first | (with_reducible first | exact HB.out | apply bA | apply bN | apply bE | refine bS ?_ GE420.out) | exact HB.out)) hb); clear BK420; clear HB; have BK420 := n0_; have HB := n1_; clear n0_ n1_; (try clear hb); (try clear hb2); (try clear hk); (try clear hi))))
   (try simp only [Act.put, lI, lZ, lS])
   go_cut [] (fun wc => ∃ (kq : Nat), Aside0 (laws_FnHeads.j0 kq l0 = some r) ∧ Aside0 (kq ≤ k) ∧ Aside0 (wc.heap[gb420]? = some (.cells #[.int .i64 t415, .int .i64 t416, .int .i64 t417, .int .i64 t418, .bool t419] 39 (0, 0))) ∧ Aside0 (Below w.heap.size w wc))
   case first =>
    have H := HC8.out
    clear HC8
    by_cases c15 : t422 = true
    ·subst c15
     have H1 : ((impl_ReadHead.f k t421).bind fun bt424 => (if bt424.2.2.2.2.2 = true then (if (!(bt424.1 == t415) || (!(bt424.2.1 == t416) || (!(bt424.2.2.1 == t417) || (!(bt424.2.2.2.1 == t418) || (!(bt424.2.2.2.2.1 == t419)))))) = true then (some false) else (if (t421.size : Int) = 13 then (laws_FnHeads.j0 k l0) else (some false))) else (some false))) = some r := by rw [if_pos rfl] at H; first | done | exact H
     clear H
     have H := H1
     clear H1
     replace H := oB.mp H
     obtain ⟨⟨t424, t425, t426, t427, t428, t429⟩, A160, H⟩ := H
     try dsimp only at H
     have A16 := aM A160
     clear A160
     by_cases c17 : t429 = true
     ·subst c17
      have H1 : (if (!(t424 == t415) || (!(t425 == t416) || (!(t426 == t417) || (!(t427 == t418) || (!(t428 == t419)))))) = true then (some false) else (if (t421.size : Int) = 13 then (laws_FnHeads.j0 k l0) else (some false))) = some r := by rw [if_pos rfl] at H; first | done | exact H
      clear H
      have H := H1
      clear H1
      by_cases c18 : (!(t424 == t415) || (!(t425 == t416) || (!(t426 == t417) || (!(t427 == t418) || (!(t428 == t419)))))) = true
      ·rw [if_pos c18] at H
       have c18b0 : (!(t424 == t415) || (!(t425 == t416) || (!(t426 == t417) || (!(t427 == t418) || (!(t428 == t419)))))) = true := c18
       clear c18
       (first | rw [c18b0] | (simp only [i64_w, i32_w]; rw [c18b0]) | skip)
       exact absurd ((Option.some.inj H).trans hrt) (by decide)
      ·rw [if_neg c18] at H
       have c18b0 : (!(t424 == t415) || (!(t425 == t416) || (!(t426 == t417) || (!(t427 == t418) || (!(t428 == t419)))))) = false := by simpa using c18
       clear c18
       (first | rw [c18b0] | (simp only [i64_w, i32_w]; rw [c18b0]) | skip)
       by_cases c19 : (t421.size : Int) = 13
       ·rw [if_pos c19] at H
        have c19b0 : ((t421.size : Int) == 13) = true := beq_iff_eq.mpr c19
        have c19b1 : ((t421.size : Int) != 13) = false := bne_eq_false_iff_eq.mpr c19
        clear c19
        have H' := aM H
        clear H
        go_wp2_with (first | (go_at_call 25; (with_reducible refine (impl_ReadHead.calls k t421 t424 t425 t426 t427 t428 true _ A16.out).mono ?_); rintro e w20 ⟨rfl, hb⟩; have n0_ := aM (kB (g := gb420) (o := .cells #[.int .i64 t415, .int .i64 t416, .int .i64 t417, .int .i64 t418, .bool t419] 39 (0, 0)) (by (with_reducible repeat (first | refine kN ?_ _ | refine kD ?_ | refine kA ?_ _)); exact BK420.out) hb); have n1_ := aM (bT (by repeat (first | (with_reducible first | exact HB.out | apply bA | apply bN | apply bE | refine bS ?_ GE420.out) | exact HB.out)) hb); clear BK420; clear HB; have BK420 := n0_; have HB := n1_; clear n0_ n1_; (try clear hb); (try clear hb2); (try clear hk); (try clear hi)) | ((with_reducible refine gate_dst (N := 6) rfl ?_); (try (refine gate_guard (by rfl) ?_; dsimp only)); refine box_event ?hg (N := 6) ?hd (cs := #[.int .i64 0, .int .i64 0, .int .i64 0, .int .i64 0, .bool false]) (t := 39) ?hr ?_; (case hd => rfl); (case hg => rfl); (case hr => first | (go_simp; done) | (go_simp; rfl)); intro gb430 hg w21 hbox hb; have n0_ := aM (kB (g := gb420) (o := .cells #[.int .i64 t415, .int .i64 t416, .int .i64 t417, .int .i64 t418, .bool t419] 39 (0, 0)) (by (with_reducible repeat (first | refine kN ?_ _ | refine kD ?_ | refine kA ?_ _)); exact BK420.out) hb); have n1_ := aM (bT (by repeat (first | (with_reducible first | exact HB.out | apply bA | apply bN | apply bE | refine bS ?_ GE420.out) | exact HB.out)) hb); have n2_ := aM (hbox); have n3_ := aM ((by rw [hg]; exact (bZ (by repeat (first | (with_reducible first | exact HB.out | apply bA | apply bN | apply bE | refine bS ?_ GE420.out) | exact HB.out))) : w.heap.size ≤ gb430)); have n4_ := aM ((by rw [hg]; exact (bZ (by repeat (first | (with_reducible first | exact HB.out | apply bA | apply bN | apply bE | refine bS ?_ GE420.out) | exact HB.out))) : w.heap.size ≤ gb430)); have n5_ := aM ((by rw [hg]; exact Nat.ne_of_lt (blk_lt (g := gb420) (o := .cells #[.int .i64 t415, .int .i64 t416, .int .i64 t417, .int .i64 t418, .bool t419] 39 (0, 0)) (by (with_reducible repeat (first | refine kN ?_ _ | refine kD ?_ | refine kA ?_ _)); exact BK420.out)) : gb420 ≠ gb430)); have n6_ := aM ((by rw [hg]; exact Nat.ne_of_gt (blk_lt (g := gb420) (o := .cells #[.int .i64 t415, .int .i64 t416, .int .i64 t417, .int .i64 t418, .bool t419] 39 (0, 0)) (by (with_reducible repeat (first | refine kN ?_ _ | refine kD ?_ | refine kA ?_ _)); exact BK420.out)) : gb430 ≠ gb420)); clear BK420; clear HB; have BK420 := n0_; have HB := n1_; have BK430 := n2_; have GW430 := n3_; have GE430 := n4_; have NB420_430 := n5_; have NB430_420 := n6_; clear n0_ n1_ n2_ n3_ n4_ n5_ n6_; clear hb hbox hg; have hnb22 := NB430_420.out; have hnc22 := NB420_430.out; obtain ⟨hcz23_0, hcz23_1, hcz23_2, hcz23_3, hcz23_4⟩ := blk_c5 BK430.out; obtain ⟨hfz23_0, hfz23_1, hfz23_2, hfz23_3, hfz23_4⟩ := blk_f5 BK430.out; obtain ⟨hcz24_0, hcz24_1, hcz24_2, hcz24_3, hcz24_4⟩ := blk_c5 BK420.out; obtain ⟨hfz24_0, hfz24_1, hfz24_2, hfz24_3, hfz24_4⟩ := blk_f5 BK420.out))
        repeat (go_quiet (first | (go_at_call 25; (with_reducible refine (impl_ReadHead.calls k t421 t424 t425 t426 t427 t428 true _ A16.out).mono ?_); rintro e w20 ⟨rfl, hb⟩; have n0_ := aM (kB (g := gb420) (o := .cells #[.int .i64 t415, .int .i64 t416, .int .i64 t417, .int .i64 t418, .bool t419] 39 (0, 0)) (by (with_reducible repeat (first | refine kN ?_ _ | refine kD ?_ | refine kA ?_ _)); exact BK420.out) hb); have n1_ := aM (bT (by repeat (first | (with_reducible first | exact HB.out | apply bA | apply bN | apply bE | refine bS ?_ GE420.out) | exact HB.out)) hb); clear BK420; clear HB; have BK420 := n0_; have HB := n1_; clear n0_ n1_; (try clear hb); (try clear hb2); (try clear hk); (try clear hi)) | ((with_reducible refine gate_dst (N := 6) rfl ?_); (try (refine gate_guard (by rfl) ?_; dsimp only)); refine box_event ?hg (N := 6) ?hd (cs := #[.int .i64 0, .int .i64 0, .int .i64 0, .int .i64 0, .bool false]) (t := 39) ?hr ?_; (case hd => rfl); (case hg => rfl); (case hr => first | (go_simp; done) | (go_simp; rfl)); intro gb430 hg w21 hbox hb; have n0_ := aM (kB (g := gb420) (o := .cells #[.int .i64 t415, .int .i64 t416, .int .i64 t417, .int .i64 t418, .bool t419] 39 (0, 0)) (by (with_reducible repeat (first | refine kN ?_ _ | refine kD ?_ | refine kA ?_ _)); exact BK420.out) hb); have n1_ := aM (bT (by repeat (first | (with_reducible first | exact HB.out | apply bA | apply bN | apply bE | refine bS ?_ GE420.out) | exact HB.out)) hb); have n2_ := aM (hbox); have n3_ := aM ((by rw [hg]; exact (bZ (by repeat (first | (with_reducible first | exact HB.out | apply bA | apply bN | apply bE | refine bS ?_ GE420.out) | exact HB.out))) : w.heap.size ≤ gb430)); have n4_ := aM ((by rw [hg]; exact (bZ (by repeat (first | (with_reducible first | exact HB.out | apply bA | apply bN | apply bE | refine bS ?_ GE420.out) | exact HB.out))) : w.heap.size ≤ gb430)); have n5_ := aM ((by rw [hg]; exact Nat.ne_of_lt (blk_lt (g := gb420) (o := .cells #[.int .i64 t415, .int .i64 t416, .int .i64 t417, .int .i64 t418, .bool t419] 39 (0, 0)) (by (with_reducible repeat (first | refine kN ?_ _ | refine kD ?_ | refine kA ?_ _)); exact BK420.out)) : gb420 ≠ gb430)); have n6_ := aM ((by rw [hg]; exact Nat.ne_of_gt (blk_lt (g := gb420) (o := .cells #[.int .i64 t415, .int .i64 t416, .int .i64 t417, .int .i64 t418, .bool t419] 39 (0, 0)) (by (with_reducible repeat (first | refine kN ?_ _ | refine kD ?_ | refine kA ?_ _)); exact BK420.out)) : gb430 ≠ gb420)); clear BK420; clear HB; have BK420 := n0_; have HB := n1_; have BK430 := n2_; have GW430 := n3_; have GE430 := n4_; have NB420_430 := n5_; have NB430_420 := n6_; clear n0_ n1_ n2_ n3_ n4_ n5_ n6_; clear hb hbox hg; have hnb22 := NB430_420.out; have hnc22 := NB420_430.out; obtain ⟨hcz23_0, hcz23_1, hcz23_2, hcz23_3, hcz23_4⟩ := blk_c5 BK430.out; obtain ⟨hfz23_0, hfz23_1, hfz23_2, hfz23_3, hfz23_4⟩ := blk_f5 BK430.out; obtain ⟨hcz24_0, hcz24_1, hcz24_2, hcz24_3, hcz24_4⟩ := blk_c5 BK420.out; obtain ⟨hfz24_0, hfz24_1, hfz24_2, hfz24_3, hfz24_4⟩ := blk_f5 BK420.out)); try go_wp2_with (first | (go_at_call 25; (with_reducible refine (impl_ReadHead.calls k t421 t424 t425 t426 t427 t428 true _ A16.out).mono ?_); rintro e w20 ⟨rfl, hb⟩; have n0_ := aM (kB (g := gb420) (o := .cells #[.int .i64 t415, .int .i64 t416, .int .i64 t417, .int .i64 t418, .bool t419] 39 (0, 0)) (by (with_reducible repeat (first | refine kN ?_ _ | refine kD ?_ | refine kA ?_ _)); exact BK420.out) hb); have n1_ := aM (bT (by repeat (first | (with_reducible first | exact HB.out | apply bA | apply bN | apply bE | refine bS ?_ GE420.out) | exact HB.out)) hb); clear BK420; clear HB; have BK420 := n0_; have HB := n1_; clear n0_ n1_; (try clear hb); (try clear hb2); (try clear hk); (try clear hi)) | ((with_reducible refine gate_dst (N := 6) rfl ?_); (try (refine gate_guard (by rfl) ?_; dsimp only)); refine box_event ?hg (N := 6) ?hd (cs := #[.int .i64 0, .int .i64 0, .int .i64 0, .int .i64 0, .bool false]) (t := 39) ?hr ?_; (case hd => rfl); (case hg => rfl); (case hr => first | (go_simp; done) | (go_simp; rfl)); intro gb430 hg w21 hbox hb; have n0_ := aM (kB (g := gb420) (o := .cells #[.int .i64 t415, .int .i64 t416, .int .i64 t417, .int .i64 t418, .bool t419] 39 (0, 0)) (by (with_reducible repeat (first | refine kN ?_ _ | refine kD ?_ | refine kA ?_ _)); exact BK420.out) hb); have n1_ := aM (bT (by repeat (first | (with_reducible first | exact HB.out | apply bA | apply bN | apply bE | refine bS ?_ GE420.out) | exact HB.out)) hb); have n2_ := aM (hbox); have n3_ := aM ((by rw [hg]; exact (bZ (by repeat (first | (with_reducible first | exact HB.out | apply bA | apply bN | apply bE | refine bS ?_ GE420.out) | exact HB.out))) : w.heap.size ≤ gb430)); have n4_ := aM ((by rw [hg]; exact (bZ (by repeat (first | (with_reducible first | exact HB.out | apply bA | apply bN | apply bE | refine bS ?_ GE420.out) | exact HB.out))) : w.heap.size ≤ gb430)); have n5_ := aM ((by rw [hg]; exact Nat.ne_of_lt (blk_lt (g := gb420) (o := .cells #[.int .i64 t415, .int .i64 t416, .int .i64 t417, .int .i64 t418, .bool t419] 39 (0, 0)) (by (with_reducible repeat (first | refine kN ?_ _ | refine kD ?_ | refine kA ?_ _)); exact BK420.out)) : gb420 ≠ gb430)); have n6_ := aM ((by rw [hg]; exact Nat.ne_of_gt (blk_lt (g := gb420) (o := .cells #[.int .i64 t415, .int .i64 t416, .int .i64 t417, .int .i64 t418, .bool t419] 39 (0, 0)) (by (with_reducible repeat (first | refine kN ?_ _ | refine kD ?_ | refine kA ?_ _)); exact BK420.out)) : gb430 ≠ gb420)); clear BK420; clear HB; have BK420 := n0_; have HB := n1_; have BK430 := n2_; have GW430 := n3_; have GE430 := n4_; have NB420_430 := n5_; have NB430_420 := n6_; clear n0_ n1_ n2_ n3_ n4_ n5_ n6_; clear hb hbox hg; have hnb22 := NB430_420.out; have hnc22 := NB420_430.out; obtain ⟨hcz23_0, hcz23_1, hcz23_2, hcz23_3, hcz23_4⟩ := blk_c5 BK430.out; obtain ⟨hfz23_0, hfz23_1, hfz23_2, hfz23_3, hfz23_4⟩ := blk_f5 BK430.out; obtain ⟨hcz24_0, hcz24_1, hcz24_2, hcz24_3, hcz24_4⟩ := blk_c5 BK420.out; obtain ⟨hfz24_0, hfz24_1, hfz24_2, hfz24_3, hfz24_4⟩ := blk_f5 BK420.out)))
        go_meet
        case rel => exact ⟨_, H', ⟨by first | omega | exact Nat.le_refl _⟩, ⟨by (with_reducible repeat (first | refine kN ?_ _ | refine kD ?_ | refine kA ?_ _)); refine kF ?_ NB420_430.out _; (with_reducible repeat (first | refine kN ?_ _ | refine kD ?_ | refine kA ?_ _)); refine kF ?_ NB420_430.out _; (with_reducible repeat (first | refine kN ?_ _ | refine kD ?_ | refine kA ?_ _)); refine kF ?_ NB420_430.out _; (with_reducible repeat (first | refine kN ?_ _ | refine kD ?_ | refine kA ?_ _)); refine kF ?_ NB420_430.out _; (with_reducible repeat (first | refine kN ?_ _ | refine kD ?_ | refine kA ?_ _)); refine kF ?_ NB420_430.out _; (with_reducible repeat (first | refine kN ?_ _ | refine kD ?_ | refine kA ?_ _)); exact BK420.out⟩, ⟨by repeat (first | (with_reducible first | exact HB.out | apply bA | apply bN | apply bE | refine bS ?_ GE420.out | refine bS ?_ GE430.out) | exact HB.out)⟩⟩
       ·rw [if_neg c19] at H
        have c19b0 : ((t421.size : Int) == 13) = false := beq_eq_false_iff_ne.mpr c19
        have c19b1 : ((t421.size : Int) != 13) = true := bne_iff_ne.mpr c19
        exact absurd ((Option.some.inj H).trans hrt) (by decide)
     ·replace c17 := Bool.eq_false_iff.mpr c17
      subst c17
      have H1 : (some false) = some r := by rw [if_neg (show ¬ (false = true) by decide)] at H; first | done | exact H
      clear H
      have H := H1
      clear H1
      exact absurd ((Option.some.inj H).trans hrt) (by decide)
    ·replace c15 := Bool.eq_false_iff.mpr c15
     subst c15
     have H1 : (laws_FnHeads.j0 k l0) = some r := by rw [if_neg (show ¬ (false = true) by decide)] at H; first | done | exact H
     clear H
     have H := H1
     clear H1
     have H' := aM H
     clear H
     go_wp2
     repeat (go_quiet (fail); try go_wp2)
     go_meet
     case rel => exact ⟨_, H', ⟨by first | omega | exact Nat.le_refl _⟩, ⟨by (with_reducible repeat (first | refine kN ?_ _ | refine kD ?_ | refine kA ?_ _)); exact BK420.out⟩, ⟨by repeat (first | (with_reducible first | exact HB.out | apply bA | apply bN | apply bE | refine bS ?_ GE420.out) | exact HB.out)⟩⟩
   case rest =>
    clear HC8
    try clear c1
    try clear c2
    try clear p2
    try clear c3
    try clear c4
    try clear c5
    try clear c7
    try clear c7b0
    try clear c7b1
    try clear c7b2
    try clear c15
    try clear c17
    try clear c18
    try clear c18b0
    try clear c19
    try clear c19b0
    try clear c19b1
    try clear c22
    try clear hcz11_0
    try clear hcz11_1
    try clear hcz11_2
    try clear hcz11_3
    try clear hcz11_4
    try clear hcz13_0
    try clear hcz13_1
    try clear hcz13_2
    try clear hcz13_3
    try clear hcz13_4
    try clear hcz23_0
    try clear hcz23_1
    try clear hcz23_2
    try clear hcz23_3
    try clear hcz23_4
    try clear hcz24_0
    try clear hcz24_1
    try clear hcz24_2
    try clear hcz24_3
    try clear hcz24_4
    try clear hfz11_0
    try clear hfz11_1
    try clear hfz11_2
    try clear hfz11_3
    try clear hfz11_4
    try clear hfz13_0
    try clear hfz13_1
    try clear hfz13_2
    try clear hfz13_3
    try clear hfz13_4
    try clear hfz23_0
    try clear hfz23_1
    try clear hfz23_2
    try clear hfz23_3
    try clear hfz23_4
    try clear hfz24_0
    try clear hfz24_1
    try clear hfz24_2
    try clear hfz24_3
    try clear hfz24_4
    obtain ⟨kq, HA, HJ7, BK420, HB⟩ := hcut
    cases kq with
    | zero => exact absurd HA.out (by simp [laws_FnHeads.j0])
    | succ kj7 =>
     have H := HA.out
     clear HA
     simp only [laws_FnHeads.j0] at H
     replace H := oB.mp H
     obtain ⟨t431, A250, H⟩ := H
     try dsimp only at H
     have A25 := aM A250
     clear A250
     replace H := oB.mp H
     obtain ⟨⟨t434, t435⟩, A260, H⟩ := H
     try dsimp only at H
     have A26 := aM A260
     clear A260
     replace H := oB.mp H
     obtain ⟨⟨t436, t437⟩, A270, H⟩ := H
     try dsimp only at H
     have A27 := aM A270
     clear A270
     have HC28 := aM H
     clear H
     go_upto_region 14 with (first | (go_at_call 26; (with_reducible refine (spec_DrawTableText.calls kj7 _ _ l0 t431 _ ?side1 ?side2 A25.out).mono ?_); (case side1 => repeat (first | exact (Kd.C_below HR0.out HB.out) | (with_reducible refine cA ?_ _) | (with_reducible refine cN ?_ _) | (with_reducible refine cD ?_))); (case side2 => exact HC0.out); rintro e w29 ⟨v432, rfl, ho0, hb⟩; have n0_ := aM (Kd.R_lower ho0 (bZ (by repeat (first | (with_reducible first | exact HB.out | apply bA | apply bN | apply bE | refine bS ?_ GE420.out) | exact HB.out)))); have n1_ := aM (kB (g := gb420) (o := .cells #[.int .i64 t415, .int .i64 t416, .int .i64 t417, .int .i64 t418, .bool t419] 39 (0, 0)) (by (with_reducible repeat (first | refine kN ?_ _ | refine kD ?_ | refine kA ?_ _)); exact BK420.out) hb); have n2_ := aM (bT (by repeat (first | (with_reducible first | exact HB.out | apply bA | apply bN | apply bE | refine bS ?_ GE420.out) | exact HB.out)) hb); clear BK420; clear HB; have HO433 := n0_; have BK420 := n1_; have HB := n2_; clear n0_ n1_ n2_; (try clear hb); (try clear hb2); (try clear hk); (try clear hi); (try clear ho0); obtain ⟨Ao30, co30, eo30⟩ := Kd.R_slice HO433.out; subst eo30) | (go_at_call 27; (with_reducible refine (impl_TableText.calls kj7 _ _ t431 t434 t435 _ ?side1 ?side2 A26.out).mono ?_); (case side1 => repeat (first | exact (Kd.R_reads' HO433.out).2.2 | (with_reducible refine cA ?_ _) | (with_reducible refine cN ?_ _) | (with_reducible refine cD ?_))); (case side2 => exact (Kd.R_reads' HO433.out).2.1); rintro e w31 ⟨rfl, hb⟩; have n0_ := aM (rB (by (with_reducible repeat (first | apply rA | apply rN | apply rD)); exact HO433.out) hb); have n1_ := aM (kB (g := gb420) (o := .cells #[.int .i64 t415, .int .i64 t416, .int .i64 t417, .int .i64 t418, .bool t419] 39 (0, 0)) (by (with_reducible repeat (first | refine kN ?_ _ | refine kD ?_ | refine kA ?_ _)); exact BK420.out) hb); have n2_ := aM (bT (by repeat (first | (with_reducible first | exact HB.out | apply bA | apply bN | apply bE | refine bS ?_ GE420.out) | exact HB.out)) hb); clear HO433; clear BK420; clear HB; have HO433 := n0_; have BK420 := n1_; have HB := n2_; clear n0_ n1_ n2_; (try clear hb); (try clear hb2); (try clear hk); (try clear hi)) | (go_at_call 28; (with_reducible refine (impl_ReadTable.calls kj7 t434 t436 t437 _ A27.out).mono ?_); rintro e w32 ⟨v438, rfl, ho0, hb⟩; have n0_ := aM (Kd.R_elder' (by (with_reducible repeat (first | apply rA | apply rN | apply rD)); exact HO433.out) (Kd.R_base ho0) hb); have n1_ := aM (Kd.R_lower (Kd.R_new' ho0 (Kd.R_lt (by (with_reducible repeat (first | apply rA | apply rN | apply rD)); exact HO433.out))) (bZ (by repeat (first | (with_reducible first | exact HB.out | apply bA | apply bN | apply bE | refine bS ?_ GE420.out) | exact HB.out)))); have n2_ := aM (kB (g := gb420) (o := .cells #[.int .i64 t415, .int .i64 t416, .int .i64 t417, .int .i64 t418, .bool t419] 39 (0, 0)) (by (with_reducible repeat (first | refine kN ?_ _ | refine kD ?_ | refine kA ?_ _)); exact BK420.out) hb); have n3_ := aM (bT (by repeat (first | (with_reducible first | exact HB.out | apply bA | apply bN | apply bE | refine bS ?_ GE420.out) | exact HB.out)) hb); clear HO433; clear BK420; clear HB; have HO433 := n0_; have HO439 := n1_; have BK420 := n2_; have HB := n3_; clear n0_ n1_ n2_ n3_; (try clear hb); (try clear hb2); (try clear hk); (try clear hi); (try clear ho0)))
     repeat (go_quiet (first | (go_at_call 26; (with_reducible refine (spec_DrawTableText.calls kj7 _ _ l0 t431 _ ?side1 ?side2 A25.out).mono ?_); (case side1 => repeat (first | exact (Kd.C_below HR0.out HB.out) | (with_reducible refine cA ?_ _) | (with_reducible refine cN ?_ _) | (with_reducible refine cD ?_))); (case side2 => exact HC0.out); rintro e w29 ⟨v432, rfl, ho0, hb⟩; have n0_ := aM (Kd.R_lower ho0 (bZ (by repeat (first | (with_reducible first | exact HB.out | apply bA | apply bN | apply bE | refine bS ?_ GE420.out) | exact HB.out)))); have n1_ := aM (kB (g := gb420) (o := .cells #[.int .i64 t415, .int .i64 t416, .int .i64 t417, .int .i64 t418, .bool t419] 39 (0, 0)) (by (with_reducible repeat (first | refine kN ?_ _ | refine kD ?_ | refine kA ?_ _)); exact BK420.out) hb); have n2_ := aM (bT (by repeat (first | (with_reducible first | exact HB.out | apply bA | apply bN | apply bE | refine bS ?_ GE420.out) | exact HB.out)) hb); clear BK420; clear HB; have HO433 := n0_; have BK420 := n1_; have HB := n2_; clear n0_ n1_ n2_; (try clear hb); (try clear hb2); (try clear hk); (try clear hi); (try clear ho0); obtain ⟨Ao30, co30, eo30⟩ := Kd.R_slice HO433.out; subst eo30) | (go_at_call 27; (with_reducible refine (impl_TableText.calls kj7 _ _ t431 t434 t435 _ ?side1 ?side2 A26.out).mono ?_); (case side1 => repeat (first | exact (Kd.R_reads' HO433.out).2.2 | (with_reducible refine cA ?_ _) | (with_reducible refine cN ?_ _) | (with_reducible refine cD ?_))); (case side2 => exact (Kd.R_reads' HO433.out).2.1); rintro e w31 ⟨rfl, hb⟩; have n0_ := aM (rB (by (with_reducible repeat (first | apply rA | apply rN | apply rD)); exact HO433.out) hb); have n1_ := aM (kB (g := gb420) (o := .cells #[.int .i64 t415, .int .i64 t416, .int .i64 t417, .int .i64 t418, .bool t419] 39 (0, 0)) (by (with_reducible repeat (first | refine kN ?_ _ | refine kD ?_ | refine kA ?_ _)); exact BK420.out) hb); have n2_ := aM (bT (by repeat (first | (with_reducible first | exact HB.out | apply bA | apply bN | apply bE | refine bS ?_ GE420.out) | exact HB.out)) hb); clear HO433; clear BK420; clear HB; have HO433 := n0_; have BK420 := n1_; have HB := n2_; clear n0_ n1_ n2_; (try clear hb); (try clear hb2); (try clear hk); (try clear hi)) | (go_at_call 28; (with_reducible refine (impl_ReadTable.calls kj7 t434 t436 t437 _ A27.out).mono ?_); rintro e w32 ⟨v438, rfl, ho0, hb⟩; have n0_ := aM (Kd.R_elder' (by (with_reducible repeat (first | apply rA | apply rN | apply rD)); exact HO433.out) (Kd.R_base ho0) hb); have n1_ := aM (Kd.R_lower (Kd.R_new' ho0 (Kd.R_lt (by (with_reducible repeat (first | apply rA | apply rN | apply rD)); exact HO433.out))) (bZ (by repeat (first | (with_reducible first | exact HB.out | apply bA | apply bN | apply bE | refine bS ?_ GE420.out) | exact HB.out)))); have n2_ := aM (kB (g := gb420) (o := .cells #[.int .i64 t415, .int .i64 t416, .int .i64 t417, .int .i64 t418, .bool t419] 39 (0, 0)) (by (with_reducible repeat (first | refine kN ?_ _ | refine kD ?_ | refine kA ?_ _)); exact BK420.out) hb); have n3_ := aM (bT (by repeat (first | (with_reducible first | exact HB.out | apply bA | apply bN | apply bE | refine bS ?_ GE420.out) | exact HB.out)) hb); clear HO433; clear BK420; clear HB; have HO433 := n0_; have HO439 := n1_; have BK420 := n2_; have HB := n3_; clear n0_ n1_ n2_ n3_; (try clear hb); (try clear hb2); (try clear hk); (try clear hi); (try clear ho0))); go_upto_region 14 with (first | (go_at_call 26; (with_reducible refine (spec_DrawTableText.calls kj7 _ _ l0 t431 _ ?side1 ?side2 A25.out).mono ?_); (case side1 => repeat (first | exact (Kd.C_below HR0.out HB.out) | (with_reducible refine cA ?_ _) | (with_reducible refine cN ?_ _) | (with_reducible refine cD ?_))); (case side2 => exact HC0.out); rintro e w29 ⟨v432, rfl, ho0, hb⟩; have n0_ := aM (Kd.R_lower ho0 (bZ (by repeat (first | (with_reducible first | exact HB.out | apply bA | apply bN | apply bE | refine bS ?_ GE420.out) | exact HB.out)))); have n1_ := aM (kB (g := gb420) (o := .cells #[.int .i64 t415, .int .i64 t416, .int .i64 t417, .int .i64 t418, .bool t419] 39 (0, 0)) (by (with_reducible repeat (first | refine kN ?_ _ | refine kD ?_ | refine kA ?_ _)); exact BK420.out) hb); have n2_ := aM (bT (by repeat (first | (with_reducible first | exact HB.out | apply bA | apply bN | apply bE | refine bS ?_ GE420.out) | exact HB.out)) hb); clear BK420; clear HB; have HO433 := n0_; have BK420 := n1_; have HB := n2_; clear n0_ n1_ n2_; (try clear hb); (try clear hb2); (try clear hk); (try clear hi); (try clear ho0); obtain ⟨Ao30, co30, eo30⟩ := Kd.R_slice HO433.out; subst eo30) | (go_at_call 27; (with_reducible refine (impl_TableText.calls kj7 _ _ t431 t434 t435 _ ?side1 ?side2 A26.out).mono ?_); (case side1 => repeat (first | exact (Kd.R_reads' HO433.out).2.2 | (with_reducible refine cA ?_ _) | (with_reducible refine cN ?_ _) | (with_reducible refine cD ?_))); (case side2 => exact (Kd.R_reads' HO433.out).2.1); rintro e w31 ⟨rfl, hb⟩; have n0_ := aM (rB (by (with_reducible repeat (first | apply rA | apply rN | apply rD)); exact HO433.out) hb); have n1_ := aM (kB (g := gb420) (o := .cells #[.int .i64 t415, .int .i64 t416, .int .i64 t417, .int .i64 t418, .bool t419] 39 (0, 0)) (by (with_reducible repeat (first | refine kN ?_ _ | refine kD ?_ | refine kA ?_ _)); exact BK420.out) hb); have n2_ := aM (bT (by repeat (first | (with_reducible first | exact HB.out | apply bA | apply bN | apply bE | refine bS ?_ GE420.out) | exact HB.out)) hb); clear HO433; clear BK420; clear HB; have HO433 := n0_; have BK420 := n1_; have HB := n2_; clear n0_ n1_ n2_; (try clear hb); (try clear hb2); (try clear hk); (try clear hi)) | (go_at_call 28; (with_reducible refine (impl_ReadTable.calls kj7 t434 t436 t437 _ A27.out).mono ?_); rintro e w32 ⟨v438, rfl, ho0, hb⟩; have n0_ := aM (Kd.R_elder' (by (with_reducible repeat (first | apply rA | apply rN | apply rD)); exact HO433.out) (Kd.R_base ho0) hb); have n1_ := aM (Kd.R_lower (Kd.R_new' ho0 (Kd.R_lt (by (with_reducible repeat (first | apply rA | apply rN | apply rD)); exact HO433.out))) (bZ (by repeat (first | (with_reducible first | exact HB.out | apply bA | apply bN | apply bE | refine bS ?_ GE420.out) | exact HB.out)))); have n2_ := aM (kB (g := gb420) (o := .cells #[.int .i64 t415, .int .i64 t416, .int .i64 t417, .int .i64 t418, .bool t419] 39 (0, 0)) (by (with_reducible repeat (first | refine kN ?_ _ | refine kD ?_ | refine kA ?_ _)); exact BK420.out) hb); have n3_ := aM (bT (by repeat (first | (with_reducible first | exact HB.out | apply bA | apply bN | apply bE | refine bS ?_ GE420.out) | exact HB.out)) hb); clear HO433; clear BK420; clear HB; have HO433 := n0_; have HO439 := n1_; have BK420 := n2_; have HB := n3_; clear n0_ n1_ n2_ n3_; (try clear hb); (try clear hb2); (try clear hk); (try clear hi); (try clear ho0))))
     (try simp only [Act.put, lI, lZ, lS])
     go_cut [86] (fun v86 wc => ∃ (kq : Nat) (x86_27 : Bool), v86 = .bool x86_27 ∧ Aside0 (laws_FnHeads.j1 kq l0 t431 t436 x86_27 = some r) ∧ Aside0 (kq ≤ kj7) ∧ Aside0 (Kd.R k52 52 wc w.heap.size (fun k_ => some k_ ≠ (v438 : Value).ownBlock) (.slice Ao30 t431.length co30) t431) ∧ Aside0 (Kd.R k52 52 wc w.heap.size (fun k_ => some k_ ≠ ((.slice Ao30 t431.length co30) : Value).ownBlock) v438 t436) ∧ Aside0 (wc.heap[gb420]? = some (.cells #[.int .i64 t415, .int .i64 t416, .int .i64 t417, .int .i64 t418, .bool t419] 39 (0, 0))) ∧ Aside0 (Below w.heap.size w wc))
     case first =>
      have H := HC28.out
      clear HC28
      by_cases c33 : (t435 != t437) = true
      ·rw [if_pos c33] at H
       have c33b0 : (t435 != t437) = true := c33
       (try (have c33b1 : decide (t435 = t437) = false := by simpa using c33))
       (try (have c33b2 : (t435 == t437) = false := by simpa using c33))
       (try (have c33b3 : ¬ (t435 = t437) := by simpa using c33))
       clear c33
       (first | rw [c33b0] | (simp only [i64_w, i32_w]; rw [c33b0]) | skip)
       have H' := aM H
       clear H
       go_wp2
       repeat (go_quiet (fail); try go_wp2)
       go_meet
       case rel => exact ⟨_, (true), (by first | rfl | (simp; done) | (simp [*]; done)), H', ⟨by have := HJ7.out; first | omega | exact Nat.le_refl _⟩, ⟨by (with_reducible repeat (first | apply rA | apply rN | apply rD)); exact rM HO433.out (fun _ hk => hk.2)⟩, ⟨by (with_reducible repeat (first | apply rA | apply rN | apply rD)); exact rM HO439.out (fun _ hk => hk.2)⟩, ⟨by (with_reducible repeat (first | refine kN ?_ _ | refine kD ?_ | refine kA ?_ _)); exact BK420.out⟩, ⟨by repeat (first | (with_reducible first | exact HB.out | apply bA | apply bN | apply bE | refine bS ?_ GE420.out) | exact HB.out)⟩⟩
      ·rw [if_neg c33] at H
       have c33b0 : (t435 != t437) = false := by simpa using c33
       (try (have c33b1 : decide (t435 = t437) = true := by simpa using c33))
       (try (have c33b2 : (t435 == t437) = true := by simpa using c33))
       clear c33
       (first | rw [c33b0] | (simp only [i64_w, i32_w]; rw [c33b0]) | skip)
       by_cases c34 : t435 = true
       ·subst c34
        have H1 : (if (t436.length : Int) = (t431.length : Int) then (laws_FnHeads.j1 kj7 l0 t431 t436 ((t434.size : Int) != (wrap64 (3 * (t431.length : Int))))) else (laws_FnHeads.j1 kj7 l0 t431 t436 true)) = some r := by rw [if_pos rfl] at H; first | done | exact H
        clear H
        have H := H1
        clear H1
        by_cases c35 : (t436.length : Int) = (t431.length : Int)
        ·rw [if_pos c35] at H
         have c35b0 : ((t436.length : Int) == (t431.length : Int)) = true := beq_iff_eq.mpr c35
         have c35b1 : ((t436.length : Int) != (t431.length : Int)) = false := bne_eq_false_iff_eq.mpr c35
         have c35b2 : (t436.length == t431.length) = true := by first | simpa using c35 | (simp at c35 ⊢; omega)
         clear c35
         have H' := aM H
         clear H
         obtain ⟨Ao36, co36, eo36⟩ := Kd.R_slice HO439.out
         subst eo36
         go_wp2
         repeat (go_quiet (fail); try go_wp2)
         go_meet
         case rel => exact ⟨_, (((t434.size : Int) != (wrap64 (3 * (t431.length : Int))))), (by first | rfl | (simp; done) | (simp [*]; done)), H', ⟨by have := HJ7.out; first | omega | exact Nat.le_refl _⟩, ⟨by (with_reducible repeat (first | apply rA | apply rN | apply rD)); exact rM HO433.out (fun _ hk => hk.2)⟩, ⟨by (with_reducible repeat (first | apply rA | apply rN | apply rD)); exact rM HO439.out (fun _ hk => hk.2)⟩, ⟨by (with_reducible repeat (first | refine kN ?_ _ | refine kD ?_ | refine kA ?_ _)); exact BK420.out⟩, ⟨by repeat (first | (with_reducible first | exact HB.out | apply bA | apply bN | apply bE | refine bS ?_ GE420.out) | exact HB.out)⟩⟩
        ·rw [if_neg c35] at H
         have c35b0 : ((t436.length : Int) == (t431.length : Int)) = false := beq_eq_false_iff_ne.mpr c35
         have c35b1 : ((t436.length : Int) != (t431.length : Int)) = true := bne_iff_ne.mpr c35
         have c35b2 : (t436.length == t431.length) = false := by first | simpa using c35 | (simp at c35 ⊢; omega)
         have H' := aM H
         clear H
         obtain ⟨Ao37, co37, eo37⟩ := Kd.R_slice HO439.out
         subst eo37
         go_wp2
         repeat (go_quiet (fail); try go_wp2)
         go_meet
         case rel => exact ⟨_, (true), (by first | rfl | (simp; done) | (simp [*]; done)), H', ⟨by have := HJ7.out; first | omega | exact Nat.le_refl _⟩, ⟨by (with_reducible repeat (first | apply rA | apply rN | apply rD)); exact rM HO433.out (fun _ hk => hk.2)⟩, ⟨by (with_reducible repeat (first | apply rA | apply rN | apply rD)); exact rM HO439.out (fun _ hk => hk.2)⟩, ⟨by (with_reducible repeat (first | refine kN ?_ _ | refine kD ?_ | refine kA ?_ _)); exact BK420.out⟩, ⟨by repeat (first | (with_reducible first | exact HB.out | apply bA | apply bN | apply bE | refine bS ?_ GE420.out) | exact HB.out)⟩⟩
       ·replace c34 := Bool.eq_false_iff.mpr c34
        subst c34
        have H1 : (laws_FnHeads.j1 kj7 l0 t431 t436 false) = some r := by rw [if_neg (show ¬ (false = true) by decide)] at H; first | done | exact H
        clear H
        have H := H1
        clear H1
        have H' := aM H
        clear H
        go_wp2
        repeat (go_quiet (fail); try go_wp2)
        go_meet
        case rel => exact ⟨_, (false), (by first | rfl | (simp; done) | (simp [*]; done)), H', ⟨by have := HJ7.out; first | omega | exact Nat.le_refl _⟩, ⟨by (with_reducible repeat (first | apply rA | apply rN | apply rD)); exact rM HO433.out (fun _ hk => hk.2)⟩, ⟨by (with_reducible repeat (first | apply rA | apply rN | apply rD)); exact rM HO439.out (fun _ hk => hk.2)⟩, ⟨by (with_reducible repeat (first | refine kN ?_ _ | refine kD ?_ | refine kA ?_ _)); exact BK420.out⟩, ⟨by repeat (first | (with_reducible first | exact HB.out | apply bA | apply bN | apply bE | refine bS ?_ GE420.out) | exact HB.out)⟩⟩
     case rest =>
      clear HC28
      try clear c1
      try clear c2
      try clear p2
      try clear c3
      try clear c4
      try clear c5
      try clear p6
      try clear c7
      try clear c7b0
      try clear c7b1
      try clear c7b2
      try clear c15
      try clear c17
      try clear c18
      try clear c18b0
      try clear c19
      try clear c19b0
      try clear c19b1
      try clear c22
      try clear c33
      try clear c33b0
      try clear c33b1
      try clear c33b2
      try clear c34
      try clear c35
      try clear c35b0
      try clear c35b1
      try clear c35b2
      try clear hcz11_0
      try clear hcz11_1
      try clear hcz11_2
      try clear hcz11_3
      try clear hcz11_4
      try clear hcz13_0
      try clear hcz13_1
      try clear hcz13_2
      try clear hcz13_3
      try clear hcz13_4
      try clear hcz23_0
      try clear hcz23_1
      try clear hcz23_2
      try clear hcz23_3
      try clear hcz23_4
      try clear hcz24_0
      try clear hcz24_1
      try clear hcz24_2
      try clear hcz24_3
      try clear hcz24_4
      try clear hfz11_0
      try clear hfz11_1
      try clear hfz11_2
      try clear hfz11_3
      try clear hfz11_4
      try clear hfz13_0
      try clear hfz13_1
      try clear hfz13_2
      try clear hfz13_3
      try clear hfz13_4
      try clear hfz23_0
      try clear hfz23_1
      try clear hfz23_2
      try clear hfz23_3
      try clear hfz23_4
      try clear hfz24_0
      try clear hfz24_1
      try clear hfz24_2
      try clear hfz24_3
      try clear hfz24_4
      try clear p2
      obtain ⟨kq, x86_27, rfl, HA, HJ27, HO_8, HO_11, BK420, HB⟩ := hcut
      cases kq with
      | zero => exact absurd HA.out (by simp [laws_FnHeads.j1])
      | succ kj27 =>
       have H := HA.out
       clear HA
       simp only [laws_FnHeads.j1] at H
       by_cases c38 : x86_27 = true
       ·subst c38
        have H1 : (some false) = some r := by rw [if_pos rfl] at H; first | done | exact H
        clear H
        have H := H1
        clear H1
        exact absurd ((Option.some.inj H).trans hrt) (by decide)
       ·replace c38 := Bool.eq_false_iff.mpr c38
        subst c38
        have H1 : (laws_FnHeads.l0 kj27 l0 t431 t436 0) = some r := by rw [if_neg (show ¬ (false = true) by decide)] at H; first | done | exact H
        clear H
        have H := H1
        clear H1
        have H' := aM H
        clear H
        go_wp2
        repeat (go_quiet (fail); try go_wp2)
        go_loopg [13] kj27 (fun kq v13 w' => ∃ (x13_3 : Int), v13 = .int .i64 x13_3 ∧ Aside0 (laws_FnHeads.l0 kq l0 t431 t436 x13_3 = some r) ∧ Aside0 (kq ≤ kj27) ∧ Aside0 (Kd.R k52 52 w' w.heap.size (fun k_ => some k_ ≠ (v438 : Value).ownBlock) (.slice Ao30 t431.length co30) t431) ∧ Aside0 (Kd.R k52 52 w' w.heap.size (fun k_ => some k_ ≠ ((.slice Ao30 t431.length co30) : Value).ownBlock) v438 t436) ∧ Aside0 (w'.heap[gb420]? = some (.cells #[.int .i64 t415, .int .i64 t416, .int .i64 t417, .int .i64 t418, .bool t419] 39 (0, 0))) ∧ Aside0 (Below w.heap.size w w'))
        case atStart => exact ⟨(0), (by first | rfl | (simp; done) | (simp [*]; done)), H', ⟨Nat.le_refl _⟩, ⟨by (with_reducible repeat (first | apply rA | apply rN | apply rD)); exact HO_8.out⟩, ⟨by (with_reducible repeat (first | apply rA | apply rN | apply rD)); exact HO_11.out⟩, ⟨by (with_reducible repeat (first | refine kN ?_ _ | refine kD ?_ | refine kA ?_ _)); exact BK420.out⟩, ⟨by repeat (first | (with_reducible first | exact HB.out | apply bA | apply bN | apply bE | refine bS ?_ GE420.out) | exact HB.out)⟩⟩
        case round =>
         clear H'
         try clear c1
         try clear c2
         try clear p2
         try clear c3
         try clear c4
         try clear c5
         try clear p6
         try clear c7
         try clear c7b0
         try clear c7b1
         try clear c7b2
         try clear c15
         try clear c17
         try clear c18
         try clear c18b0
         try clear c19
         try clear c19b0
         try clear c19b1
         try clear c22
         try clear c33
         try clear c33b0
         try clear c33b1
         try clear c33b2
         try clear c34
         try clear c35
         try clear c35b0
         try clear c35b1
         try clear c35b2
         try clear c38
         try clear hcz11_0
         try clear hcz11_1
         try clear hcz11_2
         try clear hcz11_3
         try clear hcz11_4
         try clear hcz13_0
         try clear hcz13_1
         try clear hcz13_2
         try clear hcz13_3
         try clear hcz13_4
         try clear hcz23_0
         try clear hcz23_1
         try clear hcz23_2
         try clear hcz23_3
         try clear hcz23_4
         try clear hcz24_0
         try clear hcz24_1
         try clear hcz24_2
         try clear hcz24_3
         try clear hcz24_4
         try clear hfz11_0
         try clear hfz11_1
         try clear hfz11_2
         try clear hfz11_3
         try clear hfz11_4
         try clear hfz13_0
         try clear hfz13_1
         try clear hfz13_2
         try clear hfz13_3
         try clear hfz13_4
         try clear hfz23_0
         try clear hfz23_1
         try clear hfz23_2
         try clear hfz23_3
         try clear hfz23_4
         try clear hfz24_0
         try clear hfz24_1
         try clear hfz24_2
         try clear hfz24_3
         try clear hfz24_4
         try clear p2
         try clear p6
         obtain ⟨x13_3, rfl, HA, HK3, HO_8, HO_11, BK420, HB⟩ := hrel
         cases gk with
         | zero => exact absurd HA.out (by simp [laws_FnHeads.l0])
         | succ k3 =>
          have H := HA.out
          clear HA
          simp only [laws_FnHeads.l0] at H
          by_cases c39 : x13_3 < (t436.length : Int)
          ·rw [if_pos c39] at H
           have c39b0 : decide (x13_3 < (t436.length : Int)) = true := decide_eq_true c39
           clear c39
           by_cases c40 : 0 ≤ x13_3
           ·rw [if_pos c40] at H
            have c40b0 : decide (0 ≤ x13_3) = true := decide_eq_true c40
            clear c40
            by_cases c41 : x13_3 < (t431.length : Int)
            ·rw [if_pos c41] at H
             have c41b0 : decide (x13_3 < (t431.length : Int)) = true := decide_eq_true c41
             clear c41
             by_cases c42 : (!(((rd_T52 t436 x13_3).f0) == ((rd_T52 t431 x13_3).f0)) || (!(((rd_T52 t436 x13_3).f1) == ((rd_T52 t431 x13_3).f1)) || (!(((rd_T52 t436 x13_3).f2) == ((rd_T52 t431 x13_3).f2))))) = true
             ·rw [if_pos c42] at H
              have c42b0 : (!(((rd_T52 t436 x13_3).f0) == ((rd_T52 t431 x13_3).f0)) || (!(((rd_T52 t436 x13_3).f1) == ((rd_T52 t431 x13_3).f1)) || (!(((rd_T52 t436 x13_3).f2) == ((rd_T52 t431 x13_3).f2))))) = true := c42
              clear c42
              exact absurd ((Option.some.inj H).trans hrt) (by decide)
             ·rw [if_neg c42] at H
              have c42b0 : (!(((rd_T52 t436 x13_3).f0) == ((rd_T52 t431 x13_3).f0)) || (!(((rd_T52 t436 x13_3).f1) == ((rd_T52 t431 x13_3).f1)) || (!(((rd_T52 t436 x13_3).f2) == ((rd_T52 t431 x13_3).f2))))) = false := by simpa using c42
              clear c42
              have H' := aM H
              clear H
              obtain ⟨Ao43, co43, eo43⟩ := Kd.R_slice HO_11.out
              subst eo43
              have p440 : 0 ≤ (x13_3 : Int) := oD (by first | (with_reducible assumption) | assumption)
              have q440 : x13_3 < (t436.length : Int) := oD (by first | (with_reducible assumption) | assumption)
              obtain ⟨ad440, e440, hx440_0, hx440_1, hx440_2⟩ := at_T52 (Kd.R_reads' HO_11.out).2.2 x13_3 p440 q440
              cases e440
              replace p440 := eq_true p440
              replace q440 := eq_true q440
              have p441 : 0 ≤ (x13_3 : Int) := oD (by first | (with_reducible assumption) | assumption)
              have q441 : x13_3 < (t431.length : Int) := oD (by first | (with_reducible assumption) | assumption)
              obtain ⟨ad441, e441, hx441_0, hx441_1, hx441_2⟩ := at_T52 (Kd.R_reads' HO_8.out).2.2 x13_3 p441 q441
              cases e441
              replace p441 := eq_true p441
              replace q441 := eq_true q441
              go_wp2
              repeat (go_quiet (fail); try go_wp2)
              go_roundg k3
              case measure => have := HJ7.out; have := HJ27.out; have := HK3.out; omega
              case rel => exact ⟨(wrap64 (x13_3 + 1)), (by first | rfl | (simp; done) | (simp [*]; done)), H', ⟨by have := HJ7.out; have := HJ27.out; have := HK3.out; omega⟩, ⟨by (with_reducible repeat (first | apply rA | apply rN | apply rD)); exact HO_8.out⟩, ⟨by (with_reducible repeat (first | apply rA | apply rN | apply rD)); exact HO_11.out⟩, ⟨by (with_reducible repeat (first | refine kN ?_ _ | refine kD ?_ | refine kA ?_ _)); exact BK420.out⟩, ⟨by repeat (first | (with_reducible first | exact HB.out | apply bA | apply bN | apply bE | refine bS ?_ GE420.out) | exact HB.out)⟩⟩
            ·rw [if_neg c41] at H
             exact absurd H (by simp)
           ·rw [if_neg c40] at H
            exact absurd H (by simp)
          ·rw [if_neg c39] at H
           have c39b0 : decide (x13_3 < (t436.length : Int)) = false := decide_eq_false c39
           clear c39
           replace H := oB.mp H
           obtain ⟨⟨t442, t443, t444, t445, t446, t447, t448⟩, A440, H⟩ := H
           try dsimp only at H
           have A44 := aM A440
           clear A440
           replace H := oB.mp H
           obtain ⟨⟨t452, t453⟩, A450, H⟩ := H
           try dsimp only at H
           have A45 := aM A450
           clear A450
           replace H := oB.mp H
           obtain ⟨⟨t454, t455⟩, A460, H⟩ := H
           try dsimp only at H
           have A46 := aM A460
           clear A460
           by_cases c47 : (t453 != t455) = true
           ·rw [if_pos c47] at H
            have c47b0 : (t453 != t455) = true := c47
            (try (have c47b1 : decide (t453 = t455) = false := by simpa using c47))
            (try (have c47b2 : (t453 == t455) = false := by simpa using c47))
            (try (have c47b3 : ¬ (t453 = t455) := by simpa using c47))
            clear c47
            exact absurd ((Option.some.inj H).trans hrt) (by decide)
           ·rw [if_neg c47] at H
            have c47b0 : (t453 != t455) = false := by simpa using c47
            (try (have c47b1 : decide (t453 = t455) = true := by simpa using c47))
            (try (have c47b2 : (t453 == t455) = true := by simpa using c47))
            clear c47
            replace H := oB.mp H
            obtain ⟨⟨t456, t459⟩, A480, H⟩ := H
            replace H : (if t453 = true then (if t459 = true then ((laws_sameInts.f k3 t456 t448).bind fun t460 => (some t460)) else (some false)) else (some true)) = some r := H
            have A48 := aM A480
            clear A480
            by_cases c49 : t453 = true
            ·subst c49
             have H1 : (if t459 = true then ((laws_sameInts.f k3 t456 t448).bind fun t460 => (some t460)) else (some false)) = some r := by rw [if_pos rfl] at H; first | done | exact H
             clear H
             have H := H1
             clear H1
             by_cases c50 : t459 = true
             ·subst c50
              have H1 : ((laws_sameInts.f k3 t456 t448).bind fun t460 => (some t460)) = some r := by rw [if_pos rfl] at H; first | done | exact H
              clear H
              have H := H1
              clear H1
              replace H := oB.mp H
              obtain ⟨t460, A510, H⟩ := H
              replace H : (some t460) = some r := H
              have A51 := aM A510
              clear A510
              clear hrt
              obtain rfl := Option.some.inj H
              obtain ⟨Ao52, co52, eo52⟩ := Kd.R_slice HO_11.out
              subst eo52
              go_wp2_with (first | (go_at_call 29; (with_reducible refine (spec_DrawClearText.calls k3 _ _ l0 t442 t443 t444 t445 t446 t447 t448 _ ?side1 ?side2 A44.out).mono ?_); (case side1 => repeat (first | exact (Kd.C_below HR0.out HB.out) | (with_reducible refine cA ?_ _) | (with_reducible refine cN ?_ _) | (with_reducible refine cD ?_))); (case side2 => exact HC0.out); rintro e w53 ⟨v449, rfl, ho0, hb⟩; have n0_ := aM (rB (by (with_reducible repeat (first | apply rA | apply rN | apply rD)); exact HO_8.out) hb); have n1_ := aM (rB (by (with_reducible repeat (first | apply rA | apply rN | apply rD)); exact HO_11.out) hb); have n2_ := aM (Kd.R_lower ho0 (bZ (by repeat (first | (with_reducible first | exact HB.out | apply bA | apply bN | apply bE | refine bS ?_ GE420.out) | exact HB.out)))); have n3_ := aM (kB (g := gb420) (o := .cells #[.int .i64 t415, .int .i64 t416, .int .i64 t417, .int .i64 t418, .bool t419] 39 (0, 0)) (by (with_reducible repeat (first | refine kN ?_ _ | refine kD ?_ | refine kA ?_ _)); exact BK420.out) hb); have n4_ := aM (bT (by repeat (first | (with_reducible first | exact HB.out | apply bA | apply bN | apply bE | refine bS ?_ GE420.out) | exact HB.out)) hb); clear HO_8; clear HO_11; clear BK420; clear HB; have HO_8 := n0_; have HO_11 := n1_; have HO450 := n2_; have BK420 := n3_; have HB := n4_; clear n0_ n1_ n2_ n3_ n4_; (try clear hb); (try clear hb2); (try clear hk); (try clear hi); (try clear ho0)) | ((with_reducible refine gate_dst (N := 14) rfl ?_); (try (refine gate_guard (by rfl) ?_; dsimp only)); refine box_event ?hg (N := 14) ?hd (cs := #[.int .i64 0, .int .i64 0, .int .i64 0, .int .i64 0, .bool false]) (t := 39) ?hr ?_; (case hd => rfl); (case hg => rfl); (case hr => first | (go_simp; done) | (go_simp; rfl)); intro gb451 hg w54 hbox hb; have n0_ := aM (rB (by (with_reducible repeat (first | apply rA | apply rN | apply rD)); exact HO_8.out) hb); have n1_ := aM (rB (by (with_reducible repeat (first | apply rA | apply rN | apply rD)); exact HO_11.out) hb); have n2_ := aM (rB (by (with_reducible repeat (first | apply rA | apply rN | apply rD)); exact HO450.out) hb); have n3_ := aM (kB (g := gb420) (o := .cells #[.int .i64 t415, .int .i64 t416, .int .i64 t417, .int .i64 t418, .bool t419] 39 (0, 0)) (by (with_reducible repeat (first | refine kN ?_ _ | refine kD ?_ | refine kA ?_ _)); exact BK420.out) hb); have n4_ := aM (bT (by repeat (first | (with_reducible first | exact HB.out | apply bA | apply bN | apply bE | refine bS ?_ GE420.out) | exact HB.out)) hb); have n5_ := aM (hbox); have n6_ := aM ((by rw [hg]; exact (bZ (by repeat (first | (with_reducible first | exact HB.out | apply bA | apply bN | apply bE | refine bS ?_ GE420.out) | exact HB.out))) : w.heap.size ≤ gb451)); have n7_ := aM ((by rw [hg]; exact (bZ (by repeat (first | (with_reducible first | exact HB.out | apply bA | apply bN | apply bE | refine bS ?_ GE420.out) | exact HB.out))) : w.heap.size ≤ gb451)); have n8_ := aM ((by rw [hg]; exact Nat.ne_of_lt (blk_lt (g := gb420) (o := .cells #[.int .i64 t415, .int .i64 t416, .int .i64 t417, .int .i64 t418, .bool t419] 39 (0, 0)) (by (with_reducible repeat (first | refine kN ?_ _ | refine kD ?_ | refine kA ?_ _)); exact BK420.out)) : gb420 ≠ gb451)); have n9_ := aM ((by rw [hg]; exact Nat.ne_of_gt (blk_lt (g := gb420) (o := .cells #[.int .i64 t415, .int .i64 t416, .int .i64 t417, .int .i64 t418, .bool t419] 39 (0, 0)) (by (with_reducible repeat (first | refine kN ?_ _ | refine kD ?_ | refine kA ?_ _)); exact BK420.out)) : gb451 ≠ gb420)); clear HO_8; clear HO_11; clear HO450; clear BK420; clear HB; have HO_8 := n0_; have HO_11 := n1_; have HO450 := n2_; have BK420 := n3_; have HB := n4_; have BK451 := n5_; have GW451 := n6_; have GE451 := n7_; have NB420_451 := n8_; have NB451_420 := n9_; clear n0_ n1_ n2_ n3_ n4_ n5_ n6_ n7_ n8_ n9_; clear hb hbox hg; have hnb55 := NB451_420.out; have hnc55 := NB420_451.out; obtain ⟨hcz56_0, hcz56_1, hcz56_2, hcz56_3, hcz56_4⟩ := blk_c5 BK451.out; obtain ⟨hfz56_0, hfz56_1, hfz56_2, hfz56_3, hfz56_4⟩ := blk_f5 BK451.out; obtain ⟨Ao57, co57, eo57⟩ := Kd.R_slice HO450.out; subst eo57) | (go_at_call 30; (with_reducible refine (impl_ClearText.calls k3 t442 t443 t444 t445 t446 t447 _ _ t448 t452 true _ ?side1 ?side2 A45.out).mono ?_); (case side1 => refine (Kd.R_reads' (e := 3) (base := w.heap.size) (ok := fun k_ => True) (n := t448.length) (c := co57) ?_).2.2; exact (by (with_reducible repeat (first | apply rA | apply rN | apply rD)); exact (rM (rF (p := ⟨gb451, 4, none⟩) (rF (p := ⟨gb451, 3, none⟩) (rF (p := ⟨gb451, 2, none⟩) (rF (p := ⟨gb451, 1, none⟩) (rF (p := ⟨gb451, 0, none⟩) (Kd.R_types HO450.out BK451.out (by decide)) (fun _ hk => hk.2) (.int .i64 t442)) (fun _ hk => hk.2) (.int .i64 t443)) (fun _ hk => hk.2) (.int .i64 t444)) (fun _ hk => hk.2) (.int .i64 t445)) (fun _ hk => hk.2) (.bool t446)) (fun _ h_ => h_.1)))); (case side2 => exact (Kd.R_reads' HO450.out).2.1); rintro e w58 ⟨rfl, hb⟩; have n0_ := aM (rB (by (with_reducible repeat (first | apply rA | apply rN | apply rD)); exact (rM (rF (p := ⟨gb451, 4, none⟩) (rF (p := ⟨gb451, 3, none⟩) (rF (p := ⟨gb451, 2, none⟩) (rF (p := ⟨gb451, 1, none⟩) (rF (p := ⟨gb451, 0, none⟩) (Kd.R_types HO_8.out BK451.out (by decide)) (fun _ hk => hk.2) (.int .i64 t442)) (fun _ hk => hk.2) (.int .i64 t443)) (fun _ hk => hk.2) (.int .i64 t444)) (fun _ hk => hk.2) (.int .i64 t445)) (fun _ hk => hk.2) (.bool t446)) (fun _ h_ => h_.1))) hb); have n1_ := aM (rB (by (with_reducible repeat (first | apply rA | apply rN | apply rD)); exact (rM (rF (p := ⟨gb451, 4, none⟩) (rF (p := ⟨gb451, 3, none⟩) (rF (p := ⟨gb451, 2, none⟩) (rF (p := ⟨gb451, 1, none⟩) (rF (p := ⟨gb451, 0, none⟩) (Kd.R_types HO_11.out BK451.out (by decide)) (fun _ hk => hk.2) (.int .i64 t442)) (fun _ hk => hk.2) (.int .i64 t443)) (fun _ hk => hk.2) (.int .i64 t444)) (fun _ hk => hk.2) (.int .i64 t445)) (fun _ hk => hk.2) (.bool t446)) (fun _ h_ => h_.1))) hb); have n2_ := aM (rB (by (with_reducible repeat (first | apply rA | apply rN | apply rD)); exact (rM (rF (p := ⟨gb451, 4, none⟩) (rF (p := ⟨gb451, 3, none⟩) (rF (p := ⟨gb451, 2, none⟩) (rF (p := ⟨gb451, 1, none⟩) (rF (p := ⟨gb451, 0, none⟩) (Kd.R_types HO450.out BK451.out (by decide)) (fun _ hk => hk.2) (.int .i64 t442)) (fun _ hk => hk.2) (.int .i64 t443)) (fun _ hk => hk.2) (.int .i64 t444)) (fun _ hk => hk.2) (.int .i64 t445)) (fun _ hk => hk.2) (.bool t446)) (fun _ h_ => h_.1))) hb); have n3_ := aM (kB (g := gb420) (o := .cells #[.int .i64 t415, .int .i64 t416, .int .i64 t417, .int .i64 t418, .bool t419] 39 (0, 0)) (by (with_reducible repeat (first | refine kN ?_ _ | refine kD ?_ | refine kA ?_ _)); refine kF ?_ NB420_451.out _; (with_reducible repeat (first | refine kN ?_ _ | refine kD ?_ | refine kA ?_ _)); refine kF ?_ NB420_451.out _; (with_reducible repeat (first | refine kN ?_ _ | refine kD ?_ | refine kA ?_ _)); refine kF ?_ NB420_451.out _; (with_reducible repeat (first | refine kN ?_ _ | refine kD ?_ | refine kA ?_ _)); refine kF ?_ NB420_451.out _; (with_reducible repeat (first | refine kN ?_ _ | refine kD ?_ | refine kA ?_ _)); refine kF ?_ NB420_451.out _; (with_reducible repeat (first | refine kN ?_ _ | refine kD ?_ | refine kA ?_ _)); exact BK420.out) hb); have n4_ := aM (kB (g := gb451) (o := .cells #[.int .i64 t442, .int .i64 t443, .int .i64 t444, .int .i64 t445, .bool t446] 39 (0, 0)) (by (with_reducible repeat (first | refine kN ?_ _ | refine kD ?_ | refine kA ?_ _)); refine blk_put (cs := #[.int .i64 t442, .int .i64 t443, .int .i64 t444, .int .i64 t445, .bool false]) ?_ 4 _ rfl; (with_reducible repeat (first | refine kN ?_ _ | refine kD ?_ | refine kA ?_ _)); refine blk_put (cs := #[.int .i64 t442, .int .i64 t443, .int .i64 t444, .int .i64 0, .bool false]) ?_ 3 _ rfl; (with_reducible repeat (first | refine kN ?_ _ | refine kD ?_ | refine kA ?_ _)); refine blk_put (cs := #[.int .i64 t442, .int .i64 t443, .int .i64 0, .int .i64 0, .bool false]) ?_ 2 _ rfl; (with_reducible repeat (first | refine kN ?_ _ | refine kD ?_ | refine kA ?_ _)); refine blk_put (cs := #[.int .i64 t442, .int .i64 0, .int .i64 0, .int .i64 0, .bool false]) ?_ 1 _ rfl; (with_reducible repeat (first | refine kN ?_ _ | refine kD ?_ | refine kA ?_ _)); refine blk_put (cs := #[.int .i64 0, .int .i64 0, .int .i64 0, .int .i64 0, .bool false]) ?_ 0 _ rfl; (with_reducible repeat (first | refine kN ?_ _ | refine kD ?_ | refine kA ?_ _)); exact BK451.out) hb); have n5_ := aM (bT (by repeat (first | (with_reducible first | exact HB.out | apply bA | apply bN | apply bE | refine bS ?_ GE420.out | refine bS ?_ GE451.out) | exact HB.out)) hb); clear HO_8; clear HO_11; clear HO450; clear BK420; clear BK451; clear HB; have HO_8 := n0_; have HO_11 := n1_; have HO450 := n2_; have BK420 := n3_; have BK451 := n4_; have HB := n5_; clear n0_ n1_ n2_ n3_ n4_ n5_; (try clear hb); (try clear hb2); (try clear hk); (try clear hi); obtain ⟨hcz59_0, hcz59_1, hcz59_2, hcz59_3, hcz59_4⟩ := blk_c5 BK451.out; obtain ⟨hfz59_0, hfz59_1, hfz59_2, hfz59_3, hfz59_4⟩ := blk_f5 BK451.out) | (go_at_call 31; (with_reducible refine (spec_ClearText.calls k3 t442 t443 t444 t445 t446 t447 _ _ t448 t454 t455 _ ?side1 ?side2 A46.out).mono ?_); (case side1 => repeat (first | exact (Kd.R_reads' HO450.out).2.2 | (with_reducible refine cA ?_ _) | (with_reducible refine cN ?_ _) | (with_reducible refine cD ?_))); (case side2 => exact (Kd.R_reads' HO450.out).2.1); rintro e w60 ⟨rfl, hb⟩; have n0_ := aM (rB (by (with_reducible repeat (first | apply rA | apply rN | apply rD)); exact HO_8.out) hb); have n1_ := aM (rB (by (with_reducible repeat (first | apply rA | apply rN | apply rD)); exact HO_11.out) hb); have n2_ := aM (rB (by (with_reducible repeat (first | apply rA | apply rN | apply rD)); exact HO450.out) hb); have n3_ := aM (kB (g := gb420) (o := .cells #[.int .i64 t415, .int .i64 t416, .int .i64 t417, .int .i64 t418, .bool t419] 39 (0, 0)) (by (with_reducible repeat (first | refine kN ?_ _ | refine kD ?_ | refine kA ?_ _)); exact BK420.out) hb); have n4_ := aM (kB (g := gb451) (o := .cells #[.int .i64 t442, .int .i64 t443, .int .i64 t444, .int .i64 t445, .bool t446] 39 (0, 0)) (by (with_reducible repeat (first | refine kN ?_ _ | refine kD ?_ | refine kA ?_ _)); exact BK451.out) hb); have n5_ := aM (bT (by repeat (first | (with_reducible first | exact HB.out | apply bA | apply bN | apply bE | refine bS ?_ GE420.out | refine bS ?_ GE451.out) | exact HB.out)) hb); clear HO_8; clear HO_11; clear HO450; clear BK420; clear BK451; clear HB; have HO_8 := n0_; have HO_11 := n1_; have HO450 := n2_; have BK420 := n3_; have BK451 := n4_; have HB := n5_; clear n0_ n1_ n2_ n3_ n4_ n5_; (try clear hb); (try clear hb2); (try clear hk); (try clear hi); obtain ⟨hcz61_0, hcz61_1, hcz61_2, hcz61_3, hcz61_4⟩ := blk_c5 BK451.out; obtain ⟨hfz61_0, hfz61_1, hfz61_2, hfz61_3, hfz61_4⟩ := blk_f5 BK451.out) | (go_at_call 32; (with_reducible refine (impl_ReadClear.calls k3 t442 t443 t444 t445 t446 t447 t452 t456 true _ A48.out).mono ?_); rintro e w62 ⟨v457, rfl, ho0, hb⟩; have n0_ := aM (rB (by (with_reducible repeat (first | apply rA | apply rN | apply rD)); exact HO_8.out) hb); have n1_ := aM (rB (by (with_reducible repeat (first | apply rA | apply rN | apply rD)); exact HO_11.out) hb); have n2_ := aM (Kd.R_elder' (by (with_reducible repeat (first | apply rA | apply rN | apply rD)); exact HO450.out) (Kd.R_base ho0) hb); have n3_ := aM (Kd.R_lower (Kd.R_new' ho0 (Kd.R_lt (by (with_reducible repeat (first | apply rA | apply rN | apply rD)); exact HO450.out))) (bZ (by repeat (first | (with_reducible first | exact HB.out | apply bA | apply bN | apply bE | refine bS ?_ GE420.out | refine bS ?_ GE451.out) | exact HB.out)))); have n4_ := aM (kB (g := gb420) (o := .cells #[.int .i64 t415, .int .i64 t416, .int .i64 t417, .int .i64 t418, .bool t419] 39 (0, 0)) (by (with_reducible repeat (first | refine kN ?_ _ | refine kD ?_ | refine kA ?_ _)); exact BK420.out) hb); have n5_ := aM (kB (g := gb451) (o := .cells #[.int .i64 t442, .int .i64 t443, .int .i64 t444, .int .i64 t445, .bool t446] 39 (0, 0)) (by (with_reducible repeat (first | refine kN ?_ _ | refine kD ?_ | refine kA ?_ _)); exact BK451.out) hb); have n6_ := aM (bT (by repeat (first | (with_reducible first | exact HB.out | apply bA | apply bN | apply bE | refine bS ?_ GE420.out | refine bS ?_ GE451.out) | exact HB.out)) hb); clear HO_8; clear HO_11; clear HO450; clear BK420; clear BK451; clear HB; have HO_8 := n0_; have HO_11 := n1_; have HO450 := n2_; have HO458 := n3_; have BK420 := n4_; have BK451 := n5_; have HB := n6_; clear n0_ n1_ n2_ n3_ n4_ n5_ n6_; (try clear hb); (try clear hb2); (try clear hk); (try clear hi); (try clear ho0); obtain ⟨Ao63, co63, eo63⟩ := Kd.R_slice HO458.out; subst eo63) | (go_at_call 33; (with_reducible refine (laws_sameInts.calls k3 _ _ t456 _ _ t448 t460 _ ?side1 ?side2 ?side3 ?side4 A51.out).mono ?_); (case side1 => repeat (first | exact (Kd.R_reads' HO458.out).2.2 | (with_reducible refine cA ?_ _) | (with_reducible refine cN ?_ _) | (with_reducible refine cD ?_))); (case side2 => exact (Kd.R_reads' HO458.out).2.1); (case side3 => repeat (first | exact (Kd.R_reads' HO450.out).2.2 | (with_reducible refine cA ?_ _) | (with_reducible refine cN ?_ _) | (with_reducible refine cD ?_))); (case side4 => exact (Kd.R_reads' HO450.out).2.1); rintro e w' ⟨rfl, ⟨nd, rfl⟩⟩; (try first | exact ⟨rfl, _, World.drewN_drewN _ _ _⟩ | exact ⟨rfl, _, Eq.trans (World.drewN_drewN _ _ _) (congrArg (World.drewN _) (Nat.add_assoc _ _ _))⟩)))
              repeat (go_quiet (first | (go_at_call 29; (with_reducible refine (spec_DrawClearText.calls k3 _ _ l0 t442 t443 t444 t445 t446 t447 t448 _ ?side1 ?side2 A44.out).mono ?_); (case side1 => repeat (first | exact (Kd.C_below HR0.out HB.out) | (with_reducible refine cA ?_ _) | (with_reducible refine cN ?_ _) | (with_reducible refine cD ?_))); (case side2 => exact HC0.out); rintro e w53 ⟨v449, rfl, ho0, hb⟩; have n0_ := aM (rB (by (with_reducible repeat (first | apply rA | apply rN | apply rD)); exact HO_8.out) hb); have n1_ := aM (rB (by (with_reducible repeat (first | apply rA | apply rN | apply rD)); exact HO_11.out) hb); have n2_ := aM (Kd.R_lower ho0 (bZ (by repeat (first | (with_reducible first | exact HB.out | apply bA | apply bN | apply bE | refine bS ?_ GE420.out) | exact HB.out)))); have n3_ := aM (kB (g := gb420) (o := .cells #[.int .i64 t415, .int .i64 t416, .int .i64 t417, .int .i64 t418, .bool t419] 39 (0, 0)) (by (with_reducible repeat (first | refine kN ?_ _ | refine kD ?_ | refine kA ?_ _)); exact BK420.out) hb); have n4_ := aM (bT (by repeat (first | (with_reducible first | exact HB.out | apply bA | apply bN | apply bE | refine bS ?_ GE420.out) | exact HB.out)) hb); clear HO_8; clear HO_11; clear BK420; clear HB; have HO_8 := n0_; have HO_11 := n1_; have HO450 := n2_; have BK420 := n3_; have HB := n4_; clear n0_ n1_ n2_ n3_ n4_; (try clear hb); (try clear hb2); (try clear hk); (try clear hi); (try clear ho0)) | ((with_reducible refine gate_dst (N := 14) rfl ?_); (try (refine gate_guard (by rfl) ?_; dsimp only)); refine box_event ?hg (N := 14) ?hd (cs := #[.int .i64 0, .int .i64 0, .int .i64 0, .int .i64 0, .bool false]) (t := 39) ?hr ?_; (case hd => rfl); (case hg => rfl); (case hr => first | (go_simp; done) | (go_simp; rfl)); intro gb451 hg w54 hbox hb; have n0_ := aM (rB (by (with_reducible repeat (first | apply rA | apply rN | apply rD)); exact HO_8.out) hb); have n1_ := aM (rB (by (with_reducible repeat (first | apply rA | apply rN | apply rD)); exact HO_11.out) hb); have n2_ := aM (rB (by (with_reducible repeat (first | apply rA | apply rN | apply rD)); exact HO450.out) hb); have n3_ := aM (kB (g := gb420) (o := .cells #[.int .i64 t415, .int .i64 t416, .int .i64 t417, .int .i64 t418, .bool t419] 39 (0, 0)) (by (with_reducible repeat (first | refine kN ?_ _ | refine kD ?_ | refine kA ?_ _)); exact BK420.out) hb); have n4_ := aM (bT (by repeat (first | (with_reducible first | exact HB.out | apply bA | apply bN | apply bE | refine bS ?_ GE420.out) | exact HB.out)) hb); have n5_ := aM (hbox); have n6_ := aM ((by rw [hg]; exact (bZ (by repeat (first | (with_reducible first | exact HB.out | apply bA | apply bN | apply bE | refine bS ?_ GE420.out) | exact HB.out))) : w.heap.size ≤ gb451)); have n7_ := aM ((by rw [hg]; exact (bZ (by repeat (first | (with_reducible first | exact HB.out | apply bA | apply bN | apply bE | refine bS ?_ GE420.out) | exact HB.out))) : w.heap.size ≤ gb451)); have n8_ := aM ((by rw [hg]; exact Nat.ne_of_lt (blk_lt (g := gb420) (o := .cells #[.int .i64 t415, .int .i64 t416, .int .i64 t417, .int .i64 t418, .bool t419] 39 (0, 0)) (by (with_reducible repeat (first | refine kN ?_ _ | refine kD ?_ | refine kA ?_ _)); exact BK420.out)) : gb420 ≠ gb451)); have n9_ := aM ((by rw [hg]; exact Nat.ne_of_gt (blk_lt (g := gb420) (o := .cells #[.int .i64 t415, .int .i64 t416, .int .i64 t417, .int .i64 t418, .bool t419] 39 (0, 0)) (by (with_reducible repeat (first | refine kN ?_ _ | refine kD ?_ | refine kA ?_ _)); exact BK420.out)) : gb451 ≠ gb420)); clear HO_8; clear HO_11; clear HO450; clear BK420; clear HB; have HO_8 := n0_; have HO_11 := n1_; have HO450 := n2_; have BK420 := n3_; have HB := n4_; have BK451 := n5_; have GW451 := n6_; have GE451 := n7_; have NB420_451 := n8_; have NB451_420 := n9_; clear n0_ n1_ n2_ n3_ n4_ n5_ n6_ n7_ n8_ n9_; clear hb hbox hg; have hnb55 := NB451_420.out; have hnc55 := NB420_451.out; obtain ⟨hcz56_0, hcz56_1, hcz56_2, hcz56_3, hcz56_4⟩ := blk_c5 BK451.out; obtain ⟨hfz56_0, hfz56_1, hfz56_2, hfz56_3, hfz56_4⟩ := blk_f5 BK451.out; obtain ⟨Ao57, co57, eo57⟩ := Kd.R_slice HO450.out; subst eo57) | (go_at_call 30; (with_reducible refine (impl_ClearText.calls k3 t442 t443 t444 t445 t446 t447 _ _ t448 t452 true _ ?side1 ?side2 A45.out).mono ?_); (case side1 => refine (Kd.R_reads' (e := 3) (base := w.heap.size) (ok := fun k_ => True) (n := t448.length) (c := co57) ?_).2.2; exact (by (with_reducible repeat (first | apply rA | apply rN | apply rD)); exact (rM (rF (p := ⟨gb451, 4, none⟩) (rF (p := ⟨gb451, 3, none⟩) (rF (p := ⟨gb451, 2, none⟩) (rF (p := ⟨gb451, 1, none⟩) (rF (p := ⟨gb451, 0, none⟩) (Kd.R_types HO450.out BK451.out (by decide)) (fun _ hk => hk.2) (.int .i64 t442)) (fun _ hk => hk.2) (.int .i64 t443)) (fun _ hk => hk.2) (.int .i64 t444)) (fun _ hk => hk.2) (.int .i64 t445)) (fun _ hk => hk.2) (.bool t446)) (fun _ h_ => h_.1)))); (case side2 => exact (Kd.R_reads' HO450.out).2.1); rintro e w58 ⟨rfl, hb⟩; have n0_ := aM (rB (by (with_reducible repeat (first | apply rA | apply rN | apply rD)); exact (rM (rF (p := ⟨gb451, 4, none⟩) (rF (p := ⟨gb451, 3, none⟩) (rF (p := ⟨gb451, 2, none⟩) (rF (p := ⟨gb451, 1, none⟩) (rF (p := ⟨gb451, 0, none⟩) (Kd.R_types HO_8.out BK451.out (by decide)) (fun _ hk => hk.2) (.int .i64 t442)) (fun _ hk => hk.2) (.int .i64 t443)) (fun _ hk => hk.2) (.int .i64 t444)) (fun _ hk => hk.2) (.int .i64 t445)) (fun _ hk => hk.2) (.bool t446)) (fun _ h_ => h_.1))) hb); have n1_ := aM (rB (by (with_reducible repeat (first | apply rA | apply rN | apply rD)); exact (rM (rF (p := ⟨gb451, 4, none⟩) (rF (p := ⟨gb451, 3, none⟩) (rF (p := ⟨gb451, 2, none⟩) (rF (p := ⟨gb451, 1, none⟩) (rF (p := ⟨gb451, 0, none⟩) (Kd.R_types HO_11.out BK451.out (by decide)) (fun _ hk => hk.2) (.int .i64 t442)) (fun _ hk => hk.2) (.int .i64 t443)) (fun _ hk => hk.2) (.int .i64 t444)) (fun _ hk => hk.2) (.int .i64 t445)) (fun _ hk => hk.2) (.bool t446)) (fun _ h_ => h_.1))) hb); have n2_ := aM (rB (by (with_reducible repeat (first | apply rA | apply rN | apply rD)); exact (rM (rF (p := ⟨gb451, 4, none⟩) (rF (p := ⟨gb451, 3, none⟩) (rF (p := ⟨gb451, 2, none⟩) (rF (p := ⟨gb451, 1, none⟩) (rF (p := ⟨gb451, 0, none⟩) (Kd.R_types HO450.out BK451.out (by decide)) (fun _ hk => hk.2) (.int .i64 t442)) (fun _ hk => hk.2) (.int .i64 t443)) (fun _ hk => hk.2) (.int .i64 t444)) (fun _ hk => hk.2) (.int .i64 t445)) (fun _ hk => hk.2) (.bool t446)) (fun _ h_ => h_.1))) hb); have n3_ := aM (kB (g := gb420) (o := .cells #[.int .i64 t415, .int .i64 t416, .int .i64 t417, .int .i64 t418, .bool t419] 39 (0, 0)) (by (with_reducible repeat (first | refine kN ?_ _ | refine kD ?_ | refine kA ?_ _)); refine kF ?_ NB420_451.out _; (with_reducible repeat (first | refine kN ?_ _ | refine kD ?_ | refine kA ?_ _)); refine kF ?_ NB420_451.out _; (with_reducible repeat (first | refine kN ?_ _ | refine kD ?_ | refine kA ?_ _)); refine kF ?_ NB420_451.out _; (with_reducible repeat (first | refine kN ?_ _ | refine kD ?_ | refine kA ?_ _)); refine kF ?_ NB420_451.out _; (with_reducible repeat (first | refine kN ?_ _ | refine kD ?_ | refine kA ?_ _)); refine kF ?_ NB420_451.out _; (with_reducible repeat (first | refine kN ?_ _ | refine kD ?_ | refine kA ?_ _)); exact BK420.out) hb); have n4_ := aM (kB (g := gb451) (o := .cells #[.int .i64 t442, .int .i64 t443, .int .i64 t444, .int .i64 t445, .bool t446] 39 (0, 0)) (by (with_reducible repeat (first | refine kN ?_ _ | refine kD ?_ | refine kA ?_ _)); refine blk_put (cs := #[.int .i64 t442, .int .i64 t443, .int .i64 t444, .int .i64 t445, .bool false]) ?_ 4 _ rfl; (with_reducible repeat (first | refine kN ?_ _ | refine kD ?_ | refine kA ?_ _)); refine blk_put (cs := #[.int .i64 t442, .int .i64 t443, .int .i64 t444, .int .i64 0, .bool false]) ?_ 3 _ rfl; (with_reducible repeat (first | refine kN ?_ _ | refine kD ?_ | refine kA ?_ _)); refine blk_put (cs := #[.int .i64 t442, .int .i64 t443, .int .i64 0, .int .i64 0, .bool false]) ?_ 2 _ rfl; (with_reducible repeat (first | refine kN ?_ _ | refine kD ?_ | refine kA ?_ _)); refine blk_put (cs := #[.int .i64 t442, .int .i64 0, .int .i64 0, .int .i64 0, .bool false]) ?_ 1 _ rfl; (with_reducible repeat (first | refine kN ?_ _ | refine kD ?_ | refine kA ?_ _)); refine blk_put (cs := #[.int .i64 0, .int .i64 0, .int .i64 0, .int .i64 0, .bool false]) ?_ 0 _ rfl; (with_reducible repeat (first | refine kN ?_ _ | refine kD ?_ | refine kA ?_ _)); exact BK451.out) hb); have n5_ := aM (bT (by repeat (first | (with_reducible first | exact HB.out | apply bA | apply bN | apply bE | refine bS ?_ GE420.out | refine bS ?_ GE451.out) | exact HB.out)) hb); clear HO_8; clear HO_11; clear HO450; clear BK420; clear BK451; clear HB; have HO_8 := n0_; have HO_11 := n1_; have HO450 := n2_; have BK420 := n3_; have BK451 := n4_; have HB := n5_; clear n0_ n1_ n2_ n3_ n4_ n5_; (try clear hb); (try clear hb2); (try clear hk); (try clear hi); obtain ⟨hcz59_0, hcz59_1, hcz59_2, hcz59_3, hcz59_4⟩ := blk_c5 BK451.out; obtain ⟨hfz59_0, hfz59_1, hfz59_2, hfz59_3, hfz59_4⟩ := blk_f5 BK451.out) | (go_at_call 31; (with_reducible refine (spec_ClearText.calls k3 t442 t443 t444 t445 t446 t447 _ _ t448 t454 t455 _ ?side1 ?side2 A46.out).mono ?_); (case side1 => repeat (first | exact (Kd.R_reads' HO450.out).2.2 | (with_reducible refine cA ?_ _) | (with_reducible refine cN ?_ _) | (with_reducible refine cD ?_))); (case side2 => exact (Kd.R_reads' HO450.out).2.1); rintro e w60 ⟨rfl, hb⟩; have n0_ := aM (rB (by (with_reducible repeat (first | apply rA | apply rN | apply rD)); exact HO_8.out) hb); have n1_ := aM (rB (by (with_reducible repeat (first | apply rA | apply rN | apply rD)); exact HO_11.out) hb); have n2_ := aM (rB (by (with_reducible repeat (first | apply rA | apply rN | apply rD)); exact HO450.out) hb); have n3_ := aM (kB (g := gb420) (o := .cells #[.int .i64 t415, .int .i64 t416, .int .i64 t417, .int .i64 t418, .bool t419] 39 (0, 0)) (by (with_reducible repeat (first | refine kN ?_ _ | refine kD ?_ | refine kA ?_ _)); exact BK420.out) hb); have n4_ := aM (kB (g := gb451) (o := .cells #[.int .i64 t442, .int .i64 t443, .int .i64 t444, .int .i64 t445, .bool t446] 39 (0, 0)) (by (with_reducible repeat (first | refine kN ?_ _ | refine kD ?_ | refine kA ?_ _)); exact BK451.out) hb); have n5_ := aM (bT (by repeat (first | (with_reducible first | exact HB.out | apply bA | apply bN | apply bE | refine bS ?_ GE420.out | refine bS ?_ GE451.out) | exact HB.out)) hb); clear HO_8; clear HO_11; clear HO450; clear BK420; clear BK451; clear HB; have HO_8 := n0_; have HO_11 := n1_; have HO450 := n2_; have BK420 := n3_; have BK451 := n4_; have HB := n5_; clear n0_ n1_ n2_ n3_ n4_ n5_; (try clear hb); (try clear hb2); (try clear hk); (try clear hi); obtain ⟨hcz61_0, hcz61_1, hcz61_2, hcz61_3, hcz61_4⟩ := blk_c5 BK451.out; obtain ⟨hfz61_0, hfz61_1, hfz61_2, hfz61_3, hfz61_4⟩ := blk_f5 BK451.out) | (go_at_call 32; (with_reducible refine (impl_ReadClear.calls k3 t442 t443 t444 t445 t446 t447 t452 t456 true _ A48.out).mono ?_); rintro e w62 ⟨v457, rfl, ho0, hb⟩; have n0_ := aM (rB (by (with_reducible repeat (first | apply rA | apply rN | apply rD)); exact HO_8.out) hb); have n1_ := aM (rB (by (with_reducible repeat (first | apply rA | apply rN | apply rD)); exact HO_11.out) hb); have n2_ := aM (Kd.R_elder' (by (with_reducible repeat (first | apply rA | apply rN | apply rD)); exact HO450.out) (Kd.R_base ho0) hb); have n3_ := aM (Kd.R_lower (Kd.R_new' ho0 (Kd.R_lt (by (with_reducible repeat (first | apply rA | apply rN | apply rD)); exact HO450.out))) (bZ (by repeat (first | (with_reducible first | exact HB.out | apply bA | apply bN | apply bE | refine bS ?_ GE420.out | refine bS ?_ GE451.out) | exact HB.out)))); have n4_ := aM (kB (g := gb420) (o := .cells #[.int .i64 t415, .int .i64 t416, .int .i64 t417, .int .i64 t418, .bool t419] 39 (0, 0)) (by (with_reducible repeat (first | refine kN ?_ _ | refine kD ?_ | refine kA ?_ _)); exact BK420.out) hb); have n5_ := aM (kB (g := gb451) (o := .cells #[.int .i64 t442, .int .i64 t443, .int .i64 t444, .int .i64 t445, .bool t446] 39 (0, 0)) (by (with_reducible repeat (first | refine kN ?_ _ | refine kD ?_ | refine kA ?_ _)); exact BK451.out) hb); have n6_ := aM (bT (by repeat (first | (with_reducible first | exact HB.out | apply bA | apply bN | apply bE | refine bS ?_ GE420.out | refine bS ?_ GE451.out) | exact HB.out)) hb); clear HO_8; clear HO_11; clear HO450; clear BK420; clear BK451; clear HB; have HO_8 := n0_; have HO_11 := n1_; have HO450 := n2_; have HO458 := n3_; have BK420 := n4_; have BK451 := n5_; have HB := n6_; clear n0_ n1_ n2_ n3_ n4_ n5_ n6_; (try clear hb); (try clear hb2); (try clear hk); (try clear hi); (try clear ho0); obtain ⟨Ao63, co63, eo63⟩ := Kd.R_slice HO458.out; subst eo63) | (go_at_call 33; (with_reducible refine (laws_sameInts.calls k3 _ _ t456 _ _ t448 t460 _ ?side1 ?side2 ?side3 ?side4 A51.out).mono ?_); (case side1 => repeat (first | exact (Kd.R_reads' HO458.out).2.2 | (with_reducible refine cA ?_ _) | (with_reducible refine cN ?_ _) | (with_reducible refine cD ?_))); (case side2 => exact (Kd.R_reads' HO458.out).2.1); (case side3 => repeat (first | exact (Kd.R_reads' HO450.out).2.2 | (with_reducible refine cA ?_ _) | (with_reducible refine cN ?_ _) | (with_reducible refine cD ?_))); (case side4 => exact (Kd.R_reads' HO450.out).2.1); rintro e w' ⟨rfl, ⟨nd, rfl⟩⟩; (try first | exact ⟨rfl, _, World.drewN_drewN _ _ _⟩ | exact ⟨rfl, _, Eq.trans (World.drewN_drewN _ _ _) (congrArg (World.drewN _) (Nat.add_assoc _ _ _))⟩))); try go_wp2_with (first | (go_at_call 29; (with_reducible refine (spec_DrawClearText.calls k3 _ _ l0 t442 t443 t444 t445 t446 t447 t448 _ ?side1 ?side2 A44.out).mono ?_); (case side1 => repeat (first | exact (Kd.C_below HR0.out HB.out) | (with_reducible refine cA ?_ _) | (with_reducible refine cN ?_ _) | (with_reducible refine cD ?_))); (case side2 => exact HC0.out); rintro e w53 ⟨v449, rfl, ho0, hb⟩; have n0_ := aM (rB (by (with_reducible repeat (first | apply rA | apply rN | apply rD)); exact HO_8.out) hb); have n1_ := aM (rB (by (with_reducible repeat (first | apply rA | apply rN | apply rD)); exact HO_11.out) hb); have n2_ := aM (Kd.R_lower ho0 (bZ (by repeat (first | (with_reducible first | exact HB.out | apply bA | apply bN | apply bE | refine bS ?_ GE420.out) | exact HB.out)))); have n3_ := aM (kB (g := gb420) (o := .cells #[.int .i64 t415, .int .i64 t416, .int .i64 t417, .int .i64 t418, .bool t419] 39 (0, 0)) (by (with_reducible repeat (first | refine kN ?_ _ | refine kD ?_ | refine kA ?_ _)); exact BK420.out) hb); have n4_ := aM (bT (by repeat (first | (with_reducible first | exact HB.out | apply bA | apply bN | apply bE | refine bS ?_ GE420.out) | exact HB.out)) hb); clear HO_8; clear HO_11; clear BK420; clear HB; have HO_8 := n0_; have HO_11 := n1_; have HO450 := n2_; have BK420 := n3_; have HB := n4_; clear n0_ n1_ n2_ n3_ n4_; (try clear hb); (try clear hb2); (try clear hk); (try clear hi); (try clear ho0)) | ((with_reducible refine gate_dst (N := 14) rfl ?_); (try (refine gate_guard (by rfl) ?_; dsimp only)); refine box_event ?hg (N := 14) ?hd (cs := #[.int .i64 0, .int .i64 0, .int .i64 0, .int .i64 0, .bool false]) (t := 39) ?hr ?_; (case hd => rfl); (case hg => rfl); (case hr => first | (go_simp; done) | (go_simp; rfl)); intro gb451 hg w54 hbox hb; have n0_ := aM (rB (by (with_reducible repeat (first | apply rA | apply rN | apply rD)); exact HO_8.out) hb); have n1_ := aM (rB (by (with_reducible repeat (first | apply rA | apply rN | apply rD)); exact HO_11.out) hb); have n2_ := aM (rB (by (with_reducible repeat (first | apply rA | apply rN | apply rD)); exact HO450.out) hb); have n3_ := aM (kB (g := gb420) (o := .cells #[.int .i64 t415, .int .i64 t416, .int .i64 t417, .int .i64 t418, .bool t419] 39 (0, 0)) (by (with_reducible repeat (first | refine kN ?_ _ | refine kD ?_ | refine kA ?_ _)); exact BK420.out) hb); have n4_ := aM (bT (by repeat (first | (with_reducible first | exact HB.out | apply bA | apply bN | apply bE | refine bS ?_ GE420.out) | exact HB.out)) hb); have n5_ := aM (hbox); have n6_ := aM ((by rw [hg]; exact (bZ (by repeat (first | (with_reducible first | exact HB.out | apply bA | apply bN | apply bE | refine bS ?_ GE420.out) | exact HB.out))) : w.heap.size ≤ gb451)); have n7_ := aM ((by rw [hg]; exact (bZ (by repeat (first | (with_reducible first | exact HB.out | apply bA | apply bN | apply bE | refine bS ?_ GE420.out) | exact HB.out))) : w.heap.size ≤ gb451)); have n8_ := aM ((by rw [hg]; exact Nat.ne_of_lt (blk_lt (g := gb420) (o := .cells #[.int .i64 t415, .int .i64 t416, .int .i64 t417, .int .i64 t418, .bool t419] 39 (0, 0)) (by (with_reducible repeat (first | refine kN ?_ _ | refine kD ?_ | refine kA ?_ _)); exact BK420.out)) : gb420 ≠ gb451)); have n9_ := aM ((by rw [hg]; exact Nat.ne_of_gt (blk_lt (g := gb420) (o := .cells #[.int .i64 t415, .int .i64 t416, .int .i64 t417, .int .i64 t418, .bool t419] 39 (0, 0)) (by (with_reducible repeat (first | refine kN ?_ _ | refine kD ?_ | refine kA ?_ _)); exact BK420.out)) : gb451 ≠ gb420)); clear HO_8; clear HO_11; clear HO450; clear BK420; clear HB; have HO_8 := n0_; have HO_11 := n1_; have HO450 := n2_; have BK420 := n3_; have HB := n4_; have BK451 := n5_; have GW451 := n6_; have GE451 := n7_; have NB420_451 := n8_; have NB451_420 := n9_; clear n0_ n1_ n2_ n3_ n4_ n5_ n6_ n7_ n8_ n9_; clear hb hbox hg; have hnb55 := NB451_420.out; have hnc55 := NB420_451.out; obtain ⟨hcz56_0, hcz56_1, hcz56_2, hcz56_3, hcz56_4⟩ := blk_c5 BK451.out; obtain ⟨hfz56_0, hfz56_1, hfz56_2, hfz56_3, hfz56_4⟩ := blk_f5 BK451.out; obtain ⟨Ao57, co57, eo57⟩ := Kd.R_slice HO450.out; subst eo57) | (go_at_call 30; (with_reducible refine (impl_ClearText.calls k3 t442 t443 t444 t445 t446 t447 _ _ t448 t452 true _ ?side1 ?side2 A45.out).mono ?_); (case side1 => refine (Kd.R_reads' (e := 3) (base := w.heap.size) (ok := fun k_ => True) (n := t448.length) (c := co57) ?_).2.2; exact (by (with_reducible repeat (first | apply rA | apply rN | apply rD)); exact (rM (rF (p := ⟨gb451, 4, none⟩) (rF (p := ⟨gb451, 3, none⟩) (rF (p := ⟨gb451, 2, none⟩) (rF (p := ⟨gb451, 1, none⟩) (rF (p := ⟨gb451, 0, none⟩) (Kd.R_types HO450.out BK451.out (by decide)) (fun _ hk => hk.2) (.int .i64 t442)) (fun _ hk => hk.2) (.int .i64 t443)) (fun _ hk => hk.2) (.int .i64 t444)) (fun _ hk => hk.2) (.int .i64 t445)) (fun _ hk => hk.2) (.bool t446)) (fun _ h_ => h_.1)))); (case side2 => exact (Kd.R_reads' HO450.out).2.1); rintro e w58 ⟨rfl, hb⟩; have n0_ := aM (rB (by (with_reducible repeat (first | apply rA | apply rN | apply rD)); exact (rM (rF (p := ⟨gb451, 4, none⟩) (rF (p := ⟨gb451, 3, none⟩) (rF (p := ⟨gb451, 2, none⟩) (rF (p := ⟨gb451, 1, none⟩) (rF (p := ⟨gb451, 0, none⟩) (Kd.R_types HO_8.out BK451.out (by decide)) (fun _ hk => hk.2) (.int .i64 t442)) (fun _ hk => hk.2) (.int .i64 t443)) (fun _ hk => hk.2) (.int .i64 t444)) (fun _ hk => hk.2) (.int .i64 t445)) (fun _ hk => hk.2) (.bool t446)) (fun _ h_ => h_.1))) hb); have n1_ := aM (rB (by (with_reducible repeat (first | apply rA | apply rN | apply rD)); exact (rM (rF (p := ⟨gb451, 4, none⟩) (rF (p := ⟨gb451, 3, none⟩) (rF (p := ⟨gb451, 2, none⟩) (rF (p := ⟨gb451, 1, none⟩) (rF (p := ⟨gb451, 0, none⟩) (Kd.R_types HO_11.out BK451.out (by decide)) (fun _ hk => hk.2) (.int .i64 t442)) (fun _ hk => hk.2) (.int .i64 t443)) (fun _ hk => hk.2) (.int .i64 t444)) (fun _ hk => hk.2) (.int .i64 t445)) (fun _ hk => hk.2) (.bool t446)) (fun _ h_ => h_.1))) hb); have n2_ := aM (rB (by (with_reducible repeat (first | apply rA | apply rN | apply rD)); exact (rM (rF (p := ⟨gb451, 4, none⟩) (rF (p := ⟨gb451, 3, none⟩) (rF (p := ⟨gb451, 2, none⟩) (rF (p := ⟨gb451, 1, none⟩) (rF (p := ⟨gb451, 0, none⟩) (Kd.R_types HO450.out BK451.out (by decide)) (fun _ hk => hk.2) (.int .i64 t442)) (fun _ hk => hk.2) (.int .i64 t443)) (fun _ hk => hk.2) (.int .i64 t444)) (fun _ hk => hk.2) (.int .i64 t445)) (fun _ hk => hk.2) (.bool t446)) (fun _ h_ => h_.1))) hb); have n3_ := aM (kB (g := gb420) (o := .cells #[.int .i64 t415, .int .i64 t416, .int .i64 t417, .int .i64 t418, .bool t419] 39 (0, 0)) (by (with_reducible repeat (first | refine kN ?_ _ | refine kD ?_ | refine kA ?_ _)); refine kF ?_ NB420_451.out _; (with_reducible repeat (first | refine kN ?_ _ | refine kD ?_ | refine kA ?_ _)); refine kF ?_ NB420_451.out _; (with_reducible repeat (first | refine kN ?_ _ | refine kD ?_ | refine kA ?_ _)); refine kF ?_ NB420_451.out _; (with_reducible repeat (first | refine kN ?_ _ | refine kD ?_ | refine kA ?_ _)); refine kF ?_ NB420_451.out _; (with_reducible repeat (first | refine kN ?_ _ | refine kD ?_ | refine kA ?_ _)); refine kF ?_ NB420_451.out _; (with_reducible repeat (first | refine kN ?_ _ | refine kD ?_ | refine kA ?_ _)); exact BK420.out) hb); have n4_ := aM (kB (g := gb451) (o := .cells #[.int .i64 t442, .int .i64 t443, .int .i64 t444, .int .i64 t445, .bool t446] 39 (0, 0)) (by (with_reducible repeat (first | refine kN ?_ _ | refine kD ?_ | refine kA ?_ _)); refine blk_put (cs := #[.int .i64 t442, .int .i64 t443, .int .i64 t444, .int .i64 t445, .bool false]) ?_ 4 _ rfl; (with_reducible repeat (first | refine kN ?_ _ | refine kD ?_ | refine kA ?_ _)); refine blk_put (cs := #[.int .i64 t442, .int .i64 t443, .int .i64 t444, .int .i64 0, .bool false]) ?_ 3 _ rfl; (with_reducible repeat (first | refine kN ?_ _ | refine kD ?_ | refine kA ?_ _)); refine blk_put (cs := #[.int .i64 t442, .int .i64 t443, .int .i64 0, .int .i64 0, .bool false]) ?_ 2 _ rfl; (with_reducible repeat (first | refine kN ?_ _ | refine kD ?_ | refine kA ?_ _)); refine blk_put (cs := #[.int .i64 t442, .int .i64 0, .int .i64 0, .int .i64 0, .bool false]) ?_ 1 _ rfl; (with_reducible repeat (first | refine kN ?_ _ | refine kD ?_ | refine kA ?_ _)); refine blk_put (cs := #[.int .i64 0, .int .i64 0, .int .i64 0, .int .i64 0, .bool false]) ?_ 0 _ rfl; (with_reducible repeat (first | refine kN ?_ _ | refine kD ?_ | refine kA ?_ _)); exact BK451.out) hb); have n5_ := aM (bT (by repeat (first | (with_reducible first | exact HB.out | apply bA | apply bN | apply bE | refine bS ?_ GE420.out | refine bS ?_ GE451.out) | exact HB.out)) hb); clear HO_8; clear HO_11; clear HO450; clear BK420; clear BK451; clear HB; have HO_8 := n0_; have HO_11 := n1_; have HO450 := n2_; have BK420 := n3_; have BK451 := n4_; have HB := n5_; clear n0_ n1_ n2_ n3_ n4_ n5_; (try clear hb); (try clear hb2); (try clear hk); (try clear hi); obtain ⟨hcz59_0, hcz59_1, hcz59_2, hcz59_3, hcz59_4⟩ := blk_c5 BK451.out; obtain ⟨hfz59_0, hfz59_1, hfz59_2, hfz59_3, hfz59_4⟩ := blk_f5 BK451.out) | (go_at_call 31; (with_reducible refine (spec_ClearText.calls k3 t442 t443 t444 t445 t446 t447 _ _ t448 t454 t455 _ ?side1 ?side2 A46.out).mono ?_); (case side1 => repeat (first | exact (Kd.R_reads' HO450.out).2.2 | (with_reducible refine cA ?_ _) | (with_reducible refine cN ?_ _) | (with_reducible refine cD ?_))); (case side2 => exact (Kd.R_reads' HO450.out).2.1); rintro e w60 ⟨rfl, hb⟩; have n0_ := aM (rB (by (with_reducible repeat (first | apply rA | apply rN | apply rD)); exact HO_8.out) hb); have n1_ := aM (rB (by (with_reducible repeat (first | apply rA | apply rN | apply rD)); exact HO_11.out) hb); have n2_ := aM (rB (by (with_reducible repeat (first | apply rA | apply rN | apply rD)); exact HO450.out) hb); have n3_ := aM (kB (g := gb420) (o := .cells #[.int .i64 t415, .int .i64 t416, .int .i64 t417, .int .i64 t418, .bool t419] 39 (0, 0)) (by (with_reducible repeat (first | refine kN ?_ _ | refine kD ?_ | refine kA ?_ _)); exact BK420.out) hb); have n4_ := aM (kB (g := gb451) (o := .cells #[.int .i64 t442, .int .i64 t443, .int .i64 t444, .int .i64 t445, .bool t446] 39 (0, 0)) (by (with_reducible repeat (first | refine kN ?_ _ | refine kD ?_ | refine kA ?_ _)); exact BK451.out) hb); have n5_ := aM (bT (by repeat (first | (with_reducible first | exact HB.out | apply bA | apply bN | apply bE | refine bS ?_ GE420.out | refine bS ?_ GE451.out) | exact HB.out)) hb); clear HO_8; clear HO_11; clear HO450; clear BK420; clear BK451; clear HB; have HO_8 := n0_; have HO_11 := n1_; have HO450 := n2_; have BK420 := n3_; have BK451 := n4_; have HB := n5_; clear n0_ n1_ n2_ n3_ n4_ n5_; (try clear hb); (try clear hb2); (try clear hk); (try clear hi); obtain ⟨hcz61_0, hcz61_1, hcz61_2, hcz61_3, hcz61_4⟩ := blk_c5 BK451.out; obtain ⟨hfz61_0, hfz61_1, hfz61_2, hfz61_3, hfz61_4⟩ := blk_f5 BK451.out) | (go_at_call 32; (with_reducible refine (impl_ReadClear.calls k3 t442 t443 t444 t445 t446 t447 t452 t456 true _ A48.out).mono ?_); rintro e w62 ⟨v457, rfl, ho0, hb⟩; have n0_ := aM (rB (by (with_reducible repeat (first | apply rA | apply rN | apply rD)); exact HO_8.out) hb); have n1_ := aM (rB (by (with_reducible repeat (first | apply rA | apply rN | apply rD)); exact HO_11.out) hb); have n2_ := aM (Kd.R_elder' (by (with_reducible repeat (first | apply rA | apply rN | apply rD)); exact HO450.out) (Kd.R_base ho0) hb); have n3_ := aM (Kd.R_lower (Kd.R_new' ho0 (Kd.R_lt (by (with_reducible repeat (first | apply rA | apply rN | apply rD)); exact HO450.out))) (bZ (by repeat (first | (with_reducible first | exact HB.out | apply bA | apply bN | apply bE | refine bS ?_ GE420.out | refine bS ?_ GE451.out) | exact HB.out)))); have n4_ := aM (kB (g := gb420) (o := .cells #[.int .i64 t415, .int .i64 t416, .int .i64 t417, .int .i64 t418, .bool t419] 39 (0, 0)) (by (with_reducible repeat (first | refine kN ?_ _ | refine kD ?_ | refine kA ?_ _)); exact BK420.out) hb); have n5_ := aM (kB (g := gb451) (o := .cells #[.int .i64 t442, .int .i64 t443, .int .i64 t444, .int .i64 t445, .bool t446] 39 (0, 0)) (by (with_reducible repeat (first | refine kN ?_ _ | refine kD ?_ | refine kA ?_ _)); exact BK451.out) hb); have n6_ := aM (bT (by repeat (first | (with_reducible first | exact HB.out | apply bA | apply bN | apply bE | refine bS ?_ GE420.out | refine bS ?_ GE451.out) | exact HB.out)) hb); clear HO_8; clear HO_11; clear HO450; clear BK420; clear BK451; clear HB; have HO_8 := n0_; have HO_11 := n1_; have HO450 := n2_; have HO458 := n3_; have BK420 := n4_; have BK451 := n5_; have HB := n6_; clear n0_ n1_ n2_ n3_ n4_ n5_ n6_; (try clear hb); (try clear hb2); (try clear hk); (try clear hi); (try clear ho0); obtain ⟨Ao63, co63, eo63⟩ := Kd.R_slice HO458.out; subst eo63) | (go_at_call 33; (with_reducible refine (laws_sameInts.calls k3 _ _ t456 _ _ t448 t460 _ ?side1 ?side2 ?side3 ?side4 A51.out).mono ?_); (case side1 => repeat (first | exact (Kd.R_reads' HO458.out).2.2 | (with_reducible refine cA ?_ _) | (with_reducible refine cN ?_ _) | (with_reducible refine cD ?_))); (case side2 => exact (Kd.R_reads' HO458.out).2.1); (case side3 => repeat (first | exact (Kd.R_reads' HO450.out).2.2 | (with_reducible refine cA ?_ _) | (with_reducible refine cN ?_ _) | (with_reducible refine cD ?_))); (case side4 => exact (Kd.R_reads' HO450.out).2.1); rintro e w' ⟨rfl, ⟨nd, rfl⟩⟩; (try first | exact ⟨rfl, _, World.drewN_drewN _ _ _⟩ | exact ⟨rfl, _, Eq.trans (World.drewN_drewN _ _ _) (congrArg (World.drewN _) (Nat.add_assoc _ _ _))⟩))))
              go_ret
              exact ⟨by first | rfl | (simp [errW_none, errW_some] <;> rfl) | (simp [*, errW_none, errW_some] <;> rfl), by repeat (first | (with_reducible first | exact HB.out | apply bA | apply bN | apply bE | refine bS ?_ GE420.out | refine bS ?_ GE451.out) | exact HB.out)⟩
             ·replace c50 := Bool.eq_false_iff.mpr c50
              subst c50
              have H1 : (some false) = some r := by rw [if_neg (show ¬ (false = true) by decide)] at H; first | done | exact H
              clear H
              have H := H1
              clear H1
              exact absurd ((Option.some.inj H).trans hrt) (by decide)
            ·replace c49 := Bool.eq_false_iff.mpr c49
             subst c49
             have H1 : (some true) = some r := by rw [if_neg (show ¬ (false = true) by decide)] at H; first | done | exact H
             clear H
             have H := H1
             clear H1
             clear hrt
             obtain rfl := Option.some.inj H
             obtain ⟨Ao64, co64, eo64⟩ := Kd.R_slice HO_11.out
             subst eo64
             go_wp2_with (first | (go_at_call 29; (with_reducible refine (spec_DrawClearText.calls k3 _ _ l0 t442 t443 t444 t445 t446 t447 t448 _ ?side1 ?side2 A44.out).mono ?_); (case side1 => repeat (first | exact (Kd.C_below HR0.out HB.out) | (with_reducible refine cA ?_ _) | (with_reducible refine cN ?_ _) | (with_reducible refine cD ?_))); (case side2 => exact HC0.out); rintro e w65 ⟨v449, rfl, ho0, hb⟩; have n0_ := aM (rB (by (with_reducible repeat (first | apply rA | apply rN | apply rD)); exact HO_8.out) hb); have n1_ := aM (rB (by (with_reducible repeat (first | apply rA | apply rN | apply rD)); exact HO_11.out) hb); have n2_ := aM (Kd.R_lower ho0 (bZ (by repeat (first | (with_reducible first | exact HB.out | apply bA | apply bN | apply bE | refine bS ?_ GE420.out) | exact HB.out)))); have n3_ := aM (kB (g := gb420) (o := .cells #[.int .i64 t415, .int .i64 t416, .int .i64 t417, .int .i64 t418, .bool t419] 39 (0, 0)) (by (with_reducible repeat (first | refine kN ?_ _ | refine kD ?_ | refine kA ?_ _)); exact BK420.out) hb); have n4_ := aM (bT (by repeat (first | (with_reducible first | exact HB.out | apply bA | apply bN | apply bE | refine bS ?_ GE420.out) | exact HB.out)) hb); clear HO_8; clear HO_11; clear BK420; clear HB; have HO_8 := n0_; have HO_11 := n1_; have HO450 := n2_; have BK420 := n3_; have HB := n4_; clear n0_ n1_ n2_ n3_ n4_; (try clear hb); (try clear hb2); (try clear hk); (try clear hi); (try clear ho0)) | ((with_reducible refine gate_dst (N := 14) rfl ?_); (try (refine gate_guard (by rfl) ?_; dsimp only)); refine box_event ?hg (N := 14) ?hd (cs := #[.int .i64 0, .int .i64 0, .int .i64 0, .int .i64 0, .bool false]) (t := 39) ?hr ?_; (case hd => rfl); (case hg => rfl); (case hr => first | (go_simp; done) | (go_simp; rfl)); intro gb451 hg w66 hbox hb; have n0_ := aM (rB (by (with_reducible repeat (first | apply rA | apply rN | apply rD)); exact HO_8.out) hb); have n1_ := aM (rB (by (with_reducible repeat (first | apply rA | apply rN | apply rD)); exact HO_11.out) hb); have n2_ := aM (rB (by (with_reducible repeat (first | apply rA | apply rN | apply rD)); exact HO450.out) hb); have n3_ := aM (kB (g := gb420) (o := .cells #[.int .i64 t415, .int .i64 t416, .int .i64 t417, .int .i64 t418, .bool t419] 39 (0, 0)) (by (with_reducible repeat (first | refine kN ?_ _ | refine kD ?_ | refine kA ?_ _)); exact BK420.out) hb); have n4_ := aM (bT (by repeat (first | (with_reducible first | exact HB.out | apply bA | apply bN | apply bE | refine bS ?_ GE420.out) | exact HB.out)) hb); have n5_ := aM (hbox); have n6_ := aM ((by rw [hg]; exact (bZ (by repeat (first | (with_reducible first | exact HB.out | apply bA | apply bN | apply bE | refine bS ?_ GE420.out) | exact HB.out))) : w.heap.size ≤ gb451)); have n7_ := aM ((by rw [hg]; exact (bZ (by repeat (first | (with_reducible first | exact HB.out | apply bA | apply bN | apply bE | refine bS ?_ GE420.out) | exact HB.out))) : w.heap.size ≤ gb451)); have n8_ := aM ((by rw [hg]; exact Nat.ne_of_lt (blk_lt (g := gb420) (o := .cells #[.int .i64 t415, .int .i64 t416, .int .i64 t417, .int .i64 t418, .bool t419] 39 (0, 0)) (by (with_reducible repeat (first | refine kN ?_ _ | refine kD ?_ | refine kA ?_ _)); exact BK420.out)) : gb420 ≠ gb451)); have n9_ := aM ((by rw [hg]; exact Nat.ne_of_gt (blk_lt (g := gb420) (o := .cells #[.int .i64 t415, .int .i64 t416, .int .i64 t417, .int .i64 t418, .bool t419] 39 (0, 0)) (by (with_reducible repeat (first | refine kN ?_ _ | refine kD ?_ | refine kA ?_ _)); exact BK420.out)) : gb451 ≠ gb420)); clear HO_8; clear HO_11; clear HO450; clear BK420; clear HB; have HO_8 := n0_; have HO_11 := n1_; have HO450 := n2_; have BK420 := n3_; have HB := n4_; have BK451 := n5_; have GW451 := n6_; have GE451 := n7_; have NB420_451 := n8_; have NB451_420 := n9_; clear n0_ n1_ n2_ n3_ n4_ n5_ n6_ n7_ n8_ n9_; clear hb hbox hg; have hnb67 := NB451_420.out; have hnc67 := NB420_451.out; obtain ⟨hcz68_0, hcz68_1, hcz68_2, hcz68_3, hcz68_4⟩ := blk_c5 BK451.out; obtain ⟨hfz68_0, hfz68_1, hfz68_2, hfz68_3, hfz68_4⟩ := blk_f5 BK451.out; obtain ⟨Ao69, co69, eo69⟩ := Kd.R_slice HO450.out; subst eo69) | (go_at_call 30; (with_reducible refine (impl_ClearText.calls k3 t442 t443 t444 t445 t446 t447 _ _ t448 t452 false _ ?side1 ?side2 A45.out).mono ?_); (case side1 => refine (Kd.R_reads' (e := 3) (base := w.heap.size) (ok := fun k_ => True) (n := t448.length) (c := co69) ?_).2.2; exact (by (with_reducible repeat (first | apply rA | apply rN | apply rD)); exact (rM (rF (p := ⟨gb451, 4, none⟩) (rF (p := ⟨gb451, 3, none⟩) (rF (p := ⟨gb451, 2, none⟩) (rF (p := ⟨gb451, 1, none⟩) (rF (p := ⟨gb451, 0, none⟩) (Kd.R_types HO450.out BK451.out (by decide)) (fun _ hk => hk.2) (.int .i64 t442)) (fun _ hk => hk.2) (.int .i64 t443)) (fun _ hk => hk.2) (.int .i64 t444)) (fun _ hk => hk.2) (.int .i64 t445)) (fun _ hk => hk.2) (.bool t446)) (fun _ h_ => h_.1)))); (case side2 => exact (Kd.R_reads' HO450.out).2.1); rintro e w70 ⟨rfl, hb⟩; have n0_ := aM (rB (by (with_reducible repeat (first | apply rA | apply rN | apply rD)); exact (rM (rF (p := ⟨gb451, 4, none⟩) (rF (p := ⟨gb451, 3, none⟩) (rF (p := ⟨gb451, 2, none⟩) (rF (p := ⟨gb451, 1, none⟩) (rF (p := ⟨gb451, 0, none⟩) (Kd.R_types HO_8.out BK451.out (by decide)) (fun _ hk => hk.2) (.int .i64 t442)) (fun _ hk => hk.2) (.int .i64 t443)) (fun _ hk => hk.2) (.int .i64 t444)) (fun _ hk => hk.2) (.int .i64 t445)) (fun _ hk => hk.2) (.bool t446)) (fun _ h_ => h_.1))) hb); have n1_ := aM (rB (by (with_reducible repeat (first | apply rA | apply rN | apply rD)); exact (rM (rF (p := ⟨gb451, 4, none⟩) (rF (p := ⟨gb451, 3, none⟩) (rF (p := ⟨gb451, 2, none⟩) (rF (p := ⟨gb451, 1, none⟩) (rF (p := ⟨gb451, 0, none⟩) (Kd.R_types HO_11.out BK451.out (by decide)) (fun _ hk => hk.2) (.int .i64 t442)) (fun _ hk => hk.2) (.int .i64 t443)) (fun _ hk => hk.2) (.int .i64 t444)) (fun _ hk => hk.2) (.int .i64 t445)) (fun _ hk => hk.2) (.bool t446)) (fun _ h_ => h_.1))) hb); have n2_ := aM (rB (by (with_reducible repeat (first | apply rA | apply rN | apply rD)); exact (rM (rF (p := ⟨gb451, 4, none⟩) (rF (p := ⟨gb451, 3, none⟩) (rF (p := ⟨gb451, 2, none⟩) (rF (p := ⟨gb451, 1, none⟩) (rF (p := ⟨gb451, 0, none⟩) (Kd.R_types HO450.out BK451.out (by decide)) (fun _ hk => hk.2) (.int .i64 t442)) (fun _ hk => hk.2) (.int .i64 t443)) (fun _ hk => hk.2) (.int .i64 t444)) (fun _ hk => hk.2) (.int .i64 t445)) (fun _ hk => hk.2) (.bool t446)) (fun _ h_ => h_.1))) hb); have n3_ := aM (kB (g := gb420) (o := .cells #[.int .i64 t415, .int .i64 t416, .int .i64 t417, .int .i64 t418, .bool t419] 39 (0, 0)) (by (with_reducible repeat (first | refine kN ?_ _ | refine kD ?_ | refine kA ?_ _)); refine kF ?_ NB420_451.out _; (with_reducible repeat (first | refine kN ?_ _ | refine kD ?_ | refine kA ?_ _)); refine kF ?_ NB420_451.out _; (with_reducible repeat (first | refine kN ?_ _ | refine kD ?_ | refine kA ?_ _)); refine kF ?_ NB420_451.out _; (with_reducible repeat (first | refine kN ?_ _ | refine kD ?_ | refine kA ?_ _)); refine kF ?_ NB420_451.out _; (with_reducible repeat (first | refine kN ?_ _ | refine kD ?_ | refine kA ?_ _)); refine kF ?_ NB420_451.out _; (with_reducible repeat (first | refine kN ?_ _ | refine kD ?_ | refine kA ?_ _)); exact BK420.out) hb); have n4_ := aM (kB (g := gb451) (o := .cells #[.int .i64 t442, .int .i64 t443, .int .i64 t444, .int .i64 t445, .bool t446] 39 (0, 0)) (by (with_reducible repeat (first | refine kN ?_ _ | refine kD ?_ | refine kA ?_ _)); refine blk_put (cs := #[.int .i64 t442, .int .i64 t443, .int .i64 t444, .int .i64 t445, .bool false]) ?_ 4 _ rfl; (with_reducible repeat (first | refine kN ?_ _ | refine kD ?_ | refine kA ?_ _)); refine blk_put (cs := #[.int .i64 t442, .int .i64 t443, .int .i64 t444, .int .i64 0, .bool false]) ?_ 3 _ rfl; (with_reducible repeat (first | refine kN ?_ _ | refine kD ?_ | refine kA ?_ _)); refine blk_put (cs := #[.int .i64 t442, .int .i64 t443, .int .i64 0, .int .i64 0, .bool false]) ?_ 2 _ rfl; (with_reducible repeat (first | refine kN ?_ _ | refine kD ?_ | refine kA ?_ _)); refine blk_put (cs := #[.int .i64 t442, .int .i64 0, .int .i64 0, .int .i64 0, .bool false]) ?_ 1 _ rfl; (with_reducible repeat (first | refine kN ?_ _ | refine kD ?_ | refine kA ?_ _)); refine blk_put (cs := #[.int .i64 0, .int .i64 0, .int .i64 0, .int .i64 0, .bool false]) ?_ 0 _ rfl; (with_reducible repeat (first | refine kN ?_ _ | refine kD ?_ | refine kA ?_ _)); exact BK451.out) hb); have n5_ := aM (bT (by repeat (first | (with_reducible first | exact HB.out | apply bA | apply bN | apply bE | refine bS ?_ GE420.out | refine bS ?_ GE451.out) | exact HB.out)) hb); clear HO_8; clear HO_11; clear HO450; clear BK420; clear BK451; clear HB; have HO_8 := n0_; have HO_11 := n1_; have HO450 := n2_; have BK420 := n3_; have BK451 := n4_; have HB := n5_; clear n0_ n1_ n2_ n3_ n4_ n5_; (try clear hb); (try clear hb2); (try clear hk); (try clear hi); obtain ⟨hcz71_0, hcz71_1, hcz71_2, hcz71_3, hcz71_4⟩ := blk_c5 BK451.out; obtain ⟨hfz71_0, hfz71_1, hfz71_2, hfz71_3, hfz71_4⟩ := blk_f5 BK451.out) | (go_at_call 31; (with_reducible refine (spec_ClearText.calls k3 t442 t443 t444 t445 t446 t447 _ _ t448 t454 t455 _ ?side1 ?side2 A46.out).mono ?_); (case side1 => repeat (first | exact (Kd.R_reads' HO450.out).2.2 | (with_reducible refine cA ?_ _) | (with_reducible refine cN ?_ _) | (with_reducible refine cD ?_))); (case side2 => exact (Kd.R_reads' HO450.out).2.1); rintro e w72 ⟨rfl, hb⟩; have n0_ := aM (rB (by (with_reducible repeat (first | apply rA | apply rN | apply rD)); exact HO_8.out) hb); have n1_ := aM (rB (by (with_reducible repeat (first | apply rA | apply rN | apply rD)); exact HO_11.out) hb); have n2_ := aM (rB (by (with_reducible repeat (first | apply rA | apply rN | apply rD)); exact HO450.out) hb); have n3_ := aM (kB (g := gb420) (o := .cells #[.int .i64 t415, .int .i64 t416, .int .i64 t417, .int .i64 t418, .bool t419] 39 (0, 0)) (by (with_reducible repeat (first | refine kN ?_ _ | refine kD ?_ | refine kA ?_ _)); exact BK420.out) hb); have n4_ := aM (kB (g := gb451) (o := .cells #[.int .i64 t442, .int .i64 t443, .int .i64 t444, .int .i64 t445, .bool t446] 39 (0, 0)) (by (with_reducible repeat (first | refine kN ?_ _ | refine kD ?_ | refine kA ?_ _)); exact BK451.out) hb); have n5_ := aM (bT (by repeat (first | (with_reducible first | exact HB.out | apply bA | apply bN | apply bE | refine bS ?_ GE420.out | refine bS ?_ GE451.out) | exact HB.out)) hb); clear HO_8; clear HO_11; clear HO450; clear BK420; clear BK451; clear HB; have HO_8 := n0_; have HO_11 := n1_; have HO450 := n2_; have BK420 := n3_; have BK451 := n4_; have HB := n5_; clear n0_ n1_ n2_ n3_ n4_ n5_; (try clear hb); (try clear hb2); (try clear hk); (try clear hi); obtain ⟨hcz73_0, hcz73_1, hcz73_2, hcz73_3, hcz73_4⟩ := blk_c5 BK451.out; obtain ⟨hfz73_0, hfz73_1, hfz73_2, hfz73_3, hfz73_4⟩ := blk_f5 BK451.out) | (go_at_call 32; (with_reducible refine (impl_ReadClear.calls k3 t442 t443 t444 t445 t446 t447 t452 t456 t459 _ A48.out).mono ?_); rintro e w74 ⟨v457, rfl, ho0, hb⟩; have n0_ := aM (rB (by (with_reducible repeat (first | apply rA | apply rN | apply rD)); exact HO_8.out) hb); have n1_ := aM (rB (by (with_reducible repeat (first | apply rA | apply rN | apply rD)); exact HO_11.out) hb); have n2_ := aM (Kd.R_elder' (by (with_reducible repeat (first | apply rA | apply rN | apply rD)); exact HO450.out) (Kd.R_base ho0) hb); have n3_ := aM (Kd.R_lower (Kd.R_new' ho0 (Kd.R_lt (by (with_reducible repeat (first | apply rA | apply rN | apply rD)); exact HO450.out))) (bZ (by repeat (first | (with_reducible first | exact HB.out | apply bA | apply bN | apply bE | refine bS ?_ GE420.out | refine bS ?_ GE451.out) | exact HB.out)))); have n4_ := aM (kB (g := gb420) (o := .cells #[.int .i64 t415, .int .i64 t416, .int .i64 t417, .int .i64 t418, .bool t419] 39 (0, 0)) (by (with_reducible repeat (first | refine kN ?_ _ | refine kD ?_ | refine kA ?_ _)); exact BK420.out) hb); have n5_ := aM (kB (g := gb451) (o := .cells #[.int .i64 t442, .int .i64 t443, .int .i64 t444, .int .i64 t445, .bool t446] 39 (0, 0)) (by (with_reducible repeat (first | refine kN ?_ _ | refine kD ?_ | refine kA ?_ _)); exact BK451.out) hb); have n6_ := aM (bT (by repeat (first | (with_reducible first | exact HB.out | apply bA | apply bN | apply bE | refine bS ?_ GE420.out | refine bS ?_ GE451.out) | exact HB.out)) hb); clear HO_8; clear HO_11; clear HO450; clear BK420; clear BK451; clear HB; have HO_8 := n0_; have HO_11 := n1_; have HO450 := n2_; have HO458 := n3_; have BK420 := n4_; have BK451 := n5_; have HB := n6_; clear n0_ n1_ n2_ n3_ n4_ n5_ n6_; (try clear hb); (try clear hb2); (try clear hk); (try clear hi); (try clear ho0)))
             repeat (go_quiet (first | (go_at_call 29; (with_reducible refine (spec_DrawClearText.calls k3 _ _ l0 t442 t443 t444 t445 t446 t447 t448 _ ?side1 ?side2 A44.out).mono ?_); (case side1 => repeat (first | exact (Kd.C_below HR0.out HB.out) | (with_reducible refine cA ?_ _) | (with_reducible refine cN ?_ _) | (with_reducible refine cD ?_))); (case side2 => exact HC0.out); rintro e w65 ⟨v449, rfl, ho0, hb⟩; have n0_ := aM (rB (by (with_reducible repeat (first | apply rA | apply rN | apply rD)); exact HO_8.out) hb); have n1_ := aM (rB (by (with_reducible repeat (first | apply rA | apply rN | apply rD)); exact HO_11.out) hb); have n2_ := aM (Kd.R_lower ho0 (bZ (by repeat (first | (with_reducible first | exact HB.out | apply bA | apply bN | apply bE | refine bS ?_ GE420.out) | exact HB.out)))); have n3_ := aM (kB (g := gb420) (o := .cells #[.int .i64 t415, .int .i64 t416, .int .i64 t417, .int .i64 t418, .bool t419] 39 (0, 0)) (by (with_reducible repeat (first | refine kN ?_ _ | refine kD ?_ | refine kA ?_ _)); exact BK420.out) hb); have n4_ := aM (bT (by repeat (first | (with_reducible first | exact HB.out | apply bA | apply bN | apply bE | refine bS ?_ GE420.out) | exact HB.out)) hb); clear HO_8; clear HO_11; clear BK420; clear HB; have HO_8 := n0_; have HO_11 := n1_; have HO450 := n2_; have BK420 := n3_; have HB := n4_; clear n0_ n1_ n2_ n3_ n4_; (try clear hb); (try clear hb2); (try clear hk); (try clear hi); (try clear ho0)) | ((with_reducible refine gate_dst (N := 14) rfl ?_); (try (refine gate_guard (by rfl) ?_; dsimp only)); refine box_event ?hg (N := 14) ?hd (cs := #[.int .i64 0, .int .i64 0, .int .i64 0, .int .i64 0, .bool false]) (t := 39) ?hr ?_; (case hd => rfl); (case hg => rfl); (case hr => first | (go_simp; done) | (go_simp; rfl)); intro gb451 hg w66 hbox hb; have n0_ := aM (rB (by (with_reducible repeat (first | apply rA | apply rN | apply rD)); exact HO_8.out) hb); have n1_ := aM (rB (by (with_reducible repeat (first | apply rA | apply rN | apply rD)); exact HO_11.out) hb); have n2_ := aM (rB (by (with_reducible repeat (first | apply rA | apply rN | apply rD)); exact HO450.out) hb); have n3_ := aM (kB (g := gb420) (o := .cells #[.int .i64 t415, .int .i64 t416, .int .i64 t417, .int .i64 t418, .bool t419] 39 (0, 0)) (by (with_reducible repeat (first | refine kN ?_ _ | refine kD ?_ | refine kA ?_ _)); exact BK420.out) hb); have n4_ := aM (bT (by repeat (first | (with_reducible first | exact HB.out | apply bA | apply bN | apply bE | refine bS ?_ GE420.out) | exact HB.out)) hb); have n5_ := aM (hbox); have n6_ := aM ((by rw [hg]; exact (bZ (by repeat (first | (with_reducible first | exact HB.out | apply bA | apply bN | apply bE | refine bS ?_ GE420.out) | exact HB.out))) : w.heap.size ≤ gb451)); have n7_ := aM ((by rw [hg]; exact (bZ (by repeat (first | (with_reducible first | exact HB.out | apply bA | apply bN | apply bE | refine bS ?_ GE420.out) | exact HB.out))) : w.heap.size ≤ gb451)); have n8_ := aM ((by rw [hg]; exact Nat.ne_of_lt (blk_lt (g := gb420) (o := .cells #[.int .i64 t415, .int .i64 t416, .int .i64 t417, .int .i64 t418, .bool t419] 39 (0, 0)) (by (with_reducible repeat (first | refine kN ?_ _ | refine kD ?_ | refine kA ?_ _)); exact BK420.out)) : gb420 ≠ gb451)); have n9_ := aM ((by rw [hg]; exact Nat.ne_of_gt (blk_lt (g := gb420) (o := .cells #[.int .i64 t415, .int .i64 t416, .int .i64 t417, .int .i64 t418, .bool t419] 39 (0, 0)) (by (with_reducible repeat (first | refine kN ?_ _ | refine kD ?_ | refine kA ?_ _)); exact BK420.out)) : gb451 ≠ gb420)); clear HO_8; clear HO_11; clear HO450; clear BK420; clear HB; have HO_8 := n0_; have HO_11 := n1_; have HO450 := n2_; have BK420 := n3_; have HB := n4_; have BK451 := n5_; have GW451 := n6_; have GE451 := n7_; have NB420_451 := n8_; have NB451_420 := n9_; clear n0_ n1_ n2_ n3_ n4_ n5_ n6_ n7_ n8_ n9_; clear hb hbox hg; have hnb67 := NB451_420.out; have hnc67 := NB420_451.out; obtain ⟨hcz68_0, hcz68_1, hcz68_2, hcz68_3, hcz68_4⟩ := blk_c5 BK451.out; obtain ⟨hfz68_0, hfz68_1, hfz68_2, hfz68_3, hfz68_4⟩ := blk_f5 BK451.out; obtain ⟨Ao69, co69, eo69⟩ := Kd.R_slice HO450.out; subst eo69) | (go_at_call 30; (with_reducible refine (impl_ClearText.calls k3 t442 t443 t444 t445 t446 t447 _ _ t448 t452 false _ ?side1 ?side2 A45.out).mono ?_); (case side1 => refine (Kd.R_reads' (e := 3) (base := w.heap.size) (ok := fun k_ => True) (n := t448.length) (c := co69) ?_).2.2; exact (by (with_reducible repeat (first | apply rA | apply rN | apply rD)); exact (rM (rF (p := ⟨gb451, 4, none⟩) (rF (p := ⟨gb451, 3, none⟩) (rF (p := ⟨gb451, 2, none⟩) (rF (p := ⟨gb451, 1, none⟩) (rF (p := ⟨gb451, 0, none⟩) (Kd.R_types HO450.out BK451.out (by decide)) (fun _ hk => hk.2) (.int .i64 t442)) (fun _ hk => hk.2) (.int .i64 t443)) (fun _ hk => hk.2) (.int .i64 t444)) (fun _ hk => hk.2) (.int .i64 t445)) (fun _ hk => hk.2) (.bool t446)) (fun _ h_ => h_.1)))); (case side2 => exact (Kd.R_reads' HO450.out).2.1); rintro e w70 ⟨rfl, hb⟩; have n0_ := aM (rB (by (with_reducible repeat (first | apply rA | apply rN | apply rD)); exact (rM (rF (p := ⟨gb451, 4, none⟩) (rF (p := ⟨gb451, 3, none⟩) (rF (p := ⟨gb451, 2, none⟩) (rF (p := ⟨gb451, 1, none⟩) (rF (p := ⟨gb451, 0, none⟩) (Kd.R_types HO_8.out BK451.out (by decide)) (fun _ hk => hk.2) (.int .i64 t442)) (fun _ hk => hk.2) (.int .i64 t443)) (fun _ hk => hk.2) (.int .i64 t444)) (fun _ hk => hk.2) (.int .i64 t445)) (fun _ hk => hk.2) (.bool t446)) (fun _ h_ => h_.1))) hb); have n1_ := aM (rB (by (with_reducible repeat (first | apply rA | apply rN | apply rD)); exact (rM (rF (p := ⟨gb451, 4, none⟩) (rF (p := ⟨gb451, 3, none⟩) (rF (p := ⟨gb451, 2, none⟩) (rF (p := ⟨gb451, 1, none⟩) (rF (p := ⟨gb451, 0, none⟩) (Kd.R_types HO_11.out BK451.out (by decide)) (fun _ hk => hk.2) (.int .i64 t442)) (fun _ hk => hk.2) (.int .i64 t443)) (fun _ hk => hk.2) (.int .i64 t444)) (fun _ hk => hk.2) (.int .i64 t445)) (fun _ hk => hk.2) (.bool t446)) (fun _ h_ => h_.1))) hb); have n2_ := aM (rB (by (with_reducible repeat (first | apply rA | apply rN | apply rD)); exact (rM (rF (p := ⟨gb451, 4, none⟩) (rF (p := ⟨gb451, 3, none⟩) (rF (p := ⟨gb451, 2, none⟩) (rF (p := ⟨gb451, 1, none⟩) (rF (p := ⟨gb451, 0, none⟩) (Kd.R_types HO450.out BK451.out (by decide)) (fun _ hk => hk.2) (.int .i64 t442)) (fun _ hk => hk.2) (.int .i64 t443)) (fun _ hk => hk.2) (.int .i64 t444)) (fun _ hk => hk.2) (.int .i64 t445)) (fun _ hk => hk.2) (.bool t446)) (fun _ h_ => h_.1))) hb); have n3_ := aM (kB (g := gb420) (o := .cells #[.int .i64 t415, .int .i64 t416, .int .i64 t417, .int .i64 t418, .bool t419] 39 (0, 0)) (by (with_reducible repeat (first | refine kN ?_ _ | refine kD ?_ | refine kA ?_ _)); refine kF ?_ NB420_451.out _; (with_reducible repeat (first | refine kN ?_ _ | refine kD ?_ | refine kA ?_ _)); refine kF ?_ NB420_451.out _; (with_reducible repeat (first | refine kN ?_ _ | refine kD ?_ | refine kA ?_ _)); refine kF ?_ NB420_451.out _; (with_reducible repeat (first | refine kN ?_ _ | refine kD ?_ | refine kA ?_ _)); refine kF ?_ NB420_451.out _; (with_reducible repeat (first | refine kN ?_ _ | refine kD ?_ | refine kA ?_ _)); refine kF ?_ NB420_451.out _; (with_reducible repeat (first | refine kN ?_ _ | refine kD ?_ | refine kA ?_ _)); exact BK420.out) hb); have n4_ := aM (kB (g := gb451) (o := .cells #[.int .i64 t442, .int .i64 t443, .int .i64 t444, .int .i64 t445, .bool t446] 39 (0, 0)) (by (with_reducible repeat (first | refine kN ?_ _ | refine kD ?_ | refine kA ?_ _)); refine blk_put (cs := #[.int .i64 t442, .int .i64 t443, .int .i64 t444, .int .i64 t445, .bool false]) ?_ 4 _ rfl; (with_reducible repeat (first | refine kN ?_ _ | refine kD ?_ | refine kA ?_ _)); refine blk_put (cs := #[.int .i64 t442, .int .i64 t443, .int .i64 t444, .int .i64 0, .bool false]) ?_ 3 _ rfl; (with_reducible repeat (first | refine kN ?_ _ | refine kD ?_ | refine kA ?_ _)); refine blk_put (cs := #[.int .i64 t442, .int .i64 t443, .int .i64 0, .int .i64 0, .bool false]) ?_ 2 _ rfl; (with_reducible repeat (first | refine kN ?_ _ | refine kD ?_ | refine kA ?_ _)); refine blk_put (cs := #[.int .i64 t442, .int .i64 0, .int .i64 0, .int .i64 0, .bool false]) ?_ 1 _ rfl; (with_reducible repeat (first | refine kN ?_ _ | refine kD ?_ | refine kA ?_ _)); refine blk_put (cs := #[.int .i64 0, .int .i64 0, .int .i64 0, .int .i64 0, .bool false]) ?_ 0 _ rfl; (with_reducible repeat (first | refine kN ?_ _ | refine kD ?_ | refine kA ?_ _)); exact BK451.out) hb); have n5_ := aM (bT (by repeat (first | (with_reducible first | exact HB.out | apply bA | apply bN | apply bE | refine bS ?_ GE420.out | refine bS ?_ GE451.out) | exact HB.out)) hb); clear HO_8; clear HO_11; clear HO450; clear BK420; clear BK451; clear HB; have HO_8 := n0_; have HO_11 := n1_; have HO450 := n2_; have BK420 := n3_; have BK451 := n4_; have HB := n5_; clear n0_ n1_ n2_ n3_ n4_ n5_; (try clear hb); (try clear hb2); (try clear hk); (try clear hi); obtain ⟨hcz71_0, hcz71_1, hcz71_2, hcz71_3, hcz71_4⟩ := blk_c5 BK451.out; obtain ⟨hfz71_0, hfz71_1, hfz71_2, hfz71_3, hfz71_4⟩ := blk_f5 BK451.out) | (go_at_call 31; (with_reducible refine (spec_ClearText.calls k3 t442 t443 t444 t445 t446 t447 _ _ t448 t454 t455 _ ?side1 ?side2 A46.out).mono ?_); (case side1 => repeat (first | exact (Kd.R_reads' HO450.out).2.2 | (with_reducible refine cA ?_ _) | (with_reducible refine cN ?_ _) | (with_reducible refine cD ?_))); (case side2 => exact (Kd.R_reads' HO450.out).2.1); rintro e w72 ⟨rfl, hb⟩; have n0_ := aM (rB (by (with_reducible repeat (first | apply rA | apply rN | apply rD)); exact HO_8.out) hb); have n1_ := aM (rB (by (with_reducible repeat (first | apply rA | apply rN | apply rD)); exact HO_11.out) hb); have n2_ := aM (rB (by (with_reducible repeat (first | apply rA | apply rN | apply rD)); exact HO450.out) hb); have n3_ := aM (kB (g := gb420) (o := .cells #[.int .i64 t415, .int .i64 t416, .int .i64 t417, .int .i64 t418, .bool t419] 39 (0, 0)) (by (with_reducible repeat (first | refine kN ?_ _ | refine kD ?_ | refine kA ?_ _)); exact BK420.out) hb); have n4_ := aM (kB (g := gb451) (o := .cells #[.int .i64 t442, .int .i64 t443, .int .i64 t444, .int .i64 t445, .bool t446] 39 (0, 0)) (by (with_reducible repeat (first | refine kN ?_ _ | refine kD ?_ | refine kA ?_ _)); exact BK451.out) hb); have n5_ := aM (bT (by repeat (first | (with_reducible first | exact HB.out | apply bA | apply bN | apply bE | refine bS ?_ GE420.out | refine bS ?_ GE451.out) | exact HB.out)) hb); clear HO_8; clear HO_11; clear HO450; clear BK420; clear BK451; clear HB; have HO_8 := n0_; have HO_11 := n1_; have HO450 := n2_; have BK420 := n3_; have BK451 := n4_; have HB := n5_; clear n0_ n1_ n2_ n3_ n4_ n5_; (try clear hb); (try clear hb2); (try clear hk); (try clear hi); obtain ⟨hcz73_0, hcz73_1, hcz73_2, hcz73_3, hcz73_4⟩ := blk_c5 BK451.out; obtain ⟨hfz73_0, hfz73_1, hfz73_2, hfz73_3, hfz73_4⟩ := blk_f5 BK451.out) | (go_at_call 32; (with_reducible refine (impl_ReadClear.calls k3 t442 t443 t444 t445 t446 t447 t452 t456 t459 _ A48.out).mono ?_); rintro e w74 ⟨v457, rfl, ho0, hb⟩; have n0_ := aM (rB (by (with_reducible repeat (first | apply rA | apply rN | apply rD)); exact HO_8.out) hb); have n1_ := aM (rB (by (with_reducible repeat (first | apply rA | apply rN | apply rD)); exact HO_11.out) hb); have n2_ := aM (Kd.R_elder' (by (with_reducible repeat (first | apply rA | apply rN | apply rD)); exact HO450.out) (Kd.R_base ho0) hb); have n3_ := aM (Kd.R_lower (Kd.R_new' ho0 (Kd.R_lt (by (with_reducible repeat (first | apply rA | apply rN | apply rD)); exact HO450.out))) (bZ (by repeat (first | (with_reducible first | exact HB.out | apply bA | apply bN | apply bE | refine bS ?_ GE420.out | refine bS ?_ GE451.out) | exact HB.out)))); have n4_ := aM (kB (g := gb420) (o := .cells #[.int .i64 t415, .int .i64 t416, .int .i64 t417, .int .i64 t418, .bool t419] 39 (0, 0)) (by (with_reducible repeat (first | refine kN ?_ _ | refine kD ?_ | refine kA ?_ _)); exact BK420.out) hb); have n5_ := aM (kB (g := gb451) (o := .cells #[.int .i64 t442, .int .i64 t443, .int .i64 t444, .int .i64 t445, .bool t446] 39 (0, 0)) (by (with_reducible repeat (first | refine kN ?_ _ | refine kD ?_ | refine kA ?_ _)); exact BK451.out) hb); have n6_ := aM (bT (by repeat (first | (with_reducible first | exact HB.out | apply bA | apply bN | apply bE | refine bS ?_ GE420.out | refine bS ?_ GE451.out) | exact HB.out)) hb); clear HO_8; clear HO_11; clear HO450; clear BK420; clear BK451; clear HB; have HO_8 := n0_; have HO_11 := n1_; have HO450 := n2_; have HO458 := n3_; have BK420 := n4_; have BK451 := n5_; have HB := n6_; clear n0_ n1_ n2_ n3_ n4_ n5_ n6_; (try clear hb); (try clear hb2); (try clear hk); (try clear hi); (try clear ho0))); try go_wp2_with (first | (go_at_call 29; (with_reducible refine (spec_DrawClearText.calls k3 _ _ l0 t442 t443 t444 t445 t446 t447 t448 _ ?side1 ?side2 A44.out).mono ?_); (case side1 => repeat (first | exact (Kd.C_below HR0.out HB.out) | (with_reducible refine cA ?_ _) | (with_reducible refine cN ?_ _) | (with_reducible refine cD ?_))); (case side2 => exact HC0.out); rintro e w65 ⟨v449, rfl, ho0, hb⟩; have n0_ := aM (rB (by (with_reducible repeat (first | apply rA | apply rN | apply rD)); exact HO_8.out) hb); have n1_ := aM (rB (by (with_reducible repeat (first | apply rA | apply rN | apply rD)); exact HO_11.out) hb); have n2_ := aM (Kd.R_lower ho0 (bZ (by repeat (first | (with_reducible first | exact HB.out | apply bA | apply bN | apply bE | refine bS ?_ GE420.out) | exact HB.out)))); have n3_ := aM (kB (g := gb420) (o := .cells #[.int .i64 t415, .int .i64 t416, .int .i64 t417, .int .i64 t418, .bool t419] 39 (0, 0)) (by (with_reducible repeat (first | refine kN ?_ _ | refine kD ?_ | refine kA ?_ _)); exact BK420.out) hb); have n4_ := aM (bT (by repeat (first | (with_reducible first | exact HB.out | apply bA | apply bN | apply bE | refine bS ?_ GE420.out) | exact HB.out)) hb); clear HO_8; clear HO_11; clear BK420; clear HB; have HO_8 := n0_; have HO_11 := n1_; have HO450 := n2_; have BK420 := n3_; have HB := n4_; clear n0_ n1_ n2_ n3_ n4_; (try clear hb); (try clear hb2); (try clear hk); (try clear hi); (try clear ho0)) | ((with_reducible refine gate_dst (N := 14) rfl ?_); (try (refine gate_guard (by rfl) ?_; dsimp only)); refine box_event ?hg (N := 14) ?hd (cs := #[.int .i64 0, .int .i64 0, .int .i64 0, .int .i64 0, .bool false]) (t := 39) ?hr ?_; (case hd => rfl); (case hg => rfl); (case hr => first | (go_simp; done) | (go_simp; rfl)); intro gb451 hg w66 hbox hb; have n0_ := aM (rB (by (with_reducible repeat (first | apply rA | apply rN | apply rD)); exact HO_8.out) hb); have n1_ := aM (rB (by (with_reducible repeat (first | apply rA | apply rN | apply rD)); exact HO_11.out) hb); have n2_ := aM (rB (by (with_reducible repeat (first | apply rA | apply rN | apply rD)); exact HO450.out) hb); have n3_ := aM (kB (g := gb420) (o := .cells #[.int .i64 t415, .int .i64 t416, .int .i64 t417, .int .i64 t418, .bool t419] 39 (0, 0)) (by (with_reducible repeat (first | refine kN ?_ _ | refine kD ?_ | refine kA ?_ _)); exact BK420.out) hb); have n4_ := aM (bT (by repeat (first | (with_reducible first | exact HB.out | apply bA | apply bN | apply bE | refine bS ?_ GE420.out) | exact HB.out)) hb); have n5_ := aM (hbox); have n6_ := aM ((by rw [hg]; exact (bZ (by repeat (first | (with_reducible first | exact HB.out | apply bA | apply bN | apply bE | refine bS ?_ GE420.out) | exact HB.out))) : w.heap.size ≤ gb451)); have n7_ := aM ((by rw [hg]; exact (bZ (by repeat (first | (with_reducible first | exact HB.out | apply bA | apply bN | apply bE | refine bS ?_ GE420.out) | exact HB.out))) : w.heap.size ≤ gb451)); have n8_ := aM ((by rw [hg]; exact Nat.ne_of_lt (blk_lt (g := gb420) (o := .cells #[.int .i64 t415, .int .i64 t416, .int .i64 t417, .int .i64 t418, .bool t419] 39 (0, 0)) (by (with_reducible repeat (first | refine kN ?_ _ | refine kD ?_ | refine kA ?_ _)); exact BK420.out)) : gb420 ≠ gb451)); have n9_ := aM ((by rw [hg]; exact Nat.ne_of_gt (blk_lt (g := gb420) (o := .cells #[.int .i64 t415, .int .i64 t416, .int .i64 t417, .int .i64 t418, .bool t419] 39 (0, 0)) (by (with_reducible repeat (first | refine kN ?_ _ | refine kD ?_ | refine kA ?_ _)); exact BK420.out)) : gb451 ≠ gb420)); clear HO_8; clear HO_11; clear HO450; clear BK420; clear HB; have HO_8 := n0_; have HO_11 := n1_; have HO450 := n2_; have BK420 := n3_; have HB := n4_; have BK451 := n5_; have GW451 := n6_; have GE451 := n7_; have NB420_451 := n8_; have NB451_420 := n9_; clear n0_ n1_ n2_ n3_ n4_ n5_ n6_ n7_ n8_ n9_; clear hb hbox hg; have hnb67 := NB451_420.out; have hnc67 := NB420_451.out; obtain ⟨hcz68_0, hcz68_1, hcz68_2, hcz68_3, hcz68_4⟩ := blk_c5 BK451.out; obtain ⟨hfz68_0, hfz68_1, hfz68_2, hfz68_3, hfz68_4⟩ := blk_f5 BK451.out; obtain ⟨Ao69, co69, eo69⟩ := Kd.R_slice HO450.out; subst eo69) | (go_at_call 30; (with_reducible refine (impl_ClearText.calls k3 t442 t443 t444 t445 t446 t447 _ _ t448 t452 false _ ?side1 ?side2 A45.out).mono ?_); (case side1 => refine (Kd.R_reads' (e := 3) (base := w.heap.size) (ok := fun k_ => True) (n := t448.length) (c := co69) ?_).2.2; exact (by (with_reducible repeat (first | apply rA | apply rN | apply rD)); exact (rM (rF (p := ⟨gb451, 4, none⟩) (rF (p := ⟨gb451, 3, none⟩) (rF (p := ⟨gb451, 2, none⟩) (rF (p := ⟨gb451, 1, none⟩) (rF (p := ⟨gb451, 0, none⟩) (Kd.R_types HO450.out BK451.out (by decide)) (fun _ hk => hk.2) (.int .i64 t442)) (fun _ hk => hk.2) (.int .i64 t443)) (fun _ hk => hk.2) (.int .i64 t444)) (fun _ hk => hk.2) (.int .i64 t445)) (fun _ hk => hk.2) (.bool t446)) (fun _ h_ => h_.1)))); (case side2 => exact (Kd.R_reads' HO450.out).2.1); rintro e w70 ⟨rfl, hb⟩; have n0_ := aM (rB (by (with_reducible repeat (first | apply rA | apply rN | apply rD)); exact (rM (rF (p := ⟨gb451, 4, none⟩) (rF (p := ⟨gb451, 3, none⟩) (rF (p := ⟨gb451, 2, none⟩) (rF (p := ⟨gb451, 1, none⟩) (rF (p := ⟨gb451, 0, none⟩) (Kd.R_types HO_8.out BK451.out (by decide)) (fun _ hk => hk.2) (.int .i64 t442)) (fun _ hk => hk.2) (.int .i64 t443)) (fun _ hk => hk.2) (.int .i64 t444)) (fun _ hk => hk.2) (.int .i64 t445)) (fun _ hk => hk.2) (.bool t446)) (fun _ h_ => h_.1))) hb); have n1_ := aM (rB (by (with_reducible repeat (first | apply rA | apply rN | apply rD)); exact (rM (rF (p := ⟨gb451, 4, none⟩) (rF (p := ⟨gb451, 3, none⟩) (rF (p := ⟨gb451, 2, none⟩) (rF (p := ⟨gb451, 1, none⟩) (rF (p := ⟨gb451, 0, none⟩) (Kd.R_types HO_11.out BK451.out (by decide)) (fun _ hk => hk.2) (.int .i64 t442)) (fun _ hk => hk.2) (.int .i64 t443)) (fun _ hk => hk.2) (.int .i64 t444)) (fun _ hk => hk.2) (.int .i64 t445)) (fun _ hk => hk.2) (.bool t446)) (fun _ h_ => h_.1))) hb); have n2_ := aM (rB (by (with_reducible repeat (first | apply rA | apply rN | apply rD)); exact (rM (rF (p := ⟨gb451, 4, none⟩) (rF (p := ⟨gb451, 3, none⟩) (rF (p := ⟨gb451, 2, none⟩) (rF (p := ⟨gb451, 1, none⟩) (rF (p := ⟨gb451, 0, none⟩) (Kd.R_types HO450.out BK451.out (by decide)) (fun _ hk => hk.2) (.int .i64 t442)) (fun _ hk => hk.2) (.int .i64 t443)) (fun _ hk => hk.2) (.int .i64 t444)) (fun _ hk => hk.2) (.int .i64 t445)) (fun _ hk => hk.2) (.bool t446)) (fun _ h_ => h_.1))) hb); have n3_ := aM (kB (g := gb420) (o := .cells #[.int .i64 t415, .int .i64 t416, .int .i64 t417, .int .i64 t418, .bool t419] 39 (0, 0)) (by (with_reducible repeat (first | refine kN ?_ _ | refine kD ?_ | refine kA ?_ _)); refine kF ?_ NB420_451.out _; (with_reducible repeat (first | refine kN ?_ _ | refine kD ?_ | refine kA ?_ _)); refine kF ?_ NB420_451.out _; (with_reducible repeat (first | refine kN ?_ _ | refine kD ?_ | refine kA ?_ _)); refine kF ?_ NB420_451.out _; (with_reducible repeat (first | refine kN ?_ _ | refine kD ?_ | refine kA ?_ _)); refine kF ?_ NB420_451.out _; (with_reducible repeat (first | refine kN ?_ _ | refine kD ?_ | refine kA ?_ _)); refine kF ?_ NB420_451.out _; (with_reducible repeat (first | refine kN ?_ _ | refine kD ?_ | refine kA ?_ _)); exact BK420.out) hb); have n4_ := aM (kB (g := gb451) (o := .cells #[.int .i64 t442, .int .i64 t443, .int .i64 t444, .int .i64 t445, .bool t446] 39 (0, 0)) (by (with_reducible repeat (first | refine kN ?_ _ | refine kD ?_ | refine kA ?_ _)); refine blk_put (cs := #[.int .i64 t442, .int .i64 t443, .int .i64 t444, .int .i64 t445, .bool false]) ?_ 4 _ rfl; (with_reducible repeat (first | refine kN ?_ _ | refine kD ?_ | refine kA ?_ _)); refine blk_put (cs := #[.int .i64 t442, .int .i64 t443, .int .i64 t444, .int .i64 0, .bool false]) ?_ 3 _ rfl; (with_reducible repeat (first | refine kN ?_ _ | refine kD ?_ | refine kA ?_ _)); refine blk_put (cs := #[.int .i64 t442, .int .i64 t443, .int .i64 0, .int .i64 0, .bool false]) ?_ 2 _ rfl; (with_reducible repeat (first | refine kN ?_ _ | refine kD ?_ | refine kA ?_ _)); refine blk_put (cs := #[.int .i64 t442, .int .i64 0, .int .i64 0, .int .i64 0, .bool false]) ?_ 1 _ rfl; (with_reducible repeat (first | refine kN ?_ _ | refine kD ?_ | refine kA ?_ _)); refine blk_put (cs := #[.int .i64 0, .int .i64 0, .int .i64 0, .int .i64 0, .bool false]) ?_ 0 _ rfl; (with_reducible repeat (first | refine kN ?_ _ | refine kD ?_ | refine kA ?_ _)); exact BK451.out) hb); have n5_ := aM (bT (by repeat (first | (with_reducible first | exact HB.out | apply bA | apply bN | apply bE | refine bS ?_ GE420.out | refine bS ?_ GE451.out) | exact HB.out)) hb); clear HO_8; clear HO_11; clear HO450; clear BK420; clear BK451; clear HB; have HO_8 := n0_; have HO_11 := n1_; have HO450 := n2_; have BK420 := n3_; have BK451 := n4_; have HB := n5_; clear n0_ n1_ n2_ n3_ n4_ n5_; (try clear hb); (try clear hb2); (try clear hk); (try clear hi); obtain ⟨hcz71_0, hcz71_1, hcz71_2, hcz71_3, hcz71_4⟩ := blk_c5 BK451.out; obtain ⟨hfz71_0, hfz71_1, hfz71_2, hfz71_3, hfz71_4⟩ := blk_f5 BK451.out) | (go_at_call 31; (with_reducible refine (spec_ClearText.calls k3 t442 t443 t444 t445 t446 t447 _ _ t448 t454 t455 _ ?side1 ?side2 A46.out).mono ?_); (case side1 => repeat (first | exact (Kd.R_reads' HO450.out).2.2 | (with_reducible refine cA ?_ _) | (with_reducible refine cN ?_ _) | (with_reducible refine cD ?_))); (case side2 => exact (Kd.R_reads' HO450.out).2.1); rintro e w72 ⟨rfl, hb⟩; have n0_ := aM (rB (by (with_reducible repeat (first | apply rA | apply rN | apply rD)); exact HO_8.out) hb); have n1_ := aM (rB (by (with_reducible repeat (first | apply rA | apply rN | apply rD)); exact HO_11.out) hb); have n2_ := aM (rB (by (with_reducible repeat (first | apply rA | apply rN | apply rD)); exact HO450.out) hb); have n3_ := aM (kB (g := gb420) (o := .cells #[.int .i64 t415, .int .i64 t416, .int .i64 t417, .int .i64 t418, .bool t419] 39 (0, 0)) (by (with_reducible repeat (first | refine kN ?_ _ | refine kD ?_ | refine kA ?_ _)); exact BK420.out) hb); have n4_ := aM (kB (g := gb451) (o := .cells #[.int .i64 t442, .int .i64 t443, .int .i64 t444, .int .i64 t445, .bool t446] 39 (0, 0)) (by (with_reducible repeat (first | refine kN ?_ _ | refine kD ?_ | refine kA ?_ _)); exact BK451.out) hb); have n5_ := aM (bT (by repeat (first | (with_reducible first | exact HB.out | apply bA | apply bN | apply bE | refine bS ?_ GE420.out | refine bS ?_ GE451.out) | exact HB.out)) hb); clear HO_8; clear HO_11; clear HO450; clear BK420; clear BK451; clear HB; have HO_8 := n0_; have HO_11 := n1_; have HO450 := n2_; have BK420 := n3_; have BK451 := n4_; have HB := n5_; clear n0_ n1_ n2_ n3_ n4_ n5_; (try clear hb); (try clear hb2); (try clear hk); (try clear hi); obtain ⟨hcz73_0, hcz73_1, hcz73_2, hcz73_3, hcz73_4⟩ := blk_c5 BK451.out; obtain ⟨hfz73_0, hfz73_1, hfz73_2, hfz73_3, hfz73_4⟩ := blk_f5 BK451.out) | (go_at_call 32; (with_reducible refine (impl_ReadClear.calls k3 t442 t443 t444 t445 t446 t447 t452 t456 t459 _ A48.out).mono ?_); rintro e w74 ⟨v457, rfl, ho0, hb⟩; have n0_ := aM (rB (by (with_reducible repeat (first | apply rA | apply rN | apply rD)); exact HO_8.out) hb); have n1_ := aM (rB (by (with_reducible repeat (first | apply rA | apply rN | apply rD)); exact HO_11.out) hb); have n2_ := aM (Kd.R_elder' (by (with_reducible repeat (first | apply rA | apply rN | apply rD)); exact HO450.out) (Kd.R_base ho0) hb); have n3_ := aM (Kd.R_lower (Kd.R_new' ho0 (Kd.R_lt (by (with_reducible repeat (first | apply rA | apply rN | apply rD)); exact HO450.out))) (bZ (by repeat (first | (with_reducible first | exact HB.out | apply bA | apply bN | apply bE | refine bS ?_ GE420.out | refine bS ?_ GE451.out) | exact HB.out)))); have n4_ := aM (kB (g := gb420) (o := .cells #[.int .i64 t415, .int .i64 t416, .int .i64 t417, .int .i64 t418, .bool t419] 39 (0, 0)) (by (with_reducible repeat (first | refine kN ?_ _ | refine kD ?_ | refine kA ?_ _)); exact BK420.out) hb); have n5_ := aM (kB (g := gb451) (o := .cells #[.int .i64 t442, .int .i64 t443, .int .i64 t444, .int .i64 t445, .bool t446] 39 (0, 0)) (by (with_reducible repeat (first | refine kN ?_ _ | refine kD ?_ | refine kA ?_ _)); exact BK451.out) hb); have n6_ := aM (bT (by repeat (first | (with_reducible first | exact HB.out | apply bA | apply bN | apply bE | refine bS ?_ GE420.out | refine bS ?_ GE451.out) | exact HB.out)) hb); clear HO_8; clear HO_11; clear HO450; clear BK420; clear BK451; clear HB; have HO_8 := n0_; have HO_11 := n1_; have HO450 := n2_; have HO458 := n3_; have BK420 := n4_; have BK451 := n5_; have HB := n6_; clear n0_ n1_ n2_ n3_ n4_ n5_ n6_; (try clear hb); (try clear hb2); (try clear hk); (try clear hi); (try clear ho0))))
             go_ret
             exact ⟨by first | rfl | (simp [errW_none, errW_some] <;> rfl) | (simp [*, errW_none, errW_some] <;> rfl), by repeat (first | (with_reducible first | exact HB.out | apply bA | apply bN | apply bE | refine bS ?_ GE420.out | refine bS ?_ GE451.out) | exact HB.out)⟩

/-- THE ONE PURE STATEMENT of laws_FnHeads: yours. -/
def laws_FnHeads.Pure : Prop := ∀ (l0 : List Int), l0.length ≤ maxLen → l0.length * 1 ≤ 140737488351232 → (∀ x ∈ l0, (Lit.int .u8 x).wf = true) → ∃ k, laws_FnHeads.f k l0 = some true
theorem laws_FnHeads.walk (P : laws_FnHeads.Pure) (a0 : Option Addr) (len0 cap0 : Nat) (z0 : List Int) (w : World) (w0 : (a0 = none ∧ len0 = 0 ∧ cap0 = 0 ∧ z0 = []) ∨ ∃ x, a0 = some x ∧ len0 ≤ cap0 ∧ cap0 ≤ maxLen ∧ z0.length = cap0 ∧ (∀ i, i < z0.length → w.cell? (x.add i) = some (.int .u8 (z0.getD i 0))) ∧ ∀ n ∈ z0, (Lit.int .u8 n).wf = true) (y0 : len0 * 1 ≤ 140737488351232) :
  Calls Try.prog 4 #[.slice a0 len0 cap0] w fun e w' => e = .returned (.bool true) ∧ Below w.heap.size w w' := by
 obtain ⟨l0, rfl, hr0, hm0, hw0, hc0⟩ := ReadsInt.ofRowC w0
 obtain ⟨k, h⟩ := P l0 hm0 y0 hw0
 refine (laws_FnHeads.calls k _ _ l0 true w (Kd.C_of_reads (d := (0 : Int)) (h1 := fun _ => rfl) hr0) hc0 rfl h).mono ?_
 rintro e w' ⟨rfl, hd⟩
 exact ⟨rfl, hd⟩

end Go.Proofs.Ytajnobmnkbkkgaa.PFnHeads
