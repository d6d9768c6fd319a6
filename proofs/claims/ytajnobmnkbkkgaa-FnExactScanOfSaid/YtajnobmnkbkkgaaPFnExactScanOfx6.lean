/- Walks of functions that the law FnExactScanOf reaches: each call comes to what the Lean function of its name tells. Written by p2.py, a program of this session, by way of the kit's print. -/
import Derived.Test.YtajnobmnkbkkgaaPFnExactScanOfx0
import Derived.Test.YtajnobmnkbkkgaaPFnExactScanOfx5
namespace Go.Proofs.Ytajnobmnkbkkgaa.PFnExactScanOf
open Go.RowKit Go.Proofs.YtajnobmnkbkkgaaW.PrintWords Go.Proofs.YtajnobmnkbkkgaaW.PrintLast Go.Proofs.YtajnobmnkbkkgaaW.PrintMore
attribute [local go_sem] max2_int min2_int max_two min_two max_three min_three max_four min_four   -- for this text's walks alone
set_option linter.unusedVariables false
set_option linter.unusedSimpArgs false

/-! ### impl_foretold: function 185 -/
def impl_foretold.f (k : Nat) (a0 : Int) (l1 : List Int) (l2 : List Int) (a3 : Int) (a4 : Int) : Option (Int) := (impl_byteAt.f l1 (wrap64 (a3 - a4))).bind fun t209 => ((impl_byteAt.f l2 a3).bind fun t210 => (if a0 = 1 then (some t209) else (if a0 = 2 then (some t210) else (if a0 = 3 then (some (wrap64 (Int.tdiv (wrap64 (t209 + t210)) 2))) else (if a0 = 4 then ((impl_byteAt.f l2 (wrap64 (a3 - a4))).bind fun t211 => ((impl_Paeth.f k t209 t210 t211).bind fun t212 => (some t212))) else (some 0))))))
theorem impl_foretold.mono : ∀ a0 a1 a2 a3 a4 k, LeO (impl_foretold.f k a0 a1 a2 a3 a4) (impl_foretold.f (k + 1) a0 a1 a2 a3 a4) := by
 intro a0 a1 a2 a3 a4 k
 unfold impl_foretold.f
 repeat' first
   | (with_reducible exact impl_Paeth.mono _ _ _ _)
   | (with_reducible exact LeO.refl _)
   | (with_reducible exact LeO.none _)
   | (with_reducible refine LeO.ite ?_ ?_)
   | (with_reducible refine LeO.bind ?_ (fun _ => ?_))
   | exact impl_Paeth.mono _ _ _ _
   | exact LeO.none _
   | refine LeO.ite ?_ ?_
   | refine LeO.bind ?_ (fun _ => ?_)
set_option maxHeartbeats 8000000 in
set_option maxRecDepth 100000 in
theorem impl_foretold.calls (k : Nat) (a0 : Int) (A1 : Option Addr) (c1 : Nat) (l1 : List Int) (A2 : Option Addr) (c2 : Nat) (l2 : List Int) (a3 : Int) (a4 : Int) (r : Int) (w : World) (hr1 : Kd.C (Kd.int .u8) w A1 l1.length l1) (hc1 : l1.length ≤ c1) (hr2 : Kd.C (Kd.int .u8) w A2 l2.length l2) (hc2 : l2.length ≤ c2) (h : impl_foretold.f k a0 l1 l2 a3 a4 = some r) :
  Calls Try.prog 185 #[.int .i64 a0, .slice A1 l1.length c1, .slice A2 l2.length c2, .int .i64 a3, .int .i64 a4] w fun e w' => e = .returned (.int .i64 r) ∧ Below w.heap.size w w' := by
 have HR1 := aM hr1
 have HC1 := aM hc1
 clear hr1 hc1
 have HR2 := aM hr2
 have HC2 := aM hc2
 clear hr2 hc2
 have HB := aM (Below.refl w.heap.size w)
 unfold impl_foretold.f at h; have H := h
 clear h
 replace H := oB.mp H
 obtain ⟨t209, A60, H⟩ := H
 try dsimp only at H
 have A6 := aM A60
 clear A60
 replace H := oB.mp H
 obtain ⟨t210, A70, H⟩ := H
 try dsimp only at H
 have A7 := aM A70
 clear A70
 by_cases c8 : a0 = 1
 ·rw [if_pos c8] at H
  have c8b0 : (a0 == 1) = true := beq_iff_eq.mpr c8
  have c8b1 : (a0 != 1) = false := bne_eq_false_iff_eq.mpr c8
  clear c8
  obtain rfl := Option.some.inj H
  go_enter Try.func185, Try.ntmps185
  go_wp2_with (first | ((with_reducible refine gate_callee (f := 200) rfl ?_); refine goesL_ (some 17) rfl rfl Try.func200 (by kernel_rfl) rfl #[.slice A1 l1.length c1, .int .i64 (wrap64 (a3 - a4))] rfl (by (try simp only [lM, List.map_cons, List.map_nil]); first | done | rfl | (simp only [lD, lT]; rfl)) ?_; (with_reducible refine (impl_byteAt.calls _ _ l1 (wrap64 (a3 - a4)) t209 _ ?side1 ?side2 A6.out).mono ?_); (case side1 => repeat (first | exact HR1.out | (with_reducible refine cA ?_ _) | (with_reducible refine cN ?_ _) | (with_reducible refine cD ?_))); (case side2 => exact HC1.out); rintro e w' ⟨rfl, ⟨nd, rfl⟩⟩; refine ⟨_, rfl, ?_⟩) | ((with_reducible refine gate_callee (f := 200) rfl ?_); refine goesL_ (some 20) rfl rfl Try.func200 (by kernel_rfl) rfl #[.slice A2 l2.length c2, .int .i64 a3] rfl (by (try simp only [lM, List.map_cons, List.map_nil]); first | done | rfl | (simp only [lD, lT]; rfl)) ?_; (with_reducible refine (impl_byteAt.calls _ _ l2 a3 t210 _ ?side1 ?side2 A7.out).mono ?_); (case side1 => repeat (first | exact HR2.out | (with_reducible refine cA ?_ _) | (with_reducible refine cN ?_ _) | (with_reducible refine cD ?_))); (case side2 => exact HC2.out); rintro e w' ⟨rfl, ⟨nd, rfl⟩⟩; refine ⟨_, rfl, ?_⟩))
  go_ret
  exact ⟨by first | rfl | (simp [errW_none, errW_some] <;> rfl) | (simp [*, errW_none, errW_some] <;> rfl), by repeat (first | (with_reducible first | exact HB.out | apply bA | apply bN | apply bE) | exact HB.out)⟩
 ·rw [if_neg c8] at H
  have c8b0 : (a0 == 1) = false := beq_eq_false_iff_ne.mpr c8
  have c8b1 : (a0 != 1) = true := bne_iff_ne.mpr c8
  by_cases c9 : a0 = 2
  ·rw [if_pos c9] at H
   have c9b0 : (a0 == 2) = true := beq_iff_eq.mpr c9
   have c9b1 : (a0 != 2) = false := bne_eq_false_iff_eq.mpr c9
   clear c9
   obtain rfl := Option.some.inj H
   go_enter Try.func185, Try.ntmps185
   go_wp2_with (first | ((with_reducible refine gate_callee (f := 200) rfl ?_); refine goesL_ (some 17) rfl rfl Try.func200 (by kernel_rfl) rfl #[.slice A1 l1.length c1, .int .i64 (wrap64 (a3 - a4))] rfl (by (try simp only [lM, List.map_cons, List.map_nil]); first | done | rfl | (simp only [lD, lT]; rfl)) ?_; (with_reducible refine (impl_byteAt.calls _ _ l1 (wrap64 (a3 - a4)) t209 _ ?side1 ?side2 A6.out).mono ?_); (case side1 => repeat (first | exact HR1.out | (with_reducible refine cA ?_ _) | (with_reducible refine cN ?_ _) | (with_reducible refine cD ?_))); (case side2 => exact HC1.out); rintro e w' ⟨rfl, ⟨nd, rfl⟩⟩; refine ⟨_, rfl, ?_⟩) | ((with_reducible refine gate_callee (f := 200) rfl ?_); refine goesL_ (some 20) rfl rfl Try.func200 (by kernel_rfl) rfl #[.slice A2 l2.length c2, .int .i64 a3] rfl (by (try simp only [lM, List.map_cons, List.map_nil]); first | done | rfl | (simp only [lD, lT]; rfl)) ?_; (with_reducible refine (impl_byteAt.calls _ _ l2 a3 t210 _ ?side1 ?side2 A7.out).mono ?_); (case side1 => repeat (first | exact HR2.out | (with_reducible refine cA ?_ _) | (with_reducible refine cN ?_ _) | (with_reducible refine cD ?_))); (case side2 => exact HC2.out); rintro e w' ⟨rfl, ⟨nd, rfl⟩⟩; refine ⟨_, rfl, ?_⟩))
   go_ret
   exact ⟨by first | rfl | (simp [errW_none, errW_some] <;> rfl) | (simp [*, errW_none, errW_some] <;> rfl), by repeat (first | (with_reducible first | exact HB.out | apply bA | apply bN | apply bE) | exact HB.out)⟩
  ·rw [if_neg c9] at H
   have c9b0 : (a0 == 2) = false := beq_eq_false_iff_ne.mpr c9
   have c9b1 : (a0 != 2) = true := bne_iff_ne.mpr c9
   by_cases c10 : a0 = 3
   ·rw [if_pos c10] at H
    have c10b0 : (a0 == 3) = true := beq_iff_eq.mpr c10
    have c10b1 : (a0 != 3) = false := bne_eq_false_iff_eq.mpr c10
    clear c10
    obtain rfl := Option.some.inj H
    go_enter Try.func185, Try.ntmps185
    go_wp2_with (first | ((with_reducible refine gate_callee (f := 200) rfl ?_); refine goesL_ (some 17) rfl rfl Try.func200 (by kernel_rfl) rfl #[.slice A1 l1.length c1, .int .i64 (wrap64 (a3 - a4))] rfl (by (try simp only [lM, List.map_cons, List.map_nil]); first | done | rfl | (simp only [lD, lT]; rfl)) ?_; (with_reducible refine (impl_byteAt.calls _ _ l1 (wrap64 (a3 - a4)) t209 _ ?side1 ?side2 A6.out).mono ?_); (case side1 => repeat (first | exact HR1.out | (with_reducible refine cA ?_ _) | (with_reducible refine cN ?_ _) | (with_reducible refine cD ?_))); (case side2 => exact HC1.out); rintro e w' ⟨rfl, ⟨nd, rfl⟩⟩; refine ⟨_, rfl, ?_⟩) | ((with_reducible refine gate_callee (f := 200) rfl ?_); refine goesL_ (some 20) rfl rfl Try.func200 (by kernel_rfl) rfl #[.slice A2 l2.length c2, .int .i64 a3] rfl (by (try simp only [lM, List.map_cons, List.map_nil]); first | done | rfl | (simp only [lD, lT]; rfl)) ?_; (with_reducible refine (impl_byteAt.calls _ _ l2 a3 t210 _ ?side1 ?side2 A7.out).mono ?_); (case side1 => repeat (first | exact HR2.out | (with_reducible refine cA ?_ _) | (with_reducible refine cN ?_ _) | (with_reducible refine cD ?_))); (case side2 => exact HC2.out); rintro e w' ⟨rfl, ⟨nd, rfl⟩⟩; refine ⟨_, rfl, ?_⟩))
    go_ret
    exact ⟨by first | rfl | (simp [errW_none, errW_some] <;> rfl) | (simp [*, errW_none, errW_some] <;> rfl), by repeat (first | (with_reducible first | exact HB.out | apply bA | apply bN | apply bE) | exact HB.out)⟩
   ·rw [if_neg c10] at H
    have c10b0 : (a0 == 3) = false := beq_eq_false_iff_ne.mpr c10
    have c10b1 : (a0 != 3) = true := bne_iff_ne.mpr c10
    by_cases c11 : a0 = 4
    ·rw [if_pos c11] at H
     have c11b0 : (a0 == 4) = true := beq_iff_eq.mpr c11
     have c11b1 : (a0 != 4) = false := bne_eq_false_iff_eq.mpr c11
     clear c11
     replace H := oB.mp H
     obtain ⟨t211, A120, H⟩ := H
     replace H : ((impl_Paeth.f k t209 t210 t211).bind fun t212 => (some t212)) = some r := H
     have A12 := aM A120
     clear A120
     replace H := oB.mp H
     obtain ⟨t212, A130, H⟩ := H
     replace H : (some t212) = some r := H
     have A13 := aM A130
     clear A130
     obtain rfl := Option.some.inj H
     go_enter Try.func185, Try.ntmps185
     go_wp2_with (first | ((with_reducible refine gate_callee (f := 200) rfl ?_); refine goesL_ (some 17) rfl rfl Try.func200 (by kernel_rfl) rfl #[.slice A1 l1.length c1, .int .i64 (wrap64 (a3 - a4))] rfl (by (try simp only [lM, List.map_cons, List.map_nil]); first | done | rfl | (simp only [lD, lT]; rfl)) ?_; (with_reducible refine (impl_byteAt.calls _ _ l1 (wrap64 (a3 - a4)) t209 _ ?side1 ?side2 A6.out).mono ?_); (case side1 => repeat (first | exact HR1.out | (with_reducible refine cA ?_ _) | (with_reducible refine cN ?_ _) | (with_reducible refine cD ?_))); (case side2 => exact HC1.out); rintro e w' ⟨rfl, ⟨nd, rfl⟩⟩; refine ⟨_, rfl, ?_⟩) | ((with_reducible refine gate_callee (f := 200) rfl ?_); refine goesL_ (some 20) rfl rfl Try.func200 (by kernel_rfl) rfl #[.slice A2 l2.length c2, .int .i64 a3] rfl (by (try simp only [lM, List.map_cons, List.map_nil]); first | done | rfl | (simp only [lD, lT]; rfl)) ?_; (with_reducible refine (impl_byteAt.calls _ _ l2 a3 t210 _ ?side1 ?side2 A7.out).mono ?_); (case side1 => repeat (first | exact HR2.out | (with_reducible refine cA ?_ _) | (with_reducible refine cN ?_ _) | (with_reducible refine cD ?_))); (case side2 => exact HC2.out); rintro e w' ⟨rfl, ⟨nd, rfl⟩⟩; refine ⟨_, rfl, ?_⟩) | ((with_reducible refine gate_callee (f := 200) rfl ?_); refine goesL_ (some 42) rfl rfl Try.func200 (by kernel_rfl) rfl #[.slice A2 l2.length c2, .int .i64 (wrap64 (a3 - a4))] rfl (by (try simp only [lM, List.map_cons, List.map_nil]); first | done | rfl | (simp only [lD, lT]; rfl)) ?_; (with_reducible refine (impl_byteAt.calls _ _ l2 (wrap64 (a3 - a4)) t211 _ ?side1 ?side2 A12.out).mono ?_); (case side1 => repeat (first | exact HR2.out | (with_reducible refine cA ?_ _) | (with_reducible refine cN ?_ _) | (with_reducible refine cD ?_))); (case side2 => exact HC2.out); rintro e w' ⟨rfl, ⟨nd, rfl⟩⟩; refine ⟨_, rfl, ?_⟩) | ((with_reducible refine gate_callee (f := 201) rfl ?_); refine goesL_ (some 43) rfl rfl Try.func201 (by kernel_rfl) rfl #[.int .i64 t209, .int .i64 t210, .int .i64 t211] rfl (by (try simp only [lM, List.map_cons, List.map_nil]); first | done | rfl | (simp only [lD, lT]; rfl)) ?_; (with_reducible refine (impl_Paeth.calls k t209 t210 t211 t212 _ A13.out).mono ?_); rintro e w14 ⟨rfl, hb⟩; refine ⟨_, rfl, ?_⟩; have n0_ := aM (bT (by repeat (first | (with_reducible first | exact HB.out | apply bA | apply bN | apply bE) | exact HB.out)) hb); clear HB; have HB := n0_; clear n0_; (try clear hb); (try clear hb2); (try clear hk); (try clear hi)))
     go_ret
     exact ⟨by first | rfl | (simp [errW_none, errW_some] <;> rfl) | (simp [*, errW_none, errW_some] <;> rfl), by repeat (first | (with_reducible first | exact HB.out | apply bA | apply bN | apply bE) | exact HB.out)⟩
    ·rw [if_neg c11] at H
     have c11b0 : (a0 == 4) = false := beq_eq_false_iff_ne.mpr c11
     have c11b1 : (a0 != 4) = true := bne_iff_ne.mpr c11
     obtain rfl := Option.some.inj H
     go_enter Try.func185, Try.ntmps185
     go_wp2_with (first | ((with_reducible refine gate_callee (f := 200) rfl ?_); refine goesL_ (some 17) rfl rfl Try.func200 (by kernel_rfl) rfl #[.slice A1 l1.length c1, .int .i64 (wrap64 (a3 - a4))] rfl (by (try simp only [lM, List.map_cons, List.map_nil]); first | done | rfl | (simp only [lD, lT]; rfl)) ?_; (with_reducible refine (impl_byteAt.calls _ _ l1 (wrap64 (a3 - a4)) t209 _ ?side1 ?side2 A6.out).mono ?_); (case side1 => repeat (first | exact HR1.out | (with_reducible refine cA ?_ _) | (with_reducible refine cN ?_ _) | (with_reducible refine cD ?_))); (case side2 => exact HC1.out); rintro e w' ⟨rfl, ⟨nd, rfl⟩⟩; refine ⟨_, rfl, ?_⟩) | ((with_reducible refine gate_callee (f := 200) rfl ?_); refine goesL_ (some 20) rfl rfl Try.func200 (by kernel_rfl) rfl #[.slice A2 l2.length c2, .int .i64 a3] rfl (by (try simp only [lM, List.map_cons, List.map_nil]); first | done | rfl | (simp only [lD, lT]; rfl)) ?_; (with_reducible refine (impl_byteAt.calls _ _ l2 a3 t210 _ ?side1 ?side2 A7.out).mono ?_); (case side1 => repeat (first | exact HR2.out | (with_reducible refine cA ?_ _) | (with_reducible refine cN ?_ _) | (with_reducible refine cD ?_))); (case side2 => exact HC2.out); rintro e w' ⟨rfl, ⟨nd, rfl⟩⟩; refine ⟨_, rfl, ?_⟩))
     go_ret
     exact ⟨by first | rfl | (simp [errW_none, errW_some] <;> rfl) | (simp [*, errW_none, errW_some] <;> rfl), by repeat (first | (with_reducible first | exact HB.out | apply bA | apply bN | apply bE) | exact HB.out)⟩

/-! ### impl_FilterRow: function 161 -/
def impl_FilterRow.l0 : Nat → Int → Int → List Int → List Int → List Int → Int → Int → Option (ByteArray × Bool)
 | 0, _, _, _, _, _, _, _ => none
 | k + 1, x0, x3, x10, x11, x12, x26, x27 => if x27 < x26 then (if 0 ≤ x27 then (if x27 < (x10.length : Int) then ((impl_foretold.f k x0 x10 x11 x27 x3).bind fun t224 => (if x12.length < 140737488355328 then (impl_FilterRow.l0 k x0 x3 x10 x11 (x12 ++ [((rd x10 x27) - ((t224) % 256)) % 256]) x26 (wrap64 (x27 + 1))) else (none))) else (none)) else (none)) else (some (strOfNums x12, true))
def impl_FilterRow.f (k : Nat) (a0 : Int) (a1 : ByteArray) (a2 : ByteArray) (a3 : Int) : Option (ByteArray × Bool) := (impl_filterOk.f a0 a1 a2 a3).bind fun t213 => (if t213 = true then (if a1.size ≤ 9223372036854775807 then ((some (bytesOf a1 : List Int)).bind fun y214 => (if a2.size ≤ 9223372036854775807 then (impl_FilterRow.l0 k a0 a3 y214 (bytesOf a2) (([] : List Int)) (y214.length : Int) 0) else (none))) else (none)) else (some ((⟨#[]⟩ : ByteArray), false)))
theorem impl_FilterRow.mono_l : ∀ k, (∀ y0 y1 y2 y3 y4 y5 y6, LeO (impl_FilterRow.l0 k y0 y1 y2 y3 y4 y5 y6) (impl_FilterRow.l0 (k + 1) y0 y1 y2 y3 y4 y5 y6))
 | 0 => fun _ _ _ _ _ _ _ r h => by simp [impl_FilterRow.l0] at h
 | k + 1 => by
  have ih0 := impl_FilterRow.mono_l k
  ·intro y0 y1 y2 y3 y4 y5 y6
   unfold impl_FilterRow.l0
   repeat' first
   | (with_reducible exact ih0 _ _ _ _ _ _ _)
   | (with_reducible exact impl_foretold.mono _ _ _ _ _ _)
   | (with_reducible exact LeO.refl _)
   | (with_reducible exact LeO.none _)
   | (with_reducible refine LeO.ite ?_ ?_)
   | (with_reducible refine LeO.bind ?_ (fun _ => ?_))
   | exact ih0 _ _ _ _ _ _ _
   | exact impl_foretold.mono _ _ _ _ _ _
   | exact LeO.none _
   | refine LeO.ite ?_ ?_
   | refine LeO.bind ?_ (fun _ => ?_)
theorem impl_FilterRow.mono : ∀ a0 a1 a2 a3 k, LeO (impl_FilterRow.f k a0 a1 a2 a3) (impl_FilterRow.f (k + 1) a0 a1 a2 a3) := by
 intro a0 a1 a2 a3 k
 have ih0 := impl_FilterRow.mono_l k
 unfold impl_FilterRow.f
 repeat' first
   | (with_reducible exact ih0 _ _ _ _ _ _ _)
   | (with_reducible exact impl_foretold.mono _ _ _ _ _ _)
   | (with_reducible exact LeO.refl _)
   | (with_reducible exact LeO.none _)
   | (with_reducible refine LeO.ite ?_ ?_)
   | (with_reducible refine LeO.bind ?_ (fun _ => ?_))
   | exact ih0 _ _ _ _ _ _ _
   | exact impl_foretold.mono _ _ _ _ _ _
   | exact LeO.none _
   | refine LeO.ite ?_ ?_
   | refine LeO.bind ?_ (fun _ => ?_)
def impl_FilterRow.T8 : Bool × List (List Nat × List Nat) := (true, [([], []), ([], []), ([], []), ([1, 2], [1, 2]), ([3], [3]), ([], []), ([], []), ([], []), ([], []), ([], []), ([5, 6, 7, 8, 9], [5, 6, 7, 8, 9]), ([10], [10]), ([4, 11], [4, 11]), ([12], [12]), ([0, 13, 10], [0, 13]), ([14, 14, 0, 1, 2, 3, 4, 5, 6, 7, 8, 9, 10, 11, 12, 13, 14], [0, 14])])
def impl_FilterRow.B8 : List Nat := [0, 0, 0, 6, 14, 0, 0, 0, 0, 0, 992, 2016, 4094, 8190, 16383, 32767]
theorem impl_FilterRow.tab8 : rtab .any (opsOf Try.f161 8) = impl_FilterRow.T8 := by kernel_rfl
theorem impl_FilterRow.bits8 : waitsOk impl_FilterRow.T8.2 impl_FilterRow.B8 = true := by kernel_rfl
set_option maxHeartbeats 8000000 in
set_option maxRecDepth 100000 in
theorem impl_FilterRow.calls (k : Nat) (a0 : Int) (a1 : ByteArray) (a2 : ByteArray) (a3 : Int) (r1 : ByteArray) (r2 : Bool) (w : World) (h : impl_FilterRow.f k a0 a1 a2 a3 = some (r1, r2)) :
  Calls Try.prog 161 #[.int .i64 a0, .string a1, .string a2, .int .i64 a3] w fun e w' => e = .returned (.tuple #[.string r1, .bool r2]) ∧ Below w.heap.size w w' := by
 have HB := aM (Below.refl w.heap.size w)
 unfold impl_FilterRow.f at h; have H := h
 clear h
 replace H := oB.mp H
 obtain ⟨t213, A50, H⟩ := H
 try dsimp only at H
 have A5 := aM A50
 clear A50
 by_cases c6 : t213 = true
 ·subst c6
  have H1 : (if a1.size ≤ 9223372036854775807 then ((some (bytesOf a1 : List Int)).bind fun y214 => (if a2.size ≤ 9223372036854775807 then (impl_FilterRow.l0 k a0 a3 y214 (bytesOf a2) (([] : List Int)) (y214.length : Int) 0) else (none))) else (none)) = some (r1, r2) := by rw [if_pos rfl] at H; first | done | exact H
  clear H
  have H := H1
  clear H1
  by_cases c7 : a1.size ≤ 9223372036854775807
  ·rw [if_pos c7] at H
   have c7b0 := eq_true c7
   have c7b1 : decide (a1.size ≤ 9223372036854775807) = true := decide_eq_true c7
   try have c7b2 : (9223372036854775807 < a1.size) = False := eq_false (Nat.not_lt.2 c7)
   clear c7
   obtain ⟨y214, hy214⟩ : ∃ y_ : List Int, y_ = (bytesOf a1) := ⟨_, rfl⟩
   replace H : (if a2.size ≤ 9223372036854775807 then (impl_FilterRow.l0 k a0 a3 y214 (bytesOf a2) (([] : List Int)) (y214.length : Int) 0) else (none)) = some (r1, r2) := by first | (rw [hy214]; with_reducible exact H) | (have H2_ := (Option.bind_some _ _).symm.trans H; rw [hy214]; with_reducible exact H2_) | (have H2_ := (Option.bind_some _ _).symm.trans H; with_reducible exact H2_) | with_reducible exact H | (rw [hy214]; exact H) | exact H
   have Ny214 := aM hy214
   clear hy214
   by_cases c8 : a2.size ≤ 9223372036854775807
   ·rw [if_pos c8] at H
    have c8b0 := eq_true c8
    have c8b1 : decide (a2.size ≤ 9223372036854775807) = true := decide_eq_true c8
    try have c8b2 : (9223372036854775807 < a2.size) = False := eq_false (Nat.not_lt.2 c8)
    clear c8
    obtain ⟨y217, hy217⟩ : ∃ y_ : List Int, y_ = (bytesOf a2) := ⟨_, rfl⟩
    replace H : (impl_FilterRow.l0 k a0 a3 y214 y217 (([] : List Int)) (y214.length : Int) 0) = some (r1, r2) := by first | (rw [hy217]; with_reducible exact H) | (have H2_ := (Option.bind_some _ _).symm.trans H; rw [hy217]; with_reducible exact H2_) | (have H2_ := (Option.bind_some _ _).symm.trans H; with_reducible exact H2_) | with_reducible exact H | (rw [hy217]; exact H) | exact H
    have Ny217 := aM hy217
    clear hy217
    obtain ⟨y220, hy220⟩ : ∃ y_ : List Int, y_ = (([] : List Int)) := ⟨_, rfl⟩
    replace H : (impl_FilterRow.l0 k a0 a3 y214 y217 y220 (y214.length : Int) 0) = some (r1, r2) := by first | (rw [hy220]; with_reducible exact H) | (have H2_ := (Option.bind_some _ _).symm.trans H; rw [hy220]; with_reducible exact H2_) | (have H2_ := (Option.bind_some _ _).symm.trans H; with_reducible exact H2_) | with_reducible exact H | (rw [hy220]; exact H) | exact H
    have Ny220 := aM hy220
    clear hy220
    have H' := aM H
    clear H
    go_enter Try.func161, Try.ntmps161
    go_wp2_with (first | ((with_reducible refine gate_callee (f := 184) rfl ?_); refine goesL_ (some 18) rfl rfl Try.func184 (by kernel_rfl) rfl #[.int .i64 a0, .string a1, .string a2, .int .i64 a3] rfl (by (try simp only [lM, List.map_cons, List.map_nil]); first | done | rfl | (simp only [lD, lT]; rfl)) ?_; (with_reducible refine (impl_filterOk.calls a0 a1 a2 a3 true _ A5.out).mono ?_); rintro e w' ⟨rfl, ⟨nd, rfl⟩⟩; refine ⟨_, rfl, ?_⟩) | ((with_reducible refine gate_dst (N := 21) rfl ?_); refine Kd.V_conv ?hg (N := 21) ?hd rfl Try.underlying9 Try.underlying36 Try.underlying5 (s := a1) rfl (oD (by first | (with_reducible assumption) | assumption)) (ok := fun k_ => w.heap.size ≤ k_) (Nat.le_refl _) ?_; (case hd => rfl); (case hg => rfl); intro v215 w9 ho10 hb hg_ hnew_; clear hg_ hnew_; (first | rw [← Ny214.out] at ho10 | (simp only [Int.reduceToNat] at ho10; rw [← Ny214.out] at ho10)); have n0_ := aM (Kd.V_lower (Kd.V_mono (ok' := fun k_ => True) ho10 (fun k_ hk_ => trivial)) (bZ (by repeat (first | (with_reducible first | exact HB.out | apply bA | apply bN | apply bE) | exact HB.out)))); have n1_ := aM (bT (by repeat (first | (with_reducible first | exact HB.out | apply bA | apply bN | apply bE) | exact HB.out)) hb); clear HB; have HO216 := n0_; have HB := n1_; clear n0_ n1_; clear hb ho10) | ((with_reducible refine gate_dst (N := 23) rfl ?_); refine Kd.V_conv ?hg (N := 23) ?hd rfl Try.underlying9 Try.underlying36 Try.underlying5 (s := a2) rfl (oD (by first | (with_reducible assumption) | assumption)) (ok := fun k_ => w9.heap.size ≤ k_) (Nat.le_refl _) ?_; (case hd => rfl); (case hg => rfl); intro v218 w11 ho12 hb hg_ hnew_; clear hg_ hnew_; (first | rw [← Ny217.out] at ho12 | (simp only [Int.reduceToNat] at ho12; rw [← Ny217.out] at ho12)); have n0_ := aM (Kd.V_below (by (with_reducible repeat (first | apply Kd.V_alloc | apply Kd.V_drewN | apply Kd.V_drew)); exact HO216.out) hb); have n1_ := aM (Kd.V_lower (Kd.V_mono (ok' := fun k_ => True) ho12 (fun k_ hk_ => trivial)) (bZ (by repeat (first | (with_reducible first | exact HB.out | apply bA | apply bN | apply bE) | exact HB.out)))); have n2_ := aM (bT (by repeat (first | (with_reducible first | exact HB.out | apply bA | apply bN | apply bE) | exact HB.out)) hb); clear HO216; clear HB; have HO216 := n0_; have HO219 := n1_; have HB := n2_; clear n0_ n1_ n2_; clear hb ho12) | ((with_reducible refine gate_dst (N := 24) rfl ?_); refine Kd.R_lit (Kd.int .u8) _ 5 ?hg (N := 24) ?hd (xs := ([] : List Int)) (inner := []) (ok := fun _ => True) (okp := fun _ => True) ?hr ?hp (fun _ hk => hk) trivial (Below.refl _ _) (Nat.le_refl _) (by simp) ?_; (case hd => rfl); (case hg => rfl); (case hr => first | (go_simp; done) | (go_simp; rfl)); (case hp => exact (Reps.none _ _)); intro v221 w13 ho14 hb hg_ hnew_; clear hg_ hnew_; (first | rw [← Ny220.out] at ho14 | (simp only [Int.reduceToNat] at ho14; rw [← Ny220.out] at ho14)); have n0_ := aM (Kd.V_elder' (by (with_reducible repeat (first | apply Kd.V_alloc | apply Kd.V_drewN | apply Kd.V_drew)); exact HO216.out) (Kd.R_base ho14) hb); have n1_ := aM (Kd.V_elder' (by (with_reducible repeat (first | apply Kd.V_alloc | apply Kd.V_drewN | apply Kd.V_drew)); exact HO219.out) (Kd.R_base ho14) hb); have n2_ := aM (Kd.R_lower ho14 (bZ (by repeat (first | (with_reducible first | exact HB.out | apply bA | apply bN | apply bE) | exact HB.out)))); have n3_ := aM (bT (by repeat (first | (with_reducible first | exact HB.out | apply bA | apply bN | apply bE) | exact HB.out)) hb); clear HO216; clear HO219; clear HB; have HO216 := n0_; have HO219 := n1_; have HO222 := n2_; have HB := n3_; clear n0_ n1_ n2_ n3_; clear hb ho14; obtain ⟨Ao15, co15, eo15⟩ := Kd.V_slice HO216.out; subst eo15))
    go_loopg [12, 27] k (fun kq v12 v27 w' => ∃ (x12_1 : List Int) (x27_1 : Int), v27 = .int .i64 x27_1 ∧ Aside0 (impl_FilterRow.l0 kq a0 a3 y214 y217 x12_1 (y214.length : Int) x27_1 = some (r1, r2)) ∧ Aside0 (kq ≤ k) ∧ Aside0 (Kd.V (Kd.int .u8) 5 w' w.heap.size (fun k_ => some k_ ≠ (v12 : Value).ownBlock) (.slice Ao15 y214.length co15) y214) ∧ Aside0 (Kd.V (Kd.int .u8) 5 w' w.heap.size (fun k_ => some k_ ≠ (v12 : Value).ownBlock) v218 y217) ∧ Aside0 (Kd.R (Kd.int .u8) 5 w' w.heap.size (fun _ => True) v12 x12_1) ∧ Aside0 (Below w.heap.size w w'))
    case atStart => exact ⟨(y220), (0), (by first | rfl | (simp; done) | (simp [*]; done)), H', ⟨Nat.le_refl _⟩, ⟨by (with_reducible repeat (first | apply Kd.V_alloc | apply Kd.V_drewN | apply Kd.V_drew)); exact Kd.V_mono HO216.out (fun _ hk => hk.2)⟩, ⟨by (with_reducible repeat (first | apply Kd.V_alloc | apply Kd.V_drewN | apply Kd.V_drew)); exact Kd.V_mono HO219.out (fun _ hk => hk.2)⟩, ⟨by (with_reducible repeat (first | apply rA | apply rN | apply rD)); exact HO222.out⟩, ⟨by repeat (first | (with_reducible first | exact HB.out | apply bA | apply bN | apply bE) | exact HB.out)⟩⟩
    case round =>
     clear H'
     try clear c1
     try clear p2
     try clear c6
     try clear c7
     try clear c7b0
     try clear c7b1
     try clear c7b2
     try clear c8
     try clear c8b0
     try clear c8b1
     try clear c8b2
     obtain ⟨x12_1, x27_1, rfl, HA, HK1, HO_10, HO_11, HO_12, HB⟩ := hrel
     cases gk with
     | zero => exact absurd HA.out (by simp [impl_FilterRow.l0])
     | succ k1 =>
      have H := HA.out
      clear HA
      simp only [impl_FilterRow.l0] at H
      by_cases c16 : x27_1 < (y214.length : Int)
      ·rw [if_pos c16] at H
       have c16b0 : decide (x27_1 < (y214.length : Int)) = true := decide_eq_true c16
       clear c16
       by_cases c17 : 0 ≤ x27_1
       ·rw [if_pos c17] at H
        have c17b0 : decide (0 ≤ x27_1) = true := decide_eq_true c17
        clear c17
        by_cases c18 : x27_1 < (y214.length : Int)
        ·rw [if_pos c18] at H
         have c18b0 : decide (x27_1 < (y214.length : Int)) = true := decide_eq_true c18
         clear c18
         replace H := oB.mp H
         obtain ⟨t224, A190, H⟩ := H
         replace H : (if x12_1.length < 140737488355328 then (impl_FilterRow.l0 k1 a0 a3 y214 y217 (x12_1 ++ [((rd y214 x27_1) - ((t224) % 256)) % 256]) (y214.length : Int) (wrap64 (x27_1 + 1))) else (none)) = some (r1, r2) := H
         have A19 := aM A190
         clear A190
         by_cases c20 : x12_1.length < 140737488355328
         ·rw [if_pos c20] at H
          have LMc20 := aM c20
          clear c20
          obtain ⟨y225, hy225⟩ : ∃ y_ : List Int, y_ = (x12_1 ++ [((rd y214 x27_1) - ((t224) % 256)) % 256]) := ⟨_, rfl⟩
          replace H : (impl_FilterRow.l0 k1 a0 a3 y214 y217 y225 (y214.length : Int) (wrap64 (x27_1 + 1))) = some (r1, r2) := by first | (rw [hy225]; with_reducible exact H) | (have H2_ := (Option.bind_some _ _).symm.trans H; rw [hy225]; with_reducible exact H2_) | (have H2_ := (Option.bind_some _ _).symm.trans H; with_reducible exact H2_) | with_reducible exact H | (rw [hy225]; exact H) | exact H
          have Ny225 := aM hy225
          clear hy225
          have H' := aM H
          clear H
          try go_wp2
          have n0_ := aM (Kd.V_drew HO_10.out)
          have n1_ := aM (Kd.V_drew HO_11.out)
          have n2_ := aM (rD HO_12.out)
          have n3_ := aM (bE HB.out)
          clear HO_10
          clear HO_11
          clear HO_12
          clear HB
          have HO_10 := n0_
          have HO_11 := n1_
          have HO_12 := n2_
          have HB := n3_
          clear n0_ n1_ n2_ n3_
          have p223 : 0 ≤ (x27_1 : Int) := oD (by first | (with_reducible assumption) | assumption)
          have q223 : x27_1 < (y214.length : Int) := oD (by first | (with_reducible assumption) | assumption)
          obtain ⟨ad223, e223, hx223_0⟩ := Kd.at_int (Kd.V_reads' HO_10.out).2.2 x27_1 p223 q223
          cases e223
          replace p223 := eq_true p223
          replace q223 := eq_true q223
          obtain ⟨Ao22, co22, eo22⟩ := Kd.V_slice HO_11.out
          (first | subst eo22 | (injection eo22 with f1_ f2_ f3_; have f4_ := f1_.symm; have f5_ := f3_.symm; clear f1_ f2_ f3_; subst f4_; subst f5_))
          refine start_ (n := 16) (S := fun w' => w'.cell? (ad223.add (x27_1).toNat) = some (.int .u8 (rd y214 x27_1))) (ds := [13, 14]) #[false, false, false, false, false, false, false, false, false, false, false, false, false, false, false, false] (by kernel_rfl) rfl rfl (hx223_0) (fun hHeld => ?_); refine with_tabW impl_FilterRow.tab8 impl_FilterRow.bits8 (fun HT_ HW_ => ?_)
          generalize wr.drew = w21 at HO_10 HO_11 HO_12 HB hx223_0 hHeld ⊢
          refine pure_ (i := 0) (N := some 30) (v := ?_) (a' := ?_) #[true, false, false, false, false, false, false, false, false, false, false, false, false, false, false, false] rfl rfl (any_of HT_.out (by kernel_rfl)) (fun _ _ _ h => h) (Or.inl ⟨by rfl, ?_⟩) ?_ ?_
          rotate_left
          ·intro w'
           go_simp
           with_reducible rfl
          rotate_left
          ·simp only [Act.put, lI, lZ, lS, i64_w, i32_w]
           rfl
          refine pure_ (i := 1) (N := some 31) (v := ?_) (a' := ?_) #[true, true, false, false, false, false, false, false, false, false, false, false, false, false, false, false] rfl rfl (any_of HT_.out (by kernel_rfl)) (fun _ _ _ h => h) (Or.inl ⟨by rfl, ?_⟩) ?_ ?_
          rotate_left
          ·intro w'
           go_simp
           with_reducible rfl
          rotate_left
          ·simp only [Act.put, lI, lZ, lS, i64_w, i32_w]
           rfl
          refine pure_ (i := 2) (N := some 32) (v := ?_) (a' := ?_) #[true, true, true, false, false, false, false, false, false, false, false, false, false, false, false, false] rfl rfl (any_of HT_.out (by kernel_rfl)) (fun _ _ _ h => h) (Or.inl ⟨by rfl, ?_⟩) ?_ ?_
          rotate_left
          ·intro w'
           go_simp
           with_reducible rfl
          rotate_left
          ·simp only [Act.put, lI, lZ, lS, i64_w, i32_w]
           rfl
          refine pure_ (i := 3) (N := some 33) (v := ?_) (a' := ?_) #[true, true, true, true, false, false, false, false, false, false, false, false, false, false, false, false] rfl rfl (any_of HT_.out (by kernel_rfl)) (fun _ _ _ h => h) (Or.inl ⟨by rfl, ?_⟩) ?_ ?_
          rotate_left
          ·intro w'
           go_simp
           with_reducible rfl
          rotate_left
          ·simp only [Act.put, lI, lZ, lS, i64_w, i32_w]
           rfl
          refine pure_ (i := 5) (N := some 35) (v := ?_) (a' := ?_) #[true, true, true, true, false, true, false, false, false, false, false, false, false, false, false, false] rfl rfl (any_of HT_.out (by kernel_rfl)) (fun _ _ _ h => h) (Or.inl ⟨by rfl, ?_⟩) ?_ ?_
          rotate_left
          ·intro w'
           go_simp
           with_reducible rfl
          rotate_left
          ·simp only [Act.put, lI, lZ, lS, i64_w, i32_w]
           rfl
          refine pure_ (i := 6) (N := some 36) (v := ?_) (a' := ?_) #[true, true, true, true, false, true, true, false, false, false, false, false, false, false, false, false] rfl rfl (any_of HT_.out (by kernel_rfl)) (fun _ _ _ h => h) (Or.inl ⟨by rfl, ?_⟩) ?_ ?_
          rotate_left
          ·intro w'
           go_simp
           with_reducible rfl
          rotate_left
          ·simp only [Act.put, lI, lZ, lS, i64_w, i32_w]
           rfl
          refine pure_ (i := 7) (N := some 37) (v := ?_) (a' := ?_) #[true, true, true, true, false, true, true, true, false, false, false, false, false, false, false, false] rfl rfl (any_of HT_.out (by kernel_rfl)) (fun _ _ _ h => h) (Or.inl ⟨by rfl, ?_⟩) ?_ ?_
          rotate_left
          ·intro w'
           go_simp
           with_reducible rfl
          rotate_left
          ·simp only [Act.put, lI, lZ, lS, i64_w, i32_w]
           rfl
          refine pure_ (i := 8) (N := some 38) (v := ?_) (a' := ?_) #[true, true, true, true, false, true, true, true, true, false, false, false, false, false, false, false] rfl rfl (any_of HT_.out (by kernel_rfl)) (fun _ _ _ h => h) (Or.inl ⟨by rfl, ?_⟩) ?_ ?_
          rotate_left
          ·intro w'
           go_simp
           with_reducible rfl
          rotate_left
          ·simp only [Act.put, lI, lZ, lS, i64_w, i32_w]
           rfl
          refine pure_ (i := 9) (N := some 39) (v := ?_) (a' := ?_) #[true, true, true, true, false, true, true, true, true, true, false, false, false, false, false, false] rfl rfl (any_of HT_.out (by kernel_rfl)) (fun _ _ _ h => h) (Or.inl ⟨by rfl, ?_⟩) ?_ ?_
          rotate_left
          ·intro w'
           go_simp
           with_reducible rfl
          rotate_left
          ·simp only [Act.put, lI, lZ, lS, i64_w, i32_w]
           rfl
          refine take_ (i := 4) (N := some 34) (v := ?_) (a' := ?_) #[true, true, true, true, true, true, true, true, true, true, false, false, false, false, false, false] rfl rfl (take_ofW HT_.out HW_.out (by kernel_rfl)) (fun _ _ _ h => h) (Or.inl ⟨by rfl, ?_⟩) hHeld ?_ ?_
          rotate_left
          ·intro w' s0
           go_simp
           with_reducible rfl
          rotate_left
          ·simp only [Act.put, lI, lZ, lS, i64_w, i32_w]
           rfl
          refine one_ (i := 10) (N := some 40) #[true, true, true, true, true, true, true, true, true, true, true, false, false, false, false, false] rfl rfl (one_of HT_.out (by kernel_rfl)) (by decide) (fun K hK => ?_)
          refine goes_ Try.func185 (by kernel_rfl) rfl #[.int .i64 a0, .slice (some ad223) y214.length co15, .slice Ao22 y217.length co22, .int .i64 x27_1, .int .i64 a3] (by rfl) rfl rfl (by (try simp only [lM, List.map_cons, List.map_nil]); first | done | rfl | (simp only [lD, lT]; rfl)) ?_
          with_reducible refine (impl_foretold.calls k1 a0 _ _ y214 _ _ y217 x27_1 a3 t224 _ ?side1 ?side2 ?side3 ?side4 A19.out).mono ?_
          (case side1 => repeat (first | exact (Kd.V_reads' HO_10.out).2.2 | (with_reducible refine cA ?_ _) | (with_reducible refine cN ?_ _) | (with_reducible refine cD ?_)))
          (case side2 => exact (Kd.V_reads' HO_10.out).2.1)
          (case side3 => repeat (first | exact (Kd.V_reads' HO_11.out).2.2 | (with_reducible refine cA ?_ _) | (with_reducible refine cN ?_ _) | (with_reducible refine cD ?_)))
          (case side4 => exact (Kd.V_reads' HO_11.out).2.1)
          rintro e w23 ⟨rfl, hb⟩
          have HS0_ := (hb.cell (wL _ _ (hHeld))).trans (hHeld)
          refine ⟨_, rfl, ?_⟩
          have n0_ := aM (Kd.V_below (by (with_reducible repeat (first | apply Kd.V_alloc | apply Kd.V_drewN | apply Kd.V_drew)); exact HO_10.out) hb)
          have n1_ := aM (Kd.V_below (by (with_reducible repeat (first | apply Kd.V_alloc | apply Kd.V_drewN | apply Kd.V_drew)); exact HO_11.out) hb)
          have n2_ := aM (Kd.R_below (by (with_reducible repeat (first | apply rA | apply rN | apply rD)); exact HO_12.out) hb)
          have n3_ := aM (bT (by repeat (first | (with_reducible first | exact HB.out | apply bA | apply bN | apply bE) | exact HB.out)) hb)
          clear HO_10
          clear HO_11
          clear HO_12
          clear HB
          have HO_10 := n0_
          have HO_11 := n1_
          have HO_12 := n2_
          have HB := n3_
          clear n0_ n1_ n2_ n3_
          (try clear hb)
          (try clear hb2)
          (try clear hk)
          (try clear hi)
          refine hK.out _ _ (HS0_) (fun hHeld => ?_)
          clear hK K
          refine norm_ (a' := ?_) ?_ ?_
          rotate_left
          ·show Act.put _ (some 40) _ = _
           simp only [Act.put, lI, lZ, lS, i64_w, i32_w]
           rfl
          refine pure_ (i := 11) (N := some 41) (v := ?_) (a' := ?_) #[true, true, true, true, true, true, true, true, true, true, true, true, false, false, false, false] rfl rfl (any_of HT_.out (by kernel_rfl)) (fun _ _ _ h => h) (Or.inl ⟨by rfl, ?_⟩) ?_ ?_
          rotate_left
          ·intro w'
           go_simp
           with_reducible rfl
          rotate_left
          ·simp only [Act.put, lI, lZ, lS, i64_w, i32_w]
           rfl
          refine pure_ (i := 12) (N := some 42) (v := ?_) (a' := ?_) #[true, true, true, true, true, true, true, true, true, true, true, true, true, false, false, false] rfl rfl (any_of HT_.out (by kernel_rfl)) (fun _ _ _ h => h) (Or.inl ⟨by rfl, ?_⟩) ?_ ?_
          rotate_left
          ·intro w'
           go_simp
           with_reducible rfl
          rotate_left
          ·simp only [Act.put, lI, lZ, lS, i64_w, i32_w]
           rfl
          refine last_ (i := 13) (N := some 43) #[true, true, true, true, true, true, true, true, true, true, true, true, true, true, false, false] rfl rfl (one_of HT_.out (by kernel_rfl)) (by decide) (fun K hK => ?_)
          refine value_ (w1 := ?_) (v := ?_) (by rfl) rfl ?_ ?_
          rotate_left 2
          ·go_simp
           constructor
           ·rfl
           ·rfl
          refine hK.out _ _ ?_
          clear hK K
          refine norm_ (a' := ?_) ?_ ?_
          rotate_left
          ·show Act.put _ (some 43) _ = _
           simp only [Act.put, lI, lZ, lS, i64_w, i32_w]
           rfl
          refine last_ (i := 14) (N := some 44) #[true, true, true, true, true, true, true, true, true, true, true, true, true, true, true, false] rfl rfl (one_of HT_.out (by kernel_rfl)) (by decide) (fun K hK => ?_)
          refine Kd.R_append_step (Kd.int .u8) (w0 := w) w.heap.size (by rfl) (.tmp 30) (.tmp 43) 36 5 (.int .u8 0) 1 rfl Try.underlying36 info5 rfl (by decide) (by omega) u12 x12_1 (((rd y214 x27_1) - ((t224) % 256)) % 256) [.int .u8 (((rd y214 x27_1) - ((t224) % 256)) % 256)] (fun _ => True) (fun _ => False) rfl rfl ?aP (fun _ hk => hk.elim) ?aF ?aO ?aB ?aS ?aL ?_
          (case aP => exact rfl)
          (case aB => exact (by repeat (first | (with_reducible first | exact HB.out | apply bA | apply bN | apply bE) | exact HB.out)))
          (case aF => exact (fun _ _ => trivial))
          (case aO => exact (by (with_reducible repeat (first | apply rA | apply rN | apply rD)); exact HO_12.out))
          (case aS => exact (bZ (by repeat (first | (with_reducible first | exact HB.out | apply bA | apply bN | apply bE) | exact HB.out))))
          (case aL => have := LMc20.out; omega)
          intro v226 w24 ho hb hg hat
          rw [← Ny225.out] at ho
          have n0_ := aM (Kd.V_afterv (ok := (fun _ => True)) (by (with_reducible repeat (first | apply Kd.V_alloc | apply Kd.V_drewN | apply Kd.V_drew)); exact Kd.V_mono HO_10.out (fun _ hk => ⟨trivial, hk⟩)) hg hat)
          have n1_ := aM (Kd.V_afterv (ok := (fun _ => True)) (by (with_reducible repeat (first | apply Kd.V_alloc | apply Kd.V_drewN | apply Kd.V_drew)); exact Kd.V_mono HO_11.out (fun _ hk => ⟨trivial, hk⟩)) hg hat)
          have n2_ := aM (hb)
          have n3_ := aM (ho)
          clear HO_10
          clear HO_11
          clear HB
          clear HO_12
          have HO_10 := n0_
          have HO_11 := n1_
          have HB := n2_
          have HO227 := n3_
          clear n0_ n1_ n2_ n3_
          clear ho hb hg hat
          refine hK.out _ _ ?_
          clear hK K
          refine norm_ (a' := ?_) ?_ ?_
          rotate_left
          ·show Act.put _ (some 44) _ = _
           simp only [Act.put, lI, lZ, lS, i64_w, i32_w]
           rfl
          refine pure_ (i := 15) (N := some 12) (v := ?_) (a' := ?_) #[true, true, true, true, true, true, true, true, true, true, true, true, true, true, true, true] rfl rfl (any_of HT_.out (by kernel_rfl)) (fun _ _ _ h => h) (Or.inl ⟨by rfl, ?_⟩) ?_ ?_
          rotate_left
          ·intro w'
           go_simp
           with_reducible rfl
          rotate_left
          ·simp only [Act.put, lI, lZ, lS, i64_w, i32_w]
           rfl
          refine done_ (done_of HT_.out (by kernel_rfl)) ?_
          try go_wp2
          go_roundg k1
          case measure => have := HK1.out; omega
          case rel => exact ⟨(y225), (wrap64 (x27_1 + 1)), (by first | rfl | (simp; done) | (simp [*]; done)), H', ⟨by have := HK1.out; omega⟩, ⟨by (with_reducible repeat (first | apply Kd.V_alloc | apply Kd.V_drewN | apply Kd.V_drew)); exact Kd.V_mono HO_10.out (fun _ hk => hk.2)⟩, ⟨by (with_reducible repeat (first | apply Kd.V_alloc | apply Kd.V_drewN | apply Kd.V_drew)); exact Kd.V_mono HO_11.out (fun _ hk => hk.2)⟩, ⟨by (with_reducible repeat (first | apply rA | apply rN | apply rD)); exact HO227.out⟩, ⟨by repeat (first | (with_reducible first | exact HB.out | apply bA | apply bN | apply bE) | exact HB.out)⟩⟩
         ·rw [if_neg c20] at H
          exact absurd H (by simp)
        ·rw [if_neg c18] at H
         exact absurd H (by simp)
       ·rw [if_neg c17] at H
        exact absurd H (by simp)
      ·rw [if_neg c16] at H
       have c16b0 : decide (x27_1 < (y214.length : Int)) = false := decide_eq_false c16
       clear c16
       simp only [Option.some.injEq, Prod.mk.injEq] at H
       obtain ⟨rfl, rfl⟩ := H
       have hcv25 := own_string (P := Try.prog) Try.underlying36 Try.underlying5 Try.underlying9 (Kd.own_of_R HO_12.out)
       go_wp2
       go_ret2
       exact ⟨by first | rfl | (simp [errW_none, errW_some] <;> rfl) | (simp [*, errW_none, errW_some] <;> rfl), by repeat (first | (with_reducible first | exact HB.out | apply bA | apply bN | apply bE) | exact HB.out)⟩
   ·rw [if_neg c8] at H
    exact absurd H (by simp)
  ·rw [if_neg c7] at H
   exact absurd H (by simp)
 ·replace c6 := Bool.eq_false_iff.mpr c6
  subst c6
  have H1 : (some ((⟨#[]⟩ : ByteArray), false)) = some (r1, r2) := by rw [if_neg (show ¬ (false = true) by decide)] at H; first | done | exact H
  clear H
  have H := H1
  clear H1
  simp only [Option.some.injEq, Prod.mk.injEq] at H
  obtain ⟨rfl, rfl⟩ := H
  go_enter Try.func161, Try.ntmps161
  go_wp2_with (first | ((with_reducible refine gate_callee (f := 184) rfl ?_); refine goesL_ (some 18) rfl rfl Try.func184 (by kernel_rfl) rfl #[.int .i64 a0, .string a1, .string a2, .int .i64 a3] rfl (by (try simp only [lM, List.map_cons, List.map_nil]); first | done | rfl | (simp only [lD, lT]; rfl)) ?_; (with_reducible refine (impl_filterOk.calls a0 a1 a2 a3 false _ A5.out).mono ?_); rintro e w' ⟨rfl, ⟨nd, rfl⟩⟩; refine ⟨_, rfl, ?_⟩))
  go_ret2
  exact ⟨by first | rfl | (simp [errW_none, errW_some] <;> rfl) | (simp [*, errW_none, errW_some] <;> rfl), by repeat (first | (with_reducible first | exact HB.out | apply bA | apply bN | apply bE) | exact HB.out)⟩

/-! ### impl_RowWeight: function 183 -/
def impl_RowWeight.l0 : Nat → ByteArray → Int → Int → Int → Option (Int)
 | 0, _, _, _, _ => none
 | k + 1, x0, x3, x10, x11 => if x11 < x10 then (if 0 ≤ x11 then (if x11 < (x0.size : Int) then (impl_RowWeight.l0 k x0 (wrap64 (x3 + (mn (wrap64 (bt x0 x11)) (wrap64 (256 - (wrap64 (bt x0 x11))))))) x10 (wrap64 (x11 + 1))) else (none)) else (none)) else (some x3)
def impl_RowWeight.f (k : Nat) (a0 : ByteArray) : Option (Int) := if (a0.size : Int) > 200 then (some (-1)) else (impl_RowWeight.l0 k a0 0 (a0.size : Int) 0)
theorem impl_RowWeight.mono_l : ∀ k, (∀ y0 y1 y2 y3, LeO (impl_RowWeight.l0 k y0 y1 y2 y3) (impl_RowWeight.l0 (k + 1) y0 y1 y2 y3))
 | 0 => fun _ _ _ _ r h => by simp [impl_RowWeight.l0] at h
 | k + 1 => by
  have ih0 := impl_RowWeight.mono_l k
  ·intro y0 y1 y2 y3
   unfold impl_RowWeight.l0
   repeat' first
   | (with_reducible exact ih0 _ _ _ _)
   | (with_reducible exact LeO.refl _)
   | (with_reducible exact LeO.none _)
   | (with_reducible refine LeO.ite ?_ ?_)
   | (with_reducible refine LeO.bind ?_ (fun _ => ?_))
   | exact ih0 _ _ _ _
   | exact LeO.none _
   | refine LeO.ite ?_ ?_
   | refine LeO.bind ?_ (fun _ => ?_)
theorem impl_RowWeight.mono : ∀ a0 k, LeO (impl_RowWeight.f k a0) (impl_RowWeight.f (k + 1) a0) := by
 intro a0 k
 have ih0 := impl_RowWeight.mono_l k
 unfold impl_RowWeight.f
 repeat' first
   | (with_reducible exact ih0 _ _ _ _)
   | (with_reducible exact LeO.refl _)
   | (with_reducible exact LeO.none _)
   | (with_reducible refine LeO.ite ?_ ?_)
   | (with_reducible refine LeO.bind ?_ (fun _ => ?_))
   | exact ih0 _ _ _ _
   | exact LeO.none _
   | refine LeO.ite ?_ ?_
   | refine LeO.bind ?_ (fun _ => ?_)
set_option maxHeartbeats 8000000 in
set_option maxRecDepth 100000 in
theorem impl_RowWeight.calls (k : Nat) (a0 : ByteArray) (r : Int) (w : World) (h : impl_RowWeight.f k a0 = some r) :
  Calls Try.prog 183 #[.string a0] w fun e w' => e = .returned (.int .i64 r) ∧ Below w.heap.size w w' := by
 have HB := aM (Below.refl w.heap.size w)
 have H : (if (a0.size : Int) > 200 then (some (-1)) else (impl_RowWeight.l0 k a0 0 (a0.size : Int) 0)) = some r := h
 clear h
 by_cases c2 : (a0.size : Int) > 200
 ·rw [if_pos c2] at H
  have c2b0 : decide (200 < (a0.size : Int)) = true := decide_eq_true c2
  have c2b1 : decide (200 < a0.size) = true := decide_eq_true (by omega)
  clear c2
  obtain rfl := Option.some.inj H
  go_enter Try.func183, Try.ntmps183
  go_wp2
  go_ret
  exact ⟨by first | rfl | (simp [errW_none, errW_some] <;> rfl) | (simp [*, errW_none, errW_some] <;> rfl), by repeat (first | (with_reducible first | exact HB.out | apply bA | apply bN | apply bE) | exact HB.out)⟩
 ·rw [if_neg c2] at H
  have c2b0 : decide (200 < (a0.size : Int)) = false := decide_eq_false c2
  have c2b1 : decide (200 < a0.size) = false := decide_eq_false (by omega)
  clear c2
  have H' := aM H
  clear H
  go_enter Try.func183, Try.ntmps183
  go_wp2
  go_loopg [3, 11] k (fun kq v3 v11 w' => ∃ (x3_1 : Int) (x11_1 : Int), v3 = .int .i64 x3_1 ∧ v11 = .int .i64 x11_1 ∧ Aside0 (impl_RowWeight.l0 kq a0 x3_1 (a0.size : Int) x11_1 = some r) ∧ Aside0 (kq ≤ k) ∧ Aside0 (Below w.heap.size w w'))
  case atStart => exact ⟨(0), (0), (by first | rfl | (simp; done) | (simp [*]; done)), (by first | rfl | (simp; done) | (simp [*]; done)), H', ⟨Nat.le_refl _⟩, ⟨by repeat (first | (with_reducible first | exact HB.out | apply bA | apply bN | apply bE) | exact HB.out)⟩⟩
  case round =>
   clear H'
   try clear c1
   try clear c2
   try clear c2b0
   try clear c2b1
   try clear p2
   obtain ⟨x3_1, x11_1, rfl, rfl, HA, HK1, HB⟩ := hrel
   cases gk with
   | zero => exact absurd HA.out (by simp [impl_RowWeight.l0])
   | succ k1 =>
    have H := HA.out
    clear HA
    simp only [impl_RowWeight.l0] at H
    by_cases c3 : x11_1 < (a0.size : Int)
    ·rw [if_pos c3] at H
     have c3b0 : decide (x11_1 < (a0.size : Int)) = true := decide_eq_true c3
     clear c3
     by_cases c4 : 0 ≤ x11_1
     ·rw [if_pos c4] at H
      have c4b0 : decide (0 ≤ x11_1) = true := decide_eq_true c4
      clear c4
      by_cases c5 : x11_1 < (a0.size : Int)
      ·rw [if_pos c5] at H
       have c5b0 : decide (x11_1 < (a0.size : Int)) = true := decide_eq_true c5
       clear c5
       obtain ⟨ji7, hji7⟩ : ∃ j_ : Int, (mn (wrap64 (bt a0 x11_1)) (wrap64 (256 - (wrap64 (bt a0 x11_1))))) = j_ := ⟨_, rfl⟩
       replace H : (impl_RowWeight.l0 k1 a0 (wrap64 (x3_1 + (ji7))) (a0.size : Int) (wrap64 (x11_1 + 1))) = some r := by first | (rw [hji7] at H; exact H) | (simp only [hji7] at H ⊢; exact H)
       have hji7_ : (if (wrap64 (256 - (wrap64 (bt a0 x11_1)))) < (wrap64 (bt a0 x11_1)) then (wrap64 (256 - (wrap64 (bt a0 x11_1)))) else (wrap64 (bt a0 x11_1))) = ji7 := hji7
       have H' := aM H
       clear H
       have p6 : 0 ≤ (x11_1 : Int) := oD (by first | (with_reducible assumption) | assumption)
       have q6 : x11_1 < (a0.size : Int) := oD (by first | (with_reducible assumption) | assumption)
       have hx6 := bt_at a0 x11_1
       replace p6 := eq_true p6
       replace q6 := eq_true q6
       go_wp2
       go_roundg k1
       case measure => have := HK1.out; omega
       case rel => exact ⟨(wrap64 (x3_1 + (ji7))), (wrap64 (x11_1 + 1)), (by first | rfl | (simp; done) | (simp only [← hji7] <;> (first | rfl | simp)) | (simp [*]; done)), (by first | rfl | (simp; done) | (simp [*]; done)), H', ⟨by have := HK1.out; omega⟩, ⟨by repeat (first | (with_reducible first | exact HB.out | apply bA | apply bN | apply bE) | exact HB.out)⟩⟩
      ·rw [if_neg c5] at H
       exact absurd H (by simp)
     ·rw [if_neg c4] at H
      exact absurd H (by simp)
    ·rw [if_neg c3] at H
     have c3b0 : decide (x11_1 < (a0.size : Int)) = false := decide_eq_false c3
     clear c3
     obtain rfl := Option.some.inj H
     go_wp2
     go_ret
     exact ⟨by first | rfl | (simp [errW_none, errW_some] <;> rfl) | (simp [*, errW_none, errW_some] <;> rfl), by repeat (first | (with_reducible first | exact HB.out | apply bA | apply bN | apply bE) | exact HB.out)⟩

/-! ### impl_BestFilter: function 160 -/
def impl_BestFilter.l0 : Nat → ByteArray → ByteArray → Int → Int → Int → Int → Option (Int × Bool)
 | 0, _, _, _, _, _, _ => none
 | k + 1, x0, x1, x2, x8, x9, x14 => if x14 < 5 then ((impl_FilterRow.f k x14 x0 x1 x2).bind fun bt228 => (if bt228.2 = true then ((impl_RowWeight.f k bt228.1).bind fun t230 => (if x9 < 0 then (impl_BestFilter.l0 k x0 x1 x2 x14 t230 (wrap64 (x14 + 1))) else (if t230 < x9 then (impl_BestFilter.l0 k x0 x1 x2 x14 t230 (wrap64 (x14 + 1))) else (impl_BestFilter.l0 k x0 x1 x2 x8 x9 (wrap64 (x14 + 1)))))) else (some (0, false)))) else (some (x8, true))
def impl_BestFilter.f (k : Nat) (a0 : ByteArray) (a1 : ByteArray) (a2 : Int) : Option (Int × Bool) := impl_BestFilter.l0 k a0 a1 a2 0 (-1) 0
theorem impl_BestFilter.mono_l : ∀ k, (∀ y0 y1 y2 y3 y4 y5, LeO (impl_BestFilter.l0 k y0 y1 y2 y3 y4 y5) (impl_BestFilter.l0 (k + 1) y0 y1 y2 y3 y4 y5))
 | 0 => fun _ _ _ _ _ _ r h => by simp [impl_BestFilter.l0] at h
 | k + 1 => by
  have ih0 := impl_BestFilter.mono_l k
  ·intro y0 y1 y2 y3 y4 y5
   unfold impl_BestFilter.l0
   repeat' first
   | (with_reducible exact ih0 _ _ _ _ _ _)
   | (with_reducible exact impl_FilterRow.mono _ _ _ _ _)
   | (with_reducible exact impl_RowWeight.mono _ _)
   | (with_reducible exact LeO.refl _)
   | (with_reducible exact LeO.none _)
   | (with_reducible refine LeO.ite ?_ ?_)
   | (with_reducible refine LeO.bind ?_ (fun _ => ?_))
   | exact ih0 _ _ _ _ _ _
   | exact impl_FilterRow.mono _ _ _ _ _
   | exact impl_RowWeight.mono _ _
   | exact LeO.none _
   | refine LeO.ite ?_ ?_
   | refine LeO.bind ?_ (fun _ => ?_)
theorem impl_BestFilter.mono : ∀ a0 a1 a2 k, LeO (impl_BestFilter.f k a0 a1 a2) (impl_BestFilter.f (k + 1) a0 a1 a2) := by
 intro a0 a1 a2 k
 have ih0 := impl_BestFilter.mono_l k
 unfold impl_BestFilter.f
 repeat' first
   | (with_reducible exact ih0 _ _ _ _ _ _)
   | (with_reducible exact impl_FilterRow.mono _ _ _ _ _)
   | (with_reducible exact impl_RowWeight.mono _ _)
   | (with_reducible exact LeO.refl _)
   | (with_reducible exact LeO.none _)
   | (with_reducible refine LeO.ite ?_ ?_)
   | (with_reducible refine LeO.bind ?_ (fun _ => ?_))
   | exact ih0 _ _ _ _ _ _
   | exact impl_FilterRow.mono _ _ _ _ _
   | exact impl_RowWeight.mono _ _
   | exact LeO.none _
   | refine LeO.ite ?_ ?_
   | refine LeO.bind ?_ (fun _ => ?_)
set_option maxHeartbeats 8000000 in
set_option maxRecDepth 100000 in
theorem impl_BestFilter.calls (k : Nat) (a0 : ByteArray) (a1 : ByteArray) (a2 : Int) (r1 : Int) (r2 : Bool) (w : World) (h : impl_BestFilter.f k a0 a1 a2 = some (r1, r2)) :
  Calls Try.prog 160 #[.string a0, .string a1, .int .i64 a2] w fun e w' => e = .returned (.tuple #[.int .i64 r1, .bool r2]) ∧ Below w.heap.size w w' := by
 have HB := aM (Below.refl w.heap.size w)
 have H : (impl_BestFilter.l0 k a0 a1 a2 0 (-1) 0) = some (r1, r2) := h
 clear h
 have H' := aM H
 clear H
 go_enter Try.func160, Try.ntmps160
 go_wp2
 go_loopg [8, 9, 14] k (fun kq v8 v9 v14 w' => ∃ (x8_1 : Int) (x9_1 : Int) (x14_1 : Int), v8 = .int .i64 x8_1 ∧ v9 = .int .i64 x9_1 ∧ v14 = .int .i64 x14_1 ∧ Aside0 (impl_BestFilter.l0 kq a0 a1 a2 x8_1 x9_1 x14_1 = some (r1, r2)) ∧ Aside0 (kq ≤ k) ∧ Aside0 (Below w.heap.size w w'))
 case atStart => exact ⟨(0), ((-1)), (0), (by first | rfl | (simp; done) | (simp [*]; done)), (by first | rfl | (simp; done) | (simp [*]; done)), (by first | rfl | (simp; done) | (simp [*]; done)), H', ⟨Nat.le_refl _⟩, ⟨by repeat (first | (with_reducible first | exact HB.out | apply bA | apply bN | apply bE) | exact HB.out)⟩⟩
 case round =>
  clear H'
  try clear c1
  try clear p2
  obtain ⟨x8_1, x9_1, x14_1, rfl, rfl, rfl, HA, HK1, HB⟩ := hrel
  cases gk with
  | zero => exact absurd HA.out (by simp [impl_BestFilter.l0])
  | succ k1 =>
   have H := HA.out
   clear HA
   simp only [impl_BestFilter.l0] at H
   by_cases c4 : x14_1 < 5
   ·rw [if_pos c4] at H
    have c4b0 : decide (x14_1 < 5) = true := decide_eq_true c4
    clear c4
    replace H := oB.mp H
    obtain ⟨⟨t228, t229⟩, A50, H⟩ := H
    try dsimp only at H
    have A5 := aM A50
    clear A50
    by_cases c6 : t229 = true
    ·subst c6
     have H1 : ((impl_RowWeight.f k1 t228).bind fun t230 => (if x9_1 < 0 then (impl_BestFilter.l0 k1 a0 a1 a2 x14_1 t230 (wrap64 (x14_1 + 1))) else (if t230 < x9_1 then (impl_BestFilter.l0 k1 a0 a1 a2 x14_1 t230 (wrap64 (x14_1 + 1))) else (impl_BestFilter.l0 k1 a0 a1 a2 x8_1 x9_1 (wrap64 (x14_1 + 1)))))) = some (r1, r2) := by rw [if_pos rfl] at H; first | done | exact H
     clear H
     have H := H1
     clear H1
     replace H := oB.mp H
     obtain ⟨t230, A70, H⟩ := H
     try dsimp only at H
     have A7 := aM A70
     clear A70
     by_cases c8 : x9_1 < 0
     ·rw [if_pos c8] at H
      have c8b0 : decide (x9_1 < 0) = true := decide_eq_true c8
      clear c8
      have H' := aM H
      clear H
      go_wp2_with (first | ((with_reducible refine gate_callee (f := 161) rfl ?_); refine goesL_ (some 22) rfl rfl Try.func161 (by kernel_rfl) rfl #[.int .i64 x14_1, .string a0, .string a1, .int .i64 a2] rfl (by (try simp only [lM, List.map_cons, List.map_nil]); first | done | rfl | (simp only [lD, lT]; rfl)) ?_; (with_reducible refine (impl_FilterRow.calls k1 x14_1 a0 a1 a2 t228 true _ A5.out).mono ?_); rintro e w9 ⟨rfl, hb⟩; refine ⟨_, rfl, ?_⟩; have n0_ := aM (bT (by repeat (first | (with_reducible first | exact HB.out | apply bA | apply bN | apply bE) | exact HB.out)) hb); clear HB; have HB := n0_; clear n0_; (try clear hb); (try clear hb2); (try clear hk); (try clear hi)) | ((with_reducible refine gate_callee (f := 183) rfl ?_); refine goesL_ (some 28) rfl rfl Try.func183 (by kernel_rfl) rfl #[.string t228] rfl (by (try simp only [lM, List.map_cons, List.map_nil]); first | done | rfl | (simp only [lD, lT]; rfl)) ?_; (with_reducible refine (impl_RowWeight.calls k1 t228 t230 _ A7.out).mono ?_); rintro e w10 ⟨rfl, hb⟩; refine ⟨_, rfl, ?_⟩; have n0_ := aM (bT (by repeat (first | (with_reducible first | exact HB.out | apply bA | apply bN | apply bE) | exact HB.out)) hb); clear HB; have HB := n0_; clear n0_; (try clear hb); (try clear hb2); (try clear hk); (try clear hi)))
      go_roundg k1
      case measure => have := HK1.out; omega
      case rel => exact ⟨(x14_1), (t230), (wrap64 (x14_1 + 1)), (by first | rfl | (simp; done) | (simp [*]; done)), (by first | rfl | (simp; done) | (simp [*]; done)), (by first | rfl | (simp; done) | (simp [*]; done)), H', ⟨by have := HK1.out; omega⟩, ⟨by repeat (first | (with_reducible first | exact HB.out | apply bA | apply bN | apply bE) | exact HB.out)⟩⟩
     ·rw [if_neg c8] at H
      have c8b0 : decide (x9_1 < 0) = false := decide_eq_false c8
      clear c8
      by_cases c11 : t230 < x9_1
      ·rw [if_pos c11] at H
       have c11b0 : decide (t230 < x9_1) = true := decide_eq_true c11
       clear c11
       have H' := aM H
       clear H
       go_wp2_with (first | ((with_reducible refine gate_callee (f := 161) rfl ?_); refine goesL_ (some 22) rfl rfl Try.func161 (by kernel_rfl) rfl #[.int .i64 x14_1, .string a0, .string a1, .int .i64 a2] rfl (by (try simp only [lM, List.map_cons, List.map_nil]); first | done | rfl | (simp only [lD, lT]; rfl)) ?_; (with_reducible refine (impl_FilterRow.calls k1 x14_1 a0 a1 a2 t228 true _ A5.out).mono ?_); rintro e w12 ⟨rfl, hb⟩; refine ⟨_, rfl, ?_⟩; have n0_ := aM (bT (by repeat (first | (with_reducible first | exact HB.out | apply bA | apply bN | apply bE) | exact HB.out)) hb); clear HB; have HB := n0_; clear n0_; (try clear hb); (try clear hb2); (try clear hk); (try clear hi)) | ((with_reducible refine gate_callee (f := 183) rfl ?_); refine goesL_ (some 28) rfl rfl Try.func183 (by kernel_rfl) rfl #[.string t228] rfl (by (try simp only [lM, List.map_cons, List.map_nil]); first | done | rfl | (simp only [lD, lT]; rfl)) ?_; (with_reducible refine (impl_RowWeight.calls k1 t228 t230 _ A7.out).mono ?_); rintro e w13 ⟨rfl, hb⟩; refine ⟨_, rfl, ?_⟩; have n0_ := aM (bT (by repeat (first | (with_reducible first | exact HB.out | apply bA | apply bN | apply bE) | exact HB.out)) hb); clear HB; have HB := n0_; clear n0_; (try clear hb); (try clear hb2); (try clear hk); (try clear hi)))
       go_roundg k1
       case measure => have := HK1.out; omega
       case rel => exact ⟨(x14_1), (t230), (wrap64 (x14_1 + 1)), (by first | rfl | (simp; done) | (simp [*]; done)), (by first | rfl | (simp; done) | (simp [*]; done)), (by first | rfl | (simp; done) | (simp [*]; done)), H', ⟨by have := HK1.out; omega⟩, ⟨by repeat (first | (with_reducible first | exact HB.out | apply bA | apply bN | apply bE) | exact HB.out)⟩⟩
      ·rw [if_neg c11] at H
       have c11b0 : decide (t230 < x9_1) = false := decide_eq_false c11
       clear c11
       have H' := aM H
       clear H
       go_wp2_with (first | ((with_reducible refine gate_callee (f := 161) rfl ?_); refine goesL_ (some 22) rfl rfl Try.func161 (by kernel_rfl) rfl #[.int .i64 x14_1, .string a0, .string a1, .int .i64 a2] rfl (by (try simp only [lM, List.map_cons, List.map_nil]); first | done | rfl | (simp only [lD, lT]; rfl)) ?_; (with_reducible refine (impl_FilterRow.calls k1 x14_1 a0 a1 a2 t228 true _ A5.out).mono ?_); rintro e w14 ⟨rfl, hb⟩; refine ⟨_, rfl, ?_⟩; have n0_ := aM (bT (by repeat (first | (with_reducible first | exact HB.out | apply bA | apply bN | apply bE) | exact HB.out)) hb); clear HB; have HB := n0_; clear n0_; (try clear hb); (try clear hb2); (try clear hk); (try clear hi)) | ((with_reducible refine gate_callee (f := 183) rfl ?_); refine goesL_ (some 28) rfl rfl Try.func183 (by kernel_rfl) rfl #[.string t228] rfl (by (try simp only [lM, List.map_cons, List.map_nil]); first | done | rfl | (simp only [lD, lT]; rfl)) ?_; (with_reducible refine (impl_RowWeight.calls k1 t228 t230 _ A7.out).mono ?_); rintro e w15 ⟨rfl, hb⟩; refine ⟨_, rfl, ?_⟩; have n0_ := aM (bT (by repeat (first | (with_reducible first | exact HB.out | apply bA | apply bN | apply bE) | exact HB.out)) hb); clear HB; have HB := n0_; clear n0_; (try clear hb); (try clear hb2); (try clear hk); (try clear hi)))
       go_roundg k1
       case measure => have := HK1.out; omega
       case rel => exact ⟨(x8_1), (x9_1), (wrap64 (x14_1 + 1)), (by first | rfl | (simp; done) | (simp [*]; done)), (by first | rfl | (simp; done) | (simp [*]; done)), (by first | rfl | (simp; done) | (simp [*]; done)), H', ⟨by have := HK1.out; omega⟩, ⟨by repeat (first | (with_reducible first | exact HB.out | apply bA | apply bN | apply bE) | exact HB.out)⟩⟩
    ·replace c6 := Bool.eq_false_iff.mpr c6
     subst c6
     have H1 : (some (0, false)) = some (r1, r2) := by rw [if_neg (show ¬ (false = true) by decide)] at H; first | done | exact H
     clear H
     have H := H1
     clear H1
     simp only [Option.some.injEq, Prod.mk.injEq] at H
     obtain ⟨rfl, rfl⟩ := H
     go_wp2_with (first | ((with_reducible refine gate_callee (f := 161) rfl ?_); refine goesL_ (some 22) rfl rfl Try.func161 (by kernel_rfl) rfl #[.int .i64 x14_1, .string a0, .string a1, .int .i64 a2] rfl (by (try simp only [lM, List.map_cons, List.map_nil]); first | done | rfl | (simp only [lD, lT]; rfl)) ?_; (with_reducible refine (impl_FilterRow.calls k1 x14_1 a0 a1 a2 t228 false _ A5.out).mono ?_); rintro e w16 ⟨rfl, hb⟩; refine ⟨_, rfl, ?_⟩; have n0_ := aM (bT (by repeat (first | (with_reducible first | exact HB.out | apply bA | apply bN | apply bE) | exact HB.out)) hb); clear HB; have HB := n0_; clear n0_; (try clear hb); (try clear hb2); (try clear hk); (try clear hi)))
     go_ret2
     exact ⟨by first | rfl | (simp [errW_none, errW_some] <;> rfl) | (simp [*, errW_none, errW_some] <;> rfl), by repeat (first | (with_reducible first | exact HB.out | apply bA | apply bN | apply bE) | exact HB.out)⟩
   ·rw [if_neg c4] at H
    have c4b0 : decide (x14_1 < 5) = false := decide_eq_false c4
    clear c4
    simp only [Option.some.injEq, Prod.mk.injEq] at H
    obtain ⟨rfl, rfl⟩ := H
    go_wp2
    go_ret2
    exact ⟨by first | rfl | (simp [errW_none, errW_some] <;> rfl) | (simp [*, errW_none, errW_some] <;> rfl), by repeat (first | (with_reducible first | exact HB.out | apply bA | apply bN | apply bE) | exact HB.out)⟩

end Go.Proofs.Ytajnobmnkbkkgaa.PFnExactScanOf
