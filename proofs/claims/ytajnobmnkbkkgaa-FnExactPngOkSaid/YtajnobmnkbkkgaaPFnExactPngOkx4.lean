/- Walks of functions that the law FnExactPngOk reaches: each call comes to what the Lean function of its name tells. Written by p2.py, a program of this session, by way of the kit's print. -/
import Derived.Test.YtajnobmnkbkkgaaPFnExactPngOkx0
import Derived.Test.YtajnobmnkbkkgaaPFnExactPngOkx1
import Derived.Test.YtajnobmnkbkkgaaPFnExactPngOkx2
namespace Go.Proofs.Ytajnobmnkbkkgaa.PFnExactPngOk
open Go.RowKit Go.Proofs.YtajnobmnkbkkgaaW.PrintWords Go.Proofs.YtajnobmnkbkkgaaW.PrintLast Go.Proofs.YtajnobmnkbkkgaaW.PrintMore
attribute [local go_sem] max2_int min2_int max_two min_two max_three min_three max_four min_four   -- for this text's walks alone
set_option linter.unusedVariables false
set_option linter.unusedSimpArgs false

/-! ### spec_l17Depth: function 146 -/
def spec_l17Depth.f (a0_0 : Int) (a0_1 : Int) (a0_2 : Int) (a0_3 : Int) (a0_4 : Bool) : Option (Int) := (spec_l01In.f a0_2 0 16).bind fun t125 => (if t125 = true then (some a0_2) else (some 0))
set_option maxHeartbeats 8000000 in
set_option maxRecDepth 100000 in
theorem spec_l17Depth.calls (a0_0 : Int) (a0_1 : Int) (a0_2 : Int) (a0_3 : Int) (a0_4 : Bool) (r : Int) (w : World) (h : spec_l17Depth.f a0_0 a0_1 a0_2 a0_3 a0_4 = some r) :
  Calls Try.prog 146 #[.agg #[.int .i64 a0_0, .int .i64 a0_1, .int .i64 a0_2, .int .i64 a0_3, .bool a0_4]] w fun e w' => e = .returned (.int .i64 r) ∧ Below w.heap.size w w' := by
 have hu39 := Try.underlying39
 have HB := aM (Below.refl w.heap.size w)
 have H : ((spec_l01In.f a0_2 0 16).bind fun t125 => (if t125 = true then (some a0_2) else (some 0))) = some r := h
 clear h
 replace H := oB.mp H
 obtain ⟨t125, A20, H⟩ := H
 replace H : (if t125 = true then (some a0_2) else (some 0)) = some r := H
 have A2 := aM A20
 clear A20
 by_cases c3 : t125 = true
 ·subst c3
  have H1 : (some a0_2) = some r := by rw [if_pos rfl] at H; first | done | exact H
  clear H
  have H := H1
  clear H1
  obtain rfl := Option.some.inj H
  go_enter Try.func146, Try.ntmps146
  go_wp2_with (first | ((with_reducible refine gate_dst (N := 1) rfl ?_); refine box_event ?hg (N := 1) ?hd (cs := #[.int .i64 a0_0, .int .i64 a0_1, .int .i64 a0_2, .int .i64 a0_3, .bool a0_4]) (t := 39) ?hr ?_; (case hd => rfl); (case hg => rfl); (case hr => first | (go_simp; done) | (go_simp; rfl)); intro gb124 hg w4 hbox hb; have n0_ := aM (bT (by repeat (first | (with_reducible first | exact HB.out | apply bA | apply bN | apply bE) | exact HB.out)) hb); have n1_ := aM (hbox); have n2_ := aM ((by rw [hg]; exact (bZ (by repeat (first | (with_reducible first | exact HB.out | apply bA | apply bN | apply bE) | exact HB.out))) : w.heap.size ≤ gb124)); have n3_ := aM ((by rw [hg]; exact (bZ (by repeat (first | (with_reducible first | exact HB.out | apply bA | apply bN | apply bE) | exact HB.out))) : w.heap.size ≤ gb124)); clear HB; have HB := n0_; have BK124 := n1_; have GW124 := n2_; have GE124 := n3_; clear n0_ n1_ n2_ n3_; clear hb hbox hg; obtain ⟨hcz5_0, hcz5_1, hcz5_2, hcz5_3, hcz5_4⟩ := blk_c5 BK124.out; obtain ⟨hfz5_0, hfz5_1, hfz5_2, hfz5_3, hfz5_4⟩ := blk_f5 BK124.out) | ((with_reducible refine gate_callee (f := 129) rfl ?_); refine goesL_ (some 5) rfl rfl Try.func129 (by kernel_rfl) rfl #[.int .i64 a0_2, .int .i64 0, .int .i64 16] rfl (by (try simp only [lM, List.map_cons, List.map_nil]); first | done | rfl | (simp only [lD, lT]; rfl)) ?_; (with_reducible refine (spec_l01In.calls a0_2 0 16 true _ A2.out).mono ?_); rintro e w' ⟨rfl, ⟨nd, rfl⟩⟩; refine ⟨_, rfl, ?_⟩))
  go_ret
  exact ⟨by first | rfl | (simp [errW_none, errW_some] <;> rfl) | (simp [*, errW_none, errW_some] <;> rfl), by repeat (first | (with_reducible first | exact HB.out | apply bA | apply bN | apply bE | refine bS ?_ GE124.out) | exact HB.out)⟩
 ·replace c3 := Bool.eq_false_iff.mpr c3
  subst c3
  have H1 : (some 0) = some r := by rw [if_neg (show ¬ (false = true) by decide)] at H; first | done | exact H
  clear H
  have H := H1
  clear H1
  obtain rfl := Option.some.inj H
  go_enter Try.func146, Try.ntmps146
  go_wp2_with (first | ((with_reducible refine gate_dst (N := 1) rfl ?_); refine box_event ?hg (N := 1) ?hd (cs := #[.int .i64 a0_0, .int .i64 a0_1, .int .i64 a0_2, .int .i64 a0_3, .bool a0_4]) (t := 39) ?hr ?_; (case hd => rfl); (case hg => rfl); (case hr => first | (go_simp; done) | (go_simp; rfl)); intro gb124 hg w6 hbox hb; have n0_ := aM (bT (by repeat (first | (with_reducible first | exact HB.out | apply bA | apply bN | apply bE) | exact HB.out)) hb); have n1_ := aM (hbox); have n2_ := aM ((by rw [hg]; exact (bZ (by repeat (first | (with_reducible first | exact HB.out | apply bA | apply bN | apply bE) | exact HB.out))) : w.heap.size ≤ gb124)); have n3_ := aM ((by rw [hg]; exact (bZ (by repeat (first | (with_reducible first | exact HB.out | apply bA | apply bN | apply bE) | exact HB.out))) : w.heap.size ≤ gb124)); clear HB; have HB := n0_; have BK124 := n1_; have GW124 := n2_; have GE124 := n3_; clear n0_ n1_ n2_ n3_; clear hb hbox hg; obtain ⟨hcz7_0, hcz7_1, hcz7_2, hcz7_3, hcz7_4⟩ := blk_c5 BK124.out; obtain ⟨hfz7_0, hfz7_1, hfz7_2, hfz7_3, hfz7_4⟩ := blk_f5 BK124.out) | ((with_reducible refine gate_callee (f := 129) rfl ?_); refine goesL_ (some 5) rfl rfl Try.func129 (by kernel_rfl) rfl #[.int .i64 a0_2, .int .i64 0, .int .i64 16] rfl (by (try simp only [lM, List.map_cons, List.map_nil]); first | done | rfl | (simp only [lD, lT]; rfl)) ?_; (with_reducible refine (spec_l01In.calls a0_2 0 16 false _ A2.out).mono ?_); rintro e w' ⟨rfl, ⟨nd, rfl⟩⟩; refine ⟨_, rfl, ?_⟩))
  go_ret
  exact ⟨by first | rfl | (simp [errW_none, errW_some] <;> rfl) | (simp [*, errW_none, errW_some] <;> rfl), by repeat (first | (with_reducible first | exact HB.out | apply bA | apply bN | apply bE | refine bS ?_ GE124.out) | exact HB.out)⟩

/-! ### spec_ClearOk: function 86 -/
mutual
def spec_ClearOk.j0 : Nat → List Int → Int → Int → Option (Bool)
 | 0, _, _, _ => none
 | k + 1, x2, x7, x8 => if (x2.length : Int) = 0 then (some true) else (spec_ClearOk.l0 k x2 x7 x8 0)
def spec_ClearOk.l0 : Nat → List Int → Int → Int → Int → Option (Bool)
 | 0, _, _, _, _ => none
 | k + 1, x2, x7, x8, x9 => if x9 < (x2.length : Int) then (if 0 ≤ x9 then ((spec_l01In.f (rd x2 x9) 0 x7).bind fun t132 => (if t132 = true then (spec_ClearOk.l0 k x2 x7 x8 (wrap64 (x9 + 1))) else (some false))) else (none)) else (some ((x2.length : Int) == x8))
end
def spec_ClearOk.f (k : Nat) (a0_0 : Int) (a0_1 : Int) (a0_2 : Int) (a0_3 : Int) (a0_4 : Bool) (a1 : Int) (l2 : List Int) : Option (Bool) := if a0_3 = 0 then ((spec_l17Depth.f a0_0 a0_1 a0_2 a0_3 a0_4).bind fun t127 => ((spec_l01Pow.f k t127).bind fun t128 => (spec_ClearOk.j0 k l2 (wrap64 (t128 - 1)) 1))) else (if a0_3 = 2 then ((spec_l17Depth.f a0_0 a0_1 a0_2 a0_3 a0_4).bind fun t129 => ((spec_l01Pow.f k t129).bind fun t130 => (spec_ClearOk.j0 k l2 (wrap64 (t130 - 1)) 3))) else (if a0_3 = 3 then (if (l2.length : Int) > a1 then (some false) else (spec_ClearOk.j0 k l2 255 (l2.length : Int))) else (spec_ClearOk.j0 k l2 0 0)))
theorem spec_ClearOk.mono_l : ∀ k, (∀ y0 y1 y2, LeO (spec_ClearOk.j0 k y0 y1 y2) (spec_ClearOk.j0 (k + 1) y0 y1 y2)) ∧ (∀ y0 y1 y2 y3, LeO (spec_ClearOk.l0 k y0 y1 y2 y3) (spec_ClearOk.l0 (k + 1) y0 y1 y2 y3))
 | 0 => ⟨fun _ _ _ r h => by simp [spec_ClearOk.j0] at h, fun _ _ _ _ r h => by simp [spec_ClearOk.l0] at h⟩
 | k + 1 => by
  obtain ⟨ih0, ih1⟩ := spec_ClearOk.mono_l k
  refine ⟨?_, ?_⟩
  ·intro y0 y1 y2
   unfold spec_ClearOk.j0
   repeat' first
   | (with_reducible exact ih0 _ _ _)
   | (with_reducible exact ih1 _ _ _ _)
   | (with_reducible exact spec_l01Pow.mono _ _)
   | (with_reducible exact LeO.refl _)
   | (with_reducible exact LeO.none _)
   | (with_reducible refine LeO.ite ?_ ?_)
   | (with_reducible refine LeO.bind ?_ (fun _ => ?_))
   | exact ih0 _ _ _
   | exact ih1 _ _ _ _
   | exact spec_l01Pow.mono _ _
   | exact LeO.none _
   | refine LeO.ite ?_ ?_
   | refine LeO.bind ?_ (fun _ => ?_)
  ·intro y0 y1 y2 y3
   unfold spec_ClearOk.l0
   repeat' first
   | (with_reducible exact ih0 _ _ _)
   | (with_reducible exact ih1 _ _ _ _)
   | (with_reducible exact spec_l01Pow.mono _ _)
   | (with_reducible exact LeO.refl _)
   | (with_reducible exact LeO.none _)
   | (with_reducible refine LeO.ite ?_ ?_)
   | (with_reducible refine LeO.bind ?_ (fun _ => ?_))
   | exact ih0 _ _ _
   | exact ih1 _ _ _ _
   | exact spec_l01Pow.mono _ _
   | exact LeO.none _
   | refine LeO.ite ?_ ?_
   | refine LeO.bind ?_ (fun _ => ?_)
theorem spec_ClearOk.mono : ∀ a0 a1 a2 a3 a4 a5 a6 k, LeO (spec_ClearOk.f k a0 a1 a2 a3 a4 a5 a6) (spec_ClearOk.f (k + 1) a0 a1 a2 a3 a4 a5 a6) := by
 intro a0 a1 a2 a3 a4 a5 a6 k
 obtain ⟨ih0, ih1⟩ := spec_ClearOk.mono_l k
 unfold spec_ClearOk.f
 repeat' first
   | (with_reducible exact ih0 _ _ _)
   | (with_reducible exact ih1 _ _ _ _)
   | (with_reducible exact spec_l01Pow.mono _ _)
   | (with_reducible exact LeO.refl _)
   | (with_reducible exact LeO.none _)
   | (with_reducible refine LeO.ite ?_ ?_)
   | (with_reducible refine LeO.bind ?_ (fun _ => ?_))
   | exact ih0 _ _ _
   | exact ih1 _ _ _ _
   | exact spec_l01Pow.mono _ _
   | exact LeO.none _
   | refine LeO.ite ?_ ?_
   | refine LeO.bind ?_ (fun _ => ?_)
set_option maxHeartbeats 8000000 in
set_option maxRecDepth 100000 in
theorem spec_ClearOk.calls (k : Nat) (a0_0 : Int) (a0_1 : Int) (a0_2 : Int) (a0_3 : Int) (a0_4 : Bool) (a1 : Int) (A2 : Option Addr) (c2 : Nat) (l2 : List Int) (r : Bool) (w : World) (hr2 : Kd.C (Kd.int .i64) w A2 l2.length l2) (hc2 : l2.length ≤ c2) (h : spec_ClearOk.f k a0_0 a0_1 a0_2 a0_3 a0_4 a1 l2 = some r) :
  Calls Try.prog 86 #[.agg #[.int .i64 a0_0, .int .i64 a0_1, .int .i64 a0_2, .int .i64 a0_3, .bool a0_4], .int .i64 a1, .slice A2 l2.length c2] w fun e w' => e = .returned (.bool r) ∧ Below w.heap.size w w' := by
 have hu39 := Try.underlying39
 have HR2 := aM hr2
 have HC2 := aM hc2
 clear hr2 hc2
 have HB := aM (Below.refl w.heap.size w)
 unfold spec_ClearOk.f at h; have H := h
 clear h
 have HC4 := aM H
 clear H
 go_enter Try.func86, Try.ntmps86
 go_upto_block 0 with (first | ((with_reducible refine gate_dst (N := 3) rfl ?_); refine box_event ?hg (N := 3) ?hd (cs := #[.int .i64 a0_0, .int .i64 a0_1, .int .i64 a0_2, .int .i64 a0_3, .bool a0_4]) (t := 39) ?hr ?_; (case hd => rfl); (case hg => rfl); (case hr => first | (go_simp; done) | (go_simp; rfl)); intro gb126 hg w5 hbox hb; have n0_ := aM (bT (by repeat (first | (with_reducible first | exact HB.out | apply bA | apply bN | apply bE) | exact HB.out)) hb); have n1_ := aM (hbox); have n2_ := aM ((by rw [hg]; exact (bZ (by repeat (first | (with_reducible first | exact HB.out | apply bA | apply bN | apply bE) | exact HB.out))) : w.heap.size ≤ gb126)); have n3_ := aM ((by rw [hg]; exact (bZ (by repeat (first | (with_reducible first | exact HB.out | apply bA | apply bN | apply bE) | exact HB.out))) : w.heap.size ≤ gb126)); clear HB; have HB := n0_; have BK126 := n1_; have GW126 := n2_; have GE126 := n3_; clear n0_ n1_ n2_ n3_; clear hb hbox hg; obtain ⟨hcz6_0, hcz6_1, hcz6_2, hcz6_3, hcz6_4⟩ := blk_c5 BK126.out; obtain ⟨hfz6_0, hfz6_1, hfz6_2, hfz6_3, hfz6_4⟩ := blk_f5 BK126.out))
 (try simp only [Act.put, lI, lZ, lS])
 go_cut [7, 8] (fun v7 v8 wc => ∃ (kq : Nat) (x7_3 : Int) (x8_3 : Int), v7 = .int .i64 x7_3 ∧ v8 = .int .i64 x8_3 ∧ Aside0 (spec_ClearOk.j0 kq l2 x7_3 x8_3 = some r) ∧ Aside0 (kq ≤ k) ∧ Aside0 (wc.heap[gb126]? = some (.cells #[.int .i64 a0_0, .int .i64 a0_1, .int .i64 a0_2, .int .i64 a0_3, .bool a0_4] 39 (0, 0))) ∧ Aside0 (Below w.heap.size w wc))
 case first =>
  have H := HC4.out
  clear HC4
  by_cases c7 : a0_3 = 0
  ·rw [if_pos c7] at H
   have c7b0 : (a0_3 == 0) = true := beq_iff_eq.mpr c7
   have c7b1 : (a0_3 != 0) = false := bne_eq_false_iff_eq.mpr c7
   clear c7
   (first | rw [c7b0] | (simp only [i64_w, i32_w]; rw [c7b0]) | skip)
   replace H := oB.mp H
   obtain ⟨t127, A80, H⟩ := H
   replace H : ((spec_l01Pow.f k t127).bind fun t128 => (spec_ClearOk.j0 k l2 (wrap64 (t128 - 1)) 1)) = some r := H
   have A8 := aM A80
   clear A80
   replace H := oB.mp H
   obtain ⟨t128, A90, H⟩ := H
   replace H : (spec_ClearOk.j0 k l2 (wrap64 (t128 - 1)) 1) = some r := H
   have A9 := aM A90
   clear A90
   have H' := aM H
   clear H
   obtain ⟨hcz10_0, hcz10_1, hcz10_2, hcz10_3, hcz10_4⟩ := blk_c5 BK126.out
   obtain ⟨hfz10_0, hfz10_1, hfz10_2, hfz10_3, hfz10_4⟩ := blk_f5 BK126.out
   go_wp2_with (first | ((with_reducible refine gate_callee (f := 146) rfl ?_); refine goesL_ (some 15) rfl rfl Try.func146 (by kernel_rfl) rfl #[.agg #[.int .i64 a0_0, .int .i64 a0_1, .int .i64 a0_2, .int .i64 a0_3, .bool a0_4]] rfl (by (try simp only [lM, List.map_cons, List.map_nil]); first | done | rfl | (simp only [lD, lT]; rfl)) ?_; (with_reducible refine (spec_l17Depth.calls a0_0 a0_1 a0_2 a0_3 a0_4 t127 _ A8.out).mono ?_); rintro e w11 ⟨rfl, hb⟩; refine ⟨_, rfl, ?_⟩; have n0_ := aM (kB (g := gb126) (o := .cells #[.int .i64 a0_0, .int .i64 a0_1, .int .i64 a0_2, .int .i64 a0_3, .bool a0_4] 39 (0, 0)) (by (with_reducible repeat (first | refine kN ?_ _ | refine kD ?_ | refine kA ?_ _)); exact BK126.out) hb); have n1_ := aM (bT (by repeat (first | (with_reducible first | exact HB.out | apply bA | apply bN | apply bE | refine bS ?_ GE126.out) | exact HB.out)) hb); clear BK126; clear HB; have BK126 := n0_; have HB := n1_; clear n0_ n1_; (try clear hb); (try clear hb2); (try clear hk); (try clear hi)) | ((with_reducible refine gate_callee (f := 99) rfl ?_); refine goesL_ (some 16) rfl rfl Try.func99 (by kernel_rfl) rfl #[.int .i64 t127] rfl (by (try simp only [lM, List.map_cons, List.map_nil]); first | done | rfl | (simp only [lD, lT]; rfl)) ?_; (with_reducible refine (spec_l01Pow.calls k t127 t128 _ A9.out).mono ?_); rintro e w' ⟨rfl, ⟨nd, rfl⟩⟩; refine ⟨_, rfl, ?_⟩))
   go_meet
   case rel => exact ⟨_, (wrap64 (t128 - 1)), (1), (by first | rfl | (simp; done) | (simp [*]; done)), (by first | rfl | (simp; done) | (simp [*]; done)), H', ⟨by first | omega | exact Nat.le_refl _⟩, ⟨by (with_reducible repeat (first | refine kN ?_ _ | refine kD ?_ | refine kA ?_ _)); exact BK126.out⟩, ⟨by repeat (first | (with_reducible first | exact HB.out | apply bA | apply bN | apply bE | refine bS ?_ GE126.out) | exact HB.out)⟩⟩
  ·rw [if_neg c7] at H
   have c7b0 : (a0_3 == 0) = false := beq_eq_false_iff_ne.mpr c7
   have c7b1 : (a0_3 != 0) = true := bne_iff_ne.mpr c7
   (first | rw [c7b0] | (simp only [i64_w, i32_w]; rw [c7b0]) | skip)
   by_cases c12 : a0_3 = 2
   ·rw [if_pos c12] at H
    have c12b0 : (a0_3 == 2) = true := beq_iff_eq.mpr c12
    have c12b1 : (a0_3 != 2) = false := bne_eq_false_iff_eq.mpr c12
    clear c12
    replace H := oB.mp H
    obtain ⟨t129, A130, H⟩ := H
    replace H : ((spec_l01Pow.f k t129).bind fun t130 => (spec_ClearOk.j0 k l2 (wrap64 (t130 - 1)) 3)) = some r := H
    have A13 := aM A130
    clear A130
    replace H := oB.mp H
    obtain ⟨t130, A140, H⟩ := H
    replace H : (spec_ClearOk.j0 k l2 (wrap64 (t130 - 1)) 3) = some r := H
    have A14 := aM A140
    clear A140
    have H' := aM H
    clear H
    obtain ⟨hcz15_0, hcz15_1, hcz15_2, hcz15_3, hcz15_4⟩ := blk_c5 BK126.out
    obtain ⟨hfz15_0, hfz15_1, hfz15_2, hfz15_3, hfz15_4⟩ := blk_f5 BK126.out
    go_wp2_with (first | ((with_reducible refine gate_callee (f := 146) rfl ?_); refine goesL_ (some 21) rfl rfl Try.func146 (by kernel_rfl) rfl #[.agg #[.int .i64 a0_0, .int .i64 a0_1, .int .i64 a0_2, .int .i64 a0_3, .bool a0_4]] rfl (by (try simp only [lM, List.map_cons, List.map_nil]); first | done | rfl | (simp only [lD, lT]; rfl)) ?_; (with_reducible refine (spec_l17Depth.calls a0_0 a0_1 a0_2 a0_3 a0_4 t129 _ A13.out).mono ?_); rintro e w16 ⟨rfl, hb⟩; refine ⟨_, rfl, ?_⟩; have n0_ := aM (kB (g := gb126) (o := .cells #[.int .i64 a0_0, .int .i64 a0_1, .int .i64 a0_2, .int .i64 a0_3, .bool a0_4] 39 (0, 0)) (by (with_reducible repeat (first | refine kN ?_ _ | refine kD ?_ | refine kA ?_ _)); exact BK126.out) hb); have n1_ := aM (bT (by repeat (first | (with_reducible first | exact HB.out | apply bA | apply bN | apply bE | refine bS ?_ GE126.out) | exact HB.out)) hb); clear BK126; clear HB; have BK126 := n0_; have HB := n1_; clear n0_ n1_; (try clear hb); (try clear hb2); (try clear hk); (try clear hi)) | ((with_reducible refine gate_callee (f := 99) rfl ?_); refine goesL_ (some 22) rfl rfl Try.func99 (by kernel_rfl) rfl #[.int .i64 t129] rfl (by (try simp only [lM, List.map_cons, List.map_nil]); first | done | rfl | (simp only [lD, lT]; rfl)) ?_; (with_reducible refine (spec_l01Pow.calls k t129 t130 _ A14.out).mono ?_); rintro e w' ⟨rfl, ⟨nd, rfl⟩⟩; refine ⟨_, rfl, ?_⟩))
    go_meet
    case rel => exact ⟨_, (wrap64 (t130 - 1)), (3), (by first | rfl | (simp; done) | (simp [*]; done)), (by first | rfl | (simp; done) | (simp [*]; done)), H', ⟨by first | omega | exact Nat.le_refl _⟩, ⟨by (with_reducible repeat (first | refine kN ?_ _ | refine kD ?_ | refine kA ?_ _)); exact BK126.out⟩, ⟨by repeat (first | (with_reducible first | exact HB.out | apply bA | apply bN | apply bE | refine bS ?_ GE126.out) | exact HB.out)⟩⟩
   ·rw [if_neg c12] at H
    have c12b0 : (a0_3 == 2) = false := beq_eq_false_iff_ne.mpr c12
    have c12b1 : (a0_3 != 2) = true := bne_iff_ne.mpr c12
    by_cases c17 : a0_3 = 3
    ·rw [if_pos c17] at H
     have c17b0 : (a0_3 == 3) = true := beq_iff_eq.mpr c17
     have c17b1 : (a0_3 != 3) = false := bne_eq_false_iff_eq.mpr c17
     clear c17
     by_cases c18 : (l2.length : Int) > a1
     ·rw [if_pos c18] at H
      have c18b0 : decide (a1 < (l2.length : Int)) = true := decide_eq_true c18
      clear c18
      obtain rfl := Option.some.inj H
      go_wp2
      go_ret
      exact ⟨by first | rfl | (simp [errW_none, errW_some] <;> rfl) | (simp [*, errW_none, errW_some] <;> rfl), by repeat (first | (with_reducible first | exact HB.out | apply bA | apply bN | apply bE | refine bS ?_ GE126.out) | exact HB.out)⟩
     ·rw [if_neg c18] at H
      have c18b0 : decide (a1 < (l2.length : Int)) = false := decide_eq_false c18
      clear c18
      have H' := aM H
      clear H
      go_wp2
      go_meet
      case rel => exact ⟨_, (255), ((l2.length : Int)), (by first | rfl | (simp; done) | (simp [*]; done)), (by first | rfl | (simp; done) | (simp [*]; done)), H', ⟨by first | omega | exact Nat.le_refl _⟩, ⟨by (with_reducible repeat (first | refine kN ?_ _ | refine kD ?_ | refine kA ?_ _)); exact BK126.out⟩, ⟨by repeat (first | (with_reducible first | exact HB.out | apply bA | apply bN | apply bE | refine bS ?_ GE126.out) | exact HB.out)⟩⟩
    ·rw [if_neg c17] at H
     have c17b0 : (a0_3 == 3) = false := beq_eq_false_iff_ne.mpr c17
     have c17b1 : (a0_3 != 3) = true := bne_iff_ne.mpr c17
     have H' := aM H
     clear H
     go_wp2
     go_meet
     case rel => exact ⟨_, (0), (0), (by first | rfl | (simp; done) | (simp [*]; done)), (by first | rfl | (simp; done) | (simp [*]; done)), H', ⟨by first | omega | exact Nat.le_refl _⟩, ⟨by (with_reducible repeat (first | refine kN ?_ _ | refine kD ?_ | refine kA ?_ _)); exact BK126.out⟩, ⟨by repeat (first | (with_reducible first | exact HB.out | apply bA | apply bN | apply bE | refine bS ?_ GE126.out) | exact HB.out)⟩⟩
 case rest =>
  clear HC4
  try clear c1
  try clear c2
  try clear p2
  try clear c5
  try clear p6
  try clear c7
  try clear c7b0
  try clear c7b1
  try clear c8
  try clear c9
  try clear c12
  try clear c12b0
  try clear c12b1
  try clear c14
  try clear c17
  try clear c17b0
  try clear c17b1
  try clear c18
  try clear c18b0
  try clear hcz10_0
  try clear hcz10_1
  try clear hcz10_2
  try clear hcz10_3
  try clear hcz10_4
  try clear hcz15_0
  try clear hcz15_1
  try clear hcz15_2
  try clear hcz15_3
  try clear hcz15_4
  try clear hcz6_0
  try clear hcz6_1
  try clear hcz6_2
  try clear hcz6_3
  try clear hcz6_4
  try clear hfz10_0
  try clear hfz10_1
  try clear hfz10_2
  try clear hfz10_3
  try clear hfz10_4
  try clear hfz15_0
  try clear hfz15_1
  try clear hfz15_2
  try clear hfz15_3
  try clear hfz15_4
  try clear hfz6_0
  try clear hfz6_1
  try clear hfz6_2
  try clear hfz6_3
  try clear hfz6_4
  obtain ⟨kq, x7_3, x8_3, rfl, rfl, HA, HJ3, BK126, HB⟩ := hcut
  cases kq with
  | zero => exact absurd HA.out (by simp [spec_ClearOk.j0])
  | succ kj3 =>
   have H := HA.out
   clear HA
   simp only [spec_ClearOk.j0] at H
   by_cases c19 : (l2.length : Int) = 0
   ·rw [if_pos c19] at H
    have c19b0 : ((l2.length : Int) == 0) = true := beq_iff_eq.mpr c19
    have c19b1 : ((l2.length : Int) != 0) = false := bne_eq_false_iff_eq.mpr c19
    clear c19
    obtain rfl := Option.some.inj H
    go_wp2
    go_ret
    exact ⟨by first | rfl | (simp [errW_none, errW_some] <;> rfl) | (simp [*, errW_none, errW_some] <;> rfl), by repeat (first | (with_reducible first | exact HB.out | apply bA | apply bN | apply bE | refine bS ?_ GE126.out) | exact HB.out)⟩
   ·rw [if_neg c19] at H
    have c19b0 : ((l2.length : Int) == 0) = false := beq_eq_false_iff_ne.mpr c19
    have c19b1 : ((l2.length : Int) != 0) = true := bne_iff_ne.mpr c19
    have c19b2 : ¬ (l2 = []) := fun h_ => c19 (by rw [h_]; rfl)
    have H' := aM H
    clear H
    go_wp2
    go_loopg [9] kj3 (fun kq v9 w' => ∃ (x9_2 : Int), v9 = .int .i64 x9_2 ∧ Aside0 (spec_ClearOk.l0 kq l2 x7_3 x8_3 x9_2 = some r) ∧ Aside0 (kq ≤ kj3) ∧ Aside0 (w'.heap[gb126]? = some (.cells #[.int .i64 a0_0, .int .i64 a0_1, .int .i64 a0_2, .int .i64 a0_3, .bool a0_4] 39 (0, 0))) ∧ Aside0 (Below w.heap.size w w'))
    case atStart => exact ⟨(0), (by first | rfl | (simp; done) | (simp [*]; done)), H', ⟨Nat.le_refl _⟩, ⟨by (with_reducible repeat (first | refine kN ?_ _ | refine kD ?_ | refine kA ?_ _)); exact BK126.out⟩, ⟨by repeat (first | (with_reducible first | exact HB.out | apply bA | apply bN | apply bE | refine bS ?_ GE126.out) | exact HB.out)⟩⟩
    case round =>
     clear H'
     try clear c1
     try clear c2
     try clear p2
     try clear c5
     try clear p6
     try clear c7
     try clear c7b0
     try clear c7b1
     try clear c8
     try clear c9
     try clear c12
     try clear c12b0
     try clear c12b1
     try clear c14
     try clear c17
     try clear c17b0
     try clear c17b1
     try clear c18
     try clear c18b0
     try clear c19
     try clear c19b0
     try clear c19b1
     try clear c19b2
     try clear hcz10_0
     try clear hcz10_1
     try clear hcz10_2
     try clear hcz10_3
     try clear hcz10_4
     try clear hcz15_0
     try clear hcz15_1
     try clear hcz15_2
     try clear hcz15_3
     try clear hcz15_4
     try clear hcz6_0
     try clear hcz6_1
     try clear hcz6_2
     try clear hcz6_3
     try clear hcz6_4
     try clear hfz10_0
     try clear hfz10_1
     try clear hfz10_2
     try clear hfz10_3
     try clear hfz10_4
     try clear hfz15_0
     try clear hfz15_1
     try clear hfz15_2
     try clear hfz15_3
     try clear hfz15_4
     try clear hfz6_0
     try clear hfz6_1
     try clear hfz6_2
     try clear hfz6_3
     try clear hfz6_4
     try clear p2
     try clear p6
     obtain ⟨x9_2, rfl, HA, HK2, BK126, HB⟩ := hrel
     cases gk with
     | zero => exact absurd HA.out (by simp [spec_ClearOk.l0])
     | succ k2 =>
      have H := HA.out
      clear HA
      simp only [spec_ClearOk.l0] at H
      by_cases c20 : x9_2 < (l2.length : Int)
      ·rw [if_pos c20] at H
       have c20b0 : decide (x9_2 < (l2.length : Int)) = true := decide_eq_true c20
       clear c20
       by_cases c21 : 0 ≤ x9_2
       ·rw [if_pos c21] at H
        have c21b0 : decide (0 ≤ x9_2) = true := decide_eq_true c21
        clear c21
        replace H := oB.mp H
        obtain ⟨t132, A220, H⟩ := H
        replace H : (if t132 = true then (spec_ClearOk.l0 k2 l2 x7_3 x8_3 (wrap64 (x9_2 + 1))) else (some false)) = some r := H
        have A22 := aM A220
        clear A220
        by_cases c23 : t132 = true
        ·subst c23
         have H1 : (spec_ClearOk.l0 k2 l2 x7_3 x8_3 (wrap64 (x9_2 + 1))) = some r := by rw [if_pos rfl] at H; first | done | exact H
         clear H
         have H := H1
         clear H1
         have H' := aM H
         clear H
         have p131 : 0 ≤ (x9_2 : Int) := oD (by first | (with_reducible assumption) | assumption)
         have q131 : x9_2 < (l2.length : Int) := oD (by first | (with_reducible assumption) | assumption)
         obtain ⟨ad131, e131, hx131_0⟩ := Kd.at_int HR2.out x9_2 p131 q131
         cases e131
         replace hx131_0 := (HB.out.cell (wL w _ hx131_0)).trans hx131_0
         replace p131 := eq_true p131
         replace q131 := eq_true q131
         go_wp2_with (first | ((with_reducible refine gate_callee (f := 129) rfl ?_); refine goesL_ (some 45) rfl rfl Try.func129 (by kernel_rfl) rfl #[.int .i64 (rd l2 x9_2), .int .i64 0, .int .i64 x7_3] rfl (by (try simp only [lM, List.map_cons, List.map_nil]); first | done | rfl | (simp only [lD, lT]; rfl)) ?_; (with_reducible refine (spec_l01In.calls (rd l2 x9_2) 0 x7_3 true _ A22.out).mono ?_); rintro e w' ⟨rfl, ⟨nd, rfl⟩⟩; refine ⟨_, rfl, ?_⟩))
         go_roundg k2
         case measure => have := HJ3.out; have := HK2.out; omega
         case rel => exact ⟨(wrap64 (x9_2 + 1)), (by first | rfl | (simp; done) | (simp [*]; done)), H', ⟨by have := HJ3.out; have := HK2.out; omega⟩, ⟨by (with_reducible repeat (first | refine kN ?_ _ | refine kD ?_ | refine kA ?_ _)); exact BK126.out⟩, ⟨by repeat (first | (with_reducible first | exact HB.out | apply bA | apply bN | apply bE | refine bS ?_ GE126.out) | exact HB.out)⟩⟩
        ·replace c23 := Bool.eq_false_iff.mpr c23
         subst c23
         have H1 : (some false) = some r := by rw [if_neg (show ¬ (false = true) by decide)] at H; first | done | exact H
         clear H
         have H := H1
         clear H1
         obtain rfl := Option.some.inj H
         have p131 : 0 ≤ (x9_2 : Int) := oD (by first | (with_reducible assumption) | assumption)
         have q131 : x9_2 < (l2.length : Int) := oD (by first | (with_reducible assumption) | assumption)
         obtain ⟨ad131, e131, hx131_0⟩ := Kd.at_int HR2.out x9_2 p131 q131
         cases e131
         replace hx131_0 := (HB.out.cell (wL w _ hx131_0)).trans hx131_0
         replace p131 := eq_true p131
         replace q131 := eq_true q131
         go_wp2_with (first | ((with_reducible refine gate_callee (f := 129) rfl ?_); refine goesL_ (some 45) rfl rfl Try.func129 (by kernel_rfl) rfl #[.int .i64 (rd l2 x9_2), .int .i64 0, .int .i64 x7_3] rfl (by (try simp only [lM, List.map_cons, List.map_nil]); first | done | rfl | (simp only [lD, lT]; rfl)) ?_; (with_reducible refine (spec_l01In.calls (rd l2 x9_2) 0 x7_3 false _ A22.out).mono ?_); rintro e w' ⟨rfl, ⟨nd, rfl⟩⟩; refine ⟨_, rfl, ?_⟩))
         go_ret
         exact ⟨by first | rfl | (simp [errW_none, errW_some] <;> rfl) | (simp [*, errW_none, errW_some] <;> rfl), by repeat (first | (with_reducible first | exact HB.out | apply bA | apply bN | apply bE | refine bS ?_ GE126.out) | exact HB.out)⟩
       ·rw [if_neg c21] at H
        exact absurd H (by simp)
      ·rw [if_neg c20] at H
       have c20b0 : decide (x9_2 < (l2.length : Int)) = false := decide_eq_false c20
       clear c20
       obtain rfl := Option.some.inj H
       go_wp2
       go_ret
       exact ⟨by first | rfl | (simp [errW_none, errW_some] <;> rfl) | (simp [*, errW_none, errW_some] <;> rfl), by repeat (first | (with_reducible first | exact HB.out | apply bA | apply bN | apply bE | refine bS ?_ GE126.out) | exact HB.out)⟩

/-! ### spec_l16Letter: function 192 -/
def spec_l16Letter.f (a0 : Int) : Option (Bool) := if a0 ≥ 65 then (if a0 ≤ 90 then (some true) else (if a0 ≥ 97 then (some (decide (a0 ≤ 122))) else (some false))) else (if a0 ≥ 97 then (some (decide (a0 ≤ 122))) else (some false))
set_option maxHeartbeats 8000000 in
set_option maxRecDepth 100000 in
theorem spec_l16Letter.calls (a0 : Int) (r : Bool) (w : World) (h : spec_l16Letter.f a0 = some r) :
  Calls Try.prog 192 #[.int .u8 a0] w fun e w' => e = .returned (.bool r) ∧ Drawn0 w w' := by
 have H : (if a0 ≥ 65 then (if a0 ≤ 90 then (some true) else (if a0 ≥ 97 then (some (decide (a0 ≤ 122))) else (some false))) else (if a0 ≥ 97 then (some (decide (a0 ≤ 122))) else (some false))) = some r := h
 clear h
 by_cases c2 : a0 ≥ 65
 ·rw [if_pos c2] at H
  have c2b0 : decide (65 ≤ a0) = true := decide_eq_true c2
  clear c2
  by_cases c3 : a0 ≤ 90
  ·rw [if_pos c3] at H
   have c3b0 : decide (a0 ≤ 90) = true := decide_eq_true c3
   clear c3
   obtain rfl := Option.some.inj H
   go_enter Try.func192, Try.ntmps192
   go_wp2
   go_ret
   exact ⟨by first | rfl | (simp; done) | (simp [*]; done), by repeat (first | exact Drawn0.refl _ | apply Drawn0.step)⟩
  ·rw [if_neg c3] at H
   have c3b0 : decide (a0 ≤ 90) = false := decide_eq_false c3
   clear c3
   by_cases c4 : a0 ≥ 97
   ·rw [if_pos c4] at H
    have c4b0 : decide (97 ≤ a0) = true := decide_eq_true c4
    clear c4
    obtain rfl := Option.some.inj H
    go_enter Try.func192, Try.ntmps192
    go_wp2
    go_ret
    exact ⟨by first | rfl | (simp; done) | (simp [*]; done), by repeat (first | exact Drawn0.refl _ | apply Drawn0.step)⟩
   ·rw [if_neg c4] at H
    have c4b0 : decide (97 ≤ a0) = false := decide_eq_false c4
    clear c4
    obtain rfl := Option.some.inj H
    go_enter Try.func192, Try.ntmps192
    go_wp2
    go_ret
    exact ⟨by first | rfl | (simp; done) | (simp [*]; done), by repeat (first | exact Drawn0.refl _ | apply Drawn0.step)⟩
 ·rw [if_neg c2] at H
  have c2b0 : decide (65 ≤ a0) = false := decide_eq_false c2
  clear c2
  by_cases c5 : a0 ≥ 97
  ·rw [if_pos c5] at H
   have c5b0 : decide (97 ≤ a0) = true := decide_eq_true c5
   clear c5
   obtain rfl := Option.some.inj H
   go_enter Try.func192, Try.ntmps192
   go_wp2
   go_ret
   exact ⟨by first | rfl | (simp; done) | (simp [*]; done), by repeat (first | exact Drawn0.refl _ | apply Drawn0.step)⟩
  ·rw [if_neg c5] at H
   have c5b0 : decide (97 ≤ a0) = false := decide_eq_false c5
   clear c5
   obtain rfl := Option.some.inj H
   go_enter Try.func192, Try.ntmps192
   go_wp2
   go_ret
   exact ⟨by first | rfl | (simp; done) | (simp [*]; done), by repeat (first | exact Drawn0.refl _ | apply Drawn0.step)⟩

/-! ### spec_NameOk: function 178 -/
def spec_NameOk.f (a0 : ByteArray) : Option (Bool) := if (a0.size : Int) = 4 then (if 0 < (a0.size : Int) then ((spec_l16Letter.f (bt a0 0)).bind fun t133 => (if t133 = true then (if 1 < (a0.size : Int) then ((spec_l16Letter.f (bt a0 1)).bind fun t134 => (if t134 = true then (if 2 < (a0.size : Int) then ((spec_l16Letter.f (bt a0 2)).bind fun t135 => (if t135 = true then (if 3 < (a0.size : Int) then ((spec_l16Letter.f (bt a0 3)).bind fun t136 => (if t136 = true then (some (decide ((bt a0 2) ≤ 90))) else (some false))) else (none)) else (some false))) else (none)) else (some false))) else (none)) else (some false))) else (none)) else (some false)
set_option maxHeartbeats 8000000 in
set_option maxRecDepth 100000 in
theorem spec_NameOk.calls (a0 : ByteArray) (r : Bool) (w : World) (h : spec_NameOk.f a0 = some r) :
  Calls Try.prog 178 #[.string a0] w fun e w' => e = .returned (.bool r) ∧ Drawn0 w w' := by
 unfold spec_NameOk.f at h; have H := h
 clear h
 by_cases c2 : (a0.size : Int) = 4
 ·rw [if_pos c2] at H
  have c2b0 : ((a0.size : Int) == 4) = true := beq_iff_eq.mpr c2
  have c2b1 : ((a0.size : Int) != 4) = false := bne_eq_false_iff_eq.mpr c2
  clear c2
  by_cases c3 : 0 < (a0.size : Int)
  ·rw [if_pos c3] at H
   have c3b0 : decide (0 < (a0.size : Int)) = true := decide_eq_true c3
   have c3b1 : decide (0 < a0.size) = true := decide_eq_true (by omega)
   clear c3
   replace H := oB.mp H
   obtain ⟨t133, A50, H⟩ := H
   try dsimp -simprocs only at H
   have A5 := aM A50
   clear A50
   by_cases c6 : t133 = true
   ·subst c6
    have H1 : (if 1 < (a0.size : Int) then ((spec_l16Letter.f (bt a0 1)).bind fun t134 => (if t134 = true then (if 2 < (a0.size : Int) then ((spec_l16Letter.f (bt a0 2)).bind fun t135 => (if t135 = true then (if 3 < (a0.size : Int) then ((spec_l16Letter.f (bt a0 3)).bind fun t136 => (if t136 = true then (some (decide ((bt a0 2) ≤ 90))) else (some false))) else (none)) else (some false))) else (none)) else (some false))) else (none)) = some r := by rw [if_pos rfl] at H; first | done | exact H
    clear H
    have H := H1
    clear H1
    by_cases c7 : 1 < (a0.size : Int)
    ·rw [if_pos c7] at H
     have c7b0 : decide (1 < (a0.size : Int)) = true := decide_eq_true c7
     have c7b1 : decide (1 < a0.size) = true := decide_eq_true (by omega)
     clear c7
     replace H := oB.mp H
     obtain ⟨t134, A90, H⟩ := H
     try dsimp -simprocs only at H
     have A9 := aM A90
     clear A90
     by_cases c10 : t134 = true
     ·subst c10
      have H1 : (if 2 < (a0.size : Int) then ((spec_l16Letter.f (bt a0 2)).bind fun t135 => (if t135 = true then (if 3 < (a0.size : Int) then ((spec_l16Letter.f (bt a0 3)).bind fun t136 => (if t136 = true then (some (decide ((bt a0 2) ≤ 90))) else (some false))) else (none)) else (some false))) else (none)) = some r := by rw [if_pos rfl] at H; first | done | exact H
      clear H
      have H := H1
      clear H1
      by_cases c11 : 2 < (a0.size : Int)
      ·rw [if_pos c11] at H
       have c11b0 : decide (2 < (a0.size : Int)) = true := decide_eq_true c11
       have c11b1 : decide (2 < a0.size) = true := decide_eq_true (by omega)
       clear c11
       replace H := oB.mp H
       obtain ⟨t135, A130, H⟩ := H
       replace H : (if t135 = true then (if 3 < (a0.size : Int) then ((spec_l16Letter.f (bt a0 3)).bind fun t136 => (if t136 = true then (some (decide ((bt a0 2) ≤ 90))) else (some false))) else (none)) else (some false)) = some r := H
       have A13 := aM A130
       clear A130
       by_cases c14 : t135 = true
       ·subst c14
        have H1 : (if 3 < (a0.size : Int) then ((spec_l16Letter.f (bt a0 3)).bind fun t136 => (if t136 = true then (some (decide ((bt a0 2) ≤ 90))) else (some false))) else (none)) = some r := by rw [if_pos rfl] at H; first | done | exact H
        clear H
        have H := H1
        clear H1
        by_cases c15 : 3 < (a0.size : Int)
        ·rw [if_pos c15] at H
         have c15b0 : decide (3 < (a0.size : Int)) = true := decide_eq_true c15
         have c15b1 : decide (3 < a0.size) = true := decide_eq_true (by omega)
         clear c15
         replace H := oB.mp H
         obtain ⟨t136, A170, H⟩ := H
         replace H : (if t136 = true then (some (decide ((bt a0 2) ≤ 90))) else (some false)) = some r := H
         have A17 := aM A170
         clear A170
         by_cases c18 : t136 = true
         ·subst c18
          have H1 : (some (decide ((bt a0 2) ≤ 90))) = some r := by rw [if_pos rfl] at H; first | done | exact H
          clear H
          have H := H1
          clear H1
          obtain rfl := Option.some.inj H
          have p4 : 0 ≤ (0 : Int) := (by omega)
          have q4 : 0 < a0.size := (by have : (0 : Int) < (a0.size : Int) := oD (by first | (with_reducible assumption) | assumption); omega)
          have hx4 : ∀ h : 0 < a0.size, ((a0[0]'h).toNat : Int) = bt a0 0 := bt_at a0 0
          clear p4
          have qi4 : (0 < (a0.size : Int)) = True := eq_true (oD (by first | (with_reducible assumption) | assumption))
          replace q4 := eq_true q4
          go_enter Try.func178, Try.ntmps178
          go_wp2_with (first | (go_at_call 192; (with_reducible refine (spec_l16Letter.calls (bt a0 0) true _ A5.out).mono ?_); rintro e w' ⟨rfl, ⟨nd, rfl⟩⟩; have p8 : 0 ≤ (1 : Int) := (by omega); have q8 : 1 < a0.size := (by have : (1 : Int) < (a0.size : Int) := oD (by first | (with_reducible assumption) | assumption); omega); have hx8 : ∀ h : 1 < a0.size, ((a0[1]'h).toNat : Int) = bt a0 1 := bt_at a0 1; clear p8; have qi8 : (1 < (a0.size : Int)) = True := eq_true (oD (by first | (with_reducible assumption) | assumption)); replace q8 := eq_true q8) | (go_at_call 192; (with_reducible refine (spec_l16Letter.calls (bt a0 1) true _ A9.out).mono ?_); rintro e w' ⟨rfl, ⟨nd, rfl⟩⟩; have p12 : 0 ≤ (2 : Int) := (by omega); have q12 : 2 < a0.size := (by have : (2 : Int) < (a0.size : Int) := oD (by first | (with_reducible assumption) | assumption); omega); have hx12 : ∀ h : 2 < a0.size, ((a0[2]'h).toNat : Int) = bt a0 2 := bt_at a0 2; clear p12; have qi12 : (2 < (a0.size : Int)) = True := eq_true (oD (by first | (with_reducible assumption) | assumption)); replace q12 := eq_true q12) | (go_at_call 192; (with_reducible refine (spec_l16Letter.calls (bt a0 2) true _ A13.out).mono ?_); rintro e w' ⟨rfl, ⟨nd, rfl⟩⟩; have p16 : 0 ≤ (3 : Int) := (by omega); have q16 : 3 < a0.size := (by have : (3 : Int) < (a0.size : Int) := oD (by first | (with_reducible assumption) | assumption); omega); have hx16 : ∀ h : 3 < a0.size, ((a0[3]'h).toNat : Int) = bt a0 3 := bt_at a0 3; clear p16; have qi16 : (3 < (a0.size : Int)) = True := eq_true (oD (by first | (with_reducible assumption) | assumption)); replace q16 := eq_true q16) | (go_at_call 192; (with_reducible refine (spec_l16Letter.calls (bt a0 3) true _ A17.out).mono ?_); rintro e w' ⟨rfl, ⟨nd, rfl⟩⟩; have p19 : 0 ≤ (2 : Int) := (by omega); have q19 : 2 < a0.size := (by have : (2 : Int) < (a0.size : Int) := oD (by first | (with_reducible assumption) | assumption); omega); have hx19 : ∀ h : 2 < a0.size, ((a0[2]'h).toNat : Int) = bt a0 2 := bt_at a0 2; clear p19; have qi19 : (2 < (a0.size : Int)) = True := eq_true (oD (by first | (with_reducible assumption) | assumption)); replace q19 := eq_true q19))
          go_ret
          exact ⟨by first | rfl | (simp; done) | (simp [*]; done), by repeat (first | exact Drawn0.refl _ | apply Drawn0.step)⟩
         ·replace c18 := Bool.eq_false_iff.mpr c18
          subst c18
          have H1 : (some false) = some r := by rw [if_neg (show ¬ (false = true) by decide)] at H; first | done | exact H
          clear H
          have H := H1
          clear H1
          obtain rfl := Option.some.inj H
          have p4 : 0 ≤ (0 : Int) := (by omega)
          have q4 : 0 < a0.size := (by have : (0 : Int) < (a0.size : Int) := oD (by first | (with_reducible assumption) | assumption); omega)
          have hx4 : ∀ h : 0 < a0.size, ((a0[0]'h).toNat : Int) = bt a0 0 := bt_at a0 0
          clear p4
          have qi4 : (0 < (a0.size : Int)) = True := eq_true (oD (by first | (with_reducible assumption) | assumption))
          replace q4 := eq_true q4
          go_enter Try.func178, Try.ntmps178
          go_wp2_with (first | (go_at_call 192; (with_reducible refine (spec_l16Letter.calls (bt a0 0) true _ A5.out).mono ?_); rintro e w' ⟨rfl, ⟨nd, rfl⟩⟩; have p8 : 0 ≤ (1 : Int) := (by omega); have q8 : 1 < a0.size := (by have : (1 : Int) < (a0.size : Int) := oD (by first | (with_reducible assumption) | assumption); omega); have hx8 : ∀ h : 1 < a0.size, ((a0[1]'h).toNat : Int) = bt a0 1 := bt_at a0 1; clear p8; have qi8 : (1 < (a0.size : Int)) = True := eq_true (oD (by first | (with_reducible assumption) | assumption)); replace q8 := eq_true q8) | (go_at_call 192; (with_reducible refine (spec_l16Letter.calls (bt a0 1) true _ A9.out).mono ?_); rintro e w' ⟨rfl, ⟨nd, rfl⟩⟩; have p12 : 0 ≤ (2 : Int) := (by omega); have q12 : 2 < a0.size := (by have : (2 : Int) < (a0.size : Int) := oD (by first | (with_reducible assumption) | assumption); omega); have hx12 : ∀ h : 2 < a0.size, ((a0[2]'h).toNat : Int) = bt a0 2 := bt_at a0 2; clear p12; have qi12 : (2 < (a0.size : Int)) = True := eq_true (oD (by first | (with_reducible assumption) | assumption)); replace q12 := eq_true q12) | (go_at_call 192; (with_reducible refine (spec_l16Letter.calls (bt a0 2) true _ A13.out).mono ?_); rintro e w' ⟨rfl, ⟨nd, rfl⟩⟩; have p16 : 0 ≤ (3 : Int) := (by omega); have q16 : 3 < a0.size := (by have : (3 : Int) < (a0.size : Int) := oD (by first | (with_reducible assumption) | assumption); omega); have hx16 : ∀ h : 3 < a0.size, ((a0[3]'h).toNat : Int) = bt a0 3 := bt_at a0 3; clear p16; have qi16 : (3 < (a0.size : Int)) = True := eq_true (oD (by first | (with_reducible assumption) | assumption)); replace q16 := eq_true q16) | (go_at_call 192; (with_reducible refine (spec_l16Letter.calls (bt a0 3) false _ A17.out).mono ?_); rintro e w' ⟨rfl, ⟨nd, rfl⟩⟩))
          go_ret
          exact ⟨by first | rfl | (simp; done) | (simp [*]; done), by repeat (first | exact Drawn0.refl _ | apply Drawn0.step)⟩
        ·rw [if_neg c15] at H
         exact absurd H (by simp)
       ·replace c14 := Bool.eq_false_iff.mpr c14
        subst c14
        have H1 : (some false) = some r := by rw [if_neg (show ¬ (false = true) by decide)] at H; first | done | exact H
        clear H
        have H := H1
        clear H1
        obtain rfl := Option.some.inj H
        have p4 : 0 ≤ (0 : Int) := (by omega)
        have q4 : 0 < a0.size := (by have : (0 : Int) < (a0.size : Int) := oD (by first | (with_reducible assumption) | assumption); omega)
        have hx4 : ∀ h : 0 < a0.size, ((a0[0]'h).toNat : Int) = bt a0 0 := bt_at a0 0
        clear p4
        have qi4 : (0 < (a0.size : Int)) = True := eq_true (oD (by first | (with_reducible assumption) | assumption))
        replace q4 := eq_true q4
        go_enter Try.func178, Try.ntmps178
        go_wp2_with (first | (go_at_call 192; (with_reducible refine (spec_l16Letter.calls (bt a0 0) true _ A5.out).mono ?_); rintro e w' ⟨rfl, ⟨nd, rfl⟩⟩; have p8 : 0 ≤ (1 : Int) := (by omega); have q8 : 1 < a0.size := (by have : (1 : Int) < (a0.size : Int) := oD (by first | (with_reducible assumption) | assumption); omega); have hx8 : ∀ h : 1 < a0.size, ((a0[1]'h).toNat : Int) = bt a0 1 := bt_at a0 1; clear p8; have qi8 : (1 < (a0.size : Int)) = True := eq_true (oD (by first | (with_reducible assumption) | assumption)); replace q8 := eq_true q8) | (go_at_call 192; (with_reducible refine (spec_l16Letter.calls (bt a0 1) true _ A9.out).mono ?_); rintro e w' ⟨rfl, ⟨nd, rfl⟩⟩; have p12 : 0 ≤ (2 : Int) := (by omega); have q12 : 2 < a0.size := (by have : (2 : Int) < (a0.size : Int) := oD (by first | (with_reducible assumption) | assumption); omega); have hx12 : ∀ h : 2 < a0.size, ((a0[2]'h).toNat : Int) = bt a0 2 := bt_at a0 2; clear p12; have qi12 : (2 < (a0.size : Int)) = True := eq_true (oD (by first | (with_reducible assumption) | assumption)); replace q12 := eq_true q12) | (go_at_call 192; (with_reducible refine (spec_l16Letter.calls (bt a0 2) false _ A13.out).mono ?_); rintro e w' ⟨rfl, ⟨nd, rfl⟩⟩))
        go_ret
        exact ⟨by first | rfl | (simp; done) | (simp [*]; done), by repeat (first | exact Drawn0.refl _ | apply Drawn0.step)⟩
      ·rw [if_neg c11] at H
       exact absurd H (by simp)
     ·replace c10 := Bool.eq_false_iff.mpr c10
      subst c10
      have H1 : (some false) = some r := by rw [if_neg (show ¬ (false = true) by decide)] at H; first | done | exact H
      clear H
      have H := H1
      clear H1
      obtain rfl := Option.some.inj H
      have p4 : 0 ≤ (0 : Int) := (by omega)
      have q4 : 0 < a0.size := (by have : (0 : Int) < (a0.size : Int) := oD (by first | (with_reducible assumption) | assumption); omega)
      have hx4 : ∀ h : 0 < a0.size, ((a0[0]'h).toNat : Int) = bt a0 0 := bt_at a0 0
      clear p4
      have qi4 : (0 < (a0.size : Int)) = True := eq_true (oD (by first | (with_reducible assumption) | assumption))
      replace q4 := eq_true q4
      go_enter Try.func178, Try.ntmps178
      go_wp2_with (first | (go_at_call 192; (with_reducible refine (spec_l16Letter.calls (bt a0 0) true _ A5.out).mono ?_); rintro e w' ⟨rfl, ⟨nd, rfl⟩⟩; have p8 : 0 ≤ (1 : Int) := (by omega); have q8 : 1 < a0.size := (by have : (1 : Int) < (a0.size : Int) := oD (by first | (with_reducible assumption) | assumption); omega); have hx8 : ∀ h : 1 < a0.size, ((a0[1]'h).toNat : Int) = bt a0 1 := bt_at a0 1; clear p8; have qi8 : (1 < (a0.size : Int)) = True := eq_true (oD (by first | (with_reducible assumption) | assumption)); replace q8 := eq_true q8) | (go_at_call 192; (with_reducible refine (spec_l16Letter.calls (bt a0 1) false _ A9.out).mono ?_); rintro e w' ⟨rfl, ⟨nd, rfl⟩⟩))
      go_ret
      exact ⟨by first | rfl | (simp; done) | (simp [*]; done), by repeat (first | exact Drawn0.refl _ | apply Drawn0.step)⟩
    ·rw [if_neg c7] at H
     exact absurd H (by simp)
   ·replace c6 := Bool.eq_false_iff.mpr c6
    subst c6
    have H1 : (some false) = some r := by rw [if_neg (show ¬ (false = true) by decide)] at H; first | done | exact H
    clear H
    have H := H1
    clear H1
    obtain rfl := Option.some.inj H
    have p4 : 0 ≤ (0 : Int) := (by omega)
    have q4 : 0 < a0.size := (by have : (0 : Int) < (a0.size : Int) := oD (by first | (with_reducible assumption) | assumption); omega)
    have hx4 : ∀ h : 0 < a0.size, ((a0[0]'h).toNat : Int) = bt a0 0 := bt_at a0 0
    clear p4
    have qi4 : (0 < (a0.size : Int)) = True := eq_true (oD (by first | (with_reducible assumption) | assumption))
    replace q4 := eq_true q4
    go_enter Try.func178, Try.ntmps178
    go_wp2_with (first | (go_at_call 192; (with_reducible refine (spec_l16Letter.calls (bt a0 0) false _ A5.out).mono ?_); rintro e w' ⟨rfl, ⟨nd, rfl⟩⟩))
    go_ret
    exact ⟨by first | rfl | (simp; done) | (simp [*]; done), by repeat (first | exact Drawn0.refl _ | apply Drawn0.step)⟩
  ·rw [if_neg c3] at H
   exact absurd H (by simp)
 ·rw [if_neg c2] at H
  have c2b0 : ((a0.size : Int) == 4) = false := beq_eq_false_iff_ne.mpr c2
  have c2b1 : ((a0.size : Int) != 4) = true := bne_iff_ne.mpr c2
  obtain rfl := Option.some.inj H
  go_enter Try.func178, Try.ntmps178
  go_wp2
  go_ret
  exact ⟨by first | rfl | (simp; done) | (simp [*]; done), by repeat (first | exact Drawn0.refl _ | apply Drawn0.step)⟩

/-! ### spec_Needless: function 150 -/
def spec_Needless.f (a0 : ByteArray) : Option (Bool) := (spec_NameOk.f a0).bind fun t137 => (if t137 = true then (if 0 < (a0.size : Int) then (some (decide ((bt a0 0) ≥ 97))) else (none)) else (some false))
set_option maxHeartbeats 8000000 in
set_option maxRecDepth 100000 in
theorem spec_Needless.calls (a0 : ByteArray) (r : Bool) (w : World) (h : spec_Needless.f a0 = some r) :
  Calls Try.prog 150 #[.string a0] w fun e w' => e = .returned (.bool r) ∧ Drawn0 w w' := by
 have H : ((spec_NameOk.f a0).bind fun t137 => (if t137 = true then (if 0 < (a0.size : Int) then (some (decide ((bt a0 0) ≥ 97))) else (none)) else (some false))) = some r := h
 clear h
 replace H := oB.mp H
 obtain ⟨t137, A20, H⟩ := H
 replace H : (if t137 = true then (if 0 < (a0.size : Int) then (some (decide ((bt a0 0) ≥ 97))) else (none)) else (some false)) = some r := H
 have A2 := aM A20
 clear A20
 by_cases c3 : t137 = true
 ·subst c3
  have H1 : (if 0 < (a0.size : Int) then (some (decide ((bt a0 0) ≥ 97))) else (none)) = some r := by rw [if_pos rfl] at H; first | done | exact H
  clear H
  have H := H1
  clear H1
  by_cases c4 : 0 < (a0.size : Int)
  ·rw [if_pos c4] at H
   have c4b0 : decide (0 < (a0.size : Int)) = true := decide_eq_true c4
   have c4b1 : decide (0 < a0.size) = true := decide_eq_true (by omega)
   clear c4
   obtain rfl := Option.some.inj H
   go_enter Try.func150, Try.ntmps150
   go_wp2_with (first | ((with_reducible refine gate_callee (f := 178) rfl ?_); refine goesL_ (some 4) rfl rfl Try.func178 (by kernel_rfl) rfl #[.string a0] rfl (by (try simp only [lM, List.map_cons, List.map_nil]); first | done | rfl | (simp only [lD, lT]; rfl)) ?_; (with_reducible refine (spec_NameOk.calls a0 true _ A2.out).mono ?_); rintro e w' ⟨rfl, ⟨nd, rfl⟩⟩; refine ⟨_, rfl, ?_⟩; have p5 : 0 ≤ (0 : Int) := (by omega); have q5 : 0 < a0.size := (by have : (0 : Int) < (a0.size : Int) := oD (by first | (with_reducible assumption) | assumption); omega); have hx5 : ∀ h : 0 < a0.size, ((a0[0]'h).toNat : Int) = bt a0 0 := bt_at a0 0; clear p5; have qi5 : (0 < (a0.size : Int)) = True := eq_true (oD (by first | (with_reducible assumption) | assumption)); replace q5 := eq_true q5))
   go_ret
   exact ⟨by first | rfl | (simp; done) | (simp [*]; done), by repeat (first | exact Drawn0.refl _ | apply Drawn0.step)⟩
  ·rw [if_neg c4] at H
   exact absurd H (by simp)
 ·replace c3 := Bool.eq_false_iff.mpr c3
  subst c3
  have H1 : (some false) = some r := by rw [if_neg (show ¬ (false = true) by decide)] at H; first | done | exact H
  clear H
  have H := H1
  clear H1
  obtain rfl := Option.some.inj H
  go_enter Try.func150, Try.ntmps150
  go_wp2_with (first | ((with_reducible refine gate_callee (f := 178) rfl ?_); refine goesL_ (some 4) rfl rfl Try.func178 (by kernel_rfl) rfl #[.string a0] rfl (by (try simp only [lM, List.map_cons, List.map_nil]); first | done | rfl | (simp only [lD, lT]; rfl)) ?_; (with_reducible refine (spec_NameOk.calls a0 false _ A2.out).mono ?_); rintro e w' ⟨rfl, ⟨nd, rfl⟩⟩; refine ⟨_, rfl, ?_⟩))
  go_ret
  exact ⟨by first | rfl | (simp; done) | (simp [*]; done), by repeat (first | exact Drawn0.refl _ | apply Drawn0.step)⟩

/-! ### spec_l18Kept: function 97 -/
def spec_l18Kept.l0 : Nat → List (S168) → Int → Option (Bool)
 | 0, _, _ => none
 | k + 1, x0, x3 => if x3 < (x0.length : Int) then (if 0 ≤ x3 then ((spec_Needless.f ((rd_T168 x0 x3).f0)).bind fun t139 => (if t139 = true then (if ((rd_T168 x0 x3).f0).toList = ([116, 82, 78, 83] : List UInt8) then (some false) else (if (((rd_T168 x0 x3).f1).size : Int) > 2600 then (some false) else (spec_l18Kept.l0 k x0 (wrap64 (x3 + 1))))) else (some false))) else (none)) else (some true)
def spec_l18Kept.f (k : Nat) (l0 : List (S168)) : Option (Bool) := if (l0.length : Int) > 32 then (some false) else (spec_l18Kept.l0 k l0 0)
theorem spec_l18Kept.mono_l : ∀ k, (∀ y0 y1, LeO (spec_l18Kept.l0 k y0 y1) (spec_l18Kept.l0 (k + 1) y0 y1))
 | 0 => fun _ _ r h => by simp [spec_l18Kept.l0] at h
 | k + 1 => by
  have ih0 := spec_l18Kept.mono_l k
  ·intro y0 y1
   unfold spec_l18Kept.l0
   repeat' first
   | (with_reducible exact ih0 _ _)
   | (with_reducible exact LeO.refl _)
   | (with_reducible exact LeO.none _)
   | (with_reducible refine LeO.ite ?_ ?_)
   | (with_reducible refine LeO.bind ?_ (fun _ => ?_))
   | exact ih0 _ _
   | exact LeO.none _
   | refine LeO.ite ?_ ?_
   | refine LeO.bind ?_ (fun _ => ?_)
theorem spec_l18Kept.mono : ∀ a0 k, LeO (spec_l18Kept.f k a0) (spec_l18Kept.f (k + 1) a0) := by
 intro a0 k
 have ih0 := spec_l18Kept.mono_l k
 unfold spec_l18Kept.f
 repeat' first
   | (with_reducible exact ih0 _ _)
   | (with_reducible exact LeO.refl _)
   | (with_reducible exact LeO.none _)
   | (with_reducible refine LeO.ite ?_ ?_)
   | (with_reducible refine LeO.bind ?_ (fun _ => ?_))
   | exact ih0 _ _
   | exact LeO.none _
   | refine LeO.ite ?_ ?_
   | refine LeO.bind ?_ (fun _ => ?_)
set_option maxHeartbeats 8000000 in
set_option maxRecDepth 100000 in
theorem spec_l18Kept.calls (k : Nat) (A0 : Option Addr) (c0 : Nat) (l0 : List (S168)) (r : Bool) (w : World) (hr0 : Kd.C k168 w A0 l0.length l0) (hc0 : l0.length ≤ c0) (h : spec_l18Kept.f k l0 = some r) :
  Calls Try.prog 97 #[.slice A0 l0.length c0] w fun e w' => e = .returned (.bool r) ∧ Drawn0 w w' := by
 have HR0 := aM hr0
 have HC0 := aM hc0
 clear hr0 hc0
 have H : (if (l0.length : Int) > 32 then (some false) else (spec_l18Kept.l0 k l0 0)) = some r := h
 clear h
 by_cases c2 : (l0.length : Int) > 32
 ·rw [if_pos c2] at H
  have c2b0 : decide (32 < (l0.length : Int)) = true := decide_eq_true c2
  have c2b1 : decide (32 < l0.length) = true := decide_eq_true (by omega)
  clear c2
  obtain rfl := Option.some.inj H
  go_enter Try.func97, Try.ntmps97
  go_wp2
  go_ret
  exact ⟨by first | rfl | (simp; done) | (simp [*]; done), by repeat (first | exact Drawn0.refl _ | apply Drawn0.step)⟩
 ·rw [if_neg c2] at H
  have c2b0 : decide (32 < (l0.length : Int)) = false := decide_eq_false c2
  have c2b1 : decide (32 < l0.length) = false := decide_eq_false (by omega)
  clear c2
  have H' := aM H
  clear H
  go_enter Try.func97, Try.ntmps97
  go_wp2
  go_loopg [3] k (fun kq v3 w' => ∃ (x3_1 : Int), v3 = .int .i64 x3_1 ∧ Aside0 (spec_l18Kept.l0 kq l0 x3_1 = some r) ∧ Aside0 (kq ≤ k) ∧ Drawn0 w w')
  case atStart => exact ⟨(0), (by first | rfl | (simp; done) | (simp [*]; done)), H', ⟨Nat.le_refl _⟩, by repeat (first | exact Drawn0.refl _ | apply Drawn0.step)⟩
  case round =>
   clear H'
   try clear c2
   try clear c2b0
   try clear c2b1
   try clear p2
   obtain ⟨x3_1, rfl, HA, HK1, ⟨m1, rfl⟩⟩ := hrel
   cases gk with
   | zero => exact absurd HA.out (by simp [spec_l18Kept.l0])
   | succ k1 =>
    have H := HA.out
    clear HA
    simp only [spec_l18Kept.l0] at H
    by_cases c3 : x3_1 < (l0.length : Int)
    ·rw [if_pos c3] at H
     have c3b0 : decide (x3_1 < (l0.length : Int)) = true := decide_eq_true c3
     clear c3
     by_cases c4 : 0 ≤ x3_1
     ·rw [if_pos c4] at H
      have c4b0 : decide (0 ≤ x3_1) = true := decide_eq_true c4
      clear c4
      replace H := oB.mp H
      obtain ⟨t139, A50, H⟩ := H
      try dsimp -simprocs only at H
      have A5 := aM A50
      clear A50
      by_cases c6 : t139 = true
      ·subst c6
       have H1 : (if ((rd_T168 l0 x3_1).f0).toList = ([116, 82, 78, 83] : List UInt8) then (some false) else (if (((rd_T168 l0 x3_1).f1).size : Int) > 2600 then (some false) else (spec_l18Kept.l0 k1 l0 (wrap64 (x3_1 + 1))))) = some r := by rw [if_pos rfl] at H; first | done | exact H
       clear H
       have H := H1
       clear H1
       by_cases c7 : ((rd_T168 l0 x3_1).f0).toList = ([116, 82, 78, 83] : List UInt8)
       ·rw [if_pos c7] at H
        have c7b0 : (((rd_T168 l0 x3_1).f0).toList == ([116, 82, 78, 83] : List UInt8)) = true := beq_iff_eq.mpr c7
        have c7b1 : (((rd_T168 l0 x3_1).f0).toList != ([116, 82, 78, 83] : List UInt8)) = false := bne_eq_false_iff_eq.mpr c7
        clear c7
        obtain rfl := Option.some.inj H
        have p138 : 0 ≤ (x3_1 : Int) := oD (by first | (with_reducible assumption) | assumption)
        have q138 : x3_1 < (l0.length : Int) := oD (by first | (with_reducible assumption) | assumption)
        obtain ⟨ad138, e138, hx138_0, hx138_1⟩ := at_T168 HR0.out x3_1 p138 q138
        cases e138
        replace p138 := eq_true p138
        replace q138 := eq_true q138
        go_wp2_with (first | ((with_reducible refine gate_callee (f := 150) rfl ?_); refine goesL_ (some 18) rfl rfl Try.func150 (by kernel_rfl) rfl #[.string ((rd_T168 l0 x3_1).f0)] rfl (by (try simp only [lM, List.map_cons, List.map_nil]); first | done | rfl | (simp only [lD, lT]; rfl)) ?_; (with_reducible refine (spec_Needless.calls ((rd_T168 l0 x3_1).f0) true _ A5.out).mono ?_); rintro e w' ⟨rfl, ⟨nd, rfl⟩⟩; refine ⟨_, rfl, ?_⟩; have p140 : 0 ≤ (x3_1 : Int) := oD (by first | (with_reducible assumption) | assumption); have q140 : x3_1 < (l0.length : Int) := oD (by first | (with_reducible assumption) | assumption); obtain ⟨ad140, e140, hx140_0, hx140_1⟩ := at_T168 HR0.out x3_1 p140 q140; obtain rfl : ad138 = ad140 := (by injection e140); replace p140 := eq_true p140; replace q140 := eq_true q140))
        go_ret
        exact ⟨by first | rfl | (simp; done) | (simp [*]; done), by repeat (first | exact Drawn0.refl _ | apply Drawn0.step)⟩
       ·rw [if_neg c7] at H
        have c7b0 : (((rd_T168 l0 x3_1).f0).toList == ([116, 82, 78, 83] : List UInt8)) = false := beq_eq_false_iff_ne.mpr c7
        have c7b1 : (((rd_T168 l0 x3_1).f0).toList != ([116, 82, 78, 83] : List UInt8)) = true := bne_iff_ne.mpr c7
        by_cases c8 : (((rd_T168 l0 x3_1).f1).size : Int) > 2600
        ·rw [if_pos c8] at H
         have c8b0 : decide (2600 < (((rd_T168 l0 x3_1).f1).size : Int)) = true := decide_eq_true c8
         have c8b1 : decide (2600 < ((rd_T168 l0 x3_1).f1).size) = true := decide_eq_true (by omega)
         clear c8
         obtain rfl := Option.some.inj H
         have p138 : 0 ≤ (x3_1 : Int) := oD (by first | (with_reducible assumption) | assumption)
         have q138 : x3_1 < (l0.length : Int) := oD (by first | (with_reducible assumption) | assumption)
         obtain ⟨ad138, e138, hx138_0, hx138_1⟩ := at_T168 HR0.out x3_1 p138 q138
         cases e138
         replace p138 := eq_true p138
         replace q138 := eq_true q138
         go_wp2_with (first | ((with_reducible refine gate_callee (f := 150) rfl ?_); refine goesL_ (some 18) rfl rfl Try.func150 (by kernel_rfl) rfl #[.string ((rd_T168 l0 x3_1).f0)] rfl (by (try simp only [lM, List.map_cons, List.map_nil]); first | done | rfl | (simp only [lD, lT]; rfl)) ?_; (with_reducible refine (spec_Needless.calls ((rd_T168 l0 x3_1).f0) true _ A5.out).mono ?_); rintro e w' ⟨rfl, ⟨nd, rfl⟩⟩; refine ⟨_, rfl, ?_⟩; have p140 : 0 ≤ (x3_1 : Int) := oD (by first | (with_reducible assumption) | assumption); have q140 : x3_1 < (l0.length : Int) := oD (by first | (with_reducible assumption) | assumption); obtain ⟨ad140, e140, hx140_0, hx140_1⟩ := at_T168 HR0.out x3_1 p140 q140; obtain rfl : ad138 = ad140 := (by injection e140); replace p140 := eq_true p140; replace q140 := eq_true q140; have p141 : 0 ≤ (x3_1 : Int) := oD (by first | (with_reducible assumption) | assumption); have q141 : x3_1 < (l0.length : Int) := oD (by first | (with_reducible assumption) | assumption); obtain ⟨ad141, e141, hx141_0, hx141_1⟩ := at_T168 HR0.out x3_1 p141 q141; obtain rfl : ad138 = ad141 := (by injection e141); replace p141 := eq_true p141; replace q141 := eq_true q141))
         go_ret
         exact ⟨by first | rfl | (simp; done) | (simp [*]; done), by repeat (first | exact Drawn0.refl _ | apply Drawn0.step)⟩
        ·rw [if_neg c8] at H
         have c8b0 : decide (2600 < (((rd_T168 l0 x3_1).f1).size : Int)) = false := decide_eq_false c8
         have c8b1 : decide (2600 < ((rd_T168 l0 x3_1).f1).size) = false := decide_eq_false (by omega)
         clear c8
         have H' := aM H
         clear H
         have p138 : 0 ≤ (x3_1 : Int) := oD (by first | (with_reducible assumption) | assumption)
         have q138 : x3_1 < (l0.length : Int) := oD (by first | (with_reducible assumption) | assumption)
         obtain ⟨ad138, e138, hx138_0, hx138_1⟩ := at_T168 HR0.out x3_1 p138 q138
         cases e138
         replace p138 := eq_true p138
         replace q138 := eq_true q138
         go_wp2_with (first | ((with_reducible refine gate_callee (f := 150) rfl ?_); refine goesL_ (some 18) rfl rfl Try.func150 (by kernel_rfl) rfl #[.string ((rd_T168 l0 x3_1).f0)] rfl (by (try simp only [lM, List.map_cons, List.map_nil]); first | done | rfl | (simp only [lD, lT]; rfl)) ?_; (with_reducible refine (spec_Needless.calls ((rd_T168 l0 x3_1).f0) true _ A5.out).mono ?_); rintro e w' ⟨rfl, ⟨nd, rfl⟩⟩; refine ⟨_, rfl, ?_⟩; have p140 : 0 ≤ (x3_1 : Int) := oD (by first | (with_reducible assumption) | assumption); have q140 : x3_1 < (l0.length : Int) := oD (by first | (with_reducible assumption) | assumption); obtain ⟨ad140, e140, hx140_0, hx140_1⟩ := at_T168 HR0.out x3_1 p140 q140; obtain rfl : ad138 = ad140 := (by injection e140); replace p140 := eq_true p140; replace q140 := eq_true q140; have p141 : 0 ≤ (x3_1 : Int) := oD (by first | (with_reducible assumption) | assumption); have q141 : x3_1 < (l0.length : Int) := oD (by first | (with_reducible assumption) | assumption); obtain ⟨ad141, e141, hx141_0, hx141_1⟩ := at_T168 HR0.out x3_1 p141 q141; obtain rfl : ad138 = ad141 := (by injection e141); replace p141 := eq_true p141; replace q141 := eq_true q141))
         go_roundg k1
         case measure => have := HK1.out; omega
         case rel => exact ⟨(wrap64 (x3_1 + 1)), (by first | rfl | (simp; done) | (simp [*]; done)), H', ⟨by have := HK1.out; omega⟩, by repeat (first | exact Drawn0.refl _ | apply Drawn0.step)⟩
      ·replace c6 := Bool.eq_false_iff.mpr c6
       subst c6
       have H1 : (some false) = some r := by rw [if_neg (show ¬ (false = true) by decide)] at H; first | done | exact H
       clear H
       have H := H1
       clear H1
       obtain rfl := Option.some.inj H
       have p138 : 0 ≤ (x3_1 : Int) := oD (by first | (with_reducible assumption) | assumption)
       have q138 : x3_1 < (l0.length : Int) := oD (by first | (with_reducible assumption) | assumption)
       obtain ⟨ad138, e138, hx138_0, hx138_1⟩ := at_T168 HR0.out x3_1 p138 q138
       cases e138
       replace p138 := eq_true p138
       replace q138 := eq_true q138
       go_wp2_with (first | ((with_reducible refine gate_callee (f := 150) rfl ?_); refine goesL_ (some 18) rfl rfl Try.func150 (by kernel_rfl) rfl #[.string ((rd_T168 l0 x3_1).f0)] rfl (by (try simp only [lM, List.map_cons, List.map_nil]); first | done | rfl | (simp only [lD, lT]; rfl)) ?_; (with_reducible refine (spec_Needless.calls ((rd_T168 l0 x3_1).f0) false _ A5.out).mono ?_); rintro e w' ⟨rfl, ⟨nd, rfl⟩⟩; refine ⟨_, rfl, ?_⟩))
       go_ret
       exact ⟨by first | rfl | (simp; done) | (simp [*]; done), by repeat (first | exact Drawn0.refl _ | apply Drawn0.step)⟩
     ·rw [if_neg c4] at H
      exact absurd H (by simp)
    ·rw [if_neg c3] at H
     have c3b0 : decide (x3_1 < (l0.length : Int)) = false := decide_eq_false c3
     clear c3
     obtain rfl := Option.some.inj H
     go_wp2
     go_ret
     exact ⟨by first | rfl | (simp; done) | (simp [*]; done), by repeat (first | exact Drawn0.refl _ | apply Drawn0.step)⟩

/-! ### spec_l17Byte: function 151 -/
def spec_l17Byte.f (a0 : Int) : Option (Bool) := (spec_l01In.f a0 0 255).bind fun t142 => (some t142)
set_option maxHeartbeats 8000000 in
set_option maxRecDepth 100000 in
theorem spec_l17Byte.calls (a0 : Int) (r : Bool) (w : World) (h : spec_l17Byte.f a0 = some r) :
  Calls Try.prog 151 #[.int .i64 a0] w fun e w' => e = .returned (.bool r) ∧ Drawn0 w w' := by
 have H : ((spec_l01In.f a0 0 255).bind fun t142 => (some t142)) = some r := h
 clear h
 replace H := oB.mp H
 obtain ⟨t142, A20, H⟩ := H
 replace H : (some t142) = some r := H
 have A2 := aM A20
 clear A20
 obtain rfl := Option.some.inj H
 go_enter Try.func151, Try.ntmps151
 go_wp2_with (first | ((with_reducible refine gate_callee (f := 129) rfl ?_); refine goesL_ (some 4) rfl rfl Try.func129 (by kernel_rfl) rfl #[.int .i64 a0, .int .i64 0, .int .i64 255] rfl (by (try simp only [lM, List.map_cons, List.map_nil]); first | done | rfl | (simp only [lD, lT]; rfl)) ?_; (with_reducible refine (spec_l01In.calls a0 0 255 t142 _ A2.out).mono ?_); rintro e w' ⟨rfl, ⟨nd, rfl⟩⟩; refine ⟨_, rfl, ?_⟩))
 go_ret
 exact ⟨by first | rfl | (simp; done) | (simp [*]; done), by repeat (first | exact Drawn0.refl _ | apply Drawn0.step)⟩

end Go.Proofs.Ytajnobmnkbkkgaa.PFnExactPngOk
