/- Walks of functions that the law FnHeads reaches: each call comes to what the Lean function of its name tells. Written by p2.py, a program of this session, by way of the kit's print. -/
import Derived.Test.YtajnobmnkbkkgaaPFnHeadsx0
import Derived.Test.YtajnobmnkbkkgaaPFnHeadsx5
import Derived.Test.YtajnobmnkbkkgaaPFnHeadsx8
namespace Go.Proofs.Ytajnobmnkbkkgaa.PFnHeads
open Go.RowKit Go.Proofs.YtajnobmnkbkkgaaW.PrintWords Go.Proofs.YtajnobmnkbkkgaaW.PrintLast Go.Proofs.YtajnobmnkbkkgaaW.PrintMore
attribute [local go_sem] max2_int min2_int max_two min_two max_three min_three max_four min_four   -- for this text's walks alone
set_option linter.unusedVariables false
set_option linter.unusedSimpArgs false

/-! ### spec_ClearOk: function 86 -/
mutual
def spec_ClearOk.j0 : Nat → List Int → Int → Int → Option (Bool)
 | 0, _, _, _ => none
 | k + 1, x2, x7, x8 => if (x2.length : Int) = 0 then (some true) else (spec_ClearOk.l0 k x2 x7 x8 0)
def spec_ClearOk.l0 : Nat → List Int → Int → Int → Int → Option (Bool)
 | 0, _, _, _, _ => none
 | k + 1, x2, x7, x8, x9 => if x9 < (x2.length : Int) then (if 0 ≤ x9 then ((spec_l01In.f (rd x2 x9) 0 x7).bind fun t391 => (if t391 = true then (spec_ClearOk.l0 k x2 x7 x8 (wrap64 (x9 + 1))) else (some false))) else (none)) else (some ((x2.length : Int) == x8))
end
def spec_ClearOk.f (k : Nat) (a0_0 : Int) (a0_1 : Int) (a0_2 : Int) (a0_3 : Int) (a0_4 : Bool) (a1 : Int) (l2 : List Int) : Option (Bool) := if a0_3 = 0 then ((spec_l17Depth.f a0_0 a0_1 a0_2 a0_3 a0_4).bind fun t386 => ((spec_l01Pow.f k t386).bind fun t387 => (spec_ClearOk.j0 k l2 (wrap64 (t387 - 1)) 1))) else (if a0_3 = 2 then ((spec_l17Depth.f a0_0 a0_1 a0_2 a0_3 a0_4).bind fun t388 => ((spec_l01Pow.f k t388).bind fun t389 => (spec_ClearOk.j0 k l2 (wrap64 (t389 - 1)) 3))) else (if a0_3 = 3 then (if (l2.length : Int) > a1 then (some false) else (spec_ClearOk.j0 k l2 255 (l2.length : Int))) else (spec_ClearOk.j0 k l2 0 0)))
theorem spec_ClearOk.mono_l : ∀ k, (∀ y0 y1 y2, LeO (spec_ClearOk.j0 k y0 y1 y2) (spec_ClearOk.j0 (k + 1) y0 y1 y2)) ∧ (∀ y0 y1 y2 y3, LeO (spec_ClearOk.l0 k y0 y1 y2 y3) (spec_ClearOk.l0 (k + 1) y0 y1 y2 y3))
 | 0 => ⟨fun _ _ _ r h => by simp [spec_ClearOk.j0] at h, fun _ _ _ _ r h => by simp [spec_ClearOk.l0] at h⟩
 | k + 1 => by
  obtain ⟨ih0, ih1⟩ := spec_ClearOk.mono_l k
  refine ⟨?_, ?_⟩
  ·intro y0 y1 y2
   unfold spec_ClearOk.j0
   repeat' first
   | (with_reducible exact ih0 _ _ _)
   | (with_reducible exact ih1 _ _ _ _)
   | (with_reducible exact spec_l01Pow.mono _ _)
   | (with_reducible exact LeO.refl _)
   | (with_reducible exact LeO.none _)
   | (with_reducible refine LeO.ite ?_ ?_)
   | (with_reducible refine LeO.bind ?_ (fun _ => ?_))
   | exact ih0 _ _ _
   | exact ih1 _ _ _ _
   | exact spec_l01Pow.mono _ _
   | exact LeO.none _
   | refine LeO.ite ?_ ?_
   | refine LeO.bind ?_ (fun _ => ?_)
  ·intro y0 y1 y2 y3
   unfold spec_ClearOk.l0
   repeat' first
   | (with_reducible exact ih0 _ _ _)
   | (with_reducible exact ih1 _ _ _ _)
   | (with_reducible exact spec_l01Pow.mono _ _)
   | (with_reducible exact LeO.refl _)
   | (with_reducible exact LeO.none _)
   | (with_reducible refine LeO.ite ?_ ?_)
   | (with_reducible refine LeO.bind ?_ (fun _ => ?_))
   | exact ih0 _ _ _
   | exact ih1 _ _ _ _
   | exact spec_l01Pow.mono _ _
   | exact LeO.none _
   | refine LeO.ite ?_ ?_
   | refine LeO.bind ?_ (fun _ => ?_)
theorem spec_ClearOk.mono : ∀ a0 a1 a2 a3 a4 a5 a6 k, LeO (spec_ClearOk.f k a0 a1 a2 a3 a4 a5 a6) (spec_ClearOk.f (k + 1) a0 a1 a2 a3 a4 a5 a6) := by
 intro a0 a1 a2 a3 a4 a5 a6 k
 obtain ⟨ih0, ih1⟩ := spec_ClearOk.mono_l k
 unfold spec_ClearOk.f
 repeat' first
   | (with_reducible exact ih0 _ _ _)
   | (with_reducible exact ih1 _ _ _ _)
   | (with_reducible exact spec_l01Pow.mono _ _)
   | (with_reducible exact LeO.refl _)
   | (with_reducible exact LeO.none _)
   | (with_reducible refine LeO.ite ?_ ?_)
   | (with_reducible refine LeO.bind ?_ (fun _ => ?_))
   | exact ih0 _ _ _
   | exact ih1 _ _ _ _
   | exact spec_l01Pow.mono _ _
   | exact LeO.none _
   | refine LeO.ite ?_ ?_
   | refine LeO.bind ?_ (fun _ => ?_)
set_option maxHeartbeats 8000000 in
set_option maxRecDepth 100000 in
theorem spec_ClearOk.calls (k : Nat) (a0_0 : Int) (a0_1 : Int) (a0_2 : Int) (a0_3 : Int) (a0_4 : Bool) (a1 : Int) (A2 : Option Addr) (c2 : Nat) (l2 : List Int) (r : Bool) (w : World) (hr2 : Kd.C (Kd.int .i64) w A2 l2.length l2) (hc2 : l2.length ≤ c2) (h : spec_ClearOk.f k a0_0 a0_1 a0_2 a0_3 a0_4 a1 l2 = some r) :
  Calls Try.prog 86 #[.agg #[.int .i64 a0_0, .int .i64 a0_1, .int .i64 a0_2, .int .i64 a0_3, .bool a0_4], .int .i64 a1, .slice A2 l2.length c2] w fun e w' => e = .returned (.bool r) ∧ Below w.heap.size w w' := by
 have hu39 := Try.underlying39
 have HR2 := aM hr2
 have HC2 := aM hc2
 clear hr2 hc2
 have HB := aM (Below.refl w.heap.size w)
 unfold spec_ClearOk.f at h; have H := h
 clear h
 have HC4 := aM H
 clear H
 go_enter Try.func86, Try.ntmps86
 go_upto_block 0 with (first | ((with_reducible refine gate_dst (N := 3) rfl ?_); refine box_event ?hg (N := 3) ?hd (cs := #[.int .i64 a0_0, .int .i64 a0_1, .int .i64 a0_2, .int .i64 a0_3, .bool a0_4]) (t := 39) ?hr ?_; (case hd => rfl); (case hg => rfl); (case hr => first | (go_simp; done) | (go_simp; rfl)); intro gb385 hg w5 hbox hb; have n0_ := aM (bT (by repeat (first | (with_reducible first | exact HB.out | apply bA | apply bN | apply bE) | exact HB.out)) hb); have n1_ := aM (hbox); have n2_ := aM ((by rw [hg]; exact (bZ (by repeat (first | (with_reducible first | exact HB.out | apply bA | apply bN | apply bE) | exact HB.out))) : w.heap.size ≤ gb385)); have n3_ := aM ((by rw [hg]; exact (bZ (by repeat (first | (with_reducible first | exact HB.out | apply bA | apply bN | apply bE) | exact HB.out))) : w.heap.size ≤ gb385)); clear HB; have HB := n0_; have BK385 := n1_; have GW385 := n2_; have GE385 := n3_; clear n0_ n1_ n2_ n3_; clear hb hbox hg; obtain ⟨hcz6_0, hcz6_1, hcz6_2, hcz6_3, hcz6_4⟩ := blk_c5 BK385.out; obtain ⟨hfz6_0, hfz6_1, hfz6_2, hfz6_3, hfz6_4⟩ := blk_f5 BK385.out))
 (try simp only [Act.put, lI, lZ, lS])
 go_cut [7, 8] (fun v7 v8 wc => ∃ (kq : Nat) (x7_3 : Int) (x8_3 : Int), v7 = .int .i64 x7_3 ∧ v8 = .int .i64 x8_3 ∧ Aside0 (spec_ClearOk.j0 kq l2 x7_3 x8_3 = some r) ∧ Aside0 (kq ≤ k) ∧ Aside0 (wc.heap[gb385]? = some (.cells #[.int .i64 a0_0, .int .i64 a0_1, .int .i64 a0_2, .int .i64 a0_3, .bool a0_4] 39 (0, 0))) ∧ Aside0 (Below w.heap.size w wc))
 case first =>
  have H := HC4.out
  clear HC4
  by_cases c7 : a0_3 = 0
  ·rw [if_pos c7] at H
   have c7b0 : (a0_3 == 0) = true := beq_iff_eq.mpr c7
   have c7b1 : (a0_3 != 0) = false := bne_eq_false_iff_eq.mpr c7
   clear c7
   (first | rw [c7b0] | (simp only [i64_w, i32_w]; rw [c7b0]) | skip)
   replace H := oB.mp H
   obtain ⟨t386, A80, H⟩ := H
   replace H : ((spec_l01Pow.f k t386).bind fun t387 => (spec_ClearOk.j0 k l2 (wrap64 (t387 - 1)) 1)) = some r := H
   have A8 := aM A80
   clear A80
   replace H := oB.mp H
   obtain ⟨t387, A90, H⟩ := H
   replace H : (spec_ClearOk.j0 k l2 (wrap64 (t387 - 1)) 1) = some r := H
   have A9 := aM A90
   clear A90
   have H' := aM H
   clear H
   obtain ⟨hcz10_0, hcz10_1, hcz10_2, hcz10_3, hcz10_4⟩ := blk_c5 BK385.out
   obtain ⟨hfz10_0, hfz10_1, hfz10_2, hfz10_3, hfz10_4⟩ := blk_f5 BK385.out
   go_wp2_with (first | ((with_reducible refine gate_callee (f := 146) rfl ?_); refine goesL_ (some 15) rfl rfl Try.func146 (by kernel_rfl) rfl #[.agg #[.int .i64 a0_0, .int .i64 a0_1, .int .i64 a0_2, .int .i64 a0_3, .bool a0_4]] rfl (by (try simp only [lM, List.map_cons, List.map_nil]); first | done | rfl | (simp only [lD, lT]; rfl)) ?_; (with_reducible refine (spec_l17Depth.calls a0_0 a0_1 a0_2 a0_3 a0_4 t386 _ A8.out).mono ?_); rintro e w11 ⟨rfl, hb⟩; refine ⟨_, rfl, ?_⟩; have n0_ := aM (kB (g := gb385) (o := .cells #[.int .i64 a0_0, .int .i64 a0_1, .int .i64 a0_2, .int .i64 a0_3, .bool a0_4] 39 (0, 0)) (by (with_reducible repeat (first | refine kN ?_ _ | refine kD ?_ | refine kA ?_ _)); exact BK385.out) hb); have n1_ := aM (bT (by repeat (first | (with_reducible first | exact HB.out | apply bA | apply bN | apply bE | refine bS ?_ GE385.out) | exact HB.out)) hb); clear BK385; clear HB; have BK385 := n0_; have HB := n1_; clear n0_ n1_; (try clear hb); (try clear hb2); (try clear hk); (try clear hi)) | ((with_reducible refine gate_callee (f := 99) rfl ?_); refine goesL_ (some 16) rfl rfl Try.func99 (by kernel_rfl) rfl #[.int .i64 t386] rfl (by (try simp only [lM, List.map_cons, List.map_nil]); first | done | rfl | (simp only [lD, lT]; rfl)) ?_; (with_reducible refine (spec_l01Pow.calls k t386 t387 _ A9.out).mono ?_); rintro e w' ⟨rfl, ⟨nd, rfl⟩⟩; refine ⟨_, rfl, ?_⟩))
   go_meet
   case rel => exact ⟨_, (wrap64 (t387 - 1)), (1), (by first | rfl | (simp; done) | (simp [*]; done)), (by first | rfl | (simp; done) | (simp [*]; done)), H', ⟨by first | omega | exact Nat.le_refl _⟩, ⟨by (with_reducible repeat (first | refine kN ?_ _ | refine kD ?_ | refine kA ?_ _)); exact BK385.out⟩, ⟨by repeat (first | (with_reducible first | exact HB.out | apply bA | apply bN | apply bE | refine bS ?_ GE385.out) | exact HB.out)⟩⟩
  ·rw [if_neg c7] at H
   have c7b0 : (a0_3 == 0) = false := beq_eq_false_iff_ne.mpr c7
   have c7b1 : (a0_3 != 0) = true := bne_iff_ne.mpr c7
   (first | rw [c7b0] | (simp only [i64_w, i32_w]; rw [c7b0]) | skip)
   by_cases c12 : a0_3 = 2
   ·rw [if_pos c12] at H
    have c12b0 : (a0_3 == 2) = true := beq_iff_eq.mpr c12
    have c12b1 : (a0_3 != 2) = false := bne_eq_false_iff_eq.mpr c12
    clear c12
    replace H := oB.mp H
    obtain ⟨t388, A130, H⟩ := H
    replace H : ((spec_l01Pow.f k t388).bind fun t389 => (spec_ClearOk.j0 k l2 (wrap64 (t389 - 1)) 3)) = some r := H
    have A13 := aM A130
    clear A130
    replace H := oB.mp H
    obtain ⟨t389, A140, H⟩ := H
    replace H : (spec_ClearOk.j0 k l2 (wrap64 (t389 - 1)) 3) = some r := H
    have A14 := aM A140
    clear A140
    have H' := aM H
    clear H
    obtain ⟨hcz15_0, hcz15_1, hcz15_2, hcz15_3, hcz15_4⟩ := blk_c5 BK385.out
    obtain ⟨hfz15_0, hfz15_1, hfz15_2, hfz15_3, hfz15_4⟩ := blk_f5 BK385.out
    go_wp2_with (first | ((with_reducible refine gate_callee (f := 146) rfl ?_); refine goesL_ (some 21) rfl rfl Try.func146 (by kernel_rfl) rfl #[.agg #[.int .i64 a0_0, .int .i64 a0_1, .int .i64 a0_2, .int .i64 a0_3, .bool a0_4]] rfl (by (try simp only [lM, List.map_cons, List.map_nil]); first | done | rfl | (simp only [lD, lT]; rfl)) ?_; (with_reducible refine (spec_l17Depth.calls a0_0 a0_1 a0_2 a0_3 a0_4 t388 _ A13.out).mono ?_); rintro e w16 ⟨rfl, hb⟩; refine ⟨_, rfl, ?_⟩; have n0_ := aM (kB (g := gb385) (o := .cells #[.int .i64 a0_0, .int .i64 a0_1, .int .i64 a0_2, .int .i64 a0_3, .bool a0_4] 39 (0, 0)) (by (with_reducible repeat (first | refine kN ?_ _ | refine kD ?_ | refine kA ?_ _)); exact BK385.out) hb); have n1_ := aM (bT (by repeat (first | (with_reducible first | exact HB.out | apply bA | apply bN | apply bE | refine bS ?_ GE385.out) | exact HB.out)) hb); clear BK385; clear HB; have BK385 := n0_; have HB := n1_; clear n0_ n1_; (try clear hb); (try clear hb2); (try clear hk); (try clear hi)) | ((with_reducible refine gate_callee (f := 99) rfl ?_); refine goesL_ (some 22) rfl rfl Try.func99 (by kernel_rfl) rfl #[.int .i64 t388] rfl (by (try simp only [lM, List.map_cons, List.map_nil]); first | done | rfl | (simp only [lD, lT]; rfl)) ?_; (with_reducible refine (spec_l01Pow.calls k t388 t389 _ A14.out).mono ?_); rintro e w' ⟨rfl, ⟨nd, rfl⟩⟩; refine ⟨_, rfl, ?_⟩))
    go_meet
    case rel => exact ⟨_, (wrap64 (t389 - 1)), (3), (by first | rfl | (simp; done) | (simp [*]; done)), (by first | rfl | (simp; done) | (simp [*]; done)), H', ⟨by first | omega | exact Nat.le_refl _⟩, ⟨by (with_reducible repeat (first | refine kN ?_ _ | refine kD ?_ | refine kA ?_ _)); exact BK385.out⟩, ⟨by repeat (first | (with_reducible first | exact HB.out | apply bA | apply bN | apply bE | refine bS ?_ GE385.out) | exact HB.out)⟩⟩
   ·rw [if_neg c12] at H
    have c12b0 : (a0_3 == 2) = false := beq_eq_false_iff_ne.mpr c12
    have c12b1 : (a0_3 != 2) = true := bne_iff_ne.mpr c12
    by_cases c17 : a0_3 = 3
    ·rw [if_pos c17] at H
     have c17b0 : (a0_3 == 3) = true := beq_iff_eq.mpr c17
     have c17b1 : (a0_3 != 3) = false := bne_eq_false_iff_eq.mpr c17
     clear c17
     by_cases c18 : (l2.length : Int) > a1
     ·rw [if_pos c18] at H
      have c18b0 : decide (a1 < (l2.length : Int)) = true := decide_eq_true c18
      clear c18
      obtain rfl := Option.some.inj H
      go_wp2
      go_ret
      exact ⟨by first | rfl | (simp [errW_none, errW_some] <;> rfl) | (simp [*, errW_none, errW_some] <;> rfl), by repeat (first | (with_reducible first | exact HB.out | apply bA | apply bN | apply bE | refine bS ?_ GE385.out) | exact HB.out)⟩
     ·rw [if_neg c18] at H
      have c18b0 : decide (a1 < (l2.length : Int)) = false := decide_eq_false c18
      clear c18
      have H' := aM H
      clear H
      go_wp2
      go_meet
      case rel => exact ⟨_, (255), ((l2.length : Int)), (by first | rfl | (simp; done) | (simp [*]; done)), (by first | rfl | (simp; done) | (simp [*]; done)), H', ⟨by first | omega | exact Nat.le_refl _⟩, ⟨by (with_reducible repeat (first | refine kN ?_ _ | refine kD ?_ | refine kA ?_ _)); exact BK385.out⟩, ⟨by repeat (first | (with_reducible first | exact HB.out | apply bA | apply bN | apply bE | refine bS ?_ GE385.out) | exact HB.out)⟩⟩
    ·rw [if_neg c17] at H
     have c17b0 : (a0_3 == 3) = false := beq_eq_false_iff_ne.mpr c17
     have c17b1 : (a0_3 != 3) = true := bne_iff_ne.mpr c17
     have H' := aM H
     clear H
     go_wp2
     go_meet
     case rel => exact ⟨_, (0), (0), (by first | rfl | (simp; done) | (simp [*]; done)), (by first | rfl | (simp; done) | (simp [*]; done)), H', ⟨by first | omega | exact Nat.le_refl _⟩, ⟨by (with_reducible repeat (first | refine kN ?_ _ | refine kD ?_ | refine kA ?_ _)); exact BK385.out⟩, ⟨by repeat (first | (with_reducible first | exact HB.out | apply bA | apply bN | apply bE | refine bS ?_ GE385.out) | exact HB.out)⟩⟩
 case rest =>
  clear HC4
  try clear c1
  try clear c2
  try clear p2
  try clear c5
  try clear p6
  try clear c7
  try clear c7b0
  try clear c7b1
  try clear c8
  try clear c9
  try clear c12
  try clear c12b0
  try clear c12b1
  try clear c14
  try clear c17
  try clear c17b0
  try clear c17b1
  try clear c18
  try clear c18b0
  try clear hcz10_0
  try clear hcz10_1
  try clear hcz10_2
  try clear hcz10_3
  try clear hcz10_4
  try clear hcz15_0
  try clear hcz15_1
  try clear hcz15_2
  try clear hcz15_3
  try clear hcz15_4
  try clear hcz6_0
  try clear hcz6_1
  try clear hcz6_2
  try clear hcz6_3
  try clear hcz6_4
  try clear hfz10_0
  try clear hfz10_1
  try clear hfz10_2
  try clear hfz10_3
  try clear hfz10_4
  try clear hfz15_0
  try clear hfz15_1
  try clear hfz15_2
  try clear hfz15_3
  try clear hfz15_4
  try clear hfz6_0
  try clear hfz6_1
  try clear hfz6_2
  try clear hfz6_3
  try clear hfz6_4
  obtain ⟨kq, x7_3, x8_3, rfl, rfl, HA, HJ3, BK385, HB⟩ := hcut
  cases kq with
  | zero => exact absurd HA.out (by simp [spec_ClearOk.j0])
  | succ kj3 =>
   have H := HA.out
   clear HA
   simp only [spec_ClearOk.j0] at H
   by_cases c19 : (l2.length : Int) = 0
   ·rw [if_pos c19] at H
    have c19b0 : ((l2.length : Int) == 0) = true := beq_iff_eq.mpr c19
    have c19b1 : ((l2.length : Int) != 0) = false := bne_eq_false_iff_eq.mpr c19
    clear c19
    obtain rfl := Option.some.inj H
    go_wp2
    go_ret
    exact ⟨by first | rfl | (simp [errW_none, errW_some] <;> rfl) | (simp [*, errW_none, errW_some] <;> rfl), by repeat (first | (with_reducible first | exact HB.out | apply bA | apply bN | apply bE | refine bS ?_ GE385.out) | exact HB.out)⟩
   ·rw [if_neg c19] at H
    have c19b0 : ((l2.length : Int) == 0) = false := beq_eq_false_iff_ne.mpr c19
    have c19b1 : ((l2.length : Int) != 0) = true := bne_iff_ne.mpr c19
    have c19b2 : ¬ (l2 = []) := fun h_ => c19 (by rw [h_]; rfl)
    have H' := aM H
    clear H
    go_wp2
    go_loopg [9] kj3 (fun kq v9 w' => ∃ (x9_2 : Int), v9 = .int .i64 x9_2 ∧ Aside0 (spec_ClearOk.l0 kq l2 x7_3 x8_3 x9_2 = some r) ∧ Aside0 (kq ≤ kj3) ∧ Aside0 (w'.heap[gb385]? = some (.cells #[.int .i64 a0_0, .int .i64 a0_1, .int .i64 a0_2, .int .i64 a0_3, .bool a0_4] 39 (0, 0))) ∧ Aside0 (Below w.heap.size w w'))
    case atStart => exact ⟨(0), (by first | rfl | (simp; done) | (simp [*]; done)), H', ⟨Nat.le_refl _⟩, ⟨by (with_reducible repeat (first | refine kN ?_ _ | refine kD ?_ | refine kA ?_ _)); exact BK385.out⟩, ⟨by repeat (first | (with_reducible first | exact HB.out | apply bA | apply bN | apply bE | refine bS ?_ GE385.out) | exact HB.out)⟩⟩
    case round =>
     clear H'
     try clear c1
     try clear c2
     try clear p2
     try clear c5
     try clear p6
     try clear c7
     try clear c7b0
     try clear c7b1
     try clear c8
     try clear c9
     try clear c12
     try clear c12b0
     try clear c12b1
     try clear c14
     try clear c17
     try clear c17b0
     try clear c17b1
     try clear c18
     try clear c18b0
     try clear c19
     try clear c19b0
     try clear c19b1
     try clear c19b2
     try clear hcz10_0
     try clear hcz10_1
     try clear hcz10_2
     try clear hcz10_3
     try clear hcz10_4
     try clear hcz15_0
     try clear hcz15_1
     try clear hcz15_2
     try clear hcz15_3
     try clear hcz15_4
     try clear hcz6_0
     try clear hcz6_1
     try clear hcz6_2
     try clear hcz6_3
     try clear hcz6_4
     try clear hfz10_0
     try clear hfz10_1
     try clear hfz10_2
     try clear hfz10_3
     try clear hfz10_4
     try clear hfz15_0
     try clear hfz15_1
     try clear hfz15_2
     try clear hfz15_3
     try clear hfz15_4
     try clear hfz6_0
     try clear hfz6_1
     try clear hfz6_2
     try clear hfz6_3
     try clear hfz6_4
     try clear p2
     try clear p6
     obtain ⟨x9_2, rfl, HA, HK2, BK385, HB⟩ := hrel
     cases gk with
     | zero => exact absurd HA.out (by simp [spec_ClearOk.l0])
     | succ k2 =>
      have H := HA.out
      clear HA
      simp only [spec_ClearOk.l0] at H
      by_cases c20 : x9_2 < (l2.length : Int)
      ·rw [if_pos c20] at H
       have c20b0 : decide (x9_2 < (l2.length : Int)) = true := decide_eq_true c20
       clear c20
       by_cases c21 : 0 ≤ x9_2
       ·rw [if_pos c21] at H
        have c21b0 : decide (0 ≤ x9_2) = true := decide_eq_true c21
        clear c21
        replace H := oB.mp H
        obtain ⟨t391, A220, H⟩ := H
        replace H : (if t391 = true then (spec_ClearOk.l0 k2 l2 x7_3 x8_3 (wrap64 (x9_2 + 1))) else (some false)) = some r := H
        have A22 := aM A220
        clear A220
        by_cases c23 : t391 = true
        ·subst c23
         have H1 : (spec_ClearOk.l0 k2 l2 x7_3 x8_3 (wrap64 (x9_2 + 1))) = some r := by rw [if_pos rfl] at H; first | done | exact H
         clear H
         have H := H1
         clear H1
         have H' := aM H
         clear H
         have p390 : 0 ≤ (x9_2 : Int) := oD (by first | (with_reducible assumption) | assumption)
         have q390 : x9_2 < (l2.length : Int) := oD (by first | (with_reducible assumption) | assumption)
         obtain ⟨ad390, e390, hx390_0⟩ := Kd.at_int HR2.out x9_2 p390 q390
         cases e390
         replace hx390_0 := (HB.out.cell (World.block_lt_of_cell? w _ hx390_0)).trans hx390_0
         replace p390 := eq_true p390
         replace q390 := eq_true q390
         go_wp2_with (first | ((with_reducible refine gate_callee (f := 129) rfl ?_); refine goesL_ (some 45) rfl rfl Try.func129 (by kernel_rfl) rfl #[.int .i64 (rd l2 x9_2), .int .i64 0, .int .i64 x7_3] rfl (by (try simp only [lM, List.map_cons, List.map_nil]); first | done | rfl | (simp only [lD, lT]; rfl)) ?_; (with_reducible refine (spec_l01In.calls (rd l2 x9_2) 0 x7_3 true _ A22.out).mono ?_); rintro e w' ⟨rfl, ⟨nd, rfl⟩⟩; refine ⟨_, rfl, ?_⟩))
         go_roundg k2
         case measure => have := HJ3.out; have := HK2.out; omega
         case rel => exact ⟨(wrap64 (x9_2 + 1)), (by first | rfl | (simp; done) | (simp [*]; done)), H', ⟨by have := HJ3.out; have := HK2.out; omega⟩, ⟨by (with_reducible repeat (first | refine kN ?_ _ | refine kD ?_ | refine kA ?_ _)); exact BK385.out⟩, ⟨by repeat (first | (with_reducible first | exact HB.out | apply bA | apply bN | apply bE | refine bS ?_ GE385.out) | exact HB.out)⟩⟩
        ·replace c23 := Bool.eq_false_iff.mpr c23
         subst c23
         have H1 : (some false) = some r := by rw [if_neg (show ¬ (false = true) by decide)] at H; first | done | exact H
         clear H
         have H := H1
         clear H1
         obtain rfl := Option.some.inj H
         have p390 : 0 ≤ (x9_2 : Int) := oD (by first | (with_reducible assumption) | assumption)
         have q390 : x9_2 < (l2.length : Int) := oD (by first | (with_reducible assumption) | assumption)
         obtain ⟨ad390, e390, hx390_0⟩ := Kd.at_int HR2.out x9_2 p390 q390
         cases e390
         replace hx390_0 := (HB.out.cell (World.block_lt_of_cell? w _ hx390_0)).trans hx390_0
         replace p390 := eq_true p390
         replace q390 := eq_true q390
         go_wp2_with (first | ((with_reducible refine gate_callee (f := 129) rfl ?_); refine goesL_ (some 45) rfl rfl Try.func129 (by kernel_rfl) rfl #[.int .i64 (rd l2 x9_2), .int .i64 0, .int .i64 x7_3] rfl (by (try simp only [lM, List.map_cons, List.map_nil]); first | done | rfl | (simp only [lD, lT]; rfl)) ?_; (with_reducible refine (spec_l01In.calls (rd l2 x9_2) 0 x7_3 false _ A22.out).mono ?_); rintro e w' ⟨rfl, ⟨nd, rfl⟩⟩; refine ⟨_, rfl, ?_⟩))
         go_ret
         exact ⟨by first | rfl | (simp [errW_none, errW_some] <;> rfl) | (simp [*, errW_none, errW_some] <;> rfl), by repeat (first | (with_reducible first | exact HB.out | apply bA | apply bN | apply bE | refine bS ?_ GE385.out) | exact HB.out)⟩
       ·rw [if_neg c21] at H
        exact absurd H (by simp)
      ·rw [if_neg c20] at H
       have c20b0 : decide (x9_2 < (l2.length : Int)) = false := decide_eq_false c20
       clear c20
       obtain rfl := Option.some.inj H
       go_wp2
       go_ret
       exact ⟨by first | rfl | (simp [errW_none, errW_some] <;> rfl) | (simp [*, errW_none, errW_some] <;> rfl), by repeat (first | (with_reducible first | exact HB.out | apply bA | apply bN | apply bE | refine bS ?_ GE385.out) | exact HB.out)⟩

/-! ### spec_l01Big: function 87 -/
def spec_l01Big.l0 : Nat → Int → Int → ByteArray → Int → Option (ByteArray)
 | 0, _, _, _, _ => none
 | k + 1, x0, x1, x5, x6 => if x6 < x1 then ((some (([(Int.tmod x0 256) % 256] : List Int) : List Int)).bind fun y392 => (if (strOfNums y392).size + x5.size ≤ 9223372036854775807 then (spec_l01Big.l0 k (wrap64 (Int.tdiv x0 256)) x1 ((strOfNums y392) ++ x5) (wrap64 (x6 + 1))) else (none))) else (some x5)
def spec_l01Big.f (k : Nat) (a0 : Int) (a1 : Int) : Option (ByteArray) := spec_l01Big.l0 k a0 a1 (⟨#[]⟩ : ByteArray) 0
theorem spec_l01Big.mono_l : ∀ k, (∀ y0 y1 y2 y3, LeO (spec_l01Big.l0 k y0 y1 y2 y3) (spec_l01Big.l0 (k + 1) y0 y1 y2 y3))
 | 0 => fun _ _ _ _ r h => by simp [spec_l01Big.l0] at h
 | k + 1 => by
  have ih0 := spec_l01Big.mono_l k
  ·intro y0 y1 y2 y3
   unfold spec_l01Big.l0
   repeat' first
   | (with_reducible exact ih0 _ _ _ _)
   | (with_reducible exact LeO.refl _)
   | (with_reducible exact LeO.none _)
   | (with_reducible refine LeO.ite ?_ ?_)
   | (with_reducible refine LeO.bind ?_ (fun _ => ?_))
   | exact ih0 _ _ _ _
   | exact LeO.none _
   | refine LeO.ite ?_ ?_
   | refine LeO.bind ?_ (fun _ => ?_)
theorem spec_l01Big.mono : ∀ a0 a1 k, LeO (spec_l01Big.f k a0 a1) (spec_l01Big.f (k + 1) a0 a1) := by
 intro a0 a1 k
 have ih0 := spec_l01Big.mono_l k
 unfold spec_l01Big.f
 repeat' first
   | (with_reducible exact ih0 _ _ _ _)
   | (with_reducible exact LeO.refl _)
   | (with_reducible exact LeO.none _)
   | (with_reducible refine LeO.ite ?_ ?_)
   | (with_reducible refine LeO.bind ?_ (fun _ => ?_))
   | exact ih0 _ _ _ _
   | exact LeO.none _
   | refine LeO.ite ?_ ?_
   | refine LeO.bind ?_ (fun _ => ?_)
set_option maxHeartbeats 8000000 in
set_option maxRecDepth 100000 in
theorem spec_l01Big.calls (k : Nat) (a0 : Int) (a1 : Int) (r : ByteArray) (w : World) (h : spec_l01Big.f k a0 a1 = some r) :
  Calls Try.prog 87 #[.int .i64 a0, .int .i64 a1] w fun e w' => e = .returned (.string r) ∧ Below w.heap.size w w' := by
 have HB := aM (Below.refl w.heap.size w)
 have H : (spec_l01Big.l0 k a0 a1 (⟨#[]⟩ : ByteArray) 0) = some r := h
 clear h
 have H' := aM H
 clear H
 go_enter Try.func87, Try.ntmps87
 go_wp2
 go_loopg [0, 5, 6] k (fun kq v0 v5 v6 w' => ∃ (x0_1 : Int) (x5_1 : ByteArray) (x6_1 : Int), v0 = .int .i64 x0_1 ∧ v5 = .string x5_1 ∧ v6 = .int .i64 x6_1 ∧ Aside0 (spec_l01Big.l0 kq x0_1 a1 x5_1 x6_1 = some r) ∧ Aside0 (kq ≤ k) ∧ Aside0 (Below w.heap.size w w'))
 case atStart => exact ⟨(a0), ((⟨#[]⟩ : ByteArray)), (0), (by first | rfl | (simp; done) | (simp [*]; done)), (by first | rfl | (simp; done) | (simp [*]; done)), (by first | rfl | (simp; done) | (simp [*]; done)), H', ⟨Nat.le_refl _⟩, ⟨by repeat (first | (with_reducible first | exact HB.out | apply bA | apply bN | apply bE) | exact HB.out)⟩⟩
 case round =>
  clear H'
  try clear p2
  obtain ⟨x0_1, x5_1, x6_1, rfl, rfl, rfl, HA, HK1, HB⟩ := hrel
  cases gk with
  | zero => exact absurd HA.out (by simp [spec_l01Big.l0])
  | succ k1 =>
   have H := HA.out
   clear HA
   simp only [spec_l01Big.l0] at H
   by_cases c3 : x6_1 < a1
   ·rw [if_pos c3] at H
    have c3b0 : decide (x6_1 < a1) = true := decide_eq_true c3
    clear c3
    obtain ⟨y392, hy392⟩ : ∃ y_ : List Int, y_ = (([(Int.tmod x0_1 256) % 256] : List Int)) := ⟨_, rfl⟩
    replace H : (if (strOfNums y392).size + x5_1.size ≤ 9223372036854775807 then (spec_l01Big.l0 k1 (wrap64 (Int.tdiv x0_1 256)) a1 ((strOfNums y392) ++ x5_1) (wrap64 (x6_1 + 1))) else (none)) = some r := by first | (rw [hy392]; with_reducible exact H) | (have H2_ := (Option.bind_some _ _).symm.trans H; rw [hy392]; with_reducible exact H2_) | (have H2_ := (Option.bind_some _ _).symm.trans H; with_reducible exact H2_) | with_reducible exact H | (rw [hy392]; exact H) | exact H
    have Ny392 := aM hy392
    clear hy392
    by_cases c4 : (strOfNums y392).size + x5_1.size ≤ 9223372036854775807
    ·rw [if_pos c4] at H
     have c4b0 := eq_true c4
     have c4b1 : decide ((strOfNums y392).size + x5_1.size ≤ 9223372036854775807) = true := decide_eq_true c4
     try have c4b2 : (9223372036854775807 < (strOfNums y392).size + x5_1.size) = False := eq_false (Nat.not_lt.2 c4)
     have H' := aM H
     clear H
     go_wp2_with (first | ((with_reducible refine gate_dst (N := 15) rfl ?_); refine Kd.R_lit (Kd.int .u8) _ 5 ?hg (N := 15) ?hd (xs := ([(Int.tmod x0_1 256) % 256] : List Int)) (inner := [.int .u8 ((Int.tmod x0_1 256) % 256)]) (ok := fun _ => True) (okp := fun _ => True) ?hr ?hp (fun _ hk => hk) trivial (Below.refl _ _) (Nat.le_refl _) (by simp) ?_; (case hd => rfl); (case hg => rfl); (case hr => first | (go_simp; done) | (go_simp; rfl)); (case hp => exact (Reps.one (show Kd.M (Kd.int .u8) _ _ _ ((Int.tmod x0_1 256) % 256) [.int .u8 ((Int.tmod x0_1 256) % 256)] from rfl) (Reps.none _ _))); intro v393 w5 ho6 hb hg_ hnew_; clear hg_ hnew_; (first | rw [← Ny392.out] at ho6 | (simp only [Int.reduceToNat] at ho6; rw [← Ny392.out] at ho6)); have n0_ := aM (Kd.R_lower ho6 (bZ (by repeat (first | (with_reducible first | exact HB.out | apply bA | apply bN | apply bE) | exact HB.out)))); have n1_ := aM (bT (by repeat (first | (with_reducible first | exact HB.out | apply bA | apply bN | apply bE) | exact HB.out)) hb); clear HB; have HO394 := n0_; have HB := n1_; clear n0_ n1_; clear hb ho6; have hcv7 := own_string (P := Try.prog) Try.underlying36 Try.underlying5 Try.underlying9 (Kd.own_of_R HO394.out)))
     go_roundg k1
     case measure => have := HK1.out; omega
     case rel => exact ⟨(wrap64 (Int.tdiv x0_1 256)), ((strOfNums y392) ++ x5_1), (wrap64 (x6_1 + 1)), (by first | rfl | (simp; done) | (simp [*]; done)), (by first | rfl | (simp; done) | (simp [*]; done)), (by first | rfl | (simp; done) | (simp [*]; done)), H', ⟨by have := HK1.out; omega⟩, ⟨by repeat (first | (with_reducible first | exact HB.out | apply bA | apply bN | apply bE) | exact HB.out)⟩⟩
    ·rw [if_neg c4] at H
     exact absurd H (by simp)
   ·rw [if_neg c3] at H
    have c3b0 : decide (x6_1 < a1) = false := decide_eq_false c3
    clear c3
    obtain rfl := Option.some.inj H
    go_wp2
    go_ret
    exact ⟨by first | rfl | (simp [errW_none, errW_some] <;> rfl) | (simp [*, errW_none, errW_some] <;> rfl), by repeat (first | (with_reducible first | exact HB.out | apply bA | apply bN | apply bE) | exact HB.out)⟩

end Go.Proofs.Ytajnobmnkbkkgaa.PFnHeads
