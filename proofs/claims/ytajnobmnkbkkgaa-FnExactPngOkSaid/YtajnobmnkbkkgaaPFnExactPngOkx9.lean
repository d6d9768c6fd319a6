/- Walks of functions that the law FnExactPngOk reaches: each call comes to what the Lean function of its name tells. Written by p2.py, a program of this session, by way of the kit's print. -/
import Derived.Test.YtajnobmnkbkkgaaPFnExactPngOkx0
import Derived.Test.YtajnobmnkbkkgaaPFnExactPngOkx7
import Derived.Test.YtajnobmnkbkkgaaPFnExactPngOkx8
namespace Go.Proofs.Ytajnobmnkbkkgaa.PFnExactPngOk
open Go.RowKit Go.Proofs.YtajnobmnkbkkgaaW.PrintWords Go.Proofs.YtajnobmnkbkkgaaW.PrintLast Go.Proofs.YtajnobmnkbkkgaaW.PrintMore
attribute [local go_sem] max2_int min2_int max_two min_two max_three min_three max_four min_four   -- for this text's walks alone
set_option linter.unusedVariables false
set_option linter.unusedSimpArgs false

/-! ### impl_colorOk: function 81 -/
def impl_colorOk.f (a0_0 : Int) (a0_1 : Int) (a0_2 : Int) : Option (Bool) := (impl_within.f a0_0 0 255).bind fun t254 => (if t254 = true then ((impl_within.f a0_1 0 255).bind fun t255 => (if t255 = true then ((impl_within.f a0_2 0 255).bind fun t256 => (some t256)) else (some false))) else (some false))
set_option maxHeartbeats 8000000 in
set_option maxRecDepth 100000 in
theorem impl_colorOk.calls (a0_0 : Int) (a0_1 : Int) (a0_2 : Int) (r : Bool) (w : World) (h : impl_colorOk.f a0_0 a0_1 a0_2 = some r) :
  Calls Try.prog 81 #[.agg #[.int .i64 a0_0, .int .i64 a0_1, .int .i64 a0_2]] w fun e w' => e = .returned (.bool r) ∧ Below w.heap.size w w' := by
 have hu52 := Try.underlying52
 have HB := aM (Below.refl w.heap.size w)
 unfold impl_colorOk.f at h; have H := h
 clear h
 replace H := oB.mp H
 obtain ⟨t254, A20, H⟩ := H
 replace H : (if t254 = true then ((impl_within.f a0_1 0 255).bind fun t255 => (if t255 = true then ((impl_within.f a0_2 0 255).bind fun t256 => (some t256)) else (some false))) else (some false)) = some r := H
 have A2 := aM A20
 clear A20
 by_cases c3 : t254 = true
 ·subst c3
  have H1 : ((impl_within.f a0_1 0 255).bind fun t255 => (if t255 = true then ((impl_within.f a0_2 0 255).bind fun t256 => (some t256)) else (some false))) = some r := by rw [if_pos rfl] at H; first | done | exact H
  clear H
  have H := H1
  clear H1
  replace H := oB.mp H
  obtain ⟨t255, A40, H⟩ := H
  replace H : (if t255 = true then ((impl_within.f a0_2 0 255).bind fun t256 => (some t256)) else (some false)) = some r := H
  have A4 := aM A40
  clear A40
  by_cases c5 : t255 = true
  ·subst c5
   have H1 : ((impl_within.f a0_2 0 255).bind fun t256 => (some t256)) = some r := by rw [if_pos rfl] at H; first | done | exact H
   clear H
   have H := H1
   clear H1
   replace H := oB.mp H
   obtain ⟨t256, A60, H⟩ := H
   replace H : (some t256) = some r := H
   have A6 := aM A60
   clear A60
   obtain rfl := Option.some.inj H
   go_enter Try.func81, Try.ntmps81
   go_wp2_with (first | ((with_reducible refine gate_dst (N := 1) rfl ?_); refine box_event ?hg (N := 1) ?hd (cs := #[.int .i64 a0_0, .int .i64 a0_1, .int .i64 a0_2]) (t := 52) ?hr ?_; (case hd => rfl); (case hg => rfl); (case hr => first | (go_simp; done) | (go_simp; rfl)); intro gb253 hg w7 hbox hb; have n0_ := aM (bT (by repeat (first | (with_reducible first | exact HB.out | apply bA | apply bN | apply bE) | exact HB.out)) hb); have n1_ := aM (hbox); have n2_ := aM ((by rw [hg]; exact (bZ (by repeat (first | (with_reducible first | exact HB.out | apply bA | apply bN | apply bE) | exact HB.out))) : w.heap.size ≤ gb253)); have n3_ := aM ((by rw [hg]; exact (bZ (by repeat (first | (with_reducible first | exact HB.out | apply bA | apply bN | apply bE) | exact HB.out))) : w.heap.size ≤ gb253)); clear HB; have HB := n0_; have BK253 := n1_; have GW253 := n2_; have GE253 := n3_; clear n0_ n1_ n2_ n3_; clear hb hbox hg; obtain ⟨hcz8_0, hcz8_1, hcz8_2⟩ := blk_c3 BK253.out; obtain ⟨hfz8_0, hfz8_1, hfz8_2⟩ := blk_f3 BK253.out) | ((with_reducible refine gate_callee (f := 82) rfl ?_); refine goesL_ (some 5) rfl rfl Try.func82 (by kernel_rfl) rfl #[.int .i64 a0_0, .int .i64 0, .int .i64 255] rfl (by (try simp only [lM, List.map_cons, List.map_nil]); first | done | rfl | (simp only [lD, lT]; rfl)) ?_; (with_reducible refine (impl_within.calls a0_0 0 255 true _ A2.out).mono ?_); rintro e w' ⟨rfl, ⟨nd, rfl⟩⟩; refine ⟨_, rfl, ?_⟩) | (go_at_call 82; (with_reducible refine (impl_within.calls a0_1 0 255 true _ A4.out).mono ?_); rintro e w' ⟨rfl, ⟨nd, rfl⟩⟩) | (go_at_call 82; (with_reducible refine (impl_within.calls a0_2 0 255 t256 _ A6.out).mono ?_); rintro e w' ⟨rfl, ⟨nd, rfl⟩⟩))
   go_ret
   exact ⟨by first | rfl | (simp [errW_none, errW_some] <;> rfl) | (simp [*, errW_none, errW_some] <;> rfl), by repeat (first | (with_reducible first | exact HB.out | apply bA | apply bN | apply bE | refine bS ?_ GE253.out) | exact HB.out)⟩
  ·replace c5 := Bool.eq_false_iff.mpr c5
   subst c5
   have H1 : (some false) = some r := by rw [if_neg (show ¬ (false = true) by decide)] at H; first | done | exact H
   clear H
   have H := H1
   clear H1
   obtain rfl := Option.some.inj H
   go_enter Try.func81, Try.ntmps81
   go_wp2_with (first | ((with_reducible refine gate_dst (N := 1) rfl ?_); refine box_event ?hg (N := 1) ?hd (cs := #[.int .i64 a0_0, .int .i64 a0_1, .int .i64 a0_2]) (t := 52) ?hr ?_; (case hd => rfl); (case hg => rfl); (case hr => first | (go_simp; done) | (go_simp; rfl)); intro gb253 hg w9 hbox hb; have n0_ := aM (bT (by repeat (first | (with_reducible first | exact HB.out | apply bA | apply bN | apply bE) | exact HB.out)) hb); have n1_ := aM (hbox); have n2_ := aM ((by rw [hg]; exact (bZ (by repeat (first | (with_reducible first | exact HB.out | apply bA | apply bN | apply bE) | exact HB.out))) : w.heap.size ≤ gb253)); have n3_ := aM ((by rw [hg]; exact (bZ (by repeat (first | (with_reducible first | exact HB.out | apply bA | apply bN | apply bE) | exact HB.out))) : w.heap.size ≤ gb253)); clear HB; have HB := n0_; have BK253 := n1_; have GW253 := n2_; have GE253 := n3_; clear n0_ n1_ n2_ n3_; clear hb hbox hg; obtain ⟨hcz10_0, hcz10_1, hcz10_2⟩ := blk_c3 BK253.out; obtain ⟨hfz10_0, hfz10_1, hfz10_2⟩ := blk_f3 BK253.out) | ((with_reducible refine gate_callee (f := 82) rfl ?_); refine goesL_ (some 5) rfl rfl Try.func82 (by kernel_rfl) rfl #[.int .i64 a0_0, .int .i64 0, .int .i64 255] rfl (by (try simp only [lM, List.map_cons, List.map_nil]); first | done | rfl | (simp only [lD, lT]; rfl)) ?_; (with_reducible refine (impl_within.calls a0_0 0 255 true _ A2.out).mono ?_); rintro e w' ⟨rfl, ⟨nd, rfl⟩⟩; refine ⟨_, rfl, ?_⟩) | (go_at_call 82; (with_reducible refine (impl_within.calls a0_1 0 255 false _ A4.out).mono ?_); rintro e w' ⟨rfl, ⟨nd, rfl⟩⟩))
   go_ret
   exact ⟨by first | rfl | (simp [errW_none, errW_some] <;> rfl) | (simp [*, errW_none, errW_some] <;> rfl), by repeat (first | (with_reducible first | exact HB.out | apply bA | apply bN | apply bE | refine bS ?_ GE253.out) | exact HB.out)⟩
 ·replace c3 := Bool.eq_false_iff.mpr c3
  subst c3
  have H1 : (some false) = some r := by rw [if_neg (show ¬ (false = true) by decide)] at H; first | done | exact H
  clear H
  have H := H1
  clear H1
  obtain rfl := Option.some.inj H
  go_enter Try.func81, Try.ntmps81
  go_wp2_with (first | ((with_reducible refine gate_dst (N := 1) rfl ?_); refine box_event ?hg (N := 1) ?hd (cs := #[.int .i64 a0_0, .int .i64 a0_1, .int .i64 a0_2]) (t := 52) ?hr ?_; (case hd => rfl); (case hg => rfl); (case hr => first | (go_simp; done) | (go_simp; rfl)); intro gb253 hg w11 hbox hb; have n0_ := aM (bT (by repeat (first | (with_reducible first | exact HB.out | apply bA | apply bN | apply bE) | exact HB.out)) hb); have n1_ := aM (hbox); have n2_ := aM ((by rw [hg]; exact (bZ (by repeat (first | (with_reducible first | exact HB.out | apply bA | apply bN | apply bE) | exact HB.out))) : w.heap.size ≤ gb253)); have n3_ := aM ((by rw [hg]; exact (bZ (by repeat (first | (with_reducible first | exact HB.out | apply bA | apply bN | apply bE) | exact HB.out))) : w.heap.size ≤ gb253)); clear HB; have HB := n0_; have BK253 := n1_; have GW253 := n2_; have GE253 := n3_; clear n0_ n1_ n2_ n3_; clear hb hbox hg; obtain ⟨hcz12_0, hcz12_1, hcz12_2⟩ := blk_c3 BK253.out; obtain ⟨hfz12_0, hfz12_1, hfz12_2⟩ := blk_f3 BK253.out) | ((with_reducible refine gate_callee (f := 82) rfl ?_); refine goesL_ (some 5) rfl rfl Try.func82 (by kernel_rfl) rfl #[.int .i64 a0_0, .int .i64 0, .int .i64 255] rfl (by (try simp only [lM, List.map_cons, List.map_nil]); first | done | rfl | (simp only [lD, lT]; rfl)) ?_; (with_reducible refine (impl_within.calls a0_0 0 255 false _ A2.out).mono ?_); rintro e w' ⟨rfl, ⟨nd, rfl⟩⟩; refine ⟨_, rfl, ?_⟩))
  go_ret
  exact ⟨by first | rfl | (simp [errW_none, errW_some] <;> rfl) | (simp [*, errW_none, errW_some] <;> rfl), by repeat (first | (with_reducible first | exact HB.out | apply bA | apply bN | apply bE | refine bS ?_ GE253.out) | exact HB.out)⟩

/-! ### impl_tableOk: function 103 -/
def impl_tableOk.l0 : Nat → List (S52) → List (S52) → Int → Int → Int → Int → Int → Int → Bool → Option (Bool)
 | 0, _, _, _, _, _, _, _, _, _ => none
 | k + 1, x1, x13, x14, x15, x258000, x258001, x258002, x258003, x258004 => if x15 < x14 then (if 0 ≤ x15 then (if x15 < (x13.length : Int) then ((impl_colorOk.f ((rd_T52 x13 x15).f0) ((rd_T52 x13 x15).f1) ((rd_T52 x13 x15).f2)).bind fun t260 => (if t260 = true then (impl_tableOk.l0 k x1 x13 x14 (wrap64 (x15 + 1)) x258000 x258001 x258002 x258003 x258004) else (some false))) else (none)) else (none)) else ((impl_powerOf.f x258002).bind fun t261 => ((impl_within.f (x1.length : Int) 1 t261).bind fun t262 => (some t262)))
def impl_tableOk.f (k : Nat) (a0_0 : Int) (a0_1 : Int) (a0_2 : Int) (a0_3 : Int) (a0_4 : Bool) (l1 : List (S52)) : Option (Bool) := if a0_3 = 3 then (impl_tableOk.l0 k l1 l1 (l1.length : Int) 0 a0_0 a0_1 a0_2 a0_3 a0_4) else (some ((l1.length : Int) == 0))
theorem impl_tableOk.mono_l : ∀ k, (∀ y0 y1 y2 y3 y4 y5 y6 y7 y8, LeO (impl_tableOk.l0 k y0 y1 y2 y3 y4 y5 y6 y7 y8) (impl_tableOk.l0 (k + 1) y0 y1 y2 y3 y4 y5 y6 y7 y8))
 | 0 => fun _ _ _ _ _ _ _ _ _ r h => by simp [impl_tableOk.l0] at h
 | k + 1 => by
  have ih0 := impl_tableOk.mono_l k
  ·intro y0 y1 y2 y3 y4 y5 y6 y7 y8
   unfold impl_tableOk.l0
   repeat' first
   | (with_reducible exact ih0 _ _ _ _ _ _ _ _ _)
   | (with_reducible exact LeO.refl _)
   | (with_reducible exact LeO.none _)
   | (with_reducible refine LeO.ite ?_ ?_)
   | (with_reducible refine LeO.bind ?_ (fun _ => ?_))
   | exact ih0 _ _ _ _ _ _ _ _ _
   | exact LeO.none _
   | refine LeO.ite ?_ ?_
   | refine LeO.bind ?_ (fun _ => ?_)
theorem impl_tableOk.mono : ∀ a0 a1 a2 a3 a4 a5 k, LeO (impl_tableOk.f k a0 a1 a2 a3 a4 a5) (impl_tableOk.f (k + 1) a0 a1 a2 a3 a4 a5) := by
 intro a0 a1 a2 a3 a4 a5 k
 have ih0 := impl_tableOk.mono_l k
 unfold impl_tableOk.f
 repeat' first
   | (with_reducible exact ih0 _ _ _ _ _ _ _ _ _)
   | (with_reducible exact LeO.refl _)
   | (with_reducible exact LeO.none _)
   | (with_reducible refine LeO.ite ?_ ?_)
   | (with_reducible refine LeO.bind ?_ (fun _ => ?_))
   | exact ih0 _ _ _ _ _ _ _ _ _
   | exact LeO.none _
   | refine LeO.ite ?_ ?_
   | refine LeO.bind ?_ (fun _ => ?_)
set_option maxHeartbeats 8000000 in
set_option maxRecDepth 100000 in
theorem impl_tableOk.calls (k : Nat) (a0_0 : Int) (a0_1 : Int) (a0_2 : Int) (a0_3 : Int) (a0_4 : Bool) (A1 : Option Addr) (c1 : Nat) (l1 : List (S52)) (r : Bool) (w : World) (hr1 : Kd.C k52 w A1 l1.length l1) (hc1 : l1.length ≤ c1) (h : impl_tableOk.f k a0_0 a0_1 a0_2 a0_3 a0_4 l1 = some r) :
  Calls Try.prog 103 #[.agg #[.int .i64 a0_0, .int .i64 a0_1, .int .i64 a0_2, .int .i64 a0_3, .bool a0_4], .slice A1 l1.length c1] w fun e w' => e = .returned (.bool r) ∧ Below w.heap.size w w' := by
 have hu39 := Try.underlying39
 have hu52 := Try.underlying52
 have HR1 := aM hr1
 have HC1 := aM hc1
 clear hr1 hc1
 have HB := aM (Below.refl w.heap.size w)
 have H : (if a0_3 = 3 then (impl_tableOk.l0 k l1 l1 (l1.length : Int) 0 a0_0 a0_1 a0_2 a0_3 a0_4) else (some ((l1.length : Int) == 0))) = some r := h
 clear h
 by_cases c3 : a0_3 = 3
 ·rw [if_pos c3] at H
  have c3b0 : (a0_3 == 3) = true := beq_iff_eq.mpr c3
  have c3b1 : (a0_3 != 3) = false := bne_eq_false_iff_eq.mpr c3
  clear c3
  have H' := aM H
  clear H
  go_enter Try.func103, Try.ntmps103
  go_wp2_with (first | ((with_reducible refine gate_dst (N := 2) rfl ?_); refine box_event ?hg (N := 2) ?hd (cs := #[.int .i64 a0_0, .int .i64 a0_1, .int .i64 a0_2, .int .i64 a0_3, .bool a0_4]) (t := 39) ?hr ?_; (case hd => rfl); (case hg => rfl); (case hr => first | (go_simp; done) | (go_simp; rfl)); intro gb257 hg w4 hbox hb; have n0_ := aM (bT (by repeat (first | (with_reducible first | exact HB.out | apply bA | apply bN | apply bE) | exact HB.out)) hb); have n1_ := aM (hbox); have n2_ := aM ((by rw [hg]; exact (bZ (by repeat (first | (with_reducible first | exact HB.out | apply bA | apply bN | apply bE) | exact HB.out))) : w.heap.size ≤ gb257)); have n3_ := aM ((by rw [hg]; exact (bZ (by repeat (first | (with_reducible first | exact HB.out | apply bA | apply bN | apply bE) | exact HB.out))) : w.heap.size ≤ gb257)); clear HB; have HB := n0_; have BK257 := n1_; have GW257 := n2_; have GE257 := n3_; clear n0_ n1_ n2_ n3_; clear hb hbox hg; obtain ⟨hcz5_0, hcz5_1, hcz5_2, hcz5_3, hcz5_4⟩ := blk_c5 BK257.out; obtain ⟨hfz5_0, hfz5_1, hfz5_2, hfz5_3, hfz5_4⟩ := blk_f5 BK257.out))
  go_loopg [15] k (fun kq v15 w' => ∃ (x15_1 : Int), v15 = .int .i64 x15_1 ∧ Aside0 (impl_tableOk.l0 kq l1 l1 (l1.length : Int) x15_1 a0_0 a0_1 a0_2 a0_3 a0_4 = some r) ∧ Aside0 (kq ≤ k) ∧ Aside0 (w'.heap[gb257]? = some (.cells #[.int .i64 a0_0, .int .i64 a0_1, .int .i64 a0_2, .int .i64 a0_3, .bool a0_4] 39 (0, 0))) ∧ Aside0 (Below w.heap.size w w'))
  case atStart => exact ⟨(0), (by first | rfl | (simp; done) | (simp [*]; done)), H', ⟨Nat.le_refl _⟩, ⟨by (with_reducible repeat (first | refine kN ?_ _ | refine kD ?_ | refine kA ?_ _)); exact BK257.out⟩, ⟨by repeat (first | (with_reducible first | exact HB.out | apply bA | apply bN | apply bE | refine bS ?_ GE257.out) | exact HB.out)⟩⟩
  case round =>
   clear H'
   try clear c1
   try clear p2
   try clear c3
   try clear c3b0
   try clear c3b1
   try clear c5
   try clear hcz5_0
   try clear hcz5_1
   try clear hcz5_2
   try clear hcz5_3
   try clear hcz5_4
   try clear hfz5_0
   try clear hfz5_1
   try clear hfz5_2
   try clear hfz5_3
   try clear hfz5_4
   obtain ⟨x15_1, rfl, HA, HK1, BK257, HB⟩ := hrel
   cases gk with
   | zero => exact absurd HA.out (by simp [impl_tableOk.l0])
   | succ k1 =>
    have H := HA.out
    clear HA
    simp only [impl_tableOk.l0] at H
    by_cases c6 : x15_1 < (l1.length : Int)
    ·rw [if_pos c6] at H
     have c6b0 : decide (x15_1 < (l1.length : Int)) = true := decide_eq_true c6
     clear c6
     by_cases c7 : 0 ≤ x15_1
     ·rw [if_pos c7] at H
      have c7b0 : decide (0 ≤ x15_1) = true := decide_eq_true c7
      clear c7
      by_cases c8 : x15_1 < (l1.length : Int)
      ·rw [if_pos c8] at H
       have c8b0 : decide (x15_1 < (l1.length : Int)) = true := decide_eq_true c8
       clear c8
       replace H := oB.mp H
       obtain ⟨t260, A90, H⟩ := H
       replace H : (if t260 = true then (impl_tableOk.l0 k1 l1 l1 (l1.length : Int) (wrap64 (x15_1 + 1)) a0_0 a0_1 a0_2 a0_3 a0_4) else (some false)) = some r := H
       have A9 := aM A90
       clear A90
       by_cases c10 : t260 = true
       ·subst c10
        have H1 : (impl_tableOk.l0 k1 l1 l1 (l1.length : Int) (wrap64 (x15_1 + 1)) a0_0 a0_1 a0_2 a0_3 a0_4) = some r := by rw [if_pos rfl] at H; first | done | exact H
        clear H
        have H := H1
        clear H1
        have H' := aM H
        clear H
        have p258 : 0 ≤ (x15_1 : Int) := oD (by first | (with_reducible assumption) | assumption)
        have q258 : x15_1 < (l1.length : Int) := oD (by first | (with_reducible assumption) | assumption)
        obtain ⟨ad258, e258, hx258_0, hx258_1, hx258_2⟩ := at_T52 HR1.out x15_1 p258 q258
        cases e258
        replace hx258_0 := (HB.out.cell (wL w _ hx258_0)).trans hx258_0
        replace hx258_1 := (HB.out.cell (wL w _ hx258_1)).trans hx258_1
        replace hx258_2 := (HB.out.cell (wL w _ hx258_2)).trans hx258_2
        replace p258 := eq_true p258
        replace q258 := eq_true q258
        go_wp2_with (first | ((with_reducible refine gate_dst (N := 6) rfl ?_); refine box_event ?hg (N := 6) ?hd (cs := #[.int .i64 0, .int .i64 0, .int .i64 0]) (t := 52) ?hr ?_; (case hd => rfl); (case hg => rfl); (case hr => first | (go_simp; done) | (go_simp; rfl)); intro gb259 hg w11 hbox hb; have n0_ := aM (kB (g := gb257) (o := .cells #[.int .i64 a0_0, .int .i64 a0_1, .int .i64 a0_2, .int .i64 a0_3, .bool a0_4] 39 (0, 0)) (by (with_reducible repeat (first | refine kN ?_ _ | refine kD ?_ | refine kA ?_ _)); exact BK257.out) hb); have n1_ := aM (bT (by repeat (first | (with_reducible first | exact HB.out | apply bA | apply bN | apply bE | refine bS ?_ GE257.out) | exact HB.out)) hb); have n2_ := aM (hbox); have n3_ := aM ((by rw [hg]; exact (bZ (by repeat (first | (with_reducible first | exact HB.out | apply bA | apply bN | apply bE | refine bS ?_ GE257.out) | exact HB.out))) : w.heap.size ≤ gb259)); have n4_ := aM ((by rw [hg]; exact (bZ (by repeat (first | (with_reducible first | exact HB.out | apply bA | apply bN | apply bE | refine bS ?_ GE257.out) | exact HB.out))) : w.heap.size ≤ gb259)); have n5_ := aM ((by rw [hg]; exact Nat.ne_of_lt (blk_lt (g := gb257) (o := .cells #[.int .i64 a0_0, .int .i64 a0_1, .int .i64 a0_2, .int .i64 a0_3, .bool a0_4] 39 (0, 0)) (by (with_reducible repeat (first | refine kN ?_ _ | refine kD ?_ | refine kA ?_ _)); exact BK257.out)) : gb257 ≠ gb259)); have n6_ := aM ((by rw [hg]; exact Nat.ne_of_gt (blk_lt (g := gb257) (o := .cells #[.int .i64 a0_0, .int .i64 a0_1, .int .i64 a0_2, .int .i64 a0_3, .bool a0_4] 39 (0, 0)) (by (with_reducible repeat (first | refine kN ?_ _ | refine kD ?_ | refine kA ?_ _)); exact BK257.out)) : gb259 ≠ gb257)); clear BK257; clear HB; have BK257 := n0_; have HB := n1_; have BK259 := n2_; have GW259 := n3_; have GE259 := n4_; have NB257_259 := n5_; have NB259_257 := n6_; clear n0_ n1_ n2_ n3_ n4_ n5_ n6_; clear hb hbox hg; have hnb12 := NB259_257.out; have hnc12 := NB257_259.out; obtain ⟨hcz13_0, hcz13_1, hcz13_2⟩ := blk_c3 BK259.out; obtain ⟨hfz13_0, hfz13_1, hfz13_2⟩ := blk_f3 BK259.out) | ((with_reducible refine gate_callee (f := 81) rfl ?_); refine goesL_ (some 20) rfl rfl Try.func81 (by kernel_rfl) rfl #[.agg #[.int .i64 ((rd_T52 l1 x15_1).f0), .int .i64 ((rd_T52 l1 x15_1).f1), .int .i64 ((rd_T52 l1 x15_1).f2)]] rfl (by (try simp only [lM, List.map_cons, List.map_nil]); first | done | rfl | (simp only [lD, lT]; rfl)) ?_; (with_reducible refine (impl_colorOk.calls ((rd_T52 l1 x15_1).f0) ((rd_T52 l1 x15_1).f1) ((rd_T52 l1 x15_1).f2) true _ A9.out).mono ?_); rintro e w14 ⟨rfl, hb⟩; refine ⟨_, rfl, ?_⟩; have n0_ := aM (kB (g := gb257) (o := .cells #[.int .i64 a0_0, .int .i64 a0_1, .int .i64 a0_2, .int .i64 a0_3, .bool a0_4] 39 (0, 0)) (by (with_reducible repeat (first | refine kN ?_ _ | refine kD ?_ | refine kA ?_ _)); refine kF ?_ NB257_259.out _; (with_reducible repeat (first | refine kN ?_ _ | refine kD ?_ | refine kA ?_ _)); refine kF ?_ NB257_259.out _; (with_reducible repeat (first | refine kN ?_ _ | refine kD ?_ | refine kA ?_ _)); refine kF ?_ NB257_259.out _; (with_reducible repeat (first | refine kN ?_ _ | refine kD ?_ | refine kA ?_ _)); exact BK257.out) hb); have n1_ := aM (kB (g := gb259) (o := .cells #[.int .i64 ((rd_T52 l1 x15_1).f0), .int .i64 ((rd_T52 l1 x15_1).f1), .int .i64 ((rd_T52 l1 x15_1).f2)] 52 (0, 0)) (by (with_reducible repeat (first | refine kN ?_ _ | refine kD ?_ | refine kA ?_ _)); refine blk_put (cs := #[.int .i64 ((rd_T52 l1 x15_1).f0), .int .i64 ((rd_T52 l1 x15_1).f1), .int .i64 0]) ?_ 2 _ rfl; (with_reducible repeat (first | refine kN ?_ _ | refine kD ?_ | refine kA ?_ _)); refine blk_put (cs := #[.int .i64 ((rd_T52 l1 x15_1).f0), .int .i64 0, .int .i64 0]) ?_ 1 _ rfl; (with_reducible repeat (first | refine kN ?_ _ | refine kD ?_ | refine kA ?_ _)); refine blk_put (cs := #[.int .i64 0, .int .i64 0, .int .i64 0]) ?_ 0 _ rfl; (with_reducible repeat (first | refine kN ?_ _ | refine kD ?_ | refine kA ?_ _)); exact BK259.out) hb); have n2_ := aM (bT (by repeat (first | (with_reducible first | exact HB.out | apply bA | apply bN | apply bE | refine bS ?_ GE257.out | refine bS ?_ GE259.out) | exact HB.out)) hb); clear BK257; clear BK259; clear HB; have BK257 := n0_; have BK259 := n1_; have HB := n2_; clear n0_ n1_ n2_; (try clear hb); (try clear hb2); (try clear hk); (try clear hi)))
        go_roundg k1
        case measure => have := HK1.out; omega
        case rel => exact ⟨(wrap64 (x15_1 + 1)), (by first | rfl | (simp; done) | (simp [*]; done)), H', ⟨by have := HK1.out; omega⟩, ⟨by (with_reducible repeat (first | refine kN ?_ _ | refine kD ?_ | refine kA ?_ _)); exact BK257.out⟩, ⟨by repeat (first | (with_reducible first | exact HB.out | apply bA | apply bN | apply bE | refine bS ?_ GE257.out | refine bS ?_ GE259.out) | exact HB.out)⟩⟩
       ·replace c10 := Bool.eq_false_iff.mpr c10
        subst c10
        have H1 : (some false) = some r := by rw [if_neg (show ¬ (false = true) by decide)] at H; first | done | exact H
        clear H
        have H := H1
        clear H1
        obtain rfl := Option.some.inj H
        have p258 : 0 ≤ (x15_1 : Int) := oD (by first | (with_reducible assumption) | assumption)
        have q258 : x15_1 < (l1.length : Int) := oD (by first | (with_reducible assumption) | assumption)
        obtain ⟨ad258, e258, hx258_0, hx258_1, hx258_2⟩ := at_T52 HR1.out x15_1 p258 q258
        cases e258
        replace hx258_0 := (HB.out.cell (wL w _ hx258_0)).trans hx258_0
        replace hx258_1 := (HB.out.cell (wL w _ hx258_1)).trans hx258_1
        replace hx258_2 := (HB.out.cell (wL w _ hx258_2)).trans hx258_2
        replace p258 := eq_true p258
        replace q258 := eq_true q258
        go_wp2_with (first | ((with_reducible refine gate_dst (N := 6) rfl ?_); refine box_event ?hg (N := 6) ?hd (cs := #[.int .i64 0, .int .i64 0, .int .i64 0]) (t := 52) ?hr ?_; (case hd => rfl); (case hg => rfl); (case hr => first | (go_simp; done) | (go_simp; rfl)); intro gb259 hg w15 hbox hb; have n0_ := aM (kB (g := gb257) (o := .cells #[.int .i64 a0_0, .int .i64 a0_1, .int .i64 a0_2, .int .i64 a0_3, .bool a0_4] 39 (0, 0)) (by (with_reducible repeat (first | refine kN ?_ _ | refine kD ?_ | refine kA ?_ _)); exact BK257.out) hb); have n1_ := aM (bT (by repeat (first | (with_reducible first | exact HB.out | apply bA | apply bN | apply bE | refine bS ?_ GE257.out) | exact HB.out)) hb); have n2_ := aM (hbox); have n3_ := aM ((by rw [hg]; exact (bZ (by repeat (first | (with_reducible first | exact HB.out | apply bA | apply bN | apply bE | refine bS ?_ GE257.out) | exact HB.out))) : w.heap.size ≤ gb259)); have n4_ := aM ((by rw [hg]; exact (bZ (by repeat (first | (with_reducible first | exact HB.out | apply bA | apply bN | apply bE | refine bS ?_ GE257.out) | exact HB.out))) : w.heap.size ≤ gb259)); have n5_ := aM ((by rw [hg]; exact Nat.ne_of_lt (blk_lt (g := gb257) (o := .cells #[.int .i64 a0_0, .int .i64 a0_1, .int .i64 a0_2, .int .i64 a0_3, .bool a0_4] 39 (0, 0)) (by (with_reducible repeat (first | refine kN ?_ _ | refine kD ?_ | refine kA ?_ _)); exact BK257.out)) : gb257 ≠ gb259)); have n6_ := aM ((by rw [hg]; exact Nat.ne_of_gt (blk_lt (g := gb257) (o := .cells #[.int .i64 a0_0, .int .i64 a0_1, .int .i64 a0_2, .int .i64 a0_3, .bool a0_4] 39 (0, 0)) (by (with_reducible repeat (first | refine kN ?_ _ | refine kD ?_ | refine kA ?_ _)); exact BK257.out)) : gb259 ≠ gb257)); clear BK257; clear HB; have BK257 := n0_; have HB := n1_; have BK259 := n2_; have GW259 := n3_; have GE259 := n4_; have NB257_259 := n5_; have NB259_257 := n6_; clear n0_ n1_ n2_ n3_ n4_ n5_ n6_; clear hb hbox hg; have hnb16 := NB259_257.out; have hnc16 := NB257_259.out; obtain ⟨hcz17_0, hcz17_1, hcz17_2⟩ := blk_c3 BK259.out; obtain ⟨hfz17_0, hfz17_1, hfz17_2⟩ := blk_f3 BK259.out) | ((with_reducible refine gate_callee (f := 81) rfl ?_); refine goesL_ (some 20) rfl rfl Try.func81 (by kernel_rfl) rfl #[.agg #[.int .i64 ((rd_T52 l1 x15_1).f0), .int .i64 ((rd_T52 l1 x15_1).f1), .int .i64 ((rd_T52 l1 x15_1).f2)]] rfl (by (try simp only [lM, List.map_cons, List.map_nil]); first | done | rfl | (simp only [lD, lT]; rfl)) ?_; (with_reducible refine (impl_colorOk.calls ((rd_T52 l1 x15_1).f0) ((rd_T52 l1 x15_1).f1) ((rd_T52 l1 x15_1).f2) false _ A9.out).mono ?_); rintro e w18 ⟨rfl, hb⟩; refine ⟨_, rfl, ?_⟩; have n0_ := aM (kB (g := gb257) (o := .cells #[.int .i64 a0_0, .int .i64 a0_1, .int .i64 a0_2, .int .i64 a0_3, .bool a0_4] 39 (0, 0)) (by (with_reducible repeat (first | refine kN ?_ _ | refine kD ?_ | refine kA ?_ _)); refine kF ?_ NB257_259.out _; (with_reducible repeat (first | refine kN ?_ _ | refine kD ?_ | refine kA ?_ _)); refine kF ?_ NB257_259.out _; (with_reducible repeat (first | refine kN ?_ _ | refine kD ?_ | refine kA ?_ _)); refine kF ?_ NB257_259.out _; (with_reducible repeat (first | refine kN ?_ _ | refine kD ?_ | refine kA ?_ _)); exact BK257.out) hb); have n1_ := aM (kB (g := gb259) (o := .cells #[.int .i64 ((rd_T52 l1 x15_1).f0), .int .i64 ((rd_T52 l1 x15_1).f1), .int .i64 ((rd_T52 l1 x15_1).f2)] 52 (0, 0)) (by (with_reducible repeat (first | refine kN ?_ _ | refine kD ?_ | refine kA ?_ _)); refine blk_put (cs := #[.int .i64 ((rd_T52 l1 x15_1).f0), .int .i64 ((rd_T52 l1 x15_1).f1), .int .i64 0]) ?_ 2 _ rfl; (with_reducible repeat (first | refine kN ?_ _ | refine kD ?_ | refine kA ?_ _)); refine blk_put (cs := #[.int .i64 ((rd_T52 l1 x15_1).f0), .int .i64 0, .int .i64 0]) ?_ 1 _ rfl; (with_reducible repeat (first | refine kN ?_ _ | refine kD ?_ | refine kA ?_ _)); refine blk_put (cs := #[.int .i64 0, .int .i64 0, .int .i64 0]) ?_ 0 _ rfl; (with_reducible repeat (first | refine kN ?_ _ | refine kD ?_ | refine kA ?_ _)); exact BK259.out) hb); have n2_ := aM (bT (by repeat (first | (with_reducible first | exact HB.out | apply bA | apply bN | apply bE | refine bS ?_ GE257.out | refine bS ?_ GE259.out) | exact HB.out)) hb); clear BK257; clear BK259; clear HB; have BK257 := n0_; have BK259 := n1_; have HB := n2_; clear n0_ n1_ n2_; (try clear hb); (try clear hb2); (try clear hk); (try clear hi)))
        go_ret
        exact ⟨by first | rfl | (simp [errW_none, errW_some] <;> rfl) | (simp [*, errW_none, errW_some] <;> rfl), by repeat (first | (with_reducible first | exact HB.out | apply bA | apply bN | apply bE | refine bS ?_ GE257.out | refine bS ?_ GE259.out) | exact HB.out)⟩
      ·rw [if_neg c8] at H
       exact absurd H (by simp)
     ·rw [if_neg c7] at H
      exact absurd H (by simp)
    ·rw [if_neg c6] at H
     have c6b0 : decide (x15_1 < (l1.length : Int)) = false := decide_eq_false c6
     clear c6
     replace H := oB.mp H
     obtain ⟨t261, A190, H⟩ := H
     replace H : ((impl_within.f (l1.length : Int) 1 t261).bind fun t262 => (some t262)) = some r := H
     have A19 := aM A190
     clear A190
     replace H := oB.mp H
     obtain ⟨t262, A200, H⟩ := H
     replace H : (some t262) = some r := H
     have A20 := aM A200
     clear A200
     obtain rfl := Option.some.inj H
     obtain ⟨hcz21_0, hcz21_1, hcz21_2, hcz21_3, hcz21_4⟩ := blk_c5 BK257.out
     obtain ⟨hfz21_0, hfz21_1, hfz21_2, hfz21_3, hfz21_4⟩ := blk_f5 BK257.out
     go_wp2_with (first | ((with_reducible refine gate_callee (f := 126) rfl ?_); refine goesL_ (some 27) rfl rfl Try.func126 (by kernel_rfl) rfl #[.int .i64 a0_2] rfl (by (try simp only [lM, List.map_cons, List.map_nil]); first | done | rfl | (simp only [lD, lT]; rfl)) ?_; (with_reducible refine (impl_powerOf.calls a0_2 t261 _ A19.out).mono ?_); rintro e w' ⟨rfl, ⟨nd, rfl⟩⟩; refine ⟨_, rfl, ?_⟩) | ((with_reducible refine gate_callee (f := 82) rfl ?_); refine goesL_ (some 28) rfl rfl Try.func82 (by kernel_rfl) rfl #[.int .i64 (l1.length : Int), .int .i64 1, .int .i64 t261] rfl (by (try simp only [lM, List.map_cons, List.map_nil]); first | done | rfl | (simp only [lD, lT]; rfl)) ?_; (with_reducible refine (impl_within.calls (l1.length : Int) 1 t261 t262 _ A20.out).mono ?_); rintro e w' ⟨rfl, ⟨nd, rfl⟩⟩; refine ⟨_, rfl, ?_⟩))
     go_ret
     exact ⟨by first | rfl | (simp [errW_none, errW_some] <;> rfl) | (simp [*, errW_none, errW_some] <;> rfl), by repeat (first | (with_reducible first | exact HB.out | apply bA | apply bN | apply bE | refine bS ?_ GE257.out) | exact HB.out)⟩
 ·rw [if_neg c3] at H
  have c3b0 : (a0_3 == 3) = false := beq_eq_false_iff_ne.mpr c3
  have c3b1 : (a0_3 != 3) = true := bne_iff_ne.mpr c3
  obtain rfl := Option.some.inj H
  go_enter Try.func103, Try.ntmps103
  go_wp2_with (first | ((with_reducible refine gate_dst (N := 2) rfl ?_); refine box_event ?hg (N := 2) ?hd (cs := #[.int .i64 a0_0, .int .i64 a0_1, .int .i64 a0_2, .int .i64 a0_3, .bool a0_4]) (t := 39) ?hr ?_; (case hd => rfl); (case hg => rfl); (case hr => first | (go_simp; done) | (go_simp; rfl)); intro gb257 hg w22 hbox hb; have n0_ := aM (bT (by repeat (first | (with_reducible first | exact HB.out | apply bA | apply bN | apply bE) | exact HB.out)) hb); have n1_ := aM (hbox); have n2_ := aM ((by rw [hg]; exact (bZ (by repeat (first | (with_reducible first | exact HB.out | apply bA | apply bN | apply bE) | exact HB.out))) : w.heap.size ≤ gb257)); have n3_ := aM ((by rw [hg]; exact (bZ (by repeat (first | (with_reducible first | exact HB.out | apply bA | apply bN | apply bE) | exact HB.out))) : w.heap.size ≤ gb257)); clear HB; have HB := n0_; have BK257 := n1_; have GW257 := n2_; have GE257 := n3_; clear n0_ n1_ n2_ n3_; clear hb hbox hg; obtain ⟨hcz23_0, hcz23_1, hcz23_2, hcz23_3, hcz23_4⟩ := blk_c5 BK257.out; obtain ⟨hfz23_0, hfz23_1, hfz23_2, hfz23_3, hfz23_4⟩ := blk_f5 BK257.out))
  go_ret
  exact ⟨by first | rfl | (simp [errW_none, errW_some] <;> rfl) | (simp [*, errW_none, errW_some] <;> rfl), by repeat (first | (with_reducible first | exact HB.out | apply bA | apply bN | apply bE | refine bS ?_ GE257.out) | exact HB.out)⟩

/-! ### impl_isSmall: function 180 -/
def impl_isSmall.f (a0 : Int) : Option (Bool) := (impl_within.f (wrap64 (a0)) 97 122).bind fun t263 => (some t263)
set_option maxHeartbeats 8000000 in
set_option maxRecDepth 100000 in
theorem impl_isSmall.calls (a0 : Int) (r : Bool) (w : World) (h : impl_isSmall.f a0 = some r) :
  Calls Try.prog 180 #[.int .u8 a0] w fun e w' => e = .returned (.bool r) ∧ Drawn0 w w' := by
 have H : ((impl_within.f (wrap64 (a0)) 97 122).bind fun t263 => (some t263)) = some r := h
 clear h
 replace H := oB.mp H
 obtain ⟨t263, A20, H⟩ := H
 replace H : (some t263) = some r := H
 have A2 := aM A20
 clear A20
 obtain rfl := Option.some.inj H
 go_enter Try.func180, Try.ntmps180
 go_wp2_with (first | ((with_reducible refine gate_callee (f := 82) rfl ?_); refine goesL_ (some 5) rfl rfl Try.func82 (by kernel_rfl) rfl #[.int .i64 (wrap64 (a0)), .int .i64 97, .int .i64 122] rfl (by (try simp only [lM, List.map_cons, List.map_nil]); first | done | rfl | (simp only [lD, lT]; rfl)) ?_; (with_reducible refine (impl_within.calls (wrap64 (a0)) 97 122 t263 _ A2.out).mono ?_); rintro e w' ⟨rfl, ⟨nd, rfl⟩⟩; refine ⟨_, rfl, ?_⟩))
 go_ret
 exact ⟨by first | rfl | (simp; done) | (simp [*]; done), by repeat (first | exact Drawn0.refl _ | apply Drawn0.step)⟩

/-! ### impl_isGreat: function 193 -/
def impl_isGreat.f (a0 : Int) : Option (Bool) := (impl_within.f (wrap64 (a0)) 65 90).bind fun t264 => (some t264)
set_option maxHeartbeats 8000000 in
set_option maxRecDepth 100000 in
theorem impl_isGreat.calls (a0 : Int) (r : Bool) (w : World) (h : impl_isGreat.f a0 = some r) :
  Calls Try.prog 193 #[.int .u8 a0] w fun e w' => e = .returned (.bool r) ∧ Drawn0 w w' := by
 have H : ((impl_within.f (wrap64 (a0)) 65 90).bind fun t264 => (some t264)) = some r := h
 clear h
 replace H := oB.mp H
 obtain ⟨t264, A20, H⟩ := H
 replace H : (some t264) = some r := H
 have A2 := aM A20
 clear A20
 obtain rfl := Option.some.inj H
 go_enter Try.func193, Try.ntmps193
 go_wp2_with (first | ((with_reducible refine gate_callee (f := 82) rfl ?_); refine goesL_ (some 5) rfl rfl Try.func82 (by kernel_rfl) rfl #[.int .i64 (wrap64 (a0)), .int .i64 65, .int .i64 90] rfl (by (try simp only [lM, List.map_cons, List.map_nil]); first | done | rfl | (simp only [lD, lT]; rfl)) ?_; (with_reducible refine (impl_within.calls (wrap64 (a0)) 65 90 t264 _ A2.out).mono ?_); rintro e w' ⟨rfl, ⟨nd, rfl⟩⟩; refine ⟨_, rfl, ?_⟩))
 go_ret
 exact ⟨by first | rfl | (simp; done) | (simp [*]; done), by repeat (first | exact Drawn0.refl _ | apply Drawn0.step)⟩

/-! ### impl_NameOk: function 179 -/
def impl_NameOk.l0 : Nat → ByteArray → Int → Int → Option (Bool)
 | 0, _, _, _ => none
 | k + 1, x0, x5, x6 => if x6 < x5 then (if 0 ≤ x6 then (if x6 < (x0.size : Int) then ((impl_isGreat.f (bt x0 x6)).bind fun t265 => (if t265 = true then (impl_NameOk.l0 k x0 x5 (wrap64 (x6 + 1))) else ((impl_isSmall.f (bt x0 x6)).bind fun t266 => (if t266 = true then (if x6 = 2 then (some false) else (impl_NameOk.l0 k x0 x5 (wrap64 (x6 + 1)))) else (some false))))) else (none)) else (none)) else (some ((x0.size : Int) == 4))
def impl_NameOk.f (k : Nat) (a0 : ByteArray) : Option (Bool) := impl_NameOk.l0 k a0 (a0.size : Int) 0
theorem impl_NameOk.mono_l : ∀ k, (∀ y0 y1 y2, LeO (impl_NameOk.l0 k y0 y1 y2) (impl_NameOk.l0 (k + 1) y0 y1 y2))
 | 0 => fun _ _ _ r h => by simp [impl_NameOk.l0] at h
 | k + 1 => by
  have ih0 := impl_NameOk.mono_l k
  ·intro y0 y1 y2
   unfold impl_NameOk.l0
   repeat' first
   | (with_reducible exact ih0 _ _ _)
   | (with_reducible exact LeO.refl _)
   | (with_reducible exact LeO.none _)
   | (with_reducible refine LeO.ite ?_ ?_)
   | (with_reducible refine LeO.bind ?_ (fun _ => ?_))
   | exact ih0 _ _ _
   | exact LeO.none _
   | refine LeO.ite ?_ ?_
   | refine LeO.bind ?_ (fun _ => ?_)
theorem impl_NameOk.mono : ∀ a0 k, LeO (impl_NameOk.f k a0) (impl_NameOk.f (k + 1) a0) := by
 intro a0 k
 have ih0 := impl_NameOk.mono_l k
 unfold impl_NameOk.f
 repeat' first
   | (with_reducible exact ih0 _ _ _)
   | (with_reducible exact LeO.refl _)
   | (with_reducible exact LeO.none _)
   | (with_reducible refine LeO.ite ?_ ?_)
   | (with_reducible refine LeO.bind ?_ (fun _ => ?_))
   | exact ih0 _ _ _
   | exact LeO.none _
   | refine LeO.ite ?_ ?_
   | refine LeO.bind ?_ (fun _ => ?_)
set_option maxHeartbeats 8000000 in
set_option maxRecDepth 100000 in
theorem impl_NameOk.calls (k : Nat) (a0 : ByteArray) (r : Bool) (w : World) (h : impl_NameOk.f k a0 = some r) :
  Calls Try.prog 179 #[.string a0] w fun e w' => e = .returned (.bool r) ∧ Drawn0 w w' := by
 have H : (impl_NameOk.l0 k a0 (a0.size : Int) 0) = some r := h
 clear h
 have H' := aM H
 clear H
 go_enter Try.func179, Try.ntmps179
 go_wp2
 go_loopg [6] k (fun kq v6 w' => ∃ (x6_1 : Int), v6 = .int .i64 x6_1 ∧ Aside0 (impl_NameOk.l0 kq a0 (a0.size : Int) x6_1 = some r) ∧ Aside0 (kq ≤ k) ∧ Drawn0 w w')
 case atStart => exact ⟨(0), (by first | rfl | (simp; done) | (simp [*]; done)), H', ⟨Nat.le_refl _⟩, by repeat (first | exact Drawn0.refl _ | apply Drawn0.step)⟩
 case round =>
  clear H'
  try clear c1
  obtain ⟨x6_1, rfl, HA, HK1, ⟨m1, rfl⟩⟩ := hrel
  cases gk with
  | zero => exact absurd HA.out (by simp [impl_NameOk.l0])
  | succ k1 =>
   have H := HA.out
   clear HA
   simp only [impl_NameOk.l0] at H
   by_cases c2 : x6_1 < (a0.size : Int)
   ·rw [if_pos c2] at H
    have c2b0 : decide (x6_1 < (a0.size : Int)) = true := decide_eq_true c2
    clear c2
    by_cases c3 : 0 ≤ x6_1
    ·rw [if_pos c3] at H
     have c3b0 : decide (0 ≤ x6_1) = true := decide_eq_true c3
     clear c3
     by_cases c4 : x6_1 < (a0.size : Int)
     ·rw [if_pos c4] at H
      have c4b0 : decide (x6_1 < (a0.size : Int)) = true := decide_eq_true c4
      clear c4
      replace H := oB.mp H
      obtain ⟨t265, A60, H⟩ := H
      try dsimp -simprocs only at H
      have A6 := aM A60
      clear A60
      by_cases c7 : t265 = true
      ·subst c7
       have H1 : (impl_NameOk.l0 k1 a0 (a0.size : Int) (wrap64 (x6_1 + 1))) = some r := by rw [if_pos rfl] at H; first | done | exact H
       clear H
       have H := H1
       clear H1
       have H' := aM H
       clear H
       have p5 : 0 ≤ (x6_1 : Int) := oD (by first | (with_reducible assumption) | assumption)
       have q5 : x6_1 < (a0.size : Int) := oD (by first | (with_reducible assumption) | assumption)
       have hx5 := bt_at a0 x6_1
       replace p5 := eq_true p5
       replace q5 := eq_true q5
       go_wp2_with (first | ((with_reducible refine gate_callee (f := 193) rfl ?_); refine goesL_ (some 12) rfl rfl Try.func193 (by kernel_rfl) rfl #[.int .u8 (bt a0 x6_1)] rfl (by (try simp only [lM, List.map_cons, List.map_nil]); first | done | rfl | (simp only [lD, lT]; rfl)) ?_; (with_reducible refine (impl_isGreat.calls (bt a0 x6_1) true _ A6.out).mono ?_); rintro e w' ⟨rfl, ⟨nd, rfl⟩⟩; refine ⟨_, rfl, ?_⟩))
       go_roundg k1
       case measure => have := HK1.out; omega
       case rel => exact ⟨(wrap64 (x6_1 + 1)), (by first | rfl | (simp; done) | (simp [*]; done)), H', ⟨by have := HK1.out; omega⟩, by repeat (first | exact Drawn0.refl _ | apply Drawn0.step)⟩
      ·replace c7 := Bool.eq_false_iff.mpr c7
       subst c7
       have H1 : ((impl_isSmall.f (bt a0 x6_1)).bind fun t266 => (if t266 = true then (if x6_1 = 2 then (some false) else (impl_NameOk.l0 k1 a0 (a0.size : Int) (wrap64 (x6_1 + 1)))) else (some false))) = some r := by rw [if_neg (show ¬ (false = true) by decide)] at H; first | done | exact H
       clear H
       have H := H1
       clear H1
       replace H := oB.mp H
       obtain ⟨t266, A90, H⟩ := H
       replace H : (if t266 = true then (if x6_1 = 2 then (some false) else (impl_NameOk.l0 k1 a0 (a0.size : Int) (wrap64 (x6_1 + 1)))) else (some false)) = some r := H
       have A9 := aM A90
       clear A90
       by_cases c10 : t266 = true
       ·subst c10
        have H1 : (if x6_1 = 2 then (some false) else (impl_NameOk.l0 k1 a0 (a0.size : Int) (wrap64 (x6_1 + 1)))) = some r := by rw [if_pos rfl] at H; first | done | exact H
        clear H
        have H := H1
        clear H1
        by_cases c11 : x6_1 = 2
        ·rw [if_pos c11] at H
         have c11b0 : (x6_1 == 2) = true := beq_iff_eq.mpr c11
         have c11b1 : (x6_1 != 2) = false := bne_eq_false_iff_eq.mpr c11
         clear c11
         obtain rfl := Option.some.inj H
         have p5 : 0 ≤ (x6_1 : Int) := oD (by first | (with_reducible assumption) | assumption)
         have q5 : x6_1 < (a0.size : Int) := oD (by first | (with_reducible assumption) | assumption)
         have hx5 := bt_at a0 x6_1
         replace p5 := eq_true p5
         replace q5 := eq_true q5
         go_wp2_with (first | ((with_reducible refine gate_callee (f := 193) rfl ?_); refine goesL_ (some 12) rfl rfl Try.func193 (by kernel_rfl) rfl #[.int .u8 (bt a0 x6_1)] rfl (by (try simp only [lM, List.map_cons, List.map_nil]); first | done | rfl | (simp only [lD, lT]; rfl)) ?_; (with_reducible refine (impl_isGreat.calls (bt a0 x6_1) false _ A6.out).mono ?_); rintro e w' ⟨rfl, ⟨nd, rfl⟩⟩; refine ⟨_, rfl, ?_⟩; have p8 : 0 ≤ (x6_1 : Int) := oD (by first | (with_reducible assumption) | assumption); have q8 : x6_1 < (a0.size : Int) := oD (by first | (with_reducible assumption) | assumption); have hx8 := bt_at a0 x6_1; replace p8 := eq_true p8; replace q8 := eq_true q8) | (go_at_call 180; (with_reducible refine (impl_isSmall.calls (bt a0 x6_1) true _ A9.out).mono ?_); rintro e w' ⟨rfl, ⟨nd, rfl⟩⟩))
         go_ret
         exact ⟨by first | rfl | (simp; done) | (simp [*]; done), by repeat (first | exact Drawn0.refl _ | apply Drawn0.step)⟩
        ·rw [if_neg c11] at H
         have c11b0 : (x6_1 == 2) = false := beq_eq_false_iff_ne.mpr c11
         have c11b1 : (x6_1 != 2) = true := bne_iff_ne.mpr c11
         have H' := aM H
         clear H
         have p5 : 0 ≤ (x6_1 : Int) := oD (by first | (with_reducible assumption) | assumption)
         have q5 : x6_1 < (a0.size : Int) := oD (by first | (with_reducible assumption) | assumption)
         have hx5 := bt_at a0 x6_1
         replace p5 := eq_true p5
         replace q5 := eq_true q5
         go_wp2_with (first | ((with_reducible refine gate_callee (f := 193) rfl ?_); refine goesL_ (some 12) rfl rfl Try.func193 (by kernel_rfl) rfl #[.int .u8 (bt a0 x6_1)] rfl (by (try simp only [lM, List.map_cons, List.map_nil]); first | done | rfl | (simp only [lD, lT]; rfl)) ?_; (with_reducible refine (impl_isGreat.calls (bt a0 x6_1) false _ A6.out).mono ?_); rintro e w' ⟨rfl, ⟨nd, rfl⟩⟩; refine ⟨_, rfl, ?_⟩; have p8 : 0 ≤ (x6_1 : Int) := oD (by first | (with_reducible assumption) | assumption); have q8 : x6_1 < (a0.size : Int) := oD (by first | (with_reducible assumption) | assumption); have hx8 := bt_at a0 x6_1; replace p8 := eq_true p8; replace q8 := eq_true q8) | (go_at_call 180; (with_reducible refine (impl_isSmall.calls (bt a0 x6_1) true _ A9.out).mono ?_); rintro e w' ⟨rfl, ⟨nd, rfl⟩⟩))
         go_roundg k1
         case measure => have := HK1.out; omega
         case rel => exact ⟨(wrap64 (x6_1 + 1)), (by first | rfl | (simp; done) | (simp [*]; done)), H', ⟨by have := HK1.out; omega⟩, by repeat (first | exact Drawn0.refl _ | apply Drawn0.step)⟩
       ·replace c10 := Bool.eq_false_iff.mpr c10
        subst c10
        have H1 : (some false) = some r := by rw [if_neg (show ¬ (false = true) by decide)] at H; first | done | exact H
        clear H
        have H := H1
        clear H1
        obtain rfl := Option.some.inj H
        have p5 : 0 ≤ (x6_1 : Int) := oD (by first | (with_reducible assumption) | assumption)
        have q5 : x6_1 < (a0.size : Int) := oD (by first | (with_reducible assumption) | assumption)
        have hx5 := bt_at a0 x6_1
        replace p5 := eq_true p5
        replace q5 := eq_true q5
        go_wp2_with (first | ((with_reducible refine gate_callee (f := 193) rfl ?_); refine goesL_ (some 12) rfl rfl Try.func193 (by kernel_rfl) rfl #[.int .u8 (bt a0 x6_1)] rfl (by (try simp only [lM, List.map_cons, List.map_nil]); first | done | rfl | (simp only [lD, lT]; rfl)) ?_; (with_reducible refine (impl_isGreat.calls (bt a0 x6_1) false _ A6.out).mono ?_); rintro e w' ⟨rfl, ⟨nd, rfl⟩⟩; refine ⟨_, rfl, ?_⟩; have p8 : 0 ≤ (x6_1 : Int) := oD (by first | (with_reducible assumption) | assumption); have q8 : x6_1 < (a0.size : Int) := oD (by first | (with_reducible assumption) | assumption); have hx8 := bt_at a0 x6_1; replace p8 := eq_true p8; replace q8 := eq_true q8) | (go_at_call 180; (with_reducible refine (impl_isSmall.calls (bt a0 x6_1) false _ A9.out).mono ?_); rintro e w' ⟨rfl, ⟨nd, rfl⟩⟩))
        go_ret
        exact ⟨by first | rfl | (simp; done) | (simp [*]; done), by repeat (first | exact Drawn0.refl _ | apply Drawn0.step)⟩
     ·rw [if_neg c4] at H
      exact absurd H (by simp)
    ·rw [if_neg c3] at H
     exact absurd H (by simp)
   ·rw [if_neg c2] at H
    have c2b0 : decide (x6_1 < (a0.size : Int)) = false := decide_eq_false c2
    clear c2
    obtain rfl := Option.some.inj H
    go_wp2
    go_ret
    exact ⟨by first | rfl | (simp; done) | (simp [*]; done), by repeat (first | exact Drawn0.refl _ | apply Drawn0.step)⟩

/-! ### impl_Needless: function 154 -/
def impl_Needless.f (k : Nat) (a0 : ByteArray) : Option (Bool) := (impl_NameOk.f k a0).bind fun t267 => (if t267 = true then (if 0 < (a0.size : Int) then ((impl_isSmall.f (bt a0 0)).bind fun t268 => (some t268)) else (none)) else (some false))
theorem impl_Needless.mono : ∀ a0 k, LeO (impl_Needless.f k a0) (impl_Needless.f (k + 1) a0) := by
 intro a0 k
 unfold impl_Needless.f
 repeat' first
   | (with_reducible exact impl_NameOk.mono _ _)
   | (with_reducible exact LeO.refl _)
   | (with_reducible exact LeO.none _)
   | (with_reducible refine LeO.ite ?_ ?_)
   | (with_reducible refine LeO.bind ?_ (fun _ => ?_))
   | exact impl_NameOk.mono _ _
   | exact LeO.none _
   | refine LeO.ite ?_ ?_
   | refine LeO.bind ?_ (fun _ => ?_)
set_option maxHeartbeats 8000000 in
set_option maxRecDepth 100000 in
theorem impl_Needless.calls (k : Nat) (a0 : ByteArray) (r : Bool) (w : World) (h : impl_Needless.f k a0 = some r) :
  Calls Try.prog 154 #[.string a0] w fun e w' => e = .returned (.bool r) ∧ Drawn0 w w' := by
 have H : ((impl_NameOk.f k a0).bind fun t267 => (if t267 = true then (if 0 < (a0.size : Int) then ((impl_isSmall.f (bt a0 0)).bind fun t268 => (some t268)) else (none)) else (some false))) = some r := h
 clear h
 replace H := oB.mp H
 obtain ⟨t267, A20, H⟩ := H
 replace H : (if t267 = true then (if 0 < (a0.size : Int) then ((impl_isSmall.f (bt a0 0)).bind fun t268 => (some t268)) else (none)) else (some false)) = some r := H
 have A2 := aM A20
 clear A20
 by_cases c3 : t267 = true
 ·subst c3
  have H1 : (if 0 < (a0.size : Int) then ((impl_isSmall.f (bt a0 0)).bind fun t268 => (some t268)) else (none)) = some r := by rw [if_pos rfl] at H; first | done | exact H
  clear H
  have H := H1
  clear H1
  by_cases c4 : 0 < (a0.size : Int)
  ·rw [if_pos c4] at H
   have c4b0 : decide (0 < (a0.size : Int)) = true := decide_eq_true c4
   have c4b1 : decide (0 < a0.size) = true := decide_eq_true (by omega)
   clear c4
   replace H := oB.mp H
   obtain ⟨t268, A60, H⟩ := H
   replace H : (some t268) = some r := H
   have A6 := aM A60
   clear A60
   obtain rfl := Option.some.inj H
   go_enter Try.func154, Try.ntmps154
   go_wp2_with (first | ((with_reducible refine gate_callee (f := 179) rfl ?_); refine goesL_ (some 4) rfl rfl Try.func179 (by kernel_rfl) rfl #[.string a0] rfl (by (try simp only [lM, List.map_cons, List.map_nil]); first | done | rfl | (simp only [lD, lT]; rfl)) ?_; (with_reducible refine (impl_NameOk.calls k a0 true _ A2.out).mono ?_); rintro e w' ⟨rfl, ⟨nd, rfl⟩⟩; refine ⟨_, rfl, ?_⟩; have p5 : 0 ≤ (0 : Int) := (by omega); have q5 : 0 < a0.size := (by have : (0 : Int) < (a0.size : Int) := oD (by first | (with_reducible assumption) | assumption); omega); have hx5 : ∀ h : 0 < a0.size, ((a0[0]'h).toNat : Int) = bt a0 0 := bt_at a0 0; clear p5; have qi5 : (0 < (a0.size : Int)) = True := eq_true (oD (by first | (with_reducible assumption) | assumption)); replace q5 := eq_true q5) | (go_at_call 180; (with_reducible refine (impl_isSmall.calls (bt a0 0) t268 _ A6.out).mono ?_); rintro e w' ⟨rfl, ⟨nd, rfl⟩⟩))
   go_ret
   exact ⟨by first | rfl | (simp; done) | (simp [*]; done), by repeat (first | exact Drawn0.refl _ | apply Drawn0.step)⟩
  ·rw [if_neg c4] at H
   exact absurd H (by simp)
 ·replace c3 := Bool.eq_false_iff.mpr c3
  subst c3
  have H1 : (some false) = some r := by rw [if_neg (show ¬ (false = true) by decide)] at H; first | done | exact H
  clear H
  have H := H1
  clear H1
  obtain rfl := Option.some.inj H
  go_enter Try.func154, Try.ntmps154
  go_wp2_with (first | ((with_reducible refine gate_callee (f := 179) rfl ?_); refine goesL_ (some 4) rfl rfl Try.func179 (by kernel_rfl) rfl #[.string a0] rfl (by (try simp only [lM, List.map_cons, List.map_nil]); first | done | rfl | (simp only [lD, lT]; rfl)) ?_; (with_reducible refine (impl_NameOk.calls k a0 false _ A2.out).mono ?_); rintro e w' ⟨rfl, ⟨nd, rfl⟩⟩; refine ⟨_, rfl, ?_⟩))
  go_ret
  exact ⟨by first | rfl | (simp; done) | (simp [*]; done), by repeat (first | exact Drawn0.refl _ | apply Drawn0.step)⟩

/-! ### impl_keptOk: function 104 -/
def impl_keptOk.l0 : Nat → List (S168) → List (S168) → Int → Int → Option (Bool)
 | 0, _, _, _, _ => none
 | k + 1, x0, x5, x6, x7 => if x7 < x6 then (if 0 ≤ x7 then (if x7 < (x5.length : Int) then ((impl_Needless.f k ((rd_T168 x5 x7).f0)).bind fun t271 => (if t271 = true then (if ((rd_T168 x5 x7).f0).toList = ([116, 82, 78, 83] : List UInt8) then (some false) else (if (((rd_T168 x5 x7).f1).size : Int) > 2600 then (some false) else (impl_keptOk.l0 k x0 x5 x6 (wrap64 (x7 + 1))))) else (some false))) else (none)) else (none)) else (some (decide ((x0.length : Int) ≤ 32)))
def impl_keptOk.f (k : Nat) (l0 : List (S168)) : Option (Bool) := impl_keptOk.l0 k l0 l0 (l0.length : Int) 0
theorem impl_keptOk.mono_l : ∀ k, (∀ y0 y1 y2 y3, LeO (impl_keptOk.l0 k y0 y1 y2 y3) (impl_keptOk.l0 (k + 1) y0 y1 y2 y3))
 | 0 => fun _ _ _ _ r h => by simp [impl_keptOk.l0] at h
 | k + 1 => by
  have ih0 := impl_keptOk.mono_l k
  ·intro y0 y1 y2 y3
   unfold impl_keptOk.l0
   repeat' first
   | (with_reducible exact ih0 _ _ _ _)
   | (with_reducible exact impl_Needless.mono _ _)
   | (with_reducible exact LeO.refl _)
   | (with_reducible exact LeO.none _)
   | (with_reducible refine LeO.ite ?_ ?_)
   | (with_reducible refine LeO.bind ?_ (fun _ => ?_))
   | exact ih0 _ _ _ _
   | exact impl_Needless.mono _ _
   | exact LeO.none _
   | refine LeO.ite ?_ ?_
   | refine LeO.bind ?_ (fun _ => ?_)
theorem impl_keptOk.mono : ∀ a0 k, LeO (impl_keptOk.f k a0) (impl_keptOk.f (k + 1) a0) := by
 intro a0 k
 have ih0 := impl_keptOk.mono_l k
 unfold impl_keptOk.f
 repeat' first
   | (with_reducible exact ih0 _ _ _ _)
   | (with_reducible exact impl_Needless.mono _ _)
   | (with_reducible exact LeO.refl _)
   | (with_reducible exact LeO.none _)
   | (with_reducible refine LeO.ite ?_ ?_)
   | (with_reducible refine LeO.bind ?_ (fun _ => ?_))
   | exact ih0 _ _ _ _
   | exact impl_Needless.mono _ _
   | exact LeO.none _
   | refine LeO.ite ?_ ?_
   | refine LeO.bind ?_ (fun _ => ?_)
set_option maxHeartbeats 8000000 in
set_option maxRecDepth 100000 in
theorem impl_keptOk.calls (k : Nat) (A0 : Option Addr) (c0 : Nat) (l0 : List (S168)) (r : Bool) (w : World) (hr0 : Kd.C k168 w A0 l0.length l0) (hc0 : l0.length ≤ c0) (h : impl_keptOk.f k l0 = some r) :
  Calls Try.prog 104 #[.slice A0 l0.length c0] w fun e w' => e = .returned (.bool r) ∧ Below w.heap.size w w' := by
 have hu168 := Try.underlying168
 have HR0 := aM hr0
 have HC0 := aM hc0
 clear hr0 hc0
 have HB := aM (Below.refl w.heap.size w)
 have H : (impl_keptOk.l0 k l0 l0 (l0.length : Int) 0) = some r := h
 clear h
 have H' := aM H
 clear H
 go_enter Try.func104, Try.ntmps104
 go_wp2
 go_loopg [7] k (fun kq v7 w' => ∃ (x7_1 : Int), v7 = .int .i64 x7_1 ∧ Aside0 (impl_keptOk.l0 kq l0 l0 (l0.length : Int) x7_1 = some r) ∧ Aside0 (kq ≤ k) ∧ Aside0 (Below w.heap.size w w'))
 case atStart => exact ⟨(0), (by first | rfl | (simp; done) | (simp [*]; done)), H', ⟨Nat.le_refl _⟩, ⟨by repeat (first | (with_reducible first | exact HB.out | apply bA | apply bN | apply bE) | exact HB.out)⟩⟩
 case round =>
  clear H'
  try clear c1
  obtain ⟨x7_1, rfl, HA, HK1, HB⟩ := hrel
  cases gk with
  | zero => exact absurd HA.out (by simp [impl_keptOk.l0])
  | succ k1 =>
   have H := HA.out
   clear HA
   simp only [impl_keptOk.l0] at H
   by_cases c2 : x7_1 < (l0.length : Int)
   ·rw [if_pos c2] at H
    have c2b0 : decide (x7_1 < (l0.length : Int)) = true := decide_eq_true c2
    clear c2
    by_cases c3 : 0 ≤ x7_1
    ·rw [if_pos c3] at H
     have c3b0 : decide (0 ≤ x7_1) = true := decide_eq_true c3
     clear c3
     by_cases c4 : x7_1 < (l0.length : Int)
     ·rw [if_pos c4] at H
      have c4b0 : decide (x7_1 < (l0.length : Int)) = true := decide_eq_true c4
      clear c4
      replace H := oB.mp H
      obtain ⟨t271, A50, H⟩ := H
      try dsimp -simprocs only at H
      have A5 := aM A50
      clear A50
      by_cases c6 : t271 = true
      ·subst c6
       have H1 : (if ((rd_T168 l0 x7_1).f0).toList = ([116, 82, 78, 83] : List UInt8) then (some false) else (if (((rd_T168 l0 x7_1).f1).size : Int) > 2600 then (some false) else (impl_keptOk.l0 k1 l0 l0 (l0.length : Int) (wrap64 (x7_1 + 1))))) = some r := by rw [if_pos rfl] at H; first | done | exact H
       clear H
       have H := H1
       clear H1
       by_cases c7 : ((rd_T168 l0 x7_1).f0).toList = ([116, 82, 78, 83] : List UInt8)
       ·rw [if_pos c7] at H
        have c7b0 : (((rd_T168 l0 x7_1).f0).toList == ([116, 82, 78, 83] : List UInt8)) = true := beq_iff_eq.mpr c7
        have c7b1 : (((rd_T168 l0 x7_1).f0).toList != ([116, 82, 78, 83] : List UInt8)) = false := bne_eq_false_iff_eq.mpr c7
        clear c7
        obtain rfl := Option.some.inj H
        have p269 : 0 ≤ (x7_1 : Int) := oD (by first | (with_reducible assumption) | assumption)
        have q269 : x7_1 < (l0.length : Int) := oD (by first | (with_reducible assumption) | assumption)
        obtain ⟨ad269, e269, hx269_0, hx269_1⟩ := at_T168 HR0.out x7_1 p269 q269
        cases e269
        replace hx269_0 := (HB.out.cell (wL w _ hx269_0)).trans hx269_0
        replace hx269_1 := (HB.out.cell (wL w _ hx269_1)).trans hx269_1
        replace p269 := eq_true p269
        replace q269 := eq_true q269
        go_wp2_with (first | ((with_reducible refine gate_dst (N := 4) rfl ?_); (try (refine gate_guard (by rfl) ?_; dsimp only)); refine box_event ?hg (N := 4) ?hd (cs := #[.string (⟨#[]⟩ : ByteArray), .string (⟨#[]⟩ : ByteArray)]) (t := 168) ?hr ?_; (case hd => rfl); (case hg => rfl); (case hr => first | (go_simp; done) | (go_simp; rfl)); intro gb270 hg w8 hbox hb; have n0_ := aM (bT (by repeat (first | (with_reducible first | exact HB.out | apply bA | apply bN | apply bE) | exact HB.out)) hb); have n1_ := aM (hbox); have n2_ := aM ((by rw [hg]; exact (bZ (by repeat (first | (with_reducible first | exact HB.out | apply bA | apply bN | apply bE) | exact HB.out))) : w.heap.size ≤ gb270)); have n3_ := aM ((by rw [hg]; exact (bZ (by repeat (first | (with_reducible first | exact HB.out | apply bA | apply bN | apply bE) | exact HB.out))) : w.heap.size ≤ gb270)); clear HB; have HB := n0_; have BK270 := n1_; have GW270 := n2_; have GE270 := n3_; clear n0_ n1_ n2_ n3_; clear hb hbox hg; obtain ⟨hcz9_0, hcz9_1⟩ := blk_c2 BK270.out; obtain ⟨hfz9_0, hfz9_1⟩ := blk_f2 BK270.out) | ((with_reducible refine gate_callee (f := 154) rfl ?_); refine goesL_ (some 13) rfl rfl Try.func154 (by kernel_rfl) rfl #[.string ((rd_T168 l0 x7_1).f0)] rfl (by (try simp only [lM, List.map_cons, List.map_nil]); first | done | rfl | (simp only [lD, lT]; rfl)) ?_; (with_reducible refine (impl_Needless.calls k1 ((rd_T168 l0 x7_1).f0) true _ A5.out).mono ?_); rintro e w' ⟨rfl, ⟨nd, rfl⟩⟩; refine ⟨_, rfl, ?_⟩))
        go_ret
        exact ⟨by first | rfl | (simp [errW_none, errW_some] <;> rfl) | (simp [*, errW_none, errW_some] <;> rfl), by repeat (first | (with_reducible first | exact HB.out | apply bA | apply bN | apply bE | refine bS ?_ GE270.out) | exact HB.out)⟩
       ·rw [if_neg c7] at H
        have c7b0 : (((rd_T168 l0 x7_1).f0).toList == ([116, 82, 78, 83] : List UInt8)) = false := beq_eq_false_iff_ne.mpr c7
        have c7b1 : (((rd_T168 l0 x7_1).f0).toList != ([116, 82, 78, 83] : List UInt8)) = true := bne_iff_ne.mpr c7
        by_cases c10 : (((rd_T168 l0 x7_1).f1).size : Int) > 2600
        ·rw [if_pos c10] at H
         have c10b0 : decide (2600 < (((rd_T168 l0 x7_1).f1).size : Int)) = true := decide_eq_true c10
         have c10b1 : decide (2600 < ((rd_T168 l0 x7_1).f1).size) = true := decide_eq_true (by omega)
         clear c10
         obtain rfl := Option.some.inj H
         have p269 : 0 ≤ (x7_1 : Int) := oD (by first | (with_reducible assumption) | assumption)
         have q269 : x7_1 < (l0.length : Int) := oD (by first | (with_reducible assumption) | assumption)
         obtain ⟨ad269, e269, hx269_0, hx269_1⟩ := at_T168 HR0.out x7_1 p269 q269
         cases e269
         replace hx269_0 := (HB.out.cell (wL w _ hx269_0)).trans hx269_0
         replace hx269_1 := (HB.out.cell (wL w _ hx269_1)).trans hx269_1
         replace p269 := eq_true p269
         replace q269 := eq_true q269
         go_wp2_with (first | ((with_reducible refine gate_dst (N := 4) rfl ?_); (try (refine gate_guard (by rfl) ?_; dsimp only)); refine box_event ?hg (N := 4) ?hd (cs := #[.string (⟨#[]⟩ : ByteArray), .string (⟨#[]⟩ : ByteArray)]) (t := 168) ?hr ?_; (case hd => rfl); (case hg => rfl); (case hr => first | (go_simp; done) | (go_simp; rfl)); intro gb270 hg w11 hbox hb; have n0_ := aM (bT (by repeat (first | (with_reducible first | exact HB.out | apply bA | apply bN | apply bE) | exact HB.out)) hb); have n1_ := aM (hbox); have n2_ := aM ((by rw [hg]; exact (bZ (by repeat (first | (with_reducible first | exact HB.out | apply bA | apply bN | apply bE) | exact HB.out))) : w.heap.size ≤ gb270)); have n3_ := aM ((by rw [hg]; exact (bZ (by repeat (first | (with_reducible first | exact HB.out | apply bA | apply bN | apply bE) | exact HB.out))) : w.heap.size ≤ gb270)); clear HB; have HB := n0_; have BK270 := n1_; have GW270 := n2_; have GE270 := n3_; clear n0_ n1_ n2_ n3_; clear hb hbox hg; obtain ⟨hcz12_0, hcz12_1⟩ := blk_c2 BK270.out; obtain ⟨hfz12_0, hfz12_1⟩ := blk_f2 BK270.out) | ((with_reducible refine gate_callee (f := 154) rfl ?_); refine goesL_ (some 13) rfl rfl Try.func154 (by kernel_rfl) rfl #[.string ((rd_T168 l0 x7_1).f0)] rfl (by (try simp only [lM, List.map_cons, List.map_nil]); first | done | rfl | (simp only [lD, lT]; rfl)) ?_; (with_reducible refine (impl_Needless.calls k1 ((rd_T168 l0 x7_1).f0) true _ A5.out).mono ?_); rintro e w' ⟨rfl, ⟨nd, rfl⟩⟩; refine ⟨_, rfl, ?_⟩))
         go_ret
         exact ⟨by first | rfl | (simp [errW_none, errW_some] <;> rfl) | (simp [*, errW_none, errW_some] <;> rfl), by repeat (first | (with_reducible first | exact HB.out | apply bA | apply bN | apply bE | refine bS ?_ GE270.out) | exact HB.out)⟩
        ·rw [if_neg c10] at H
         have c10b0 : decide (2600 < (((rd_T168 l0 x7_1).f1).size : Int)) = false := decide_eq_false c10
         have c10b1 : decide (2600 < ((rd_T168 l0 x7_1).f1).size) = false := decide_eq_false (by omega)
         clear c10
         have H' := aM H
         clear H
         have p269 : 0 ≤ (x7_1 : Int) := oD (by first | (with_reducible assumption) | assumption)
         have q269 : x7_1 < (l0.length : Int) := oD (by first | (with_reducible assumption) | assumption)
         obtain ⟨ad269, e269, hx269_0, hx269_1⟩ := at_T168 HR0.out x7_1 p269 q269
         cases e269
         replace hx269_0 := (HB.out.cell (wL w _ hx269_0)).trans hx269_0
         replace hx269_1 := (HB.out.cell (wL w _ hx269_1)).trans hx269_1
         replace p269 := eq_true p269
         replace q269 := eq_true q269
         go_wp2_with (first | ((with_reducible refine gate_dst (N := 4) rfl ?_); (try (refine gate_guard (by rfl) ?_; dsimp only)); refine box_event ?hg (N := 4) ?hd (cs := #[.string (⟨#[]⟩ : ByteArray), .string (⟨#[]⟩ : ByteArray)]) (t := 168) ?hr ?_; (case hd => rfl); (case hg => rfl); (case hr => first | (go_simp; done) | (go_simp; rfl)); intro gb270 hg w13 hbox hb; have n0_ := aM (bT (by repeat (first | (with_reducible first | exact HB.out | apply bA | apply bN | apply bE) | exact HB.out)) hb); have n1_ := aM (hbox); have n2_ := aM ((by rw [hg]; exact (bZ (by repeat (first | (with_reducible first | exact HB.out | apply bA | apply bN | apply bE) | exact HB.out))) : w.heap.size ≤ gb270)); have n3_ := aM ((by rw [hg]; exact (bZ (by repeat (first | (with_reducible first | exact HB.out | apply bA | apply bN | apply bE) | exact HB.out))) : w.heap.size ≤ gb270)); clear HB; have HB := n0_; have BK270 := n1_; have GW270 := n2_; have GE270 := n3_; clear n0_ n1_ n2_ n3_; clear hb hbox hg; obtain ⟨hcz14_0, hcz14_1⟩ := blk_c2 BK270.out; obtain ⟨hfz14_0, hfz14_1⟩ := blk_f2 BK270.out) | ((with_reducible refine gate_callee (f := 154) rfl ?_); refine goesL_ (some 13) rfl rfl Try.func154 (by kernel_rfl) rfl #[.string ((rd_T168 l0 x7_1).f0)] rfl (by (try simp only [lM, List.map_cons, List.map_nil]); first | done | rfl | (simp only [lD, lT]; rfl)) ?_; (with_reducible refine (impl_Needless.calls k1 ((rd_T168 l0 x7_1).f0) true _ A5.out).mono ?_); rintro e w' ⟨rfl, ⟨nd, rfl⟩⟩; refine ⟨_, rfl, ?_⟩))
         go_roundg k1
         case measure => have := HK1.out; omega
         case rel => exact ⟨(wrap64 (x7_1 + 1)), (by first | rfl | (simp; done) | (simp [*]; done)), H', ⟨by have := HK1.out; omega⟩, ⟨by repeat (first | (with_reducible first | exact HB.out | apply bA | apply bN | apply bE | refine bS ?_ GE270.out) | exact HB.out)⟩⟩
      ·replace c6 := Bool.eq_false_iff.mpr c6
       subst c6
       have H1 : (some false) = some r := by rw [if_neg (show ¬ (false = true) by decide)] at H; first | done | exact H
       clear H
       have H := H1
       clear H1
       obtain rfl := Option.some.inj H
       have p269 : 0 ≤ (x7_1 : Int) := oD (by first | (with_reducible assumption) | assumption)
       have q269 : x7_1 < (l0.length : Int) := oD (by first | (with_reducible assumption) | assumption)
       obtain ⟨ad269, e269, hx269_0, hx269_1⟩ := at_T168 HR0.out x7_1 p269 q269
       cases e269
       replace hx269_0 := (HB.out.cell (wL w _ hx269_0)).trans hx269_0
       replace hx269_1 := (HB.out.cell (wL w _ hx269_1)).trans hx269_1
       replace p269 := eq_true p269
       replace q269 := eq_true q269
       go_wp2_with (first | ((with_reducible refine gate_dst (N := 4) rfl ?_); (try (refine gate_guard (by rfl) ?_; dsimp only)); refine box_event ?hg (N := 4) ?hd (cs := #[.string (⟨#[]⟩ : ByteArray), .string (⟨#[]⟩ : ByteArray)]) (t := 168) ?hr ?_; (case hd => rfl); (case hg => rfl); (case hr => first | (go_simp; done) | (go_simp; rfl)); intro gb270 hg w15 hbox hb; have n0_ := aM (bT (by repeat (first | (with_reducible first | exact HB.out | apply bA | apply bN | apply bE) | exact HB.out)) hb); have n1_ := aM (hbox); have n2_ := aM ((by rw [hg]; exact (bZ (by repeat (first | (with_reducible first | exact HB.out | apply bA | apply bN | apply bE) | exact HB.out))) : w.heap.size ≤ gb270)); have n3_ := aM ((by rw [hg]; exact (bZ (by repeat (first | (with_reducible first | exact HB.out | apply bA | apply bN | apply bE) | exact HB.out))) : w.heap.size ≤ gb270)); clear HB; have HB := n0_; have BK270 := n1_; have GW270 := n2_; have GE270 := n3_; clear n0_ n1_ n2_ n3_; clear hb hbox hg; obtain ⟨hcz16_0, hcz16_1⟩ := blk_c2 BK270.out; obtain ⟨hfz16_0, hfz16_1⟩ := blk_f2 BK270.out) | ((with_reducible refine gate_callee (f := 154) rfl ?_); refine goesL_ (some 13) rfl rfl Try.func154 (by kernel_rfl) rfl #[.string ((rd_T168 l0 x7_1).f0)] rfl (by (try simp only [lM, List.map_cons, List.map_nil]); first | done | rfl | (simp only [lD, lT]; rfl)) ?_; (with_reducible refine (impl_Needless.calls k1 ((rd_T168 l0 x7_1).f0) false _ A5.out).mono ?_); rintro e w' ⟨rfl, ⟨nd, rfl⟩⟩; refine ⟨_, rfl, ?_⟩))
       go_ret
       exact ⟨by first | rfl | (simp [errW_none, errW_some] <;> rfl) | (simp [*, errW_none, errW_some] <;> rfl), by repeat (first | (with_reducible first | exact HB.out | apply bA | apply bN | apply bE | refine bS ?_ GE270.out) | exact HB.out)⟩
     ·rw [if_neg c4] at H
      exact absurd H (by simp)
    ·rw [if_neg c3] at H
     exact absurd H (by simp)
   ·rw [if_neg c2] at H
    have c2b0 : decide (x7_1 < (l0.length : Int)) = false := decide_eq_false c2
    clear c2
    obtain rfl := Option.some.inj H
    go_wp2
    go_ret
    exact ⟨by first | rfl | (simp [errW_none, errW_some] <;> rfl) | (simp [*, errW_none, errW_some] <;> rfl), by repeat (first | (with_reducible first | exact HB.out | apply bA | apply bN | apply bE) | exact HB.out)⟩

/-! ### impl_inTable: function 105 -/
def impl_inTable.l0 : Nat → List Int → Int → Int → Int → Int → Int → Int → Bool → List (S52) → List Int → Int → Int → Int → Int → List Int → List (S168) → Option (Bool)
 | 0, _, _, _, _, _, _, _, _, _, _, _, _, _, _, _, _ => none
 | k + 1, x7, x8, x9, x273000, x273001, x273002, x273003, x273004, x273005, x273006, x273007, x273008, x273009, x273010, x273011, x273012 => if x9 < x8 then (if 0 ≤ x9 then (if x9 < (x7.length : Int) then (if (rd x7 x9) ≥ (x273005.length : Int) then (some false) else (impl_inTable.l0 k x7 x8 (wrap64 (x9 + 1)) x273000 x273001 x273002 x273003 x273004 x273005 x273006 x273007 x273008 x273009 x273010 x273011 x273012)) else (none)) else (none)) else (some true)
def impl_inTable.f (k : Nat) (a0_0 : Int) (a0_1 : Int) (a0_2 : Int) (a0_3 : Int) (a0_4 : Bool) (l0_5 : List (S52)) (l0_6 : List Int) (a0_7 : Int) (a0_8 : Int) (a0_9 : Int) (a0_10 : Int) (l0_11 : List Int) (l0_12 : List (S168)) : Option (Bool) := impl_inTable.l0 k l0_11 (l0_11.length : Int) 0 a0_0 a0_1 a0_2 a0_3 a0_4 l0_5 l0_6 a0_7 a0_8 a0_9 a0_10 l0_11 l0_12
theorem impl_inTable.mono_l : ∀ k, (∀ y0 y1 y2 y3 y4 y5 y6 y7 y8 y9 y10 y11 y12 y13 y14 y15, LeO (impl_inTable.l0 k y0 y1 y2 y3 y4 y5 y6 y7 y8 y9 y10 y11 y12 y13 y14 y15) (impl_inTable.l0 (k + 1) y0 y1 y2 y3 y4 y5 y6 y7 y8 y9 y10 y11 y12 y13 y14 y15))
 | 0 => fun _ _ _ _ _ _ _ _ _ _ _ _ _ _ _ _ r h => by simp [impl_inTable.l0] at h
 | k + 1 => by
  have ih0 := impl_inTable.mono_l k
  ·intro y0 y1 y2 y3 y4 y5 y6 y7 y8 y9 y10 y11 y12 y13 y14 y15
   unfold impl_inTable.l0
   repeat' first
   | (with_reducible exact ih0 _ _ _ _ _ _ _ _ _ _ _ _ _ _ _ _)
   | (with_reducible exact LeO.refl _)
   | (with_reducible exact LeO.none _)
   | (with_reducible refine LeO.ite ?_ ?_)
   | (with_reducible refine LeO.bind ?_ (fun _ => ?_))
   | exact ih0 _ _ _ _ _ _ _ _ _ _ _ _ _ _ _ _
   | exact LeO.none _
   | refine LeO.ite ?_ ?_
   | refine LeO.bind ?_ (fun _ => ?_)
theorem impl_inTable.mono : ∀ a0 a1 a2 a3 a4 a5 a6 a7 a8 a9 a10 a11 a12 k, LeO (impl_inTable.f k a0 a1 a2 a3 a4 a5 a6 a7 a8 a9 a10 a11 a12) (impl_inTable.f (k + 1) a0 a1 a2 a3 a4 a5 a6 a7 a8 a9 a10 a11 a12) := by
 intro a0 a1 a2 a3 a4 a5 a6 a7 a8 a9 a10 a11 a12 k
 have ih0 := impl_inTable.mono_l k
 unfold impl_inTable.f
 repeat' first
   | (with_reducible exact ih0 _ _ _ _ _ _ _ _ _ _ _ _ _ _ _ _)
   | (with_reducible exact LeO.refl _)
   | (with_reducible exact LeO.none _)
   | (with_reducible refine LeO.ite ?_ ?_)
   | (with_reducible refine LeO.bind ?_ (fun _ => ?_))
   | exact ih0 _ _ _ _ _ _ _ _ _ _ _ _ _ _ _ _
   | exact LeO.none _
   | refine LeO.ite ?_ ?_
   | refine LeO.bind ?_ (fun _ => ?_)
set_option maxHeartbeats 8000000 in
set_option maxRecDepth 100000 in
theorem impl_inTable.calls (k : Nat) (a0_0 : Int) (a0_1 : Int) (a0_2 : Int) (a0_3 : Int) (a0_4 : Bool) (A0_5 : Option Addr) (c0_5 : Nat) (l0_5 : List (S52)) (A0_6 : Option Addr) (c0_6 : Nat) (l0_6 : List Int) (a0_7 : Int) (a0_8 : Int) (a0_9 : Int) (a0_10 : Int) (A0_11 : Option Addr) (c0_11 : Nat) (l0_11 : List Int) (A0_12 : Option Addr) (c0_12 : Nat) (l0_12 : List (S168)) (r : Bool) (w : World) (hr0_5 : Kd.C k52 w A0_5 l0_5.length l0_5) (hc0_5 : l0_5.length ≤ c0_5) (hr0_6 : Kd.C (Kd.int .i64) w A0_6 l0_6.length l0_6) (hc0_6 : l0_6.length ≤ c0_6) (hr0_11 : Kd.C (Kd.int .i64) w A0_11 l0_11.length l0_11) (hc0_11 : l0_11.length ≤ c0_11) (hr0_12 : Kd.C k168 w A0_12 l0_12.length l0_12) (hc0_12 : l0_12.length ≤ c0_12) (h : impl_inTable.f k a0_0 a0_1 a0_2 a0_3 a0_4 l0_5 l0_6 a0_7 a0_8 a0_9 a0_10 l0_11 l0_12 = some r) :
  Calls Try.prog 105 #[.agg #[.int .i64 a0_0, .int .i64 a0_1, .int .i64 a0_2, .int .i64 a0_3, .bool a0_4, .slice A0_5 l0_5.length c0_5, .slice A0_6 l0_6.length c0_6, .int .i64 a0_7, .int .i64 a0_8, .int .i64 a0_9, .int .i64 a0_10, .slice A0_11 l0_11.length c0_11, .slice A0_12 l0_12.length c0_12]] w fun e w' => e = .returned (.bool r) ∧ Below w.heap.size w w' := by
 have hu74 := Try.underlying74
 have HR0_5 := aM hr0_5
 have HC0_5 := aM hc0_5
 clear hr0_5 hc0_5
 have HR0_6 := aM hr0_6
 have HC0_6 := aM hc0_6
 clear hr0_6 hc0_6
 have HR0_11 := aM hr0_11
 have HC0_11 := aM hc0_11
 clear hr0_11 hc0_11
 have HR0_12 := aM hr0_12
 have HC0_12 := aM hc0_12
 clear hr0_12 hc0_12
 have HB := aM (Below.refl w.heap.size w)
 have H : (impl_inTable.l0 k l0_11 (l0_11.length : Int) 0 a0_0 a0_1 a0_2 a0_3 a0_4 l0_5 l0_6 a0_7 a0_8 a0_9 a0_10 l0_11 l0_12) = some r := h
 clear h
 have H' := aM H
 clear H
 go_enter Try.func105, Try.ntmps105
 go_wp2_with (first | ((with_reducible refine gate_dst (N := 1) rfl ?_); refine box_event ?hg (N := 1) ?hd (cs := #[.int .i64 a0_0, .int .i64 a0_1, .int .i64 a0_2, .int .i64 a0_3, .bool a0_4, .slice A0_5 l0_5.length c0_5, .slice A0_6 l0_6.length c0_6, .int .i64 a0_7, .int .i64 a0_8, .int .i64 a0_9, .int .i64 a0_10, .slice A0_11 l0_11.length c0_11, .slice A0_12 l0_12.length c0_12]) (t := 74) ?hr ?_; (case hd => rfl); (case hg => rfl); (case hr => first | (go_simp; done) | (go_simp; rfl)); intro gb272 hg w2 hbox hb; have n0_ := aM (bT (by repeat (first | (with_reducible first | exact HB.out | apply bA | apply bN | apply bE) | exact HB.out)) hb); have n1_ := aM (hbox); have n2_ := aM ((by rw [hg]; exact (bZ (by repeat (first | (with_reducible first | exact HB.out | apply bA | apply bN | apply bE) | exact HB.out))) : w.heap.size ≤ gb272)); have n3_ := aM ((by rw [hg]; exact (bZ (by repeat (first | (with_reducible first | exact HB.out | apply bA | apply bN | apply bE) | exact HB.out))) : w.heap.size ≤ gb272)); clear HB; have HB := n0_; have BK272 := n1_; have GW272 := n2_; have GE272 := n3_; clear n0_ n1_ n2_ n3_; clear hb hbox hg; obtain ⟨hcz3_0, hcz3_1, hcz3_2, hcz3_3, hcz3_4, hcz3_5, hcz3_6, hcz3_7, hcz3_8, hcz3_9, hcz3_10, hcz3_11, hcz3_12⟩ := blk_c13 BK272.out; obtain ⟨hfz3_0, hfz3_1, hfz3_2, hfz3_3, hfz3_4, hfz3_5, hfz3_6, hfz3_7, hfz3_8, hfz3_9, hfz3_10, hfz3_11, hfz3_12⟩ := blk_f13 BK272.out))
 go_loopg [9] k (fun kq v9 w' => ∃ (x9_1 : Int), v9 = .int .i64 x9_1 ∧ Aside0 (impl_inTable.l0 kq l0_11 (l0_11.length : Int) x9_1 a0_0 a0_1 a0_2 a0_3 a0_4 l0_5 l0_6 a0_7 a0_8 a0_9 a0_10 l0_11 l0_12 = some r) ∧ Aside0 (kq ≤ k) ∧ Aside0 (w'.heap[gb272]? = some (.cells #[.int .i64 a0_0, .int .i64 a0_1, .int .i64 a0_2, .int .i64 a0_3, .bool a0_4, (.slice A0_5 l0_5.length c0_5), (.slice A0_6 l0_6.length c0_6), .int .i64 a0_7, .int .i64 a0_8, .int .i64 a0_9, .int .i64 a0_10, (.slice A0_11 l0_11.length c0_11), (.slice A0_12 l0_12.length c0_12)] 74 (0, 0))) ∧ Aside0 (Below w.heap.size w w'))
 case atStart => exact ⟨(0), (by first | rfl | (simp; done) | (simp [*]; done)), H', ⟨Nat.le_refl _⟩, ⟨by (with_reducible repeat (first | refine kN ?_ _ | refine kD ?_ | refine kA ?_ _)); exact BK272.out⟩, ⟨by repeat (first | (with_reducible first | exact HB.out | apply bA | apply bN | apply bE | refine bS ?_ GE272.out) | exact HB.out)⟩⟩
 case round =>
  clear H'
  try clear c1
  try clear p2
  try clear hcz3_0
  try clear hcz3_1
  try clear hcz3_10
  try clear hcz3_11
  try clear hcz3_12
  try clear hcz3_2
  try clear hcz3_3
  try clear hcz3_4
  try clear hcz3_5
  try clear hcz3_6
  try clear hcz3_7
  try clear hcz3_8
  try clear hcz3_9
  try clear hfz3_0
  try clear hfz3_1
  try clear hfz3_10
  try clear hfz3_11
  try clear hfz3_12
  try clear hfz3_2
  try clear hfz3_3
  try clear hfz3_4
  try clear hfz3_5
  try clear hfz3_6
  try clear hfz3_7
  try clear hfz3_8
  try clear hfz3_9
  obtain ⟨x9_1, rfl, HA, HK1, BK272, HB⟩ := hrel
  cases gk with
  | zero => exact absurd HA.out (by simp [impl_inTable.l0])
  | succ k1 =>
   have H := HA.out
   clear HA
   simp only [impl_inTable.l0] at H
   by_cases c4 : x9_1 < (l0_11.length : Int)
   ·rw [if_pos c4] at H
    have c4b0 : decide (x9_1 < (l0_11.length : Int)) = true := decide_eq_true c4
    clear c4
    by_cases c5 : 0 ≤ x9_1
    ·rw [if_pos c5] at H
     have c5b0 : decide (0 ≤ x9_1) = true := decide_eq_true c5
     clear c5
     by_cases c6 : x9_1 < (l0_11.length : Int)
     ·rw [if_pos c6] at H
      have c6b0 : decide (x9_1 < (l0_11.length : Int)) = true := decide_eq_true c6
      clear c6
      by_cases c7 : (rd l0_11 x9_1) ≥ (l0_5.length : Int)
      ·rw [if_pos c7] at H
       have c7b0 : decide ((l0_5.length : Int) ≤ (rd l0_11 x9_1)) = true := decide_eq_true c7
       clear c7
       obtain rfl := Option.some.inj H
       have p273 : 0 ≤ (x9_1 : Int) := oD (by first | (with_reducible assumption) | assumption)
       have q273 : x9_1 < (l0_11.length : Int) := oD (by first | (with_reducible assumption) | assumption)
       obtain ⟨ad273, e273, hx273_0⟩ := Kd.at_int HR0_11.out x9_1 p273 q273
       cases e273
       replace hx273_0 := (HB.out.cell (wL w _ hx273_0)).trans hx273_0
       replace p273 := eq_true p273
       replace q273 := eq_true q273
       obtain ⟨hcz8_0, hcz8_1, hcz8_2, hcz8_3, hcz8_4, hcz8_5, hcz8_6, hcz8_7, hcz8_8, hcz8_9, hcz8_10, hcz8_11, hcz8_12⟩ := blk_c13 BK272.out
       obtain ⟨hfz8_0, hfz8_1, hfz8_2, hfz8_3, hfz8_4, hfz8_5, hfz8_6, hfz8_7, hfz8_8, hfz8_9, hfz8_10, hfz8_11, hfz8_12⟩ := blk_f13 BK272.out
       go_wp2
       go_ret
       exact ⟨by first | rfl | (simp [errW_none, errW_some] <;> rfl) | (simp [*, errW_none, errW_some] <;> rfl), by repeat (first | (with_reducible first | exact HB.out | apply bA | apply bN | apply bE | refine bS ?_ GE272.out) | exact HB.out)⟩
      ·rw [if_neg c7] at H
       have c7b0 : decide ((l0_5.length : Int) ≤ (rd l0_11 x9_1)) = false := decide_eq_false c7
       clear c7
       have H' := aM H
       clear H
       have p273 : 0 ≤ (x9_1 : Int) := oD (by first | (with_reducible assumption) | assumption)
       have q273 : x9_1 < (l0_11.length : Int) := oD (by first | (with_reducible assumption) | assumption)
       obtain ⟨ad273, e273, hx273_0⟩ := Kd.at_int HR0_11.out x9_1 p273 q273
       cases e273
       replace hx273_0 := (HB.out.cell (wL w _ hx273_0)).trans hx273_0
       replace p273 := eq_true p273
       replace q273 := eq_true q273
       obtain ⟨hcz9_0, hcz9_1, hcz9_2, hcz9_3, hcz9_4, hcz9_5, hcz9_6, hcz9_7, hcz9_8, hcz9_9, hcz9_10, hcz9_11, hcz9_12⟩ := blk_c13 BK272.out
       obtain ⟨hfz9_0, hfz9_1, hfz9_2, hfz9_3, hfz9_4, hfz9_5, hfz9_6, hfz9_7, hfz9_8, hfz9_9, hfz9_10, hfz9_11, hfz9_12⟩ := blk_f13 BK272.out
       go_wp2
       go_roundg k1
       case measure => have := HK1.out; omega
       case rel => exact ⟨(wrap64 (x9_1 + 1)), (by first | rfl | (simp; done) | (simp [*]; done)), H', ⟨by have := HK1.out; omega⟩, ⟨by (with_reducible repeat (first | refine kN ?_ _ | refine kD ?_ | refine kA ?_ _)); exact BK272.out⟩, ⟨by repeat (first | (with_reducible first | exact HB.out | apply bA | apply bN | apply bE | refine bS ?_ GE272.out) | exact HB.out)⟩⟩
     ·rw [if_neg c6] at H
      exact absurd H (by simp)
    ·rw [if_neg c5] at H
     exact absurd H (by simp)
   ·rw [if_neg c4] at H
    have c4b0 : decide (x9_1 < (l0_11.length : Int)) = false := decide_eq_false c4
    clear c4
    obtain rfl := Option.some.inj H
    go_wp2
    go_ret
    exact ⟨by first | rfl | (simp [errW_none, errW_some] <;> rfl) | (simp [*, errW_none, errW_some] <;> rfl), by repeat (first | (with_reducible first | exact HB.out | apply bA | apply bN | apply bE | refine bS ?_ GE272.out) | exact HB.out)⟩

end Go.Proofs.Ytajnobmnkbkkgaa.PFnExactPngOk
