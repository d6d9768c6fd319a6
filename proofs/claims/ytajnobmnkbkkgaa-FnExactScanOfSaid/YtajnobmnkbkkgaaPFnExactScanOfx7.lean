/- Walks of functions that the law FnExactScanOf reaches: each call comes to what the Lean function of its name tells. Written by p2.py, a program of this session, by way of the kit's print. -/
import Derived.Test.YtajnobmnkbkkgaaPFnExactScanOfx0
import Derived.Test.YtajnobmnkbkkgaaPFnExactScanOfx1
import Derived.Test.YtajnobmnkbkkgaaPFnExactScanOfx2
import Derived.Test.YtajnobmnkbkkgaaPFnExactScanOfx3
import Derived.Test.YtajnobmnkbkkgaaPFnExactScanOfx5
import Derived.Test.YtajnobmnkbkkgaaPFnExactScanOfx6
namespace Go.Proofs.Ytajnobmnkbkkgaa.PFnExactScanOf
open Go.RowKit Go.Proofs.YtajnobmnkbkkgaaW.PrintWords Go.Proofs.YtajnobmnkbkkgaaW.PrintLast Go.Proofs.YtajnobmnkbkkgaaW.PrintMore
attribute [local go_sem] max2_int min2_int max_two min_two max_three min_three max_four min_four   -- for this text's walks alone
set_option linter.unusedVariables false
set_option linter.unusedSimpArgs false

/-! ### impl_scanRows: function 111 -/
mutual
def impl_scanRows.l0 : Nat → Int → ByteArray → Int → ByteArray → List ByteArray → Int → Int → Option (ByteArray)
 | 0, _, _, _, _, _, _, _ => none
 | k + 1, x1, x5, x6, x7, x19, x20, x21 => if x21 < x20 then (if 0 ≤ x21 then (if x21 < (x19.length : Int) then (if x21 = 0 then ((impl_noughts.f ((rdOf ByteArray.empty x19 x21).size : Int)).bind fun t237 => (impl_scanRows.j1 k x1 x5 x6 t237 (rdOf ByteArray.empty x19 x21) x19 x20 x21)) else (impl_scanRows.j1 k x1 x5 x6 x7 (rdOf ByteArray.empty x19 x21) x19 x20 x21)) else (none)) else (none)) else (some x5)
def impl_scanRows.j1 : Nat → Int → ByteArray → Int → ByteArray → ByteArray → List ByteArray → Int → Int → Option (ByteArray)
 | 0, _, _, _, _, _, _, _, _ => none
 | k + 1, x1, x5, x6, x7, x9, x19, x20, x21 => if x1 = 5 then ((impl_BestFilter.f k x9 x7 x6).bind fun bt238 => ((impl_FilterRow.f k bt238.1 x9 x7 x6).bind fun bt240 => ((impl_byteText.f bt238.1).bind fun t242 => (if t242.size + bt240.1.size ≤ 9223372036854775807 then (if x5.size + (t242 ++ bt240.1).size ≤ 9223372036854775807 then (impl_scanRows.l0 k x1 (x5 ++ (t242 ++ bt240.1)) x6 x9 x19 x20 (wrap64 (x21 + 1))) else (none)) else (none))))) else ((impl_FilterRow.f k x1 x9 x7 x6).bind fun bt243 => ((impl_byteText.f x1).bind fun t245 => (if t245.size + bt243.1.size ≤ 9223372036854775807 then (if x5.size + (t245 ++ bt243.1).size ≤ 9223372036854775807 then (impl_scanRows.l0 k x1 (x5 ++ (t245 ++ bt243.1)) x6 x9 x19 x20 (wrap64 (x21 + 1))) else (none)) else (none))))
end
def impl_scanRows.f (k : Nat) (a0_0 : Int) (a0_1 : Int) (a0_2 : Int) (a0_3 : Int) (l0_4 : List Int) (a1 : Int) : Option (ByteArray) := (impl_unitOf.f k a0_2 a0_3).bind fun t232 => ((impl_rowsOf.f k a0_0 a0_1 a0_2 a0_3 l0_4).bind fun t233 => (impl_scanRows.l0 k a1 (⟨#[]⟩ : ByteArray) t232 (⟨#[]⟩ : ByteArray) t233 (t233.length : Int) 0))
theorem impl_scanRows.mono_l : ∀ k, (∀ y0 y1 y2 y3 y4 y5 y6, LeO (impl_scanRows.l0 k y0 y1 y2 y3 y4 y5 y6) (impl_scanRows.l0 (k + 1) y0 y1 y2 y3 y4 y5 y6)) ∧ (∀ y0 y1 y2 y3 y4 y5 y6 y7, LeO (impl_scanRows.j1 k y0 y1 y2 y3 y4 y5 y6 y7) (impl_scanRows.j1 (k + 1) y0 y1 y2 y3 y4 y5 y6 y7))
 | 0 => ⟨fun _ _ _ _ _ _ _ r h => by simp [impl_scanRows.l0] at h, fun _ _ _ _ _ _ _ _ r h => by simp [impl_scanRows.j1] at h⟩
 | k + 1 => by
  obtain ⟨ih0, ih1⟩ := impl_scanRows.mono_l k
  refine ⟨?_, ?_⟩
  ·intro y0 y1 y2 y3 y4 y5 y6
   unfold impl_scanRows.l0
   repeat' first
   | (with_reducible exact ih0 _ _ _ _ _ _ _)
   | (with_reducible exact ih1 _ _ _ _ _ _ _ _)
   | (with_reducible exact impl_BestFilter.mono _ _ _ _)
   | (with_reducible exact impl_FilterRow.mono _ _ _ _ _)
   | (with_reducible exact impl_rowsOf.mono _ _ _ _ _ _)
   | (with_reducible exact impl_unitOf.mono _ _ _)
   | (with_reducible exact LeO.refl _)
   | (with_reducible exact LeO.none _)
   | (with_reducible refine LeO.ite ?_ ?_)
   | (with_reducible refine LeO.bind ?_ (fun _ => ?_))
   | exact ih0 _ _ _ _ _ _ _
   | exact ih1 _ _ _ _ _ _ _ _
   | exact impl_BestFilter.mono _ _ _ _
   | exact impl_FilterRow.mono _ _ _ _ _
   | exact impl_rowsOf.mono _ _ _ _ _ _
   | exact impl_unitOf.mono _ _ _
   | exact LeO.none _
   | refine LeO.ite ?_ ?_
   | refine LeO.bind ?_ (fun _ => ?_)
  ·intro y0 y1 y2 y3 y4 y5 y6 y7
   unfold impl_scanRows.j1
   repeat' first
   | (with_reducible exact ih0 _ _ _ _ _ _ _)
   | (with_reducible exact ih1 _ _ _ _ _ _ _ _)
   | (with_reducible exact impl_BestFilter.mono _ _ _ _)
   | (with_reducible exact impl_FilterRow.mono _ _ _ _ _)
   | (with_reducible exact impl_rowsOf.mono _ _ _ _ _ _)
   | (with_reducible exact impl_unitOf.mono _ _ _)
   | (with_reducible exact LeO.refl _)
   | (with_reducible exact LeO.none _)
   | (with_reducible refine LeO.ite ?_ ?_)
   | (with_reducible refine LeO.bind ?_ (fun _ => ?_))
   | exact ih0 _ _ _ _ _ _ _
   | exact ih1 _ _ _ _ _ _ _ _
   | exact impl_BestFilter.mono _ _ _ _
   | exact impl_FilterRow.mono _ _ _ _ _
   | exact impl_rowsOf.mono _ _ _ _ _ _
   | exact impl_unitOf.mono _ _ _
   | exact LeO.none _
   | refine LeO.ite ?_ ?_
   | refine LeO.bind ?_ (fun _ => ?_)
theorem impl_scanRows.mono : ∀ a0 a1 a2 a3 a4 a5 k, LeO (impl_scanRows.f k a0 a1 a2 a3 a4 a5) (impl_scanRows.f (k + 1) a0 a1 a2 a3 a4 a5) := by
 intro a0 a1 a2 a3 a4 a5 k
 obtain ⟨ih0, ih1⟩ := impl_scanRows.mono_l k
 unfold impl_scanRows.f
 repeat' first
   | (with_reducible exact ih0 _ _ _ _ _ _ _)
   | (with_reducible exact ih1 _ _ _ _ _ _ _ _)
   | (with_reducible exact impl_BestFilter.mono _ _ _ _)
   | (with_reducible exact impl_FilterRow.mono _ _ _ _ _)
   | (with_reducible exact impl_rowsOf.mono _ _ _ _ _ _)
   | (with_reducible exact impl_unitOf.mono _ _ _)
   | (with_reducible exact LeO.refl _)
   | (with_reducible exact LeO.none _)
   | (with_reducible refine LeO.ite ?_ ?_)
   | (with_reducible refine LeO.bind ?_ (fun _ => ?_))
   | exact ih0 _ _ _ _ _ _ _
   | exact ih1 _ _ _ _ _ _ _ _
   | exact impl_BestFilter.mono _ _ _ _
   | exact impl_FilterRow.mono _ _ _ _ _
   | exact impl_rowsOf.mono _ _ _ _ _ _
   | exact impl_unitOf.mono _ _ _
   | exact LeO.none _
   | refine LeO.ite ?_ ?_
   | refine LeO.bind ?_ (fun _ => ?_)
set_option maxHeartbeats 8000000 in
set_option maxRecDepth 100000 in
theorem impl_scanRows.calls (k : Nat) (a0_0 : Int) (a0_1 : Int) (a0_2 : Int) (a0_3 : Int) (A0_4 : Option Addr) (c0_4 : Nat) (l0_4 : List Int) (a1 : Int) (r : ByteArray) (w : World) (hr0_4 : Kd.C (Kd.int .i64) w A0_4 l0_4.length l0_4) (hc0_4 : l0_4.length ≤ c0_4) (h : impl_scanRows.f k a0_0 a0_1 a0_2 a0_3 l0_4 a1 = some r) :
  Calls Try.prog 111 #[.agg #[.int .i64 a0_0, .int .i64 a0_1, .int .i64 a0_2, .int .i64 a0_3, .slice A0_4 l0_4.length c0_4], .int .i64 a1] w fun e w' => e = .returned (.string r) ∧ Below w.heap.size w w' := by
 have hu29 := Try.underlying29
 have HR0_4 := aM hr0_4
 have HC0_4 := aM hc0_4
 clear hr0_4 hc0_4
 have HB := aM (Below.refl w.heap.size w)
 unfold impl_scanRows.f at h; have H := h
 clear h
 replace H := oB.mp H
 obtain ⟨t232, A30, H⟩ := H
 replace H : ((impl_rowsOf.f k a0_0 a0_1 a0_2 a0_3 l0_4).bind fun t233 => (impl_scanRows.l0 k a1 (⟨#[]⟩ : ByteArray) t232 (⟨#[]⟩ : ByteArray) t233 (t233.length : Int) 0)) = some r := H
 have A3 := aM A30
 clear A30
 replace H := oB.mp H
 obtain ⟨t233, A40, H⟩ := H
 replace H : (impl_scanRows.l0 k a1 (⟨#[]⟩ : ByteArray) t232 (⟨#[]⟩ : ByteArray) t233 (t233.length : Int) 0) = some r := H
 have A4 := aM A40
 clear A40
 have H' := aM H
 clear H
 go_enter Try.func111, Try.ntmps111
 go_wp2_with (first | ((with_reducible refine gate_dst (N := 2) rfl ?_); refine box_event ?hg (N := 2) ?hd (cs := #[.int .i64 a0_0, .int .i64 a0_1, .int .i64 a0_2, .int .i64 a0_3, .slice A0_4 l0_4.length c0_4]) (t := 29) ?hr ?_; (case hd => rfl); (case hg => rfl); (case hr => first | (go_simp; done) | (go_simp; rfl)); intro gb231 hg w5 hbox hb; have n0_ := aM (bT (by repeat (first | (with_reducible first | exact HB.out | apply bA | apply bN | apply bE) | exact HB.out)) hb); have n1_ := aM (hbox); have n2_ := aM ((by rw [hg]; exact (bZ (by repeat (first | (with_reducible first | exact HB.out | apply bA | apply bN | apply bE) | exact HB.out))) : w.heap.size ≤ gb231)); have n3_ := aM ((by rw [hg]; exact (bZ (by repeat (first | (with_reducible first | exact HB.out | apply bA | apply bN | apply bE) | exact HB.out))) : w.heap.size ≤ gb231)); clear HB; have HB := n0_; have BK231 := n1_; have GW231 := n2_; have GE231 := n3_; clear n0_ n1_ n2_ n3_; clear hb hbox hg; obtain ⟨hcz6_0, hcz6_1, hcz6_2, hcz6_3, hcz6_4⟩ := blk_c5 BK231.out; obtain ⟨hfz6_0, hfz6_1, hfz6_2, hfz6_3, hfz6_4⟩ := blk_f5 BK231.out) | ((with_reducible refine gate_callee (f := 157) rfl ?_); refine goesL_ (some 17) rfl rfl Try.func157 (by kernel_rfl) rfl #[.int .i64 a0_2, .int .i64 a0_3] rfl (by (try simp only [lM, List.map_cons, List.map_nil]); first | done | rfl | (simp only [lD, lT]; rfl)) ?_; (with_reducible refine (impl_unitOf.calls k a0_2 a0_3 t232 _ A3.out).mono ?_); rintro e w7 ⟨rfl, hb⟩; refine ⟨_, rfl, ?_⟩; have n0_ := aM (kB (g := gb231) (o := .cells #[.int .i64 a0_0, .int .i64 a0_1, .int .i64 a0_2, .int .i64 a0_3, .slice A0_4 l0_4.length c0_4] 29 (0, 0)) (by (with_reducible repeat (first | refine kN ?_ _ | refine kD ?_ | refine kA ?_ _)); exact BK231.out) hb); have n1_ := aM (bT (by repeat (first | (with_reducible first | exact HB.out | apply bA | apply bN | apply bE | refine bS ?_ GE231.out) | exact HB.out)) hb); clear BK231; clear HB; have BK231 := n0_; have HB := n1_; clear n0_ n1_; (try clear hb); (try clear hb2); (try clear hk); (try clear hi); obtain ⟨hcz8_0, hcz8_1, hcz8_2, hcz8_3, hcz8_4⟩ := blk_c5 BK231.out; obtain ⟨hfz8_0, hfz8_1, hfz8_2, hfz8_3, hfz8_4⟩ := blk_f5 BK231.out) | ((with_reducible refine gate_callee (f := 158) rfl ?_); refine goesL_ (some 19) rfl rfl Try.func158 (by kernel_rfl) rfl #[.agg #[.int .i64 a0_0, .int .i64 a0_1, .int .i64 a0_2, .int .i64 a0_3, .slice A0_4 l0_4.length c0_4]] rfl (by (try simp only [lM, List.map_cons, List.map_nil]); first | done | rfl | (simp only [lD, lT]; rfl)) ?_; (with_reducible refine (impl_rowsOf.calls k a0_0 a0_1 a0_2 a0_3 _ _ l0_4 t233 _ ?side1 ?side2 A4.out).mono ?_); (case side1 => repeat (first | exact (Kd.C_below HR0_4.out HB.out) | (with_reducible refine cA ?_ _) | (with_reducible refine cN ?_ _) | (with_reducible refine cD ?_))); (case side2 => exact HC0_4.out); rintro e w9 ⟨v234, rfl, ho0, hb⟩; refine ⟨_, rfl, ?_⟩; have n0_ := aM (Kd.R_lower ho0 (bZ (by repeat (first | (with_reducible first | exact HB.out | apply bA | apply bN | apply bE | refine bS ?_ GE231.out) | exact HB.out)))); have n1_ := aM (kB (g := gb231) (o := .cells #[.int .i64 a0_0, .int .i64 a0_1, .int .i64 a0_2, .int .i64 a0_3, .slice A0_4 l0_4.length c0_4] 29 (0, 0)) (by (with_reducible repeat (first | refine kN ?_ _ | refine kD ?_ | refine kA ?_ _)); exact BK231.out) hb); have n2_ := aM (bT (by repeat (first | (with_reducible first | exact HB.out | apply bA | apply bN | apply bE | refine bS ?_ GE231.out) | exact HB.out)) hb); clear BK231; clear HB; have HO235 := n0_; have BK231 := n1_; have HB := n2_; clear n0_ n1_ n2_; (try clear hb); (try clear hb2); (try clear hk); (try clear hi); (try clear ho0); obtain ⟨Ao10, co10, eo10⟩ := Kd.R_slice HO235.out; subst eo10))
 go_loopg [5, 7, 21] k (fun kq v5 v7 v21 w' => ∃ (x5_1 : ByteArray) (x7_1 : ByteArray) (x21_1 : Int), v5 = .string x5_1 ∧ v7 = .string x7_1 ∧ v21 = .int .i64 x21_1 ∧ Aside0 (impl_scanRows.l0 kq a1 x5_1 t232 x7_1 t233 (t233.length : Int) x21_1 = some r) ∧ Aside0 (kq ≤ k) ∧ Aside0 (Kd.R Kd.string 9 w' w.heap.size (fun _ => True) (.slice Ao10 t233.length co10) t233) ∧ Aside0 (w'.heap[gb231]? = some (.cells #[.int .i64 a0_0, .int .i64 a0_1, .int .i64 a0_2, .int .i64 a0_3, (.slice A0_4 l0_4.length c0_4)] 29 (0, 0))) ∧ Aside0 (Below w.heap.size w w'))
 case atStart => exact ⟨((⟨#[]⟩ : ByteArray)), ((⟨#[]⟩ : ByteArray)), (0), (by first | rfl | (simp; done) | (simp [*]; done)), (by first | rfl | (simp; done) | (simp [*]; done)), (by first | rfl | (simp; done) | (simp [*]; done)), H', ⟨Nat.le_refl _⟩, ⟨by (with_reducible repeat (first | apply rA | apply rN | apply rD)); exact HO235.out⟩, ⟨by (with_reducible repeat (first | refine kN ?_ _ | refine kD ?_ | refine kA ?_ _)); exact BK231.out⟩, ⟨by repeat (first | (with_reducible first | exact HB.out | apply bA | apply bN | apply bE | refine bS ?_ GE231.out) | exact HB.out)⟩⟩
 case round =>
  clear H'
  try clear c1
  try clear p2
  try clear c5
  try clear hcz6_0
  try clear hcz6_1
  try clear hcz6_2
  try clear hcz6_3
  try clear hcz6_4
  try clear hcz8_0
  try clear hcz8_1
  try clear hcz8_2
  try clear hcz8_3
  try clear hcz8_4
  try clear hfz6_0
  try clear hfz6_1
  try clear hfz6_2
  try clear hfz6_3
  try clear hfz6_4
  try clear hfz8_0
  try clear hfz8_1
  try clear hfz8_2
  try clear hfz8_3
  try clear hfz8_4
  obtain ⟨x5_1, x7_1, x21_1, rfl, rfl, rfl, HA, HK1, HO_19, BK231, HB⟩ := hrel
  cases gk with
  | zero => exact absurd HA.out (by simp [impl_scanRows.l0])
  | succ k1 =>
   have H := HA.out
   clear HA
   simp only [impl_scanRows.l0] at H
   by_cases c11 : x21_1 < (t233.length : Int)
   ·rw [if_pos c11] at H
    have c11b0 : decide (x21_1 < (t233.length : Int)) = true := decide_eq_true c11
    clear c11
    by_cases c12 : 0 ≤ x21_1
    ·rw [if_pos c12] at H
     have c12b0 : decide (0 ≤ x21_1) = true := decide_eq_true c12
     clear c12
     by_cases c13 : x21_1 < (t233.length : Int)
     ·rw [if_pos c13] at H
      have c13b0 : decide (x21_1 < (t233.length : Int)) = true := decide_eq_true c13
      clear c13
      have HC14 := aM H
      clear H
      have p236 : 0 ≤ (x21_1 : Int) := oD (by first | (with_reducible assumption) | assumption)
      have q236 : x21_1 < (t233.length : Int) := oD (by first | (with_reducible assumption) | assumption)
      obtain ⟨ad236, e236, hx236_0⟩ := Kd.at_string (Kd.R_reads' HO_19.out).2.2 x21_1 p236 q236
      cases e236
      replace p236 := eq_true p236
      replace q236 := eq_true q236
      go_upto_if 27 with (fail)
      go_cut [7] (fun v7 wc => ∃ (kq : Nat) (x7_13 : ByteArray), v7 = .string x7_13 ∧ Aside0 (impl_scanRows.j1 kq a1 x5_1 t232 x7_13 (rdOf ByteArray.empty t233 x21_1) t233 (t233.length : Int) x21_1 = some r) ∧ Aside0 (kq ≤ k1) ∧ Aside0 (Kd.R Kd.string 9 wc w.heap.size (fun _ => True) (.slice (some ad236) t233.length co10) t233) ∧ Aside0 (wc.heap[gb231]? = some (.cells #[.int .i64 a0_0, .int .i64 a0_1, .int .i64 a0_2, .int .i64 a0_3, (.slice A0_4 l0_4.length c0_4)] 29 (0, 0))) ∧ Aside0 (Below w.heap.size w wc))
      case first =>
       have H := HC14.out
       clear HC14
       by_cases c15 : x21_1 = 0
       ·rw [if_pos c15] at H
        have c15b0 : (x21_1 == 0) = true := beq_iff_eq.mpr c15
        have c15b1 : (x21_1 != 0) = false := bne_eq_false_iff_eq.mpr c15
        clear c15
        (first | rw [c15b0] | (simp only [i64_w, i32_w]; rw [c15b0]) | skip)
        replace H := oB.mp H
        obtain ⟨t237, A160, H⟩ := H
        replace H : (impl_scanRows.j1 k1 a1 x5_1 t232 t237 (rdOf ByteArray.empty t233 x21_1) t233 (t233.length : Int) x21_1) = some r := H
        have A16 := aM A160
        clear A160
        have H' := aM H
        clear H
        go_wp2_with (first | ((with_reducible refine gate_callee (f := 159) rfl ?_); refine goesL_ (some 30) rfl rfl Try.func159 (by kernel_rfl) rfl #[.int .i64 ((rdOf ByteArray.empty t233 x21_1).size : Int)] rfl (by (try simp only [lM, List.map_cons, List.map_nil]); first | done | rfl | (simp only [lD, lT]; rfl)) ?_; (with_reducible refine (impl_noughts.calls ((rdOf ByteArray.empty t233 x21_1).size : Int) t237 _ A16.out).mono ?_); rintro e w17 ⟨rfl, hb⟩; refine ⟨_, rfl, ?_⟩; have n0_ := aM (Kd.R_below (by (with_reducible repeat (first | apply rA | apply rN | apply rD)); exact HO_19.out) hb); have n1_ := aM (kB (g := gb231) (o := .cells #[.int .i64 a0_0, .int .i64 a0_1, .int .i64 a0_2, .int .i64 a0_3, .slice A0_4 l0_4.length c0_4] 29 (0, 0)) (by (with_reducible repeat (first | refine kN ?_ _ | refine kD ?_ | refine kA ?_ _)); exact BK231.out) hb); have n2_ := aM (bT (by repeat (first | (with_reducible first | exact HB.out | apply bA | apply bN | apply bE | refine bS ?_ GE231.out) | exact HB.out)) hb); clear HO_19; clear BK231; clear HB; have HO_19 := n0_; have BK231 := n1_; have HB := n2_; clear n0_ n1_ n2_; (try clear hb); (try clear hb2); (try clear hk); (try clear hi)))
        go_meet
        case rel => exact ⟨_, (t237), (by first | rfl | (simp; done) | (simp [*]; done)), H', ⟨by have := HK1.out; first | omega | exact Nat.le_refl _⟩, ⟨by (with_reducible repeat (first | apply rA | apply rN | apply rD)); exact HO_19.out⟩, ⟨by (with_reducible repeat (first | refine kN ?_ _ | refine kD ?_ | refine kA ?_ _)); exact BK231.out⟩, ⟨by repeat (first | (with_reducible first | exact HB.out | apply bA | apply bN | apply bE | refine bS ?_ GE231.out) | exact HB.out)⟩⟩
       ·rw [if_neg c15] at H
        have c15b0 : (x21_1 == 0) = false := beq_eq_false_iff_ne.mpr c15
        have c15b1 : (x21_1 != 0) = true := bne_iff_ne.mpr c15
        (first | rw [c15b0] | (simp only [i64_w, i32_w]; rw [c15b0]) | skip)
        have H' := aM H
        clear H
        go_wp2
        go_meet
        case rel => exact ⟨_, (x7_1), (by first | rfl | (simp; done) | (simp [*]; done)), H', ⟨by have := HK1.out; first | omega | exact Nat.le_refl _⟩, ⟨by (with_reducible repeat (first | apply rA | apply rN | apply rD)); exact HO_19.out⟩, ⟨by (with_reducible repeat (first | refine kN ?_ _ | refine kD ?_ | refine kA ?_ _)); exact BK231.out⟩, ⟨by repeat (first | (with_reducible first | exact HB.out | apply bA | apply bN | apply bE | refine bS ?_ GE231.out) | exact HB.out)⟩⟩
      case rest =>
       clear HC14
       try clear c1
       try clear p2
       try clear q2
       try clear hx2
       try clear c5
       try clear c11
       try clear c11b0
       try clear c12
       try clear c12b0
       try clear c13
       try clear c13b0
       try clear c15
       try clear c15b0
       try clear c15b1
       try clear hcz6_0
       try clear hcz6_1
       try clear hcz6_2
       try clear hcz6_3
       try clear hcz6_4
       try clear hcz8_0
       try clear hcz8_1
       try clear hcz8_2
       try clear hcz8_3
       try clear hcz8_4
       try clear hfz6_0
       try clear hfz6_1
       try clear hfz6_2
       try clear hfz6_3
       try clear hfz6_4
       try clear hfz8_0
       try clear hfz8_1
       try clear hfz8_2
       try clear hfz8_3
       try clear hfz8_4
       try clear hx236_0
       try clear p2
       try clear p236
       try clear q236
       obtain ⟨kq, x7_13, rfl, HA, HJ13, HO_19, BK231, HB⟩ := hcut
       cases kq with
       | zero => exact absurd HA.out (by simp [impl_scanRows.j1])
       | succ kj13 =>
        have H := HA.out
        clear HA
        simp only [impl_scanRows.j1] at H
        by_cases c18 : a1 = 5
        ·rw [if_pos c18] at H
         have c18b0 : (a1 == 5) = true := beq_iff_eq.mpr c18
         have c18b1 : (a1 != 5) = false := bne_eq_false_iff_eq.mpr c18
         clear c18
         replace H := oB.mp H
         obtain ⟨⟨t238, t239⟩, A190, H⟩ := H
         try dsimp only at H
         have A19 := aM A190
         clear A190
         replace H := oB.mp H
         obtain ⟨⟨t240, t241⟩, A200, H⟩ := H
         try dsimp only at H
         have A20 := aM A200
         clear A200
         replace H := oB.mp H
         obtain ⟨t242, A210, H⟩ := H
         try dsimp only at H
         have A21 := aM A210
         clear A210
         by_cases c22 : t242.size + t240.size ≤ 9223372036854775807
         ·rw [if_pos c22] at H
          have c22b0 := eq_true c22
          have c22b1 : decide (t242.size + t240.size ≤ 9223372036854775807) = true := decide_eq_true c22
          try have c22b2 : (9223372036854775807 < t242.size + t240.size) = False := eq_false (Nat.not_lt.2 c22)
          by_cases c23 : x5_1.size + (t242 ++ t240).size ≤ 9223372036854775807
          ·rw [if_pos c23] at H
           have c23b0 := eq_true c23
           have c23b1 : decide (x5_1.size + (t242 ++ t240).size ≤ 9223372036854775807) = true := decide_eq_true c23
           try have c23b2 : (9223372036854775807 < x5_1.size + (t242 ++ t240).size) = False := eq_false (Nat.not_lt.2 c23)
           try have c23b2n := c23b2
           try simp only [ByteArray.size_append] at c23b2n
           have H' := aM H
           clear H
           go_wp2_with (first | ((with_reducible refine gate_callee (f := 160) rfl ?_); refine goesL_ (some 38) rfl rfl Try.func160 (by kernel_rfl) rfl #[.string (rdOf ByteArray.empty t233 x21_1), .string x7_13, .int .i64 t232] rfl (by (try simp only [lM, List.map_cons, List.map_nil]); first | done | rfl | (simp only [lD, lT]; rfl)) ?_; (with_reducible refine (impl_BestFilter.calls kj13 (rdOf ByteArray.empty t233 x21_1) x7_13 t232 t238 t239 _ A19.out).mono ?_); rintro e w24 ⟨rfl, hb⟩; refine ⟨_, rfl, ?_⟩; have n0_ := aM (Kd.R_below (by (with_reducible repeat (first | apply rA | apply rN | apply rD)); exact HO_19.out) hb); have n1_ := aM (kB (g := gb231) (o := .cells #[.int .i64 a0_0, .int .i64 a0_1, .int .i64 a0_2, .int .i64 a0_3, .slice A0_4 l0_4.length c0_4] 29 (0, 0)) (by (with_reducible repeat (first | refine kN ?_ _ | refine kD ?_ | refine kA ?_ _)); exact BK231.out) hb); have n2_ := aM (bT (by repeat (first | (with_reducible first | exact HB.out | apply bA | apply bN | apply bE | refine bS ?_ GE231.out) | exact HB.out)) hb); clear HO_19; clear BK231; clear HB; have HO_19 := n0_; have BK231 := n1_; have HB := n2_; clear n0_ n1_ n2_; (try clear hb); (try clear hb2); (try clear hk); (try clear hi)) | ((with_reducible refine gate_callee (f := 161) rfl ?_); refine goesL_ (some 46) rfl rfl Try.func161 (by kernel_rfl) rfl #[.int .i64 t238, .string (rdOf ByteArray.empty t233 x21_1), .string x7_13, .int .i64 t232] rfl (by (try simp only [lM, List.map_cons, List.map_nil]); first | done | rfl | (simp only [lD, lT]; rfl)) ?_; (with_reducible refine (impl_FilterRow.calls kj13 t238 (rdOf ByteArray.empty t233 x21_1) x7_13 t232 t240 t241 _ A20.out).mono ?_); rintro e w25 ⟨rfl, hb⟩; refine ⟨_, rfl, ?_⟩; have n0_ := aM (Kd.R_below (by (with_reducible repeat (first | apply rA | apply rN | apply rD)); exact HO_19.out) hb); have n1_ := aM (kB (g := gb231) (o := .cells #[.int .i64 a0_0, .int .i64 a0_1, .int .i64 a0_2, .int .i64 a0_3, .slice A0_4 l0_4.length c0_4] 29 (0, 0)) (by (with_reducible repeat (first | refine kN ?_ _ | refine kD ?_ | refine kA ?_ _)); exact BK231.out) hb); have n2_ := aM (bT (by repeat (first | (with_reducible first | exact HB.out | apply bA | apply bN | apply bE | refine bS ?_ GE231.out) | exact HB.out)) hb); clear HO_19; clear BK231; clear HB; have HO_19 := n0_; have BK231 := n1_; have HB := n2_; clear n0_ n1_ n2_; (try clear hb); (try clear hb2); (try clear hk); (try clear hi)) | ((with_reducible refine gate_callee (f := 75) rfl ?_); refine goesL_ (some 51) rfl rfl Try.func75 (by kernel_rfl) rfl #[.int .i64 t238] rfl (by (try simp only [lM, List.map_cons, List.map_nil]); first | done | rfl | (simp only [lD, lT]; rfl)) ?_; (with_reducible refine (impl_byteText.calls t238 t242 _ A21.out).mono ?_); rintro e w26 ⟨rfl, hb⟩; refine ⟨_, rfl, ?_⟩; have n0_ := aM (Kd.R_below (by (with_reducible repeat (first | apply rA | apply rN | apply rD)); exact HO_19.out) hb); have n1_ := aM (kB (g := gb231) (o := .cells #[.int .i64 a0_0, .int .i64 a0_1, .int .i64 a0_2, .int .i64 a0_3, .slice A0_4 l0_4.length c0_4] 29 (0, 0)) (by (with_reducible repeat (first | refine kN ?_ _ | refine kD ?_ | refine kA ?_ _)); exact BK231.out) hb); have n2_ := aM (bT (by repeat (first | (with_reducible first | exact HB.out | apply bA | apply bN | apply bE | refine bS ?_ GE231.out) | exact HB.out)) hb); clear HO_19; clear BK231; clear HB; have HO_19 := n0_; have BK231 := n1_; have HB := n2_; clear n0_ n1_ n2_; (try clear hb); (try clear hb2); (try clear hk); (try clear hi)))
           go_roundg kj13
           case measure => have := HK1.out; have := HJ13.out; omega
           case rel => exact ⟨(x5_1 ++ (t242 ++ t240)), ((rdOf ByteArray.empty t233 x21_1)), (wrap64 (x21_1 + 1)), (by first | rfl | (simp; done) | (simp [*]; done)), (by first | rfl | (simp; done) | (simp [*]; done)), (by first | rfl | (simp; done) | (simp [*]; done)), H', ⟨by have := HK1.out; have := HJ13.out; omega⟩, ⟨by (with_reducible repeat (first | apply rA | apply rN | apply rD)); exact HO_19.out⟩, ⟨by (with_reducible repeat (first | refine kN ?_ _ | refine kD ?_ | refine kA ?_ _)); exact BK231.out⟩, ⟨by repeat (first | (with_reducible first | exact HB.out | apply bA | apply bN | apply bE | refine bS ?_ GE231.out) | exact HB.out)⟩⟩
          ·rw [if_neg c23] at H
           exact absurd H (by simp)
         ·rw [if_neg c22] at H
          exact absurd H (by simp)
        ·rw [if_neg c18] at H
         have c18b0 : (a1 == 5) = false := beq_eq_false_iff_ne.mpr c18
         have c18b1 : (a1 != 5) = true := bne_iff_ne.mpr c18
         replace H := oB.mp H
         obtain ⟨⟨t243, t244⟩, A270, H⟩ := H
         try dsimp only at H
         have A27 := aM A270
         clear A270
         replace H := oB.mp H
         obtain ⟨t245, A280, H⟩ := H
         try dsimp only at H
         have A28 := aM A280
         clear A280
         by_cases c29 : t245.size + t243.size ≤ 9223372036854775807
         ·rw [if_pos c29] at H
          have c29b0 := eq_true c29
          have c29b1 : decide (t245.size + t243.size ≤ 9223372036854775807) = true := decide_eq_true c29
          try have c29b2 : (9223372036854775807 < t245.size + t243.size) = False := eq_false (Nat.not_lt.2 c29)
          by_cases c30 : x5_1.size + (t245 ++ t243).size ≤ 9223372036854775807
          ·rw [if_pos c30] at H
           have c30b0 := eq_true c30
           have c30b1 : decide (x5_1.size + (t245 ++ t243).size ≤ 9223372036854775807) = true := decide_eq_true c30
           try have c30b2 : (9223372036854775807 < x5_1.size + (t245 ++ t243).size) = False := eq_false (Nat.not_lt.2 c30)
           try have c30b2n := c30b2
           try simp only [ByteArray.size_append] at c30b2n
           have H' := aM H
           clear H
           go_wp2_with (first | ((with_reducible refine gate_callee (f := 161) rfl ?_); refine goesL_ (some 46) rfl rfl Try.func161 (by kernel_rfl) rfl #[.int .i64 a1, .string (rdOf ByteArray.empty t233 x21_1), .string x7_13, .int .i64 t232] rfl (by (try simp only [lM, List.map_cons, List.map_nil]); first | done | rfl | (simp only [lD, lT]; rfl)) ?_; (with_reducible refine (impl_FilterRow.calls kj13 a1 (rdOf ByteArray.empty t233 x21_1) x7_13 t232 t243 t244 _ A27.out).mono ?_); rintro e w31 ⟨rfl, hb⟩; refine ⟨_, rfl, ?_⟩; have n0_ := aM (Kd.R_below (by (with_reducible repeat (first | apply rA | apply rN | apply rD)); exact HO_19.out) hb); have n1_ := aM (kB (g := gb231) (o := .cells #[.int .i64 a0_0, .int .i64 a0_1, .int .i64 a0_2, .int .i64 a0_3, .slice A0_4 l0_4.length c0_4] 29 (0, 0)) (by (with_reducible repeat (first | refine kN ?_ _ | refine kD ?_ | refine kA ?_ _)); exact BK231.out) hb); have n2_ := aM (bT (by repeat (first | (with_reducible first | exact HB.out | apply bA | apply bN | apply bE | refine bS ?_ GE231.out) | exact HB.out)) hb); clear HO_19; clear BK231; clear HB; have HO_19 := n0_; have BK231 := n1_; have HB := n2_; clear n0_ n1_ n2_; (try clear hb); (try clear hb2); (try clear hk); (try clear hi)) | ((with_reducible refine gate_callee (f := 75) rfl ?_); refine goesL_ (some 51) rfl rfl Try.func75 (by kernel_rfl) rfl #[.int .i64 a1] rfl (by (try simp only [lM, List.map_cons, List.map_nil]); first | done | rfl | (simp only [lD, lT]; rfl)) ?_; (with_reducible refine (impl_byteText.calls a1 t245 _ A28.out).mono ?_); rintro e w32 ⟨rfl, hb⟩; refine ⟨_, rfl, ?_⟩; have n0_ := aM (Kd.R_below (by (with_reducible repeat (first | apply rA | apply rN | apply rD)); exact HO_19.out) hb); have n1_ := aM (kB (g := gb231) (o := .cells #[.int .i64 a0_0, .int .i64 a0_1, .int .i64 a0_2, .int .i64 a0_3, .slice A0_4 l0_4.length c0_4] 29 (0, 0)) (by (with_reducible repeat (first | refine kN ?_ _ | refine kD ?_ | refine kA ?_ _)); exact BK231.out) hb); have n2_ := aM (bT (by repeat (first | (with_reducible first | exact HB.out | apply bA | apply bN | apply bE | refine bS ?_ GE231.out) | exact HB.out)) hb); clear HO_19; clear BK231; clear HB; have HO_19 := n0_; have BK231 := n1_; have HB := n2_; clear n0_ n1_ n2_; (try clear hb); (try clear hb2); (try clear hk); (try clear hi)))
           go_roundg kj13
           case measure => have := HK1.out; have := HJ13.out; omega
           case rel => exact ⟨(x5_1 ++ (t245 ++ t243)), ((rdOf ByteArray.empty t233 x21_1)), (wrap64 (x21_1 + 1)), (by first | rfl | (simp; done) | (simp [*]; done)), (by first | rfl | (simp; done) | (simp [*]; done)), (by first | rfl | (simp; done) | (simp [*]; done)), H', ⟨by have := HK1.out; have := HJ13.out; omega⟩, ⟨by (with_reducible repeat (first | apply rA | apply rN | apply rD)); exact HO_19.out⟩, ⟨by (with_reducible repeat (first | refine kN ?_ _ | refine kD ?_ | refine kA ?_ _)); exact BK231.out⟩, ⟨by repeat (first | (with_reducible first | exact HB.out | apply bA | apply bN | apply bE | refine bS ?_ GE231.out) | exact HB.out)⟩⟩
          ·rw [if_neg c30] at H
           exact absurd H (by simp)
         ·rw [if_neg c29] at H
          exact absurd H (by simp)
     ·rw [if_neg c13] at H
      exact absurd H (by simp)
    ·rw [if_neg c12] at H
     exact absurd H (by simp)
   ·rw [if_neg c11] at H
    have c11b0 : decide (x21_1 < (t233.length : Int)) = false := decide_eq_false c11
    clear c11
    obtain rfl := Option.some.inj H
    go_wp2
    go_ret
    exact ⟨by first | rfl | (simp [errW_none, errW_some] <;> rfl) | (simp [*, errW_none, errW_some] <;> rfl), by repeat (first | (with_reducible first | exact HB.out | apply bA | apply bN | apply bE | refine bS ?_ GE231.out) | exact HB.out)⟩

/-! ### impl_ScanOf: function 45 -/
mutual
def impl_ScanOf.j0 : Nat → Bool → Int → Bool → Int → Int → Int → Int → List Int → Option (ByteArray × Bool)
 | 0, _, _, _, _, _, _, _, _ => none
 | k + 1, x1, x2, x20, x247000, x247001, x247002, x247003, x247004 => if x20 = true then (some ((⟨#[]⟩ : ByteArray), false)) else (if x1 = true then ((impl_PassesOf.f k x247000 x247001 x247002 x247003 x247004).bind fun bt250 => (impl_ScanOf.l0 k x2 (⟨#[]⟩ : ByteArray) bt250.1 (bt250.1.length : Int) 0)) else ((impl_scanRows.f k x247000 x247001 x247002 x247003 x247004 x2).bind fun t249 => (some (t249, true))))
def impl_ScanOf.l0 : Nat → Int → ByteArray → List (S29) → Int → Int → Option (ByteArray × Bool)
 | 0, _, _, _, _, _ => none
 | k + 1, x2, x10, x31, x32, x33 => if x33 < x32 then (if 0 ≤ x33 then (if x33 < (x31.length : Int) then ((impl_scanRows.f k ((rd_T29 x31 x33).f0) ((rd_T29 x31 x33).f1) ((rd_T29 x31 x33).f2) ((rd_T29 x31 x33).f3) ((rd_T29 x31 x33).f4) x2).bind fun t256 => (if x10.size + t256.size ≤ 9223372036854775807 then (impl_ScanOf.l0 k x2 (x10 ++ t256) x31 x32 (wrap64 (x33 + 1))) else (none))) else (none)) else (none)) else (some (x10, true))
end
def impl_ScanOf.f (k : Nat) (a0_0 : Int) (a0_1 : Int) (a0_2 : Int) (a0_3 : Int) (l0_4 : List Int) (a1 : Bool) (a2 : Int) : Option (ByteArray × Bool) := (impl_RasterOk.f k a0_0 a0_1 a0_2 a0_3 l0_4).bind fun t247 => (if t247 = true then ((impl_within.f a2 0 5).bind fun t248 => (impl_ScanOf.j0 k a1 a2 (!t248) a0_0 a0_1 a0_2 a0_3 l0_4)) else (impl_ScanOf.j0 k a1 a2 true a0_0 a0_1 a0_2 a0_3 l0_4))
theorem impl_ScanOf.mono_l : ∀ k, (∀ y0 y1 y2 y3 y4 y5 y6 y7, LeO (impl_ScanOf.j0 k y0 y1 y2 y3 y4 y5 y6 y7) (impl_ScanOf.j0 (k + 1) y0 y1 y2 y3 y4 y5 y6 y7)) ∧ (∀ y0 y1 y2 y3 y4, LeO (impl_ScanOf.l0 k y0 y1 y2 y3 y4) (impl_ScanOf.l0 (k + 1) y0 y1 y2 y3 y4))
 | 0 => ⟨fun _ _ _ _ _ _ _ _ r h => by simp [impl_ScanOf.j0] at h, fun _ _ _ _ _ r h => by simp [impl_ScanOf.l0] at h⟩
 | k + 1 => by
  obtain ⟨ih0, ih1⟩ := impl_ScanOf.mono_l k
  refine ⟨?_, ?_⟩
  ·intro y0 y1 y2 y3 y4 y5 y6 y7
   unfold impl_ScanOf.j0
   repeat' first
   | (with_reducible exact ih0 _ _ _ _ _ _ _ _)
   | (with_reducible exact ih1 _ _ _ _ _)
   | (with_reducible exact impl_PassesOf.mono _ _ _ _ _ _)
   | (with_reducible exact impl_RasterOk.mono _ _ _ _ _ _)
   | (with_reducible exact impl_scanRows.mono _ _ _ _ _ _ _)
   | (with_reducible exact LeO.refl _)
   | (with_reducible exact LeO.none _)
   | (with_reducible refine LeO.ite ?_ ?_)
   | (with_reducible refine LeO.bind ?_ (fun _ => ?_))
   | exact ih0 _ _ _ _ _ _ _ _
   | exact ih1 _ _ _ _ _
   | exact impl_PassesOf.mono _ _ _ _ _ _
   | exact impl_RasterOk.mono _ _ _ _ _ _
   | exact impl_scanRows.mono _ _ _ _ _ _ _
   | exact LeO.none _
   | refine LeO.ite ?_ ?_
   | refine LeO.bind ?_ (fun _ => ?_)
  ·intro y0 y1 y2 y3 y4
   unfold impl_ScanOf.l0
   repeat' first
   | (with_reducible exact ih0 _ _ _ _ _ _ _ _)
   | (with_reducible exact ih1 _ _ _ _ _)
   | (with_reducible exact impl_PassesOf.mono _ _ _ _ _ _)
   | (with_reducible exact impl_RasterOk.mono _ _ _ _ _ _)
   | (with_reducible exact impl_scanRows.mono _ _ _ _ _ _ _)
   | (with_reducible exact LeO.refl _)
   | (with_reducible exact LeO.none _)
   | (with_reducible refine LeO.ite ?_ ?_)
   | (with_reducible refine LeO.bind ?_ (fun _ => ?_))
   | exact ih0 _ _ _ _ _ _ _ _
   | exact ih1 _ _ _ _ _
   | exact impl_PassesOf.mono _ _ _ _ _ _
   | exact impl_RasterOk.mono _ _ _ _ _ _
   | exact impl_scanRows.mono _ _ _ _ _ _ _
   | exact LeO.none _
   | refine LeO.ite ?_ ?_
   | refine LeO.bind ?_ (fun _ => ?_)
theorem impl_ScanOf.mono : ∀ a0 a1 a2 a3 a4 a5 a6 k, LeO (impl_ScanOf.f k a0 a1 a2 a3 a4 a5 a6) (impl_ScanOf.f (k + 1) a0 a1 a2 a3 a4 a5 a6) := by
 intro a0 a1 a2 a3 a4 a5 a6 k
 obtain ⟨ih0, ih1⟩ := impl_ScanOf.mono_l k
 unfold impl_ScanOf.f
 repeat' first
   | (with_reducible exact ih0 _ _ _ _ _ _ _ _)
   | (with_reducible exact ih1 _ _ _ _ _)
   | (with_reducible exact impl_PassesOf.mono _ _ _ _ _ _)
   | (with_reducible exact impl_RasterOk.mono _ _ _ _ _ _)
   | (with_reducible exact impl_scanRows.mono _ _ _ _ _ _ _)
   | (with_reducible exact LeO.refl _)
   | (with_reducible exact LeO.none _)
   | (with_reducible refine LeO.ite ?_ ?_)
   | (with_reducible refine LeO.bind ?_ (fun _ => ?_))
   | exact ih0 _ _ _ _ _ _ _ _
   | exact ih1 _ _ _ _ _
   | exact impl_PassesOf.mono _ _ _ _ _ _
   | exact impl_RasterOk.mono _ _ _ _ _ _
   | exact impl_scanRows.mono _ _ _ _ _ _ _
   | exact LeO.none _
   | refine LeO.ite ?_ ?_
   | refine LeO.bind ?_ (fun _ => ?_)
set_option maxHeartbeats 8000000 in
set_option maxRecDepth 100000 in
theorem impl_ScanOf.calls (k : Nat) (a0_0 : Int) (a0_1 : Int) (a0_2 : Int) (a0_3 : Int) (A0_4 : Option Addr) (c0_4 : Nat) (l0_4 : List Int) (a1 : Bool) (a2 : Int) (r1 : ByteArray) (r2 : Bool) (w : World) (hr0_4 : Kd.C (Kd.int .i64) w A0_4 l0_4.length l0_4) (hc0_4 : l0_4.length ≤ c0_4) (h : impl_ScanOf.f k a0_0 a0_1 a0_2 a0_3 l0_4 a1 a2 = some (r1, r2)) :
  Calls Try.prog 45 #[.agg #[.int .i64 a0_0, .int .i64 a0_1, .int .i64 a0_2, .int .i64 a0_3, .slice A0_4 l0_4.length c0_4], .bool a1, .int .i64 a2] w fun e w' => e = .returned (.tuple #[.string r1, .bool r2]) ∧ Below w.heap.size w w' := by
 have hu29 := Try.underlying29
 have HR0_4 := aM hr0_4
 have HC0_4 := aM hc0_4
 clear hr0_4 hc0_4
 have HB := aM (Below.refl w.heap.size w)
 unfold impl_ScanOf.f at h; have H := h
 clear h
 have HC4 := aM H
 clear H
 go_enter Try.func45, Try.ntmps45
 go_upto_region 1 with (first | ((with_reducible refine gate_dst (N := 3) rfl ?_); refine box_event ?hg (N := 3) ?hd (cs := #[.int .i64 a0_0, .int .i64 a0_1, .int .i64 a0_2, .int .i64 a0_3, .slice A0_4 l0_4.length c0_4]) (t := 29) ?hr ?_; (case hd => rfl); (case hg => rfl); (case hr => first | (go_simp; done) | (go_simp; rfl)); intro gb246 hg w5 hbox hb; have n0_ := aM (bT (by repeat (first | (with_reducible first | exact HB.out | apply bA | apply bN | apply bE) | exact HB.out)) hb); have n1_ := aM (hbox); have n2_ := aM ((by rw [hg]; exact (bZ (by repeat (first | (with_reducible first | exact HB.out | apply bA | apply bN | apply bE) | exact HB.out))) : w.heap.size ≤ gb246)); have n3_ := aM ((by rw [hg]; exact (bZ (by repeat (first | (with_reducible first | exact HB.out | apply bA | apply bN | apply bE) | exact HB.out))) : w.heap.size ≤ gb246)); clear HB; have HB := n0_; have BK246 := n1_; have GW246 := n2_; have GE246 := n3_; clear n0_ n1_ n2_ n3_; clear hb hbox hg))
 (try simp only [Act.put, lI, lZ, lS])
 go_cut [20] (fun v20 wc => ∃ (kq : Nat) (x20_3 : Bool), v20 = .bool x20_3 ∧ Aside0 (impl_ScanOf.j0 kq a1 a2 x20_3 a0_0 a0_1 a0_2 a0_3 l0_4 = some (r1, r2)) ∧ Aside0 (kq ≤ k) ∧ Aside0 (wc.heap[gb246]? = some (.cells #[.int .i64 a0_0, .int .i64 a0_1, .int .i64 a0_2, .int .i64 a0_3, (.slice A0_4 l0_4.length c0_4)] 29 (0, 0))) ∧ Aside0 (Below w.heap.size w wc))
 case first =>
  have H := HC4.out
  clear HC4
  replace H := oB.mp H
  obtain ⟨t247, A60, H⟩ := H
  replace H : (if t247 = true then ((impl_within.f a2 0 5).bind fun t248 => (impl_ScanOf.j0 k a1 a2 (!t248) a0_0 a0_1 a0_2 a0_3 l0_4)) else (impl_ScanOf.j0 k a1 a2 true a0_0 a0_1 a0_2 a0_3 l0_4)) = some (r1, r2) := H
  have A6 := aM A60
  clear A60
  by_cases c7 : t247 = true
  ·subst c7
   have H1 : ((impl_within.f a2 0 5).bind fun t248 => (impl_ScanOf.j0 k a1 a2 (!t248) a0_0 a0_1 a0_2 a0_3 l0_4)) = some (r1, r2) := by rw [if_pos rfl] at H; first | done | exact H
   clear H
   have H := H1
   clear H1
   replace H := oB.mp H
   obtain ⟨t248, A80, H⟩ := H
   replace H : (impl_ScanOf.j0 k a1 a2 (!t248) a0_0 a0_1 a0_2 a0_3 l0_4) = some (r1, r2) := H
   have A8 := aM A80
   clear A80
   have H' := aM H
   clear H
   obtain ⟨hcz9_0, hcz9_1, hcz9_2, hcz9_3, hcz9_4⟩ := blk_c5 BK246.out
   obtain ⟨hfz9_0, hfz9_1, hfz9_2, hfz9_3, hfz9_4⟩ := blk_f5 BK246.out
   go_wp2_with (first | ((with_reducible refine gate_callee (f := 64) rfl ?_); refine goesL_ (some 14) rfl rfl Try.func64 (by kernel_rfl) rfl #[.agg #[.int .i64 a0_0, .int .i64 a0_1, .int .i64 a0_2, .int .i64 a0_3, .slice A0_4 l0_4.length c0_4]] rfl (by (try simp only [lM, List.map_cons, List.map_nil]); first | done | rfl | (simp only [lD, lT]; rfl)) ?_; (with_reducible refine (impl_RasterOk.calls k a0_0 a0_1 a0_2 a0_3 _ _ l0_4 true _ ?side1 ?side2 A6.out).mono ?_); (case side1 => repeat (first | exact (Kd.C_below HR0_4.out HB.out) | (with_reducible refine cA ?_ _) | (with_reducible refine cN ?_ _) | (with_reducible refine cD ?_))); (case side2 => exact HC0_4.out); rintro e w10 ⟨rfl, hb⟩; refine ⟨_, rfl, ?_⟩; have n0_ := aM (kB (g := gb246) (o := .cells #[.int .i64 a0_0, .int .i64 a0_1, .int .i64 a0_2, .int .i64 a0_3, .slice A0_4 l0_4.length c0_4] 29 (0, 0)) (by (with_reducible repeat (first | refine kN ?_ _ | refine kD ?_ | refine kA ?_ _)); exact BK246.out) hb); have n1_ := aM (bT (by repeat (first | (with_reducible first | exact HB.out | apply bA | apply bN | apply bE | refine bS ?_ GE246.out) | exact HB.out)) hb); clear BK246; clear HB; have BK246 := n0_; have HB := n1_; clear n0_ n1_; (try clear hb); (try clear hb2); (try clear hk); (try clear hi)) | (go_at_call 82; (with_reducible refine (impl_within.calls a2 0 5 t248 _ A8.out).mono ?_); rintro e w' ⟨rfl, ⟨nd, rfl⟩⟩))
   go_meet
   case rel => exact ⟨_, (!t248), (by first | rfl | (simp; done) | (simp [*]; done)), H', ⟨by first | omega | exact Nat.le_refl _⟩, ⟨by (with_reducible repeat (first | refine kN ?_ _ | refine kD ?_ | refine kA ?_ _)); exact BK246.out⟩, ⟨by repeat (first | (with_reducible first | exact HB.out | apply bA | apply bN | apply bE | refine bS ?_ GE246.out) | exact HB.out)⟩⟩
  ·replace c7 := Bool.eq_false_iff.mpr c7
   subst c7
   have H1 : (impl_ScanOf.j0 k a1 a2 true a0_0 a0_1 a0_2 a0_3 l0_4) = some (r1, r2) := by rw [if_neg (show ¬ (false = true) by decide)] at H; first | done | exact H
   clear H
   have H := H1
   clear H1
   have H' := aM H
   clear H
   obtain ⟨hcz11_0, hcz11_1, hcz11_2, hcz11_3, hcz11_4⟩ := blk_c5 BK246.out
   obtain ⟨hfz11_0, hfz11_1, hfz11_2, hfz11_3, hfz11_4⟩ := blk_f5 BK246.out
   go_wp2_with (first | ((with_reducible refine gate_callee (f := 64) rfl ?_); refine goesL_ (some 14) rfl rfl Try.func64 (by kernel_rfl) rfl #[.agg #[.int .i64 a0_0, .int .i64 a0_1, .int .i64 a0_2, .int .i64 a0_3, .slice A0_4 l0_4.length c0_4]] rfl (by (try simp only [lM, List.map_cons, List.map_nil]); first | done | rfl | (simp only [lD, lT]; rfl)) ?_; (with_reducible refine (impl_RasterOk.calls k a0_0 a0_1 a0_2 a0_3 _ _ l0_4 false _ ?side1 ?side2 A6.out).mono ?_); (case side1 => repeat (first | exact (Kd.C_below HR0_4.out HB.out) | (with_reducible refine cA ?_ _) | (with_reducible refine cN ?_ _) | (with_reducible refine cD ?_))); (case side2 => exact HC0_4.out); rintro e w12 ⟨rfl, hb⟩; refine ⟨_, rfl, ?_⟩; have n0_ := aM (kB (g := gb246) (o := .cells #[.int .i64 a0_0, .int .i64 a0_1, .int .i64 a0_2, .int .i64 a0_3, .slice A0_4 l0_4.length c0_4] 29 (0, 0)) (by (with_reducible repeat (first | refine kN ?_ _ | refine kD ?_ | refine kA ?_ _)); exact BK246.out) hb); have n1_ := aM (bT (by repeat (first | (with_reducible first | exact HB.out | apply bA | apply bN | apply bE | refine bS ?_ GE246.out) | exact HB.out)) hb); clear BK246; clear HB; have BK246 := n0_; have HB := n1_; clear n0_ n1_; (try clear hb); (try clear hb2); (try clear hk); (try clear hi)))
   go_meet
   case rel => exact ⟨_, (true), (by first | rfl | (simp; done) | (simp [*]; done)), H', ⟨by first | omega | exact Nat.le_refl _⟩, ⟨by (with_reducible repeat (first | refine kN ?_ _ | refine kD ?_ | refine kA ?_ _)); exact BK246.out⟩, ⟨by repeat (first | (with_reducible first | exact HB.out | apply bA | apply bN | apply bE | refine bS ?_ GE246.out) | exact HB.out)⟩⟩
 case rest =>
  clear HC4
  try clear p2
  try clear c4
  try clear c5
  try clear c6
  try clear c7
  try clear hcz11_0
  try clear hcz11_1
  try clear hcz11_2
  try clear hcz11_3
  try clear hcz11_4
  try clear hcz9_0
  try clear hcz9_1
  try clear hcz9_2
  try clear hcz9_3
  try clear hcz9_4
  try clear hfz11_0
  try clear hfz11_1
  try clear hfz11_2
  try clear hfz11_3
  try clear hfz11_4
  try clear hfz9_0
  try clear hfz9_1
  try clear hfz9_2
  try clear hfz9_3
  try clear hfz9_4
  obtain ⟨kq, x20_3, rfl, HA, HJ3, BK246, HB⟩ := hcut
  cases kq with
  | zero => exact absurd HA.out (by simp [impl_ScanOf.j0])
  | succ kj3 =>
   have H := HA.out
   clear HA
   simp only [impl_ScanOf.j0] at H
   by_cases c13 : x20_3 = true
   ·subst c13
    have H1 : (some ((⟨#[]⟩ : ByteArray), false)) = some (r1, r2) := by rw [if_pos rfl] at H; first | done | exact H
    clear H
    have H := H1
    clear H1
    simp only [Option.some.injEq, Prod.mk.injEq] at H
    obtain ⟨rfl, rfl⟩ := H
    go_wp2
    go_ret2
    exact ⟨by first | rfl | (simp [errW_none, errW_some] <;> rfl) | (simp [*, errW_none, errW_some] <;> rfl), by repeat (first | (with_reducible first | exact HB.out | apply bA | apply bN | apply bE | refine bS ?_ GE246.out) | exact HB.out)⟩
   ·replace c13 := Bool.eq_false_iff.mpr c13
    subst c13
    have H1 : (if a1 = true then ((impl_PassesOf.f kj3 a0_0 a0_1 a0_2 a0_3 l0_4).bind fun bt250 => (impl_ScanOf.l0 kj3 a2 (⟨#[]⟩ : ByteArray) bt250.1 (bt250.1.length : Int) 0)) else ((impl_scanRows.f kj3 a0_0 a0_1 a0_2 a0_3 l0_4 a2).bind fun t249 => (some (t249, true)))) = some (r1, r2) := by rw [if_neg (show ¬ (false = true) by decide)] at H; first | done | exact H
    clear H
    have H := H1
    clear H1
    by_cases c14 : a1 = true
    ·subst c14
     have H1 : ((impl_PassesOf.f kj3 a0_0 a0_1 a0_2 a0_3 l0_4).bind fun bt250 => (impl_ScanOf.l0 kj3 a2 (⟨#[]⟩ : ByteArray) bt250.1 (bt250.1.length : Int) 0)) = some (r1, r2) := by rw [if_pos rfl] at H; first | done | exact H
     clear H
     have H := H1
     clear H1
     replace H := oB.mp H
     obtain ⟨⟨t250, t253⟩, A150, H⟩ := H
     replace H : (impl_ScanOf.l0 kj3 a2 (⟨#[]⟩ : ByteArray) t250 (t250.length : Int) 0) = some (r1, r2) := H
     have A15 := aM A150
     clear A150
     have H' := aM H
     clear H
     obtain ⟨hcz16_0, hcz16_1, hcz16_2, hcz16_3, hcz16_4⟩ := blk_c5 BK246.out
     obtain ⟨hfz16_0, hfz16_1, hfz16_2, hfz16_3, hfz16_4⟩ := blk_f5 BK246.out
     go_wp2_with (first | ((with_reducible refine gate_callee (f := 15) rfl ?_); refine goesL_ (some 28) rfl rfl Try.func15 (by kernel_rfl) rfl #[.agg #[.int .i64 a0_0, .int .i64 a0_1, .int .i64 a0_2, .int .i64 a0_3, .slice A0_4 l0_4.length c0_4]] rfl (by (try simp only [lM, List.map_cons, List.map_nil]); first | done | rfl | (simp only [lD, lT]; rfl)) ?_; (with_reducible refine (impl_PassesOf.calls kj3 a0_0 a0_1 a0_2 a0_3 _ _ l0_4 t250 t253 _ ?side1 ?side2 A15.out).mono ?_); (case side1 => repeat (first | exact (Kd.C_below HR0_4.out HB.out) | (with_reducible refine cA ?_ _) | (with_reducible refine cN ?_ _) | (with_reducible refine cD ?_))); (case side2 => exact HC0_4.out); rintro e w17 ⟨v251, rfl, ho0, hb⟩; refine ⟨_, rfl, ?_⟩; have n0_ := aM (Kd.S_lower (Kd.S_newB ho0 (g := gb246) (o := .cells #[.int .i64 a0_0, .int .i64 a0_1, .int .i64 a0_2, .int .i64 a0_3, .slice A0_4 l0_4.length c0_4] 29 (0, 0)) (by (with_reducible repeat (first | refine kN ?_ _ | refine kD ?_ | refine kA ?_ _)); exact BK246.out)) (bZ (by repeat (first | (with_reducible first | exact HB.out | apply bA | apply bN | apply bE | refine bS ?_ GE246.out) | exact HB.out)))); have n1_ := aM (kB (g := gb246) (o := .cells #[.int .i64 a0_0, .int .i64 a0_1, .int .i64 a0_2, .int .i64 a0_3, .slice A0_4 l0_4.length c0_4] 29 (0, 0)) (by (with_reducible repeat (first | refine kN ?_ _ | refine kD ?_ | refine kA ?_ _)); exact BK246.out) hb); have n2_ := aM (bT (by repeat (first | (with_reducible first | exact HB.out | apply bA | apply bN | apply bE | refine bS ?_ GE246.out) | exact HB.out)) hb); clear BK246; clear HB; have HO252 := n0_; have BK246 := n1_; have HB := n2_; clear n0_ n1_ n2_; (try clear hb); (try clear hb2); (try clear hk); (try clear hi); (try clear ho0); obtain ⟨Ao18, co18, eo18⟩ := Kd.S_slice HO252.out; subst eo18))
     go_loopg [10, 33] kj3 (fun kq v10 v33 w' => ∃ (x10_2 : ByteArray) (x33_2 : Int), v10 = .string x10_2 ∧ v33 = .int .i64 x33_2 ∧ Aside0 (impl_ScanOf.l0 kq a2 x10_2 t250 (t250.length : Int) x33_2 = some (r1, r2)) ∧ Aside0 (kq ≤ kj3) ∧ Aside0 (Kd.S k29 29 w' w.heap.size (fun k_ => k_ ≠ gb246) (.slice Ao18 t250.length co18) t250) ∧ Aside0 (w'.heap[gb246]? = some (.cells #[.int .i64 a0_0, .int .i64 a0_1, .int .i64 a0_2, .int .i64 a0_3, (.slice A0_4 l0_4.length c0_4)] 29 (0, 0))) ∧ Aside0 (Below w.heap.size w w'))
     case atStart => exact ⟨((⟨#[]⟩ : ByteArray)), (0), (by first | rfl | (simp; done) | (simp [*]; done)), (by first | rfl | (simp; done) | (simp [*]; done)), H', ⟨Nat.le_refl _⟩, ⟨by (with_reducible repeat (first | apply Kd.S_alloc | apply Kd.S_drewN | apply Kd.S_drew)); exact Kd.S_mono HO252.out (fun _ hk => hk.2)⟩, ⟨by (with_reducible repeat (first | refine kN ?_ _ | refine kD ?_ | refine kA ?_ _)); exact BK246.out⟩, ⟨by repeat (first | (with_reducible first | exact HB.out | apply bA | apply bN | apply bE | refine bS ?_ GE246.out) | exact HB.out)⟩⟩
     case round =>
      clear H'
      try clear c1
      try clear p2
      try clear c4
      try clear c5
      try clear c6
      try clear c7
      try clear c13
      try clear c14
      try clear c15
      try clear hcz11_0
      try clear hcz11_1
      try clear hcz11_2
      try clear hcz11_3
      try clear hcz11_4
      try clear hcz16_0
      try clear hcz16_1
      try clear hcz16_2
      try clear hcz16_3
      try clear hcz16_4
      try clear hcz9_0
      try clear hcz9_1
      try clear hcz9_2
      try clear hcz9_3
      try clear hcz9_4
      try clear hfz11_0
      try clear hfz11_1
      try clear hfz11_2
      try clear hfz11_3
      try clear hfz11_4
      try clear hfz16_0
      try clear hfz16_1
      try clear hfz16_2
      try clear hfz16_3
      try clear hfz16_4
      try clear hfz9_0
      try clear hfz9_1
      try clear hfz9_2
      try clear hfz9_3
      try clear hfz9_4
      try clear p2
      obtain ⟨x10_2, x33_2, rfl, rfl, HA, HK2, HO_31, BK246, HB⟩ := hrel
      cases gk with
      | zero => exact absurd HA.out (by simp [impl_ScanOf.l0])
      | succ k2 =>
       have H := HA.out
       clear HA
       simp only [impl_ScanOf.l0] at H
       by_cases c19 : x33_2 < (t250.length : Int)
       ·rw [if_pos c19] at H
        have c19b0 : decide (x33_2 < (t250.length : Int)) = true := decide_eq_true c19
        clear c19
        by_cases c20 : 0 ≤ x33_2
        ·rw [if_pos c20] at H
         have c20b0 : decide (0 ≤ x33_2) = true := decide_eq_true c20
         clear c20
         by_cases c21 : x33_2 < (t250.length : Int)
         ·rw [if_pos c21] at H
          have c21b0 : decide (x33_2 < (t250.length : Int)) = true := decide_eq_true c21
          clear c21
          replace H := oB.mp H
          obtain ⟨t256, A220, H⟩ := H
          replace H : (if x10_2.size + t256.size ≤ 9223372036854775807 then (impl_ScanOf.l0 k2 a2 (x10_2 ++ t256) t250 (t250.length : Int) (wrap64 (x33_2 + 1))) else (none)) = some (r1, r2) := H
          have A22 := aM A220
          clear A220
          by_cases c23 : x10_2.size + t256.size ≤ 9223372036854775807
          ·rw [if_pos c23] at H
           have c23b0 := eq_true c23
           have c23b1 : decide (x10_2.size + t256.size ≤ 9223372036854775807) = true := decide_eq_true c23
           try have c23b2 : (9223372036854775807 < x10_2.size + t256.size) = False := eq_false (Nat.not_lt.2 c23)
           have H' := aM H
           clear H
           have p254 : 0 ≤ (x33_2 : Int) := oD (by first | (with_reducible assumption) | assumption)
           have q254 : x33_2 < (t250.length : Int) := oD (by first | (with_reducible assumption) | assumption)
           obtain ⟨ad254, A254_4, c254_4, e254, hx254_0, hx254_1, hx254_2, hx254_3, hx254_4, hl254_4, hi254_4⟩ := at_T29 (Kd.S_reads' HO_31.out).2.2 x33_2 p254 q254
           cases e254
           obtain ⟨ce254, hce254, hMe254, hcc254⟩ := Kd.S_get HO_31.out z29 x33_2 p254 (by first | exact q254 | exact oD (by first | (with_reducible assumption) | assumption) | (have e_ := (Kd.S_reads' HO_31.out).1; omega))
           obtain ⟨ve254_4, rfl, ge254_4⟩ := k29_openM hMe254
           have hv254_4 := hcc254 4 _ rfl
           rw [add_field _ _ 4 (by omega)] at hv254_4
           replace hv254_4 := Option.some.inj (hv254_4.symm.trans hx254_4)
           rw [hv254_4] at ge254_4
           have HL254_4 := aM (show Kd.R (Kd.int .i64) 3 _ _ _ _ ((rd_T29 t250 x33_2).f4) from ge254_4)
           clear hv254_4 ge254_4
           clear hcc254 hce254
           have HR254_4 := aM hi254_4
           have HC254_4 := aM hl254_4
           clear hi254_4 hl254_4
           replace p254 := eq_true p254
           replace q254 := eq_true q254
           go_wp2_with (first | ((with_reducible refine gate_dst (N := 12) rfl ?_); refine box_event ?hg (N := 12) ?hd (cs := #[.int .i64 0, .int .i64 0, .int .i64 0, .int .i64 0, .slice none 0 0]) (t := 29) ?hr ?_; (case hd => rfl); (case hg => rfl); (case hr => first | (go_simp; done) | (go_simp; rfl)); intro gb255 hg w24 hbox hb; have n0_ := aM (Kd.S_below (Kd.S_elderB (by (with_reducible repeat (first | apply Kd.S_alloc | apply Kd.S_drewN | apply Kd.S_drew)); exact HO_31.out) gb255 (Nat.le_of_eq hg.symm)) hb); have n1_ := aM (Kd.R_below (by (with_reducible repeat (first | apply rA | apply rN | apply rD)); exact HL254_4.out) hb); have n2_ := aM (kB (g := gb246) (o := .cells #[.int .i64 a0_0, .int .i64 a0_1, .int .i64 a0_2, .int .i64 a0_3, .slice A0_4 l0_4.length c0_4] 29 (0, 0)) (by (with_reducible repeat (first | refine kN ?_ _ | refine kD ?_ | refine kA ?_ _)); exact BK246.out) hb); have n3_ := aM (Kd.C_below (by repeat (first | (with_reducible exact HR254_4.out) | (with_reducible refine cA ?_ _) | (with_reducible refine cN ?_ _) | (with_reducible refine cD ?_) | exact HR254_4.out)) hb); have n4_ := aM (bT (by repeat (first | (with_reducible first | exact HB.out | apply bA | apply bN | apply bE | refine bS ?_ GE246.out) | exact HB.out)) hb); have n5_ := aM (hbox); have n6_ := aM ((by rw [hg]; exact (bZ (by repeat (first | (with_reducible first | exact HB.out | apply bA | apply bN | apply bE | refine bS ?_ GE246.out) | exact HB.out))) : w.heap.size ≤ gb255)); have n7_ := aM ((by rw [hg]; exact (bZ (by repeat (first | (with_reducible first | exact HB.out | apply bA | apply bN | apply bE | refine bS ?_ GE246.out) | exact HB.out))) : w.heap.size ≤ gb255)); have n8_ := aM ((by rw [hg]; exact Nat.ne_of_lt (blk_lt (g := gb246) (o := .cells #[.int .i64 a0_0, .int .i64 a0_1, .int .i64 a0_2, .int .i64 a0_3, .slice A0_4 l0_4.length c0_4] 29 (0, 0)) (by (with_reducible repeat (first | refine kN ?_ _ | refine kD ?_ | refine kA ?_ _)); exact BK246.out)) : gb246 ≠ gb255)); have n9_ := aM ((by rw [hg]; exact Nat.ne_of_gt (blk_lt (g := gb246) (o := .cells #[.int .i64 a0_0, .int .i64 a0_1, .int .i64 a0_2, .int .i64 a0_3, .slice A0_4 l0_4.length c0_4] 29 (0, 0)) (by (with_reducible repeat (first | refine kN ?_ _ | refine kD ?_ | refine kA ?_ _)); exact BK246.out)) : gb255 ≠ gb246)); clear HO_31; clear HL254_4; clear BK246; clear HR254_4; clear HB; have HO_31 := n0_; have HL254_4 := n1_; have BK246 := n2_; have HR254_4 := n3_; have HB := n4_; have BK255 := n5_; have GW255 := n6_; have GE255 := n7_; have NB246_255 := n8_; have NB255_246 := n9_; clear n0_ n1_ n2_ n3_ n4_ n5_ n6_ n7_ n8_ n9_; clear hb hbox hg; have hnb25 := NB255_246.out; have hnc25 := NB246_255.out; obtain ⟨hcz26_0, hcz26_1, hcz26_2, hcz26_3, hcz26_4⟩ := blk_c5 BK255.out; obtain ⟨hfz26_0, hfz26_1, hfz26_2, hfz26_3, hfz26_4⟩ := blk_f5 BK255.out) | ((with_reducible refine gate_callee (f := 111) rfl ?_); refine goesL_ (some 40) rfl rfl Try.func111 (by kernel_rfl) rfl #[.agg #[.int .i64 ((rd_T29 t250 x33_2).f0), .int .i64 ((rd_T29 t250 x33_2).f1), .int .i64 ((rd_T29 t250 x33_2).f2), .int .i64 ((rd_T29 t250 x33_2).f3), .slice A254_4 ((rd_T29 t250 x33_2).f4).length c254_4], .int .i64 a2] rfl (by (try simp only [lM, List.map_cons, List.map_nil]); first | done | rfl | (simp only [lD, lT]; rfl)) ?_; (with_reducible refine (impl_scanRows.calls k2 ((rd_T29 t250 x33_2).f0) ((rd_T29 t250 x33_2).f1) ((rd_T29 t250 x33_2).f2) ((rd_T29 t250 x33_2).f3) _ _ ((rd_T29 t250 x33_2).f4) a2 t256 _ ?side1 ?side2 A22.out).mono ?_); (case side1 => repeat (first | exact ((Kd.R_reads' (by (with_reducible repeat (first | apply rA | apply rN | apply rD)); exact (Kd.R_mono (Kd.R_far (p := ⟨gb255, 4, none⟩) (Kd.R_far (p := ⟨gb255, 3, none⟩) (Kd.R_far (p := ⟨gb255, 2, none⟩) (Kd.R_far (p := ⟨gb255, 1, none⟩) (Kd.R_far (p := ⟨gb255, 0, none⟩) (Kd.R_types HL254_4.out BK255.out (by decide)) (fun _ hk => hk.2) (.int .i64 ((rd_T29 t250 x33_2).f0))) (fun _ hk => hk.2) (.int .i64 ((rd_T29 t250 x33_2).f1))) (fun _ hk => hk.2) (.int .i64 ((rd_T29 t250 x33_2).f2))) (fun _ hk => hk.2) (.int .i64 ((rd_T29 t250 x33_2).f3))) (fun _ hk => hk.2) (.slice A254_4 ((rd_T29 t250 x33_2).f4).length c254_4)) (fun _ h_ => h_.1)))).2.2) | (with_reducible refine cA ?_ _) | (with_reducible refine cN ?_ _) | (with_reducible refine cD ?_))); (case side2 => exact HC254_4.out); rintro e w27 ⟨rfl, hb⟩; refine ⟨_, rfl, ?_⟩; have n0_ := aM (Kd.S_below (by (with_reducible repeat (first | apply Kd.S_alloc | apply Kd.S_drewN | apply Kd.S_drew)); exact (Kd.S_mono (Kd.S_far (p := ⟨gb255, 4, none⟩) (Kd.S_far (p := ⟨gb255, 3, none⟩) (Kd.S_far (p := ⟨gb255, 2, none⟩) (Kd.S_far (p := ⟨gb255, 1, none⟩) (Kd.S_far (p := ⟨gb255, 0, none⟩) (Kd.S_mono HO_31.out (fun k_ hk => (⟨hk, hk.2⟩ : _ ∧ k_ ≠ gb255))) (fun _ hk => hk.2) (.int .i64 ((rd_T29 t250 x33_2).f0))) (fun _ hk => hk.2) (.int .i64 ((rd_T29 t250 x33_2).f1))) (fun _ hk => hk.2) (.int .i64 ((rd_T29 t250 x33_2).f2))) (fun _ hk => hk.2) (.int .i64 ((rd_T29 t250 x33_2).f3))) (fun _ hk => hk.2) (.slice A254_4 ((rd_T29 t250 x33_2).f4).length c254_4)) (fun _ h_ => h_.1))) hb); have n1_ := aM (Kd.R_below (by (with_reducible repeat (first | apply rA | apply rN | apply rD)); exact (Kd.R_mono (Kd.R_far (p := ⟨gb255, 4, none⟩) (Kd.R_far (p := ⟨gb255, 3, none⟩) (Kd.R_far (p := ⟨gb255, 2, none⟩) (Kd.R_far (p := ⟨gb255, 1, none⟩) (Kd.R_far (p := ⟨gb255, 0, none⟩) (Kd.R_types HL254_4.out BK255.out (by decide)) (fun _ hk => hk.2) (.int .i64 ((rd_T29 t250 x33_2).f0))) (fun _ hk => hk.2) (.int .i64 ((rd_T29 t250 x33_2).f1))) (fun _ hk => hk.2) (.int .i64 ((rd_T29 t250 x33_2).f2))) (fun _ hk => hk.2) (.int .i64 ((rd_T29 t250 x33_2).f3))) (fun _ hk => hk.2) (.slice A254_4 ((rd_T29 t250 x33_2).f4).length c254_4)) (fun _ h_ => h_.1))) hb); have n2_ := aM (kB (g := gb246) (o := .cells #[.int .i64 a0_0, .int .i64 a0_1, .int .i64 a0_2, .int .i64 a0_3, .slice A0_4 l0_4.length c0_4] 29 (0, 0)) (by (with_reducible repeat (first | refine kN ?_ _ | refine kD ?_ | refine kA ?_ _)); refine blk_far ?_ NB246_255.out _; (with_reducible repeat (first | refine kN ?_ _ | refine kD ?_ | refine kA ?_ _)); refine blk_far ?_ NB246_255.out _; (with_reducible repeat (first | refine kN ?_ _ | refine kD ?_ | refine kA ?_ _)); refine blk_far ?_ NB246_255.out _; (with_reducible repeat (first | refine kN ?_ _ | refine kD ?_ | refine kA ?_ _)); refine blk_far ?_ NB246_255.out _; (with_reducible repeat (first | refine kN ?_ _ | refine kD ?_ | refine kA ?_ _)); refine blk_far ?_ NB246_255.out _; (with_reducible repeat (first | refine kN ?_ _ | refine kD ?_ | refine kA ?_ _)); exact BK246.out) hb); have n3_ := aM (Kd.C_below ((Kd.R_reads' (by (with_reducible repeat (first | apply rA | apply rN | apply rD)); exact (Kd.R_mono (Kd.R_far (p := ⟨gb255, 4, none⟩) (Kd.R_far (p := ⟨gb255, 3, none⟩) (Kd.R_far (p := ⟨gb255, 2, none⟩) (Kd.R_far (p := ⟨gb255, 1, none⟩) (Kd.R_far (p := ⟨gb255, 0, none⟩) (Kd.R_types HL254_4.out BK255.out (by decide)) (fun _ hk => hk.2) (.int .i64 ((rd_T29 t250 x33_2).f0))) (fun _ hk => hk.2) (.int .i64 ((rd_T29 t250 x33_2).f1))) (fun _ hk => hk.2) (.int .i64 ((rd_T29 t250 x33_2).f2))) (fun _ hk => hk.2) (.int .i64 ((rd_T29 t250 x33_2).f3))) (fun _ hk => hk.2) (.slice A254_4 ((rd_T29 t250 x33_2).f4).length c254_4)) (fun _ h_ => h_.1)))).2.2) hb); have n4_ := aM (kB (g := gb255) (o := .cells #[.int .i64 ((rd_T29 t250 x33_2).f0), .int .i64 ((rd_T29 t250 x33_2).f1), .int .i64 ((rd_T29 t250 x33_2).f2), .int .i64 ((rd_T29 t250 x33_2).f3), .slice A254_4 ((rd_T29 t250 x33_2).f4).length c254_4] 29 (0, 0)) (by (with_reducible repeat (first | refine kN ?_ _ | refine kD ?_ | refine kA ?_ _)); refine blk_put (cs := #[.int .i64 ((rd_T29 t250 x33_2).f0), .int .i64 ((rd_T29 t250 x33_2).f1), .int .i64 ((rd_T29 t250 x33_2).f2), .int .i64 ((rd_T29 t250 x33_2).f3), .slice none 0 0]) ?_ 4 _ rfl; (with_reducible repeat (first | refine kN ?_ _ | refine kD ?_ | refine kA ?_ _)); refine blk_put (cs := #[.int .i64 ((rd_T29 t250 x33_2).f0), .int .i64 ((rd_T29 t250 x33_2).f1), .int .i64 ((rd_T29 t250 x33_2).f2), .int .i64 0, .slice none 0 0]) ?_ 3 _ rfl; (with_reducible repeat (first | refine kN ?_ _ | refine kD ?_ | refine kA ?_ _)); refine blk_put (cs := #[.int .i64 ((rd_T29 t250 x33_2).f0), .int .i64 ((rd_T29 t250 x33_2).f1), .int .i64 0, .int .i64 0, .slice none 0 0]) ?_ 2 _ rfl; (with_reducible repeat (first | refine kN ?_ _ | refine kD ?_ | refine kA ?_ _)); refine blk_put (cs := #[.int .i64 ((rd_T29 t250 x33_2).f0), .int .i64 0, .int .i64 0, .int .i64 0, .slice none 0 0]) ?_ 1 _ rfl; (with_reducible repeat (first | refine kN ?_ _ | refine kD ?_ | refine kA ?_ _)); refine blk_put (cs := #[.int .i64 0, .int .i64 0, .int .i64 0, .int .i64 0, .slice none 0 0]) ?_ 0 _ rfl; (with_reducible repeat (first | refine kN ?_ _ | refine kD ?_ | refine kA ?_ _)); exact BK255.out) hb); have n5_ := aM (bT (by repeat (first | (with_reducible first | exact HB.out | apply bA | apply bN | apply bE | refine bS ?_ GE246.out | refine bS ?_ GE255.out) | exact HB.out)) hb); clear HO_31; clear HL254_4; clear BK246; clear HR254_4; clear BK255; clear HB; have HO_31 := n0_; have HL254_4 := n1_; have BK246 := n2_; have HR254_4 := n3_; have BK255 := n4_; have HB := n5_; clear n0_ n1_ n2_ n3_ n4_ n5_; (try clear hb); (try clear hb2); (try clear hk); (try clear hi)))
           go_roundg k2
           case measure => have := HJ3.out; have := HK2.out; omega
           case rel => exact ⟨(x10_2 ++ t256), (wrap64 (x33_2 + 1)), (by first | rfl | (simp; done) | (simp [*]; done)), (by first | rfl | (simp; done) | (simp [*]; done)), H', ⟨by have := HJ3.out; have := HK2.out; omega⟩, ⟨by (with_reducible repeat (first | apply Kd.S_alloc | apply Kd.S_drewN | apply Kd.S_drew)); exact Kd.S_mono HO_31.out (fun _ hk => hk.1)⟩, ⟨by (with_reducible repeat (first | refine kN ?_ _ | refine kD ?_ | refine kA ?_ _)); exact BK246.out⟩, ⟨by repeat (first | (with_reducible first | exact HB.out | apply bA | apply bN | apply bE | refine bS ?_ GE246.out | refine bS ?_ GE255.out) | exact HB.out)⟩⟩
          ·rw [if_neg c23] at H
           exact absurd H (by simp)
         ·rw [if_neg c21] at H
          exact absurd H (by simp)
        ·rw [if_neg c20] at H
         exact absurd H (by simp)
       ·rw [if_neg c19] at H
        have c19b0 : decide (x33_2 < (t250.length : Int)) = false := decide_eq_false c19
        clear c19
        simp only [Option.some.injEq, Prod.mk.injEq] at H
        obtain ⟨rfl, rfl⟩ := H
        go_wp2
        go_ret2
        exact ⟨by first | rfl | (simp [errW_none, errW_some] <;> rfl) | (simp [*, errW_none, errW_some] <;> rfl), by repeat (first | (with_reducible first | exact HB.out | apply bA | apply bN | apply bE | refine bS ?_ GE246.out) | exact HB.out)⟩
    ·replace c14 := Bool.eq_false_iff.mpr c14
     subst c14
     have H1 : ((impl_scanRows.f kj3 a0_0 a0_1 a0_2 a0_3 l0_4 a2).bind fun t249 => (some (t249, true))) = some (r1, r2) := by rw [if_neg (show ¬ (false = true) by decide)] at H; first | done | exact H
     clear H
     have H := H1
     clear H1
     replace H := oB.mp H
     obtain ⟨t249, A280, H⟩ := H
     replace H : (some (t249, true)) = some (r1, r2) := H
     have A28 := aM A280
     clear A280
     simp only [Option.some.injEq, Prod.mk.injEq] at H
     obtain ⟨rfl, rfl⟩ := H
     obtain ⟨hcz29_0, hcz29_1, hcz29_2, hcz29_3, hcz29_4⟩ := blk_c5 BK246.out
     obtain ⟨hfz29_0, hfz29_1, hfz29_2, hfz29_3, hfz29_4⟩ := blk_f5 BK246.out
     go_wp2_with (first | ((with_reducible refine gate_callee (f := 111) rfl ?_); refine goesL_ (some 25) rfl rfl Try.func111 (by kernel_rfl) rfl #[.agg #[.int .i64 a0_0, .int .i64 a0_1, .int .i64 a0_2, .int .i64 a0_3, .slice A0_4 l0_4.length c0_4], .int .i64 a2] rfl (by (try simp only [lM, List.map_cons, List.map_nil]); first | done | rfl | (simp only [lD, lT]; rfl)) ?_; (with_reducible refine (impl_scanRows.calls kj3 a0_0 a0_1 a0_2 a0_3 _ _ l0_4 a2 t249 _ ?side1 ?side2 A28.out).mono ?_); (case side1 => repeat (first | exact (Kd.C_below HR0_4.out HB.out) | (with_reducible refine cA ?_ _) | (with_reducible refine cN ?_ _) | (with_reducible refine cD ?_))); (case side2 => exact HC0_4.out); rintro e w30 ⟨rfl, hb⟩; refine ⟨_, rfl, ?_⟩; have n0_ := aM (kB (g := gb246) (o := .cells #[.int .i64 a0_0, .int .i64 a0_1, .int .i64 a0_2, .int .i64 a0_3, .slice A0_4 l0_4.length c0_4] 29 (0, 0)) (by (with_reducible repeat (first | refine kN ?_ _ | refine kD ?_ | refine kA ?_ _)); exact BK246.out) hb); have n1_ := aM (bT (by repeat (first | (with_reducible first | exact HB.out | apply bA | apply bN | apply bE | refine bS ?_ GE246.out) | exact HB.out)) hb); clear BK246; clear HB; have BK246 := n0_; have HB := n1_; clear n0_ n1_; (try clear hb); (try clear hb2); (try clear hk); (try clear hi)))
     go_ret2
     exact ⟨by first | rfl | (simp [errW_none, errW_some] <;> rfl) | (simp [*, errW_none, errW_some] <;> rfl), by repeat (first | (with_reducible first | exact HB.out | apply bA | apply bN | apply bE | refine bS ?_ GE246.out) | exact HB.out)⟩

/-! ### spec_l01In: function 129 -/
def spec_l01In.f (a0 : Int) (a1 : Int) (a2 : Int) : Option (Bool) := if a0 ≥ a1 then (some (decide (a0 ≤ a2))) else (some false)
set_option maxHeartbeats 8000000 in
set_option maxRecDepth 100000 in
theorem spec_l01In.calls (a0 : Int) (a1 : Int) (a2 : Int) (r : Bool) (w : World) (h : spec_l01In.f a0 a1 a2 = some r) :
  Calls Try.prog 129 #[.int .i64 a0, .int .i64 a1, .int .i64 a2] w fun e w' => e = .returned (.bool r) ∧ Drawn0 w w' := by
 have H : (if a0 ≥ a1 then (some (decide (a0 ≤ a2))) else (some false)) = some r := h
 clear h
 by_cases c4 : a0 ≥ a1
 ·rw [if_pos c4] at H
  have c4b0 : decide (a1 ≤ a0) = true := decide_eq_true c4
  clear c4
  obtain rfl := Option.some.inj H
  go_enter Try.func129, Try.ntmps129
  go_wp2
  go_ret
  exact ⟨by first | rfl | (simp; done) | (simp [*]; done), by repeat (first | exact Drawn0.refl _ | apply Drawn0.step)⟩
 ·rw [if_neg c4] at H
  have c4b0 : decide (a1 ≤ a0) = false := decide_eq_false c4
  clear c4
  obtain rfl := Option.some.inj H
  go_enter Try.func129, Try.ntmps129
  go_wp2
  go_ret
  exact ⟨by first | rfl | (simp; done) | (simp [*]; done), by repeat (first | exact Drawn0.refl _ | apply Drawn0.step)⟩

/-! ### spec_l12Side: function 77 -/
def spec_l12Side.f (a0 : Int) : Option (Bool) := (spec_l01In.f a0 1 24).bind fun t257 => (some t257)
set_option maxHeartbeats 8000000 in
set_option maxRecDepth 100000 in
theorem spec_l12Side.calls (a0 : Int) (r : Bool) (w : World) (h : spec_l12Side.f a0 = some r) :
  Calls Try.prog 77 #[.int .i64 a0] w fun e w' => e = .returned (.bool r) ∧ Drawn0 w w' := by
 have H : ((spec_l01In.f a0 1 24).bind fun t257 => (some t257)) = some r := h
 clear h
 replace H := oB.mp H
 obtain ⟨t257, A20, H⟩ := H
 replace H : (some t257) = some r := H
 have A2 := aM A20
 clear A20
 obtain rfl := Option.some.inj H
 go_enter Try.func77, Try.ntmps77
 go_wp2_with (first | ((with_reducible refine gate_callee (f := 129) rfl ?_); refine goesL_ (some 4) rfl rfl Try.func129 (by kernel_rfl) rfl #[.int .i64 a0, .int .i64 1, .int .i64 24] rfl (by (try simp only [lM, List.map_cons, List.map_nil]); first | done | rfl | (simp only [lD, lT]; rfl)) ?_; (with_reducible refine (spec_l01In.calls a0 1 24 t257 _ A2.out).mono ?_); rintro e w' ⟨rfl, ⟨nd, rfl⟩⟩; refine ⟨_, rfl, ?_⟩))
 go_ret
 exact ⟨by first | rfl | (simp; done) | (simp [*]; done), by repeat (first | exact Drawn0.refl _ | apply Drawn0.step)⟩

end Go.Proofs.Ytajnobmnkbkkgaa.PFnExactScanOf
