/- Walks of functions that the law FnExactScanOf reaches: each call comes to what the Lean function of its name tells. Written by p2.py, a program of this session, by way of the kit's print. -/
import Derived.Test.YtajnobmnkbkkgaaPFnExactScanOfx0
import Derived.Test.YtajnobmnkbkkgaaPFnExactScanOfx1
namespace Go.Proofs.Ytajnobmnkbkkgaa.PFnExactScanOf
open Go.RowKit Go.Proofs.YtajnobmnkbkkgaaW.PrintWords Go.Proofs.YtajnobmnkbkkgaaW.PrintLast Go.Proofs.YtajnobmnkbkkgaaW.PrintMore
attribute [local go_sem] max2_int min2_int max_two min_two max_three min_three max_four min_four   -- for this text's walks alone
set_option linter.unusedVariables false
set_option linter.unusedSimpArgs false

/-! ### impl_powerOf: function 126 -/
def impl_powerOf.f (a0 : Int) : Option (Int) := (impl_within.f a0 0 62).bind fun t123 => (if t123 = true then (if 0 ≤ a0 then (some (shl .i64 1 a0)) else (none)) else (some 0))
set_option maxHeartbeats 8000000 in
set_option maxRecDepth 100000 in
theorem impl_powerOf.calls (a0 : Int) (r : Int) (w : World) (h : impl_powerOf.f a0 = some r) :
  Calls Try.prog 126 #[.int .i64 a0] w fun e w' => e = .returned (.int .i64 r) ∧ Drawn0 w w' := by
 have H : ((impl_within.f a0 0 62).bind fun t123 => (if t123 = true then (if 0 ≤ a0 then (some (shl .i64 1 a0)) else (none)) else (some 0))) = some r := h
 clear h
 replace H := oB.mp H
 obtain ⟨t123, A20, H⟩ := H
 replace H : (if t123 = true then (if 0 ≤ a0 then (some (shl .i64 1 a0)) else (none)) else (some 0)) = some r := H
 have A2 := aM A20
 clear A20
 by_cases c3 : t123 = true
 ·subst c3
  have H1 : (if 0 ≤ a0 then (some (shl .i64 1 a0)) else (none)) = some r := by rw [if_pos rfl] at H; first | done | exact H
  clear H
  have H := H1
  clear H1
  by_cases c4 : 0 ≤ a0
  ·rw [if_pos c4] at H
   have c4b0 := eq_true c4
   have c4b1 : decide (0 ≤ a0) = true := decide_eq_true c4
   clear c4
   obtain ⟨ji5, hji5⟩ : ∃ j_ : Int, (shl .i64 1 a0) = j_ := ⟨_, rfl⟩
   replace H : (some ji5) = some r := by first | (rw [hji5] at H; exact H) | (simp only [hji5] at H ⊢; exact H)
   (try rw [hji5] at A2)
   have hji5_ : (IntKind.i64.wrap (1 * 2 ^ min a0.toNat 64)) = ji5 := hji5
   have hji5z : a0 ≤ 64 → (IntKind.i64.wrap (1 * 2 ^ a0.toNat)) = ji5 := shl_small hji5
   have hji5u : (IntKind.i64.wrap (2 ^ min a0.toNat 64)) = ji5 := by have h_ := hji5_; rw [Int.one_mul] at h_; exact h_
   have hji5v : a0 ≤ 64 → (IntKind.i64.wrap (2 ^ a0.toNat)) = ji5 := fun hle_ => by have h_ := hji5z hle_; rw [Int.one_mul] at h_; exact h_
   have hji5y : (wrap64 (1 * 2 ^ min a0.toNat 64)) = ji5 := (i64_w _).symm.trans hji5_
   have hji5x : a0 ≤ 64 → (wrap64 (1 * 2 ^ a0.toNat)) = ji5 := fun h_ => (i64_w _).symm.trans (hji5z h_)
   obtain rfl := Option.some.inj H
   go_enter Try.func126, Try.ntmps126
   go_wp2_with (first | ((with_reducible refine gate_callee (f := 82) rfl ?_); refine goesL_ (some 4) rfl rfl Try.func82 (by kernel_rfl) rfl #[.int .i64 a0, .int .i64 0, .int .i64 62] rfl (by (try simp only [lM, List.map_cons, List.map_nil]); first | done | rfl | (simp only [lD, lT]; rfl)) ?_; (with_reducible refine (impl_within.calls a0 0 62 true _ A2.out).mono ?_); rintro e w' ⟨rfl, ⟨nd, rfl⟩⟩; refine ⟨_, rfl, ?_⟩))
   go_ret
   exact ⟨by first | rfl | (simp; done) | (simp only [← hji5] <;> (first | rfl | simp)) | (simp [*]; done), by repeat (first | exact Drawn0.refl _ | apply Drawn0.step)⟩
  ·rw [if_neg c4] at H
   exact absurd H (by simp)
 ·replace c3 := Bool.eq_false_iff.mpr c3
  subst c3
  have H1 : (some 0) = some r := by rw [if_neg (show ¬ (false = true) by decide)] at H; first | done | exact H
  clear H
  have H := H1
  clear H1
  obtain rfl := Option.some.inj H
  go_enter Try.func126, Try.ntmps126
  go_wp2_with (first | ((with_reducible refine gate_callee (f := 82) rfl ?_); refine goesL_ (some 4) rfl rfl Try.func82 (by kernel_rfl) rfl #[.int .i64 a0, .int .i64 0, .int .i64 62] rfl (by (try simp only [lM, List.map_cons, List.map_nil]); first | done | rfl | (simp only [lD, lT]; rfl)) ?_; (with_reducible refine (impl_within.calls a0 0 62 false _ A2.out).mono ?_); rintro e w' ⟨rfl, ⟨nd, rfl⟩⟩; refine ⟨_, rfl, ?_⟩))
  go_ret
  exact ⟨by first | rfl | (simp; done) | (simp [*]; done), by repeat (first | exact Drawn0.refl _ | apply Drawn0.step)⟩

/-! ### impl_samplesOk: function 139 -/
def impl_samplesOk.l0 : Nat → Int → List Int → Int → Int → Option (Bool)
 | 0, _, _, _, _ => none
 | k + 1, x1, x7, x8, x9 => if x9 < x8 then (if 0 ≤ x9 then (if x9 < (x7.length : Int) then ((impl_powerOf.f x1).bind fun t125 => ((impl_within.f (rd x7 x9) 0 (wrap64 (t125 - 1))).bind fun t126 => (if t126 = true then (impl_samplesOk.l0 k x1 x7 x8 (wrap64 (x9 + 1))) else (some false)))) else (none)) else (none)) else (some true)
def impl_samplesOk.f (k : Nat) (l0 : List Int) (a1 : Int) : Option (Bool) := impl_samplesOk.l0 k a1 l0 (l0.length : Int) 0
theorem impl_samplesOk.mono_l : ∀ k, (∀ y0 y1 y2 y3, LeO (impl_samplesOk.l0 k y0 y1 y2 y3) (impl_samplesOk.l0 (k + 1) y0 y1 y2 y3))
 | 0 => fun _ _ _ _ r h => by simp [impl_samplesOk.l0] at h
 | k + 1 => by
  have ih0 := impl_samplesOk.mono_l k
  ·intro y0 y1 y2 y3
   unfold impl_samplesOk.l0
   repeat' first
   | (with_reducible exact ih0 _ _ _ _)
   | (with_reducible exact LeO.refl _)
   | (with_reducible exact LeO.none _)
   | (with_reducible refine LeO.ite ?_ ?_)
   | (with_reducible refine LeO.bind ?_ (fun _ => ?_))
   | exact ih0 _ _ _ _
   | exact LeO.none _
   | refine LeO.ite ?_ ?_
   | refine LeO.bind ?_ (fun _ => ?_)
theorem impl_samplesOk.mono : ∀ a0 a1 k, LeO (impl_samplesOk.f k a0 a1) (impl_samplesOk.f (k + 1) a0 a1) := by
 intro a0 a1 k
 have ih0 := impl_samplesOk.mono_l k
 unfold impl_samplesOk.f
 repeat' first
   | (with_reducible exact ih0 _ _ _ _)
   | (with_reducible exact LeO.refl _)
   | (with_reducible exact LeO.none _)
   | (with_reducible refine LeO.ite ?_ ?_)
   | (with_reducible refine LeO.bind ?_ (fun _ => ?_))
   | exact ih0 _ _ _ _
   | exact LeO.none _
   | refine LeO.ite ?_ ?_
   | refine LeO.bind ?_ (fun _ => ?_)
set_option maxHeartbeats 8000000 in
set_option maxRecDepth 100000 in
theorem impl_samplesOk.calls (k : Nat) (A0 : Option Addr) (c0 : Nat) (l0 : List Int) (a1 : Int) (r : Bool) (w : World) (hr0 : Kd.C (Kd.int .i64) w A0 l0.length l0) (hc0 : l0.length ≤ c0) (h : impl_samplesOk.f k l0 a1 = some r) :
  Calls Try.prog 139 #[.slice A0 l0.length c0, .int .i64 a1] w fun e w' => e = .returned (.bool r) ∧ Drawn0 w w' := by
 have HR0 := aM hr0
 have HC0 := aM hc0
 clear hr0 hc0
 have H : (impl_samplesOk.l0 k a1 l0 (l0.length : Int) 0) = some r := h
 clear h
 have H' := aM H
 clear H
 go_enter Try.func139, Try.ntmps139
 go_wp2
 go_loopg [9] k (fun kq v9 w' => ∃ (x9_1 : Int), v9 = .int .i64 x9_1 ∧ Aside0 (impl_samplesOk.l0 kq a1 l0 (l0.length : Int) x9_1 = some r) ∧ Aside0 (kq ≤ k) ∧ Drawn0 w w')
 case atStart => exact ⟨(0), (by first | rfl | (simp; done) | (simp [*]; done)), H', ⟨Nat.le_refl _⟩, by repeat (first | exact Drawn0.refl _ | apply Drawn0.step)⟩
 case round =>
  clear H'
  try clear c1
  try clear p2
  obtain ⟨x9_1, rfl, HA, HK1, ⟨m1, rfl⟩⟩ := hrel
  cases gk with
  | zero => exact absurd HA.out (by simp [impl_samplesOk.l0])
  | succ k1 =>
   have H := HA.out
   clear HA
   simp only [impl_samplesOk.l0] at H
   by_cases c3 : x9_1 < (l0.length : Int)
   ·rw [if_pos c3] at H
    have c3b0 : decide (x9_1 < (l0.length : Int)) = true := decide_eq_true c3
    clear c3
    by_cases c4 : 0 ≤ x9_1
    ·rw [if_pos c4] at H
     have c4b0 : decide (0 ≤ x9_1) = true := decide_eq_true c4
     clear c4
     by_cases c5 : x9_1 < (l0.length : Int)
     ·rw [if_pos c5] at H
      have c5b0 : decide (x9_1 < (l0.length : Int)) = true := decide_eq_true c5
      clear c5
      replace H := oB.mp H
      obtain ⟨t125, A60, H⟩ := H
      replace H : ((impl_within.f (rd l0 x9_1) 0 (wrap64 (t125 - 1))).bind fun t126 => (if t126 = true then (impl_samplesOk.l0 k1 a1 l0 (l0.length : Int) (wrap64 (x9_1 + 1))) else (some false))) = some r := H
      have A6 := aM A60
      clear A60
      replace H := oB.mp H
      obtain ⟨t126, A70, H⟩ := H
      replace H : (if t126 = true then (impl_samplesOk.l0 k1 a1 l0 (l0.length : Int) (wrap64 (x9_1 + 1))) else (some false)) = some r := H
      have A7 := aM A70
      clear A70
      by_cases c8 : t126 = true
      ·subst c8
       have H1 : (impl_samplesOk.l0 k1 a1 l0 (l0.length : Int) (wrap64 (x9_1 + 1))) = some r := by rw [if_pos rfl] at H; first | done | exact H
       clear H
       have H := H1
       clear H1
       have H' := aM H
       clear H
       have p124 : 0 ≤ (x9_1 : Int) := oD (by first | (with_reducible assumption) | assumption)
       have q124 : x9_1 < (l0.length : Int) := oD (by first | (with_reducible assumption) | assumption)
       obtain ⟨ad124, e124, hx124_0⟩ := Kd.at_int HR0.out x9_1 p124 q124
       cases e124
       replace p124 := eq_true p124
       replace q124 := eq_true q124
       go_wp2_with (first | ((with_reducible refine gate_callee (f := 126) rfl ?_); refine goesL_ (some 15) rfl rfl Try.func126 (by kernel_rfl) rfl #[.int .i64 a1] rfl (by (try simp only [lM, List.map_cons, List.map_nil]); first | done | rfl | (simp only [lD, lT]; rfl)) ?_; (with_reducible refine (impl_powerOf.calls a1 t125 _ A6.out).mono ?_); rintro e w' ⟨rfl, ⟨nd, rfl⟩⟩; refine ⟨_, rfl, ?_⟩) | ((with_reducible refine gate_callee (f := 82) rfl ?_); refine goesL_ (some 17) rfl rfl Try.func82 (by kernel_rfl) rfl #[.int .i64 (rd l0 x9_1), .int .i64 0, .int .i64 (wrap64 (t125 - 1))] rfl (by (try simp only [lM, List.map_cons, List.map_nil]); first | done | rfl | (simp only [lD, lT]; rfl)) ?_; (with_reducible refine (impl_within.calls (rd l0 x9_1) 0 (wrap64 (t125 - 1)) true _ A7.out).mono ?_); rintro e w' ⟨rfl, ⟨nd, rfl⟩⟩; refine ⟨_, rfl, ?_⟩))
       go_roundg k1
       case measure => have := HK1.out; omega
       case rel => exact ⟨(wrap64 (x9_1 + 1)), (by first | rfl | (simp; done) | (simp [*]; done)), H', ⟨by have := HK1.out; omega⟩, by repeat (first | exact Drawn0.refl _ | apply Drawn0.step)⟩
      ·replace c8 := Bool.eq_false_iff.mpr c8
       subst c8
       have H1 : (some false) = some r := by rw [if_neg (show ¬ (false = true) by decide)] at H; first | done | exact H
       clear H
       have H := H1
       clear H1
       obtain rfl := Option.some.inj H
       have p124 : 0 ≤ (x9_1 : Int) := oD (by first | (with_reducible assumption) | assumption)
       have q124 : x9_1 < (l0.length : Int) := oD (by first | (with_reducible assumption) | assumption)
       obtain ⟨ad124, e124, hx124_0⟩ := Kd.at_int HR0.out x9_1 p124 q124
       cases e124
       replace p124 := eq_true p124
       replace q124 := eq_true q124
       go_wp2_with (first | ((with_reducible refine gate_callee (f := 126) rfl ?_); refine goesL_ (some 15) rfl rfl Try.func126 (by kernel_rfl) rfl #[.int .i64 a1] rfl (by (try simp only [lM, List.map_cons, List.map_nil]); first | done | rfl | (simp only [lD, lT]; rfl)) ?_; (with_reducible refine (impl_powerOf.calls a1 t125 _ A6.out).mono ?_); rintro e w' ⟨rfl, ⟨nd, rfl⟩⟩; refine ⟨_, rfl, ?_⟩) | ((with_reducible refine gate_callee (f := 82) rfl ?_); refine goesL_ (some 17) rfl rfl Try.func82 (by kernel_rfl) rfl #[.int .i64 (rd l0 x9_1), .int .i64 0, .int .i64 (wrap64 (t125 - 1))] rfl (by (try simp only [lM, List.map_cons, List.map_nil]); first | done | rfl | (simp only [lD, lT]; rfl)) ?_; (with_reducible refine (impl_within.calls (rd l0 x9_1) 0 (wrap64 (t125 - 1)) false _ A7.out).mono ?_); rintro e w' ⟨rfl, ⟨nd, rfl⟩⟩; refine ⟨_, rfl, ?_⟩))
       go_ret
       exact ⟨by first | rfl | (simp; done) | (simp [*]; done), by repeat (first | exact Drawn0.refl _ | apply Drawn0.step)⟩
     ·rw [if_neg c5] at H
      exact absurd H (by simp)
    ·rw [if_neg c4] at H
     exact absurd H (by simp)
   ·rw [if_neg c3] at H
    have c3b0 : decide (x9_1 < (l0.length : Int)) = false := decide_eq_false c3
    clear c3
    obtain rfl := Option.some.inj H
    go_wp2
    go_ret
    exact ⟨by first | rfl | (simp; done) | (simp [*]; done), by repeat (first | exact Drawn0.refl _ | apply Drawn0.step)⟩

/-! ### impl_RasterOk: function 64 -/
def impl_RasterOk.j0 : Nat → Bool → Int → Int → Int → Int → List Int → Option (Bool)
 | 0, _, _, _, _, _, _ => none
 | k + 1, x20, x128000, x128001, x128002, x128003, x128004 => if x20 = true then (some false) else ((impl_ChannelsOf.f k x128002).bind fun t131 => (if (x128004.length : Int) = (wrap64 ((wrap64 (x128000 * x128001)) * t131)) then ((impl_samplesOk.f k x128004 x128003).bind fun t132 => (some t132)) else (some false)))
def impl_RasterOk.f (k : Nat) (a0_0 : Int) (a0_1 : Int) (a0_2 : Int) (a0_3 : Int) (l0_4 : List Int) : Option (Bool) := (impl_isSide.f a0_0).bind fun t128 => (if t128 = true then ((impl_isSide.f a0_1).bind fun t129 => (if t129 = true then ((impl_DepthOk.f k a0_2 a0_3).bind fun t130 => (impl_RasterOk.j0 k (!t130) a0_0 a0_1 a0_2 a0_3 l0_4)) else (impl_RasterOk.j0 k true a0_0 a0_1 a0_2 a0_3 l0_4))) else (impl_RasterOk.j0 k true a0_0 a0_1 a0_2 a0_3 l0_4))
theorem impl_RasterOk.mono_l : ∀ k, (∀ y0 y1 y2 y3 y4 y5, LeO (impl_RasterOk.j0 k y0 y1 y2 y3 y4 y5) (impl_RasterOk.j0 (k + 1) y0 y1 y2 y3 y4 y5))
 | 0 => fun _ _ _ _ _ _ r h => by simp [impl_RasterOk.j0] at h
 | k + 1 => by
  have ih0 := impl_RasterOk.mono_l k
  ·intro y0 y1 y2 y3 y4 y5
   unfold impl_RasterOk.j0
   repeat' first
   | (with_reducible exact ih0 _ _ _ _ _ _)
   | (with_reducible exact impl_ChannelsOf.mono _ _)
   | (with_reducible exact impl_DepthOk.mono _ _ _)
   | (with_reducible exact impl_samplesOk.mono _ _ _)
   | (with_reducible exact LeO.refl _)
   | (with_reducible exact LeO.none _)
   | (with_reducible refine LeO.ite ?_ ?_)
   | (with_reducible refine LeO.bind ?_ (fun _ => ?_))
   | exact ih0 _ _ _ _ _ _
   | exact impl_ChannelsOf.mono _ _
   | exact impl_DepthOk.mono _ _ _
   | exact impl_samplesOk.mono _ _ _
   | exact LeO.none _
   | refine LeO.ite ?_ ?_
   | refine LeO.bind ?_ (fun _ => ?_)
theorem impl_RasterOk.mono : ∀ a0 a1 a2 a3 a4 k, LeO (impl_RasterOk.f k a0 a1 a2 a3 a4) (impl_RasterOk.f (k + 1) a0 a1 a2 a3 a4) := by
 intro a0 a1 a2 a3 a4 k
 have ih0 := impl_RasterOk.mono_l k
 unfold impl_RasterOk.f
 repeat' first
   | (with_reducible exact ih0 _ _ _ _ _ _)
   | (with_reducible exact impl_ChannelsOf.mono _ _)
   | (with_reducible exact impl_DepthOk.mono _ _ _)
   | (with_reducible exact impl_samplesOk.mono _ _ _)
   | (with_reducible exact LeO.refl _)
   | (with_reducible exact LeO.none _)
   | (with_reducible refine LeO.ite ?_ ?_)
   | (with_reducible refine LeO.bind ?_ (fun _ => ?_))
   | exact ih0 _ _ _ _ _ _
   | exact impl_ChannelsOf.mono _ _
   | exact impl_DepthOk.mono _ _ _
   | exact impl_samplesOk.mono _ _ _
   | exact LeO.none _
   | refine LeO.ite ?_ ?_
   | refine LeO.bind ?_ (fun _ => ?_)
set_option maxHeartbeats 8000000 in
set_option maxRecDepth 100000 in
theorem impl_RasterOk.calls (k : Nat) (a0_0 : Int) (a0_1 : Int) (a0_2 : Int) (a0_3 : Int) (A0_4 : Option Addr) (c0_4 : Nat) (l0_4 : List Int) (r : Bool) (w : World) (hr0_4 : Kd.C (Kd.int .i64) w A0_4 l0_4.length l0_4) (hc0_4 : l0_4.length ≤ c0_4) (h : impl_RasterOk.f k a0_0 a0_1 a0_2 a0_3 l0_4 = some r) :
  Calls Try.prog 64 #[.agg #[.int .i64 a0_0, .int .i64 a0_1, .int .i64 a0_2, .int .i64 a0_3, .slice A0_4 l0_4.length c0_4]] w fun e w' => e = .returned (.bool r) ∧ Below w.heap.size w w' := by
 have hu29 := Try.underlying29
 have HR0_4 := aM hr0_4
 have HC0_4 := aM hc0_4
 clear hr0_4 hc0_4
 have HB := aM (Below.refl w.heap.size w)
 unfold impl_RasterOk.f at h; have H := h
 clear h
 have HC2 := aM H
 clear H
 go_enter Try.func64, Try.ntmps64
 go_upto_region 1 with (first | ((with_reducible refine gate_dst (N := 1) rfl ?_); refine box_event ?hg (N := 1) ?hd (cs := #[.int .i64 a0_0, .int .i64 a0_1, .int .i64 a0_2, .int .i64 a0_3, .slice A0_4 l0_4.length c0_4]) (t := 29) ?hr ?_; (case hd => rfl); (case hg => rfl); (case hr => first | (go_simp; done) | (go_simp; rfl)); intro gb127 hg w3 hbox hb; have n0_ := aM (bT (by repeat (first | (with_reducible first | exact HB.out | apply bA | apply bN | apply bE) | exact HB.out)) hb); have n1_ := aM (hbox); have n2_ := aM ((by rw [hg]; exact (bZ (by repeat (first | (with_reducible first | exact HB.out | apply bA | apply bN | apply bE) | exact HB.out))) : w.heap.size ≤ gb127)); have n3_ := aM ((by rw [hg]; exact (bZ (by repeat (first | (with_reducible first | exact HB.out | apply bA | apply bN | apply bE) | exact HB.out))) : w.heap.size ≤ gb127)); clear HB; have HB := n0_; have BK127 := n1_; have GW127 := n2_; have GE127 := n3_; clear n0_ n1_ n2_ n3_; clear hb hbox hg))
 repeat (go_quiet (first | ((with_reducible refine gate_dst (N := 1) rfl ?_); refine box_event ?hg (N := 1) ?hd (cs := #[.int .i64 a0_0, .int .i64 a0_1, .int .i64 a0_2, .int .i64 a0_3, .slice A0_4 l0_4.length c0_4]) (t := 29) ?hr ?_; (case hd => rfl); (case hg => rfl); (case hr => first | (go_simp; done) | (go_simp; rfl)); intro gb127 hg w3 hbox hb; have n0_ := aM (bT (by repeat (first | (with_reducible first | exact HB.out | apply bA | apply bN | apply bE) | exact HB.out)) hb); have n1_ := aM (hbox); have n2_ := aM ((by rw [hg]; exact (bZ (by repeat (first | (with_reducible first | exact HB.out | apply bA | apply bN | apply bE) | exact HB.out))) : w.heap.size ≤ gb127)); have n3_ := aM ((by rw [hg]; exact (bZ (by repeat (first | (with_reducible first | exact HB.out | apply bA | apply bN | apply bE) | exact HB.out))) : w.heap.size ≤ gb127)); clear HB; have HB := n0_; have BK127 := n1_; have GW127 := n2_; have GE127 := n3_; clear n0_ n1_ n2_ n3_; clear hb hbox hg)); go_upto_region 1 with (first | ((with_reducible refine gate_dst (N := 1) rfl ?_); refine box_event ?hg (N := 1) ?hd (cs := #[.int .i64 a0_0, .int .i64 a0_1, .int .i64 a0_2, .int .i64 a0_3, .slice A0_4 l0_4.length c0_4]) (t := 29) ?hr ?_; (case hd => rfl); (case hg => rfl); (case hr => first | (go_simp; done) | (go_simp; rfl)); intro gb127 hg w3 hbox hb; have n0_ := aM (bT (by repeat (first | (with_reducible first | exact HB.out | apply bA | apply bN | apply bE) | exact HB.out)) hb); have n1_ := aM (hbox); have n2_ := aM ((by rw [hg]; exact (bZ (by repeat (first | (with_reducible first | exact HB.out | apply bA | apply bN | apply bE) | exact HB.out))) : w.heap.size ≤ gb127)); have n3_ := aM ((by rw [hg]; exact (bZ (by repeat (first | (with_reducible first | exact HB.out | apply bA | apply bN | apply bE) | exact HB.out))) : w.heap.size ≤ gb127)); clear HB; have HB := n0_; have BK127 := n1_; have GW127 := n2_; have GE127 := n3_; clear n0_ n1_ n2_ n3_; clear hb hbox hg)))
 (try simp only [Act.put, lI, lZ, lS])
 go_cut [20] (fun v20 wc => ∃ (kq : Nat) (x20_1 : Bool), v20 = .bool x20_1 ∧ Aside0 (impl_RasterOk.j0 kq x20_1 a0_0 a0_1 a0_2 a0_3 l0_4 = some r) ∧ Aside0 (kq ≤ k) ∧ Aside0 (wc.heap[gb127]? = some (.cells #[.int .i64 a0_0, .int .i64 a0_1, .int .i64 a0_2, .int .i64 a0_3, (.slice A0_4 l0_4.length c0_4)] 29 (0, 0))) ∧ Aside0 (Below w.heap.size w wc))
 case first =>
  have H := HC2.out
  clear HC2
  replace H := oB.mp H
  obtain ⟨t128, A40, H⟩ := H
  try dsimp only at H
  have A4 := aM A40
  clear A40
  by_cases c5 : t128 = true
  ·subst c5
   have H1 : ((impl_isSide.f a0_1).bind fun t129 => (if t129 = true then ((impl_DepthOk.f k a0_2 a0_3).bind fun t130 => (impl_RasterOk.j0 k (!t130) a0_0 a0_1 a0_2 a0_3 l0_4)) else (impl_RasterOk.j0 k true a0_0 a0_1 a0_2 a0_3 l0_4))) = some r := by rw [if_pos rfl] at H; first | done | exact H
   clear H
   have H := H1
   clear H1
   replace H := oB.mp H
   obtain ⟨t129, A60, H⟩ := H
   replace H : (if t129 = true then ((impl_DepthOk.f k a0_2 a0_3).bind fun t130 => (impl_RasterOk.j0 k (!t130) a0_0 a0_1 a0_2 a0_3 l0_4)) else (impl_RasterOk.j0 k true a0_0 a0_1 a0_2 a0_3 l0_4)) = some r := H
   have A6 := aM A60
   clear A60
   by_cases c7 : t129 = true
   ·subst c7
    have H1 : ((impl_DepthOk.f k a0_2 a0_3).bind fun t130 => (impl_RasterOk.j0 k (!t130) a0_0 a0_1 a0_2 a0_3 l0_4)) = some r := by rw [if_pos rfl] at H; first | done | exact H
    clear H
    have H := H1
    clear H1
    replace H := oB.mp H
    obtain ⟨t130, A80, H⟩ := H
    replace H : (impl_RasterOk.j0 k (!t130) a0_0 a0_1 a0_2 a0_3 l0_4) = some r := H
    have A8 := aM A80
    clear A80
    have H' := aM H
    clear H
    obtain ⟨hcz9_0, hcz9_1, hcz9_2, hcz9_3, hcz9_4⟩ := blk_c5 BK127.out
    obtain ⟨hfz9_0, hfz9_1, hfz9_2, hfz9_3, hfz9_4⟩ := blk_f5 BK127.out
    go_wp2_with (first | (go_at_call 92; (with_reducible refine (impl_isSide.calls a0_0 true _ A4.out).mono ?_); rintro e w' ⟨rfl, ⟨nd, rfl⟩⟩; (try first | exact ⟨rfl, _, World.drewN_drewN _ _ _⟩ | exact ⟨rfl, _, Eq.trans (World.drewN_drewN _ _ _) (congrArg (World.drewN _) (Nat.add_assoc _ _ _))⟩)) | (go_at_call 92; (with_reducible refine (impl_isSide.calls a0_1 true _ A6.out).mono ?_); rintro e w' ⟨rfl, ⟨nd, rfl⟩⟩; (try first | exact ⟨rfl, _, World.drewN_drewN _ _ _⟩ | exact ⟨rfl, _, Eq.trans (World.drewN_drewN _ _ _) (congrArg (World.drewN _) (Nat.add_assoc _ _ _))⟩)) | (go_at_call 114; (with_reducible refine (impl_DepthOk.calls k a0_2 a0_3 t130 _ A8.out).mono ?_); rintro e w' ⟨rfl, ⟨nd, rfl⟩⟩; (try first | exact ⟨rfl, _, World.drewN_drewN _ _ _⟩ | exact ⟨rfl, _, Eq.trans (World.drewN_drewN _ _ _) (congrArg (World.drewN _) (Nat.add_assoc _ _ _))⟩)))
    repeat (go_quiet (first | (go_at_call 92; (with_reducible refine (impl_isSide.calls a0_0 true _ A4.out).mono ?_); rintro e w' ⟨rfl, ⟨nd, rfl⟩⟩; (try first | exact ⟨rfl, _, World.drewN_drewN _ _ _⟩ | exact ⟨rfl, _, Eq.trans (World.drewN_drewN _ _ _) (congrArg (World.drewN _) (Nat.add_assoc _ _ _))⟩)) | (go_at_call 92; (with_reducible refine (impl_isSide.calls a0_1 true _ A6.out).mono ?_); rintro e w' ⟨rfl, ⟨nd, rfl⟩⟩; (try first | exact ⟨rfl, _, World.drewN_drewN _ _ _⟩ | exact ⟨rfl, _, Eq.trans (World.drewN_drewN _ _ _) (congrArg (World.drewN _) (Nat.add_assoc _ _ _))⟩)) | (go_at_call 114; (with_reducible refine (impl_DepthOk.calls k a0_2 a0_3 t130 _ A8.out).mono ?_); rintro e w' ⟨rfl, ⟨nd, rfl⟩⟩; (try first | exact ⟨rfl, _, World.drewN_drewN _ _ _⟩ | exact ⟨rfl, _, Eq.trans (World.drewN_drewN _ _ _) (congrArg (World.drewN _) (Nat.add_assoc _ _ _))⟩))); try go_wp2_with (first | (go_at_call 92; (with_reducible refine (impl_isSide.calls a0_0 true _ A4.out).mono ?_); rintro e w' ⟨rfl, ⟨nd, rfl⟩⟩; (try first | exact ⟨rfl, _, World.drewN_drewN _ _ _⟩ | exact ⟨rfl, _, Eq.trans (World.drewN_drewN _ _ _) (congrArg (World.drewN _) (Nat.add_assoc _ _ _))⟩)) | (go_at_call 92; (with_reducible refine (impl_isSide.calls a0_1 true _ A6.out).mono ?_); rintro e w' ⟨rfl, ⟨nd, rfl⟩⟩; (try first | exact ⟨rfl, _, World.drewN_drewN _ _ _⟩ | exact ⟨rfl, _, Eq.trans (World.drewN_drewN _ _ _) (congrArg (World.drewN _) (Nat.add_assoc _ _ _))⟩)) | (go_at_call 114; (with_reducible refine (impl_DepthOk.calls k a0_2 a0_3 t130 _ A8.out).mono ?_); rintro e w' ⟨rfl, ⟨nd, rfl⟩⟩; (try first | exact ⟨rfl, _, World.drewN_drewN _ _ _⟩ | exact ⟨rfl, _, Eq.trans (World.drewN_drewN _ _ _) (congrArg (World.drewN _) (Nat.add_assoc _ _ _))⟩))))
    go_meet
    case rel => exact ⟨_, (!t130), (by first | rfl | (simp; done) | (simp [*]; done)), H', ⟨by first | omega | exact Nat.le_refl _⟩, ⟨by (with_reducible repeat (first | refine kN ?_ _ | refine kD ?_ | refine kA ?_ _)); exact BK127.out⟩, ⟨by repeat (first | (with_reducible first | exact HB.out | apply bA | apply bN | apply bE | refine bS ?_ GE127.out) | exact HB.out)⟩⟩
   ·replace c7 := Bool.eq_false_iff.mpr c7
    subst c7
    have H1 : (impl_RasterOk.j0 k true a0_0 a0_1 a0_2 a0_3 l0_4) = some r := by rw [if_neg (show ¬ (false = true) by decide)] at H; first | done | exact H
    clear H
    have H := H1
    clear H1
    have H' := aM H
    clear H
    obtain ⟨hcz10_0, hcz10_1, hcz10_2, hcz10_3, hcz10_4⟩ := blk_c5 BK127.out
    obtain ⟨hfz10_0, hfz10_1, hfz10_2, hfz10_3, hfz10_4⟩ := blk_f5 BK127.out
    go_wp2_with (first | (go_at_call 92; (with_reducible refine (impl_isSide.calls a0_0 true _ A4.out).mono ?_); rintro e w' ⟨rfl, ⟨nd, rfl⟩⟩; (try first | exact ⟨rfl, _, World.drewN_drewN _ _ _⟩ | exact ⟨rfl, _, Eq.trans (World.drewN_drewN _ _ _) (congrArg (World.drewN _) (Nat.add_assoc _ _ _))⟩)) | (go_at_call 92; (with_reducible refine (impl_isSide.calls a0_1 false _ A6.out).mono ?_); rintro e w' ⟨rfl, ⟨nd, rfl⟩⟩; (try first | exact ⟨rfl, _, World.drewN_drewN _ _ _⟩ | exact ⟨rfl, _, Eq.trans (World.drewN_drewN _ _ _) (congrArg (World.drewN _) (Nat.add_assoc _ _ _))⟩)))
    repeat (go_quiet (first | (go_at_call 92; (with_reducible refine (impl_isSide.calls a0_0 true _ A4.out).mono ?_); rintro e w' ⟨rfl, ⟨nd, rfl⟩⟩; (try first | exact ⟨rfl, _, World.drewN_drewN _ _ _⟩ | exact ⟨rfl, _, Eq.trans (World.drewN_drewN _ _ _) (congrArg (World.drewN _) (Nat.add_assoc _ _ _))⟩)) | (go_at_call 92; (with_reducible refine (impl_isSide.calls a0_1 false _ A6.out).mono ?_); rintro e w' ⟨rfl, ⟨nd, rfl⟩⟩; (try first | exact ⟨rfl, _, World.drewN_drewN _ _ _⟩ | exact ⟨rfl, _, Eq.trans (World.drewN_drewN _ _ _) (congrArg (World.drewN _) (Nat.add_assoc _ _ _))⟩))); try go_wp2_with (first | (go_at_call 92; (with_reducible refine (impl_isSide.calls a0_0 true _ A4.out).mono ?_); rintro e w' ⟨rfl, ⟨nd, rfl⟩⟩; (try first | exact ⟨rfl, _, World.drewN_drewN _ _ _⟩ | exact ⟨rfl, _, Eq.trans (World.drewN_drewN _ _ _) (congrArg (World.drewN _) (Nat.add_assoc _ _ _))⟩)) | (go_at_call 92; (with_reducible refine (impl_isSide.calls a0_1 false _ A6.out).mono ?_); rintro e w' ⟨rfl, ⟨nd, rfl⟩⟩; (try first | exact ⟨rfl, _, World.drewN_drewN _ _ _⟩ | exact ⟨rfl, _, Eq.trans (World.drewN_drewN _ _ _) (congrArg (World.drewN _) (Nat.add_assoc _ _ _))⟩))))
    go_meet
    case rel => exact ⟨_, (true), (by first | rfl | (simp; done) | (simp [*]; done)), H', ⟨by first | omega | exact Nat.le_refl _⟩, ⟨by (with_reducible repeat (first | refine kN ?_ _ | refine kD ?_ | refine kA ?_ _)); exact BK127.out⟩, ⟨by repeat (first | (with_reducible first | exact HB.out | apply bA | apply bN | apply bE | refine bS ?_ GE127.out) | exact HB.out)⟩⟩
  ·replace c5 := Bool.eq_false_iff.mpr c5
   subst c5
   have H1 : (impl_RasterOk.j0 k true a0_0 a0_1 a0_2 a0_3 l0_4) = some r := by rw [if_neg (show ¬ (false = true) by decide)] at H; first | done | exact H
   clear H
   have H := H1
   clear H1
   have H' := aM H
   clear H
   obtain ⟨hcz11_0, hcz11_1, hcz11_2, hcz11_3, hcz11_4⟩ := blk_c5 BK127.out
   obtain ⟨hfz11_0, hfz11_1, hfz11_2, hfz11_3, hfz11_4⟩ := blk_f5 BK127.out
   go_wp2_with (first | (go_at_call 92; (with_reducible refine (impl_isSide.calls a0_0 false _ A4.out).mono ?_); rintro e w' ⟨rfl, ⟨nd, rfl⟩⟩; (try first | exact ⟨rfl, _, World.drewN_drewN _ _ _⟩ | exact ⟨rfl, _, Eq.trans (World.drewN_drewN _ _ _) (congrArg (World.drewN _) (Nat.add_assoc _ _ _))⟩)))
   repeat (go_quiet (first | (go_at_call 92; (with_reducible refine (impl_isSide.calls a0_0 false _ A4.out).mono ?_); rintro e w' ⟨rfl, ⟨nd, rfl⟩⟩; (try first | exact ⟨rfl, _, World.drewN_drewN _ _ _⟩ | exact ⟨rfl, _, Eq.trans (World.drewN_drewN _ _ _) (congrArg (World.drewN _) (Nat.add_assoc _ _ _))⟩))); try go_wp2_with (first | (go_at_call 92; (with_reducible refine (impl_isSide.calls a0_0 false _ A4.out).mono ?_); rintro e w' ⟨rfl, ⟨nd, rfl⟩⟩; (try first | exact ⟨rfl, _, World.drewN_drewN _ _ _⟩ | exact ⟨rfl, _, Eq.trans (World.drewN_drewN _ _ _) (congrArg (World.drewN _) (Nat.add_assoc _ _ _))⟩))))
   go_meet
   case rel => exact ⟨_, (true), (by first | rfl | (simp; done) | (simp [*]; done)), H', ⟨by first | omega | exact Nat.le_refl _⟩, ⟨by (with_reducible repeat (first | refine kN ?_ _ | refine kD ?_ | refine kA ?_ _)); exact BK127.out⟩, ⟨by repeat (first | (with_reducible first | exact HB.out | apply bA | apply bN | apply bE | refine bS ?_ GE127.out) | exact HB.out)⟩⟩
 case rest =>
  clear HC2
  try clear p2
  try clear c5
  try clear c6
  try clear c7
  try clear hcz10_0
  try clear hcz10_1
  try clear hcz10_2
  try clear hcz10_3
  try clear hcz10_4
  try clear hcz11_0
  try clear hcz11_1
  try clear hcz11_2
  try clear hcz11_3
  try clear hcz11_4
  try clear hcz9_0
  try clear hcz9_1
  try clear hcz9_2
  try clear hcz9_3
  try clear hcz9_4
  try clear hfz10_0
  try clear hfz10_1
  try clear hfz10_2
  try clear hfz10_3
  try clear hfz10_4
  try clear hfz11_0
  try clear hfz11_1
  try clear hfz11_2
  try clear hfz11_3
  try clear hfz11_4
  try clear hfz9_0
  try clear hfz9_1
  try clear hfz9_2
  try clear hfz9_3
  try clear hfz9_4
  obtain ⟨kq, x20_1, rfl, HA, HJ1, BK127, HB⟩ := hcut
  cases kq with
  | zero => exact absurd HA.out (by simp [impl_RasterOk.j0])
  | succ kj1 =>
   have H := HA.out
   clear HA
   simp only [impl_RasterOk.j0] at H
   by_cases c12 : x20_1 = true
   ·subst c12
    have H1 : (some false) = some r := by rw [if_pos rfl] at H; first | done | exact H
    clear H
    have H := H1
    clear H1
    obtain rfl := Option.some.inj H
    go_wp2
    repeat (go_quiet (fail); try go_wp2)
    go_ret
    exact ⟨by first | rfl | (simp [errW_none, errW_some] <;> rfl) | (simp [*, errW_none, errW_some] <;> rfl), by repeat (first | (with_reducible first | exact HB.out | apply bA | apply bN | apply bE | refine bS ?_ GE127.out) | exact HB.out)⟩
   ·replace c12 := Bool.eq_false_iff.mpr c12
    subst c12
    have H1 : ((impl_ChannelsOf.f kj1 a0_2).bind fun t131 => (if (l0_4.length : Int) = (wrap64 ((wrap64 (a0_0 * a0_1)) * t131)) then ((impl_samplesOk.f kj1 l0_4 a0_3).bind fun t132 => (some t132)) else (some false))) = some r := by rw [if_neg (show ¬ (false = true) by decide)] at H; first | done | exact H
    clear H
    have H := H1
    clear H1
    replace H := oB.mp H
    obtain ⟨t131, A130, H⟩ := H
    replace H : (if (l0_4.length : Int) = (wrap64 ((wrap64 (a0_0 * a0_1)) * t131)) then ((impl_samplesOk.f kj1 l0_4 a0_3).bind fun t132 => (some t132)) else (some false)) = some r := H
    have A13 := aM A130
    clear A130
    by_cases c14 : (l0_4.length : Int) = (wrap64 ((wrap64 (a0_0 * a0_1)) * t131))
    ·rw [if_pos c14] at H
     have c14b0 : ((l0_4.length : Int) == (wrap64 ((wrap64 (a0_0 * a0_1)) * t131))) = true := beq_iff_eq.mpr c14
     have c14b1 : ((l0_4.length : Int) != (wrap64 ((wrap64 (a0_0 * a0_1)) * t131))) = false := bne_eq_false_iff_eq.mpr c14
     clear c14
     replace H := oB.mp H
     obtain ⟨t132, A150, H⟩ := H
     replace H : (some t132) = some r := H
     have A15 := aM A150
     clear A150
     obtain rfl := Option.some.inj H
     obtain ⟨hcz16_0, hcz16_1, hcz16_2, hcz16_3, hcz16_4⟩ := blk_c5 BK127.out
     obtain ⟨hfz16_0, hfz16_1, hfz16_2, hfz16_3, hfz16_4⟩ := blk_f5 BK127.out
     go_wp2_with (first | (go_at_call 65; (with_reducible refine (impl_ChannelsOf.calls kj1 a0_2 t131 _ A13.out).mono ?_); rintro e w' ⟨rfl, ⟨nd, rfl⟩⟩; (try first | exact ⟨rfl, _, World.drewN_drewN _ _ _⟩ | exact ⟨rfl, _, Eq.trans (World.drewN_drewN _ _ _) (congrArg (World.drewN _) (Nat.add_assoc _ _ _))⟩)) | (go_at_call 139; (with_reducible refine (impl_samplesOk.calls kj1 _ _ l0_4 a0_3 t132 _ ?side1 ?side2 A15.out).mono ?_); (case side1 => repeat (first | exact (Kd.C_below HR0_4.out (by repeat (first | (with_reducible first | exact HB.out | apply bA | apply bN | apply bE | refine bS ?_ GE127.out) | exact HB.out))) | (with_reducible refine cA ?_ _) | (with_reducible refine cN ?_ _) | (with_reducible refine cD ?_))); (case side2 => exact HC0_4.out); rintro e w' ⟨rfl, ⟨nd, rfl⟩⟩; (try first | exact ⟨rfl, _, World.drewN_drewN _ _ _⟩ | exact ⟨rfl, _, Eq.trans (World.drewN_drewN _ _ _) (congrArg (World.drewN _) (Nat.add_assoc _ _ _))⟩)))
     repeat (go_quiet (first | (go_at_call 65; (with_reducible refine (impl_ChannelsOf.calls kj1 a0_2 t131 _ A13.out).mono ?_); rintro e w' ⟨rfl, ⟨nd, rfl⟩⟩; (try first | exact ⟨rfl, _, World.drewN_drewN _ _ _⟩ | exact ⟨rfl, _, Eq.trans (World.drewN_drewN _ _ _) (congrArg (World.drewN _) (Nat.add_assoc _ _ _))⟩)) | (go_at_call 139; (with_reducible refine (impl_samplesOk.calls kj1 _ _ l0_4 a0_3 t132 _ ?side1 ?side2 A15.out).mono ?_); (case side1 => repeat (first | exact (Kd.C_below HR0_4.out (by repeat (first | (with_reducible first | exact HB.out | apply bA | apply bN | apply bE | refine bS ?_ GE127.out) | exact HB.out))) | (with_reducible refine cA ?_ _) | (with_reducible refine cN ?_ _) | (with_reducible refine cD ?_))); (case side2 => exact HC0_4.out); rintro e w' ⟨rfl, ⟨nd, rfl⟩⟩; (try first | exact ⟨rfl, _, World.drewN_drewN _ _ _⟩ | exact ⟨rfl, _, Eq.trans (World.drewN_drewN _ _ _) (congrArg (World.drewN _) (Nat.add_assoc _ _ _))⟩))); try go_wp2_with (first | (go_at_call 65; (with_reducible refine (impl_ChannelsOf.calls kj1 a0_2 t131 _ A13.out).mono ?_); rintro e w' ⟨rfl, ⟨nd, rfl⟩⟩; (try first | exact ⟨rfl, _, World.drewN_drewN _ _ _⟩ | exact ⟨rfl, _, Eq.trans (World.drewN_drewN _ _ _) (congrArg (World.drewN _) (Nat.add_assoc _ _ _))⟩)) | (go_at_call 139; (with_reducible refine (impl_samplesOk.calls kj1 _ _ l0_4 a0_3 t132 _ ?side1 ?side2 A15.out).mono ?_); (case side1 => repeat (first | exact (Kd.C_below HR0_4.out (by repeat (first | (with_reducible first | exact HB.out | apply bA | apply bN | apply bE | refine bS ?_ GE127.out) | exact HB.out))) | (with_reducible refine cA ?_ _) | (with_reducible refine cN ?_ _) | (with_reducible refine cD ?_))); (case side2 => exact HC0_4.out); rintro e w' ⟨rfl, ⟨nd, rfl⟩⟩; (try first | exact ⟨rfl, _, World.drewN_drewN _ _ _⟩ | exact ⟨rfl, _, Eq.trans (World.drewN_drewN _ _ _) (congrArg (World.drewN _) (Nat.add_assoc _ _ _))⟩))))
     go_ret
     exact ⟨by first | rfl | (simp [errW_none, errW_some] <;> rfl) | (simp [*, errW_none, errW_some] <;> rfl), by repeat (first | (with_reducible first | exact HB.out | apply bA | apply bN | apply bE | refine bS ?_ GE127.out) | exact HB.out)⟩
    ·rw [if_neg c14] at H
     have c14b0 : ((l0_4.length : Int) == (wrap64 ((wrap64 (a0_0 * a0_1)) * t131))) = false := beq_eq_false_iff_ne.mpr c14
     have c14b1 : ((l0_4.length : Int) != (wrap64 ((wrap64 (a0_0 * a0_1)) * t131))) = true := bne_iff_ne.mpr c14
     obtain rfl := Option.some.inj H
     obtain ⟨hcz17_0, hcz17_1, hcz17_2, hcz17_3, hcz17_4⟩ := blk_c5 BK127.out
     obtain ⟨hfz17_0, hfz17_1, hfz17_2, hfz17_3, hfz17_4⟩ := blk_f5 BK127.out
     go_wp2_with (first | (go_at_call 65; (with_reducible refine (impl_ChannelsOf.calls kj1 a0_2 t131 _ A13.out).mono ?_); rintro e w' ⟨rfl, ⟨nd, rfl⟩⟩; (try first | exact ⟨rfl, _, World.drewN_drewN _ _ _⟩ | exact ⟨rfl, _, Eq.trans (World.drewN_drewN _ _ _) (congrArg (World.drewN _) (Nat.add_assoc _ _ _))⟩)))
     repeat (go_quiet (first | (go_at_call 65; (with_reducible refine (impl_ChannelsOf.calls kj1 a0_2 t131 _ A13.out).mono ?_); rintro e w' ⟨rfl, ⟨nd, rfl⟩⟩; (try first | exact ⟨rfl, _, World.drewN_drewN _ _ _⟩ | exact ⟨rfl, _, Eq.trans (World.drewN_drewN _ _ _) (congrArg (World.drewN _) (Nat.add_assoc _ _ _))⟩))); try go_wp2_with (first | (go_at_call 65; (with_reducible refine (impl_ChannelsOf.calls kj1 a0_2 t131 _ A13.out).mono ?_); rintro e w' ⟨rfl, ⟨nd, rfl⟩⟩; (try first | exact ⟨rfl, _, World.drewN_drewN _ _ _⟩ | exact ⟨rfl, _, Eq.trans (World.drewN_drewN _ _ _) (congrArg (World.drewN _) (Nat.add_assoc _ _ _))⟩))))
     go_ret
     exact ⟨by first | rfl | (simp [errW_none, errW_some] <;> rfl) | (simp [*, errW_none, errW_some] <;> rfl), by repeat (first | (with_reducible first | exact HB.out | apply bA | apply bN | apply bE | refine bS ?_ GE127.out) | exact HB.out)⟩

/-! ### impl_PassStep: function 140 -/
def impl_PassStep.f (a0 : Int) : Option (Int × Int × Int × Int) := if a0 = 0 then (some (0, 0, 8, 8)) else (if a0 = 1 then (some (4, 0, 8, 8)) else (if a0 = 2 then (some (0, 4, 4, 8)) else (if a0 = 3 then (some (2, 0, 4, 4)) else (if a0 = 4 then (some (0, 2, 2, 4)) else (if a0 = 5 then (some (1, 0, 2, 2)) else (if a0 = 6 then (some (0, 1, 1, 2)) else (some (0, 0, 0, 0))))))))
set_option maxHeartbeats 8000000 in
set_option maxRecDepth 100000 in
theorem impl_PassStep.calls (a0 : Int) (r1 : Int) (r2 : Int) (r3 : Int) (r4 : Int) (w : World) (h : impl_PassStep.f a0 = some (r1, r2, r3, r4)) :
  Calls Try.prog 140 #[.int .i64 a0] w fun e w' => e = .returned (.tuple #[.int .i64 r1, .int .i64 r2, .int .i64 r3, .int .i64 r4]) ∧ Drawn0 w w' := by
 unfold impl_PassStep.f at h; have H := h
 clear h
 by_cases c2 : a0 = 0
 ·rw [if_pos c2] at H
  have c2b0 : (a0 == 0) = true := beq_iff_eq.mpr c2
  have c2b1 : (a0 != 0) = false := bne_eq_false_iff_eq.mpr c2
  clear c2
  simp only [Option.some.injEq, Prod.mk.injEq] at H
  obtain ⟨rfl, rfl, rfl, rfl⟩ := H
  go_enter Try.func140, Try.ntmps140
  go_wp2
  refine bodyPost_ret (results_list (rs := [.tmp 2, .tmp 3, .tmp 4, .tmp 5]) rfl (by simp) (.tmp (.tmp (.tmp (.tmp .nil))))) rfl ?_
  exact ⟨by first | rfl | (simp; done) | (simp [*]; done), by repeat (first | exact Drawn0.refl _ | apply Drawn0.step)⟩
 ·rw [if_neg c2] at H
  have c2b0 : (a0 == 0) = false := beq_eq_false_iff_ne.mpr c2
  have c2b1 : (a0 != 0) = true := bne_iff_ne.mpr c2
  by_cases c3 : a0 = 1
  ·rw [if_pos c3] at H
   have c3b0 : (a0 == 1) = true := beq_iff_eq.mpr c3
   have c3b1 : (a0 != 1) = false := bne_eq_false_iff_eq.mpr c3
   clear c3
   simp only [Option.some.injEq, Prod.mk.injEq] at H
   obtain ⟨rfl, rfl, rfl, rfl⟩ := H
   go_enter Try.func140, Try.ntmps140
   go_wp2
   refine bodyPost_ret (results_list (rs := [.tmp 2, .tmp 3, .tmp 4, .tmp 5]) rfl (by simp) (.tmp (.tmp (.tmp (.tmp .nil))))) rfl ?_
   exact ⟨by first | rfl | (simp; done) | (simp [*]; done), by repeat (first | exact Drawn0.refl _ | apply Drawn0.step)⟩
  ·rw [if_neg c3] at H
   have c3b0 : (a0 == 1) = false := beq_eq_false_iff_ne.mpr c3
   have c3b1 : (a0 != 1) = true := bne_iff_ne.mpr c3
   by_cases c4 : a0 = 2
   ·rw [if_pos c4] at H
    have c4b0 : (a0 == 2) = true := beq_iff_eq.mpr c4
    have c4b1 : (a0 != 2) = false := bne_eq_false_iff_eq.mpr c4
    clear c4
    simp only [Option.some.injEq, Prod.mk.injEq] at H
    obtain ⟨rfl, rfl, rfl, rfl⟩ := H
    go_enter Try.func140, Try.ntmps140
    go_wp2
    refine bodyPost_ret (results_list (rs := [.tmp 2, .tmp 3, .tmp 4, .tmp 5]) rfl (by simp) (.tmp (.tmp (.tmp (.tmp .nil))))) rfl ?_
    exact ⟨by first | rfl | (simp; done) | (simp [*]; done), by repeat (first | exact Drawn0.refl _ | apply Drawn0.step)⟩
   ·rw [if_neg c4] at H
    have c4b0 : (a0 == 2) = false := beq_eq_false_iff_ne.mpr c4
    have c4b1 : (a0 != 2) = true := bne_iff_ne.mpr c4
    by_cases c5 : a0 = 3
    ·rw [if_pos c5] at H
     have c5b0 : (a0 == 3) = true := beq_iff_eq.mpr c5
     have c5b1 : (a0 != 3) = false := bne_eq_false_iff_eq.mpr c5
     clear c5
     simp only [Option.some.injEq, Prod.mk.injEq] at H
     obtain ⟨rfl, rfl, rfl, rfl⟩ := H
     go_enter Try.func140, Try.ntmps140
     go_wp2
     refine bodyPost_ret (results_list (rs := [.tmp 2, .tmp 3, .tmp 4, .tmp 5]) rfl (by simp) (.tmp (.tmp (.tmp (.tmp .nil))))) rfl ?_
     exact ⟨by first | rfl | (simp; done) | (simp [*]; done), by repeat (first | exact Drawn0.refl _ | apply Drawn0.step)⟩
    ·rw [if_neg c5] at H
     have c5b0 : (a0 == 3) = false := beq_eq_false_iff_ne.mpr c5
     have c5b1 : (a0 != 3) = true := bne_iff_ne.mpr c5
     by_cases c6 : a0 = 4
     ·rw [if_pos c6] at H
      have c6b0 : (a0 == 4) = true := beq_iff_eq.mpr c6
      have c6b1 : (a0 != 4) = false := bne_eq_false_iff_eq.mpr c6
      clear c6
      simp only [Option.some.injEq, Prod.mk.injEq] at H
      obtain ⟨rfl, rfl, rfl, rfl⟩ := H
      go_enter Try.func140, Try.ntmps140
      go_wp2
      refine bodyPost_ret (results_list (rs := [.tmp 2, .tmp 3, .tmp 4, .tmp 5]) rfl (by simp) (.tmp (.tmp (.tmp (.tmp .nil))))) rfl ?_
      exact ⟨by first | rfl | (simp; done) | (simp [*]; done), by repeat (first | exact Drawn0.refl _ | apply Drawn0.step)⟩
     ·rw [if_neg c6] at H
      have c6b0 : (a0 == 4) = false := beq_eq_false_iff_ne.mpr c6
      have c6b1 : (a0 != 4) = true := bne_iff_ne.mpr c6
      by_cases c7 : a0 = 5
      ·rw [if_pos c7] at H
       have c7b0 : (a0 == 5) = true := beq_iff_eq.mpr c7
       have c7b1 : (a0 != 5) = false := bne_eq_false_iff_eq.mpr c7
       clear c7
       simp only [Option.some.injEq, Prod.mk.injEq] at H
       obtain ⟨rfl, rfl, rfl, rfl⟩ := H
       go_enter Try.func140, Try.ntmps140
       go_wp2
       refine bodyPost_ret (results_list (rs := [.tmp 2, .tmp 3, .tmp 4, .tmp 5]) rfl (by simp) (.tmp (.tmp (.tmp (.tmp .nil))))) rfl ?_
       exact ⟨by first | rfl | (simp; done) | (simp [*]; done), by repeat (first | exact Drawn0.refl _ | apply Drawn0.step)⟩
      ·rw [if_neg c7] at H
       have c7b0 : (a0 == 5) = false := beq_eq_false_iff_ne.mpr c7
       have c7b1 : (a0 != 5) = true := bne_iff_ne.mpr c7
       by_cases c8 : a0 = 6
       ·rw [if_pos c8] at H
        have c8b0 : (a0 == 6) = true := beq_iff_eq.mpr c8
        have c8b1 : (a0 != 6) = false := bne_eq_false_iff_eq.mpr c8
        clear c8
        simp only [Option.some.injEq, Prod.mk.injEq] at H
        obtain ⟨rfl, rfl, rfl, rfl⟩ := H
        go_enter Try.func140, Try.ntmps140
        go_wp2
        refine bodyPost_ret (results_list (rs := [.tmp 2, .tmp 3, .tmp 4, .tmp 5]) rfl (by simp) (.tmp (.tmp (.tmp (.tmp .nil))))) rfl ?_
        exact ⟨by first | rfl | (simp; done) | (simp [*]; done), by repeat (first | exact Drawn0.refl _ | apply Drawn0.step)⟩
       ·rw [if_neg c8] at H
        have c8b0 : (a0 == 6) = false := beq_eq_false_iff_ne.mpr c8
        have c8b1 : (a0 != 6) = true := bne_iff_ne.mpr c8
        simp only [Option.some.injEq, Prod.mk.injEq] at H
        obtain ⟨rfl, rfl, rfl, rfl⟩ := H
        go_enter Try.func140, Try.ntmps140
        go_wp2
        refine bodyPost_ret (results_list (rs := [.tmp 2, .tmp 3, .tmp 4, .tmp 5]) rfl (by simp) (.tmp (.tmp (.tmp (.tmp .nil))))) rfl ?_
        exact ⟨by first | rfl | (simp; done) | (simp [*]; done), by repeat (first | exact Drawn0.refl _ | apply Drawn0.step)⟩

/-! ### impl_PassSize: function 66 -/
def impl_PassSize.j0 : Nat → Int → Int → Int → Bool → Option (Int × Int)
 | 0, _, _, _, _ => none
 | k + 1, x0, x1, x2, x26 => if x26 = true then (some (0, 0)) else ((impl_PassStep.f x2).bind fun bt136 => (if bt136.2.2.1 = 0 then (none) else (if bt136.2.2.2 = 0 then (none) else (if (wrap64 (Int.tdiv (wrap64 ((wrap64 ((wrap64 (x0 - bt136.1)) + bt136.2.2.1)) - 1)) bt136.2.2.1)) < 1 then (some (0, 0)) else (if (wrap64 (Int.tdiv (wrap64 ((wrap64 ((wrap64 (x1 - bt136.2.1)) + bt136.2.2.2)) - 1)) bt136.2.2.2)) < 1 then (some (0, 0)) else (some (wrap64 (Int.tdiv (wrap64 ((wrap64 ((wrap64 (x0 - bt136.1)) + bt136.2.2.1)) - 1)) bt136.2.2.1), wrap64 (Int.tdiv (wrap64 ((wrap64 ((wrap64 (x1 - bt136.2.1)) + bt136.2.2.2)) - 1)) bt136.2.2.2))))))))
def impl_PassSize.f (k : Nat) (a0 : Int) (a1 : Int) (a2 : Int) : Option (Int × Int) := (impl_isSide.f a0).bind fun t133 => (if t133 = true then ((impl_isSide.f a1).bind fun t134 => (if t134 = true then ((impl_within.f a2 0 6).bind fun t135 => (impl_PassSize.j0 k a0 a1 a2 (!t135))) else (impl_PassSize.j0 k a0 a1 a2 true))) else (impl_PassSize.j0 k a0 a1 a2 true))
theorem impl_PassSize.mono_l : ∀ k, (∀ y0 y1 y2 y3, LeO (impl_PassSize.j0 k y0 y1 y2 y3) (impl_PassSize.j0 (k + 1) y0 y1 y2 y3))
 | 0 => fun _ _ _ _ r h => by simp [impl_PassSize.j0] at h
 | k + 1 => by
  have ih0 := impl_PassSize.mono_l k
  ·intro y0 y1 y2 y3
   unfold impl_PassSize.j0
   repeat' first
   | (with_reducible exact ih0 _ _ _ _)
   | (with_reducible exact LeO.refl _)
   | (with_reducible exact LeO.none _)
   | (with_reducible refine LeO.ite ?_ ?_)
   | (with_reducible refine LeO.bind ?_ (fun _ => ?_))
   | exact ih0 _ _ _ _
   | exact LeO.none _
   | refine LeO.ite ?_ ?_
   | refine LeO.bind ?_ (fun _ => ?_)
theorem impl_PassSize.mono : ∀ a0 a1 a2 k, LeO (impl_PassSize.f k a0 a1 a2) (impl_PassSize.f (k + 1) a0 a1 a2) := by
 intro a0 a1 a2 k
 have ih0 := impl_PassSize.mono_l k
 unfold impl_PassSize.f
 repeat' first
   | (with_reducible exact ih0 _ _ _ _)
   | (with_reducible exact LeO.refl _)
   | (with_reducible exact LeO.none _)
   | (with_reducible refine LeO.ite ?_ ?_)
   | (with_reducible refine LeO.bind ?_ (fun _ => ?_))
   | exact ih0 _ _ _ _
   | exact LeO.none _
   | refine LeO.ite ?_ ?_
   | refine LeO.bind ?_ (fun _ => ?_)
set_option maxHeartbeats 8000000 in
set_option maxRecDepth 100000 in
theorem impl_PassSize.calls (k : Nat) (a0 : Int) (a1 : Int) (a2 : Int) (r1 : Int) (r2 : Int) (w : World) (h : impl_PassSize.f k a0 a1 a2 = some (r1, r2)) :
  Calls Try.prog 66 #[.int .i64 a0, .int .i64 a1, .int .i64 a2] w fun e w' => e = .returned (.tuple #[.int .i64 r1, .int .i64 r2]) ∧ Drawn0 w w' := by
 unfold impl_PassSize.f at h; have H := h
 clear h
 have HC4 := aM H
 clear H
 go_enter Try.func66, Try.ntmps66
 go_upto_region 1 with (fail)
 go_cut [26] (fun v26 wc => ∃ (kq : Nat) (x26_3 : Bool), v26 = .bool x26_3 ∧ Aside0 (impl_PassSize.j0 kq a0 a1 a2 x26_3 = some (r1, r2)) ∧ Aside0 (kq ≤ k) ∧ Drawn0 w wc)
 case first =>
  have H := HC4.out
  clear HC4
  replace H := oB.mp H
  obtain ⟨t133, A50, H⟩ := H
  try dsimp only at H
  have A5 := aM A50
  clear A50
  by_cases c6 : t133 = true
  ·subst c6
   have H1 : ((impl_isSide.f a1).bind fun t134 => (if t134 = true then ((impl_within.f a2 0 6).bind fun t135 => (impl_PassSize.j0 k a0 a1 a2 (!t135))) else (impl_PassSize.j0 k a0 a1 a2 true))) = some (r1, r2) := by rw [if_pos rfl] at H; first | done | exact H
   clear H
   have H := H1
   clear H1
   replace H := oB.mp H
   obtain ⟨t134, A70, H⟩ := H
   replace H : (if t134 = true then ((impl_within.f a2 0 6).bind fun t135 => (impl_PassSize.j0 k a0 a1 a2 (!t135))) else (impl_PassSize.j0 k a0 a1 a2 true)) = some (r1, r2) := H
   have A7 := aM A70
   clear A70
   by_cases c8 : t134 = true
   ·subst c8
    have H1 : ((impl_within.f a2 0 6).bind fun t135 => (impl_PassSize.j0 k a0 a1 a2 (!t135))) = some (r1, r2) := by rw [if_pos rfl] at H; first | done | exact H
    clear H
    have H := H1
    clear H1
    replace H := oB.mp H
    obtain ⟨t135, A90, H⟩ := H
    replace H : (impl_PassSize.j0 k a0 a1 a2 (!t135)) = some (r1, r2) := H
    have A9 := aM A90
    clear A90
    have H' := aM H
    clear H
    go_wp2_with (first | ((with_reducible refine gate_callee (f := 92) rfl ?_); refine goesL_ (some 15) rfl rfl Try.func92 (by kernel_rfl) rfl #[.int .i64 a0] rfl (by (try simp only [lM, List.map_cons, List.map_nil]); first | done | rfl | (simp only [lD, lT]; rfl)) ?_; (with_reducible refine (impl_isSide.calls a0 true _ A5.out).mono ?_); rintro e w' ⟨rfl, ⟨nd, rfl⟩⟩; refine ⟨_, rfl, ?_⟩) | (go_at_call 92; (with_reducible refine (impl_isSide.calls a1 true _ A7.out).mono ?_); rintro e w' ⟨rfl, ⟨nd, rfl⟩⟩) | (go_at_call 82; (with_reducible refine (impl_within.calls a2 0 6 t135 _ A9.out).mono ?_); rintro e w' ⟨rfl, ⟨nd, rfl⟩⟩))
    go_meet
    case rel => exact ⟨_, (!t135), (by first | rfl | (simp; done) | (simp [*]; done)), H', ⟨by first | omega | exact Nat.le_refl _⟩, by repeat (first | exact Drawn0.refl _ | apply Drawn0.step)⟩
   ·replace c8 := Bool.eq_false_iff.mpr c8
    subst c8
    have H1 : (impl_PassSize.j0 k a0 a1 a2 true) = some (r1, r2) := by rw [if_neg (show ¬ (false = true) by decide)] at H; first | done | exact H
    clear H
    have H := H1
    clear H1
    have H' := aM H
    clear H
    go_wp2_with (first | ((with_reducible refine gate_callee (f := 92) rfl ?_); refine goesL_ (some 15) rfl rfl Try.func92 (by kernel_rfl) rfl #[.int .i64 a0] rfl (by (try simp only [lM, List.map_cons, List.map_nil]); first | done | rfl | (simp only [lD, lT]; rfl)) ?_; (with_reducible refine (impl_isSide.calls a0 true _ A5.out).mono ?_); rintro e w' ⟨rfl, ⟨nd, rfl⟩⟩; refine ⟨_, rfl, ?_⟩) | (go_at_call 92; (with_reducible refine (impl_isSide.calls a1 false _ A7.out).mono ?_); rintro e w' ⟨rfl, ⟨nd, rfl⟩⟩))
    go_meet
    case rel => exact ⟨_, (true), (by first | rfl | (simp; done) | (simp [*]; done)), H', ⟨by first | omega | exact Nat.le_refl _⟩, by repeat (first | exact Drawn0.refl _ | apply Drawn0.step)⟩
  ·replace c6 := Bool.eq_false_iff.mpr c6
   subst c6
   have H1 : (impl_PassSize.j0 k a0 a1 a2 true) = some (r1, r2) := by rw [if_neg (show ¬ (false = true) by decide)] at H; first | done | exact H
   clear H
   have H := H1
   clear H1
   have H' := aM H
   clear H
   go_wp2_with (first | ((with_reducible refine gate_callee (f := 92) rfl ?_); refine goesL_ (some 15) rfl rfl Try.func92 (by kernel_rfl) rfl #[.int .i64 a0] rfl (by (try simp only [lM, List.map_cons, List.map_nil]); first | done | rfl | (simp only [lD, lT]; rfl)) ?_; (with_reducible refine (impl_isSide.calls a0 false _ A5.out).mono ?_); rintro e w' ⟨rfl, ⟨nd, rfl⟩⟩; refine ⟨_, rfl, ?_⟩))
   go_meet
   case rel => exact ⟨_, (true), (by first | rfl | (simp; done) | (simp [*]; done)), H', ⟨by first | omega | exact Nat.le_refl _⟩, by repeat (first | exact Drawn0.refl _ | apply Drawn0.step)⟩
 case rest =>
  clear HC4
  try clear p2
  try clear c6
  try clear c8
  try clear c9
  obtain ⟨kq, x26_3, rfl, HA, HJ3, ⟨mc3, rfl⟩⟩ := hcut
  cases kq with
  | zero => exact absurd HA.out (by simp [impl_PassSize.j0])
  | succ kj3 =>
   have H := HA.out
   clear HA
   simp only [impl_PassSize.j0] at H
   by_cases c10 : x26_3 = true
   ·subst c10
    have H1 : (some (0, 0)) = some (r1, r2) := by rw [if_pos rfl] at H; first | done | exact H
    clear H
    have H := H1
    clear H1
    simp only [Option.some.injEq, Prod.mk.injEq] at H
    obtain ⟨rfl, rfl⟩ := H
    go_wp2
    go_ret2
    exact ⟨by first | rfl | (simp; done) | (simp [*]; done), by repeat (first | exact Drawn0.refl _ | apply Drawn0.step)⟩
   ·replace c10 := Bool.eq_false_iff.mpr c10
    subst c10
    have H1 : ((impl_PassStep.f a2).bind fun bt136 => (if bt136.2.2.1 = 0 then (none) else (if bt136.2.2.2 = 0 then (none) else (if (wrap64 (Int.tdiv (wrap64 ((wrap64 ((wrap64 (a0 - bt136.1)) + bt136.2.2.1)) - 1)) bt136.2.2.1)) < 1 then (some (0, 0)) else (if (wrap64 (Int.tdiv (wrap64 ((wrap64 ((wrap64 (a1 - bt136.2.1)) + bt136.2.2.2)) - 1)) bt136.2.2.2)) < 1 then (some (0, 0)) else (some (wrap64 (Int.tdiv (wrap64 ((wrap64 ((wrap64 (a0 - bt136.1)) + bt136.2.2.1)) - 1)) bt136.2.2.1), wrap64 (Int.tdiv (wrap64 ((wrap64 ((wrap64 (a1 - bt136.2.1)) + bt136.2.2.2)) - 1)) bt136.2.2.2)))))))) = some (r1, r2) := by rw [if_neg (show ¬ (false = true) by decide)] at H; first | done | exact H
    clear H
    have H := H1
    clear H1
    replace H := oB.mp H
    obtain ⟨⟨t136, t137, t138, t139⟩, A110, H⟩ := H
    try dsimp only at H
    have A11 := aM A110
    clear A110
    by_cases c12 : t138 = 0
    ·rw [if_pos c12] at H
     exact absurd H (by simp)
    ·rw [if_neg c12] at H
     have c12b0 : (t138 == 0) = false := beq_eq_false_iff_ne.mpr c12
     have c12b1 : (t138 != 0) = true := bne_iff_ne.mpr c12
     by_cases c13 : t139 = 0
     ·rw [if_pos c13] at H
      exact absurd H (by simp)
     ·rw [if_neg c13] at H
      have c13b0 : (t139 == 0) = false := beq_eq_false_iff_ne.mpr c13
      have c13b1 : (t139 != 0) = true := bne_iff_ne.mpr c13
      by_cases c14 : (wrap64 (Int.tdiv (wrap64 ((wrap64 ((wrap64 (a0 - t136)) + t138)) - 1)) t138)) < 1
      ·rw [if_pos c14] at H
       have c14b0 : decide ((wrap64 (Int.tdiv (wrap64 ((wrap64 ((wrap64 (a0 - t136)) + t138)) - 1)) t138)) < 1) = true := decide_eq_true c14
       clear c14
       simp only [Option.some.injEq, Prod.mk.injEq] at H
       obtain ⟨rfl, rfl⟩ := H
       go_wp2_with (first | ((with_reducible refine gate_callee (f := 140) rfl ?_); refine goesL_ (some 29) rfl rfl Try.func140 (by kernel_rfl) rfl #[.int .i64 a2] rfl (by (try simp only [lM, List.map_cons, List.map_nil]); first | done | rfl | (simp only [lD, lT]; rfl)) ?_; (with_reducible refine (impl_PassStep.calls a2 t136 t137 t138 t139 _ A11.out).mono ?_); rintro e w' ⟨rfl, ⟨nd, rfl⟩⟩; refine ⟨_, rfl, ?_⟩))
       go_ret2
       exact ⟨by first | rfl | (simp; done) | (simp [*]; done), by repeat (first | exact Drawn0.refl _ | apply Drawn0.step)⟩
      ·rw [if_neg c14] at H
       have c14b0 : decide ((wrap64 (Int.tdiv (wrap64 ((wrap64 ((wrap64 (a0 - t136)) + t138)) - 1)) t138)) < 1) = false := decide_eq_false c14
       clear c14
       by_cases c15 : (wrap64 (Int.tdiv (wrap64 ((wrap64 ((wrap64 (a1 - t137)) + t139)) - 1)) t139)) < 1
       ·rw [if_pos c15] at H
        have c15b0 : decide ((wrap64 (Int.tdiv (wrap64 ((wrap64 ((wrap64 (a1 - t137)) + t139)) - 1)) t139)) < 1) = true := decide_eq_true c15
        clear c15
        simp only [Option.some.injEq, Prod.mk.injEq] at H
        obtain ⟨rfl, rfl⟩ := H
        go_wp2_with (first | ((with_reducible refine gate_callee (f := 140) rfl ?_); refine goesL_ (some 29) rfl rfl Try.func140 (by kernel_rfl) rfl #[.int .i64 a2] rfl (by (try simp only [lM, List.map_cons, List.map_nil]); first | done | rfl | (simp only [lD, lT]; rfl)) ?_; (with_reducible refine (impl_PassStep.calls a2 t136 t137 t138 t139 _ A11.out).mono ?_); rintro e w' ⟨rfl, ⟨nd, rfl⟩⟩; refine ⟨_, rfl, ?_⟩))
        go_ret2
        exact ⟨by first | rfl | (simp; done) | (simp [*]; done), by repeat (first | exact Drawn0.refl _ | apply Drawn0.step)⟩
       ·rw [if_neg c15] at H
        have c15b0 : decide ((wrap64 (Int.tdiv (wrap64 ((wrap64 ((wrap64 (a1 - t137)) + t139)) - 1)) t139)) < 1) = false := decide_eq_false c15
        clear c15
        simp only [Option.some.injEq, Prod.mk.injEq] at H
        obtain ⟨rfl, rfl⟩ := H
        go_wp2_with (first | ((with_reducible refine gate_callee (f := 140) rfl ?_); refine goesL_ (some 29) rfl rfl Try.func140 (by kernel_rfl) rfl #[.int .i64 a2] rfl (by (try simp only [lM, List.map_cons, List.map_nil]); first | done | rfl | (simp only [lD, lT]; rfl)) ?_; (with_reducible refine (impl_PassStep.calls a2 t136 t137 t138 t139 _ A11.out).mono ?_); rintro e w' ⟨rfl, ⟨nd, rfl⟩⟩; refine ⟨_, rfl, ?_⟩))
        go_ret2
        exact ⟨by first | rfl | (simp; done) | (simp [*]; done), by repeat (first | exact Drawn0.refl _ | apply Drawn0.step)⟩

/-! ### impl_pixelsOf: function 67 -/
mutual
def impl_pixelsOf.l0 : Nat → Int → Int → Int → Int → Int → List Int → Int → Option (List Int)
 | 0, _, _, _, _, _, _, _ => none
 | k + 1, x0, x1, x7, x9, x10, x11, x12 => if x12 < x1 then (impl_pixelsOf.l1 k x0 x1 x7 x9 x10 x11 x12 x7) else (some x11)
def impl_pixelsOf.l1 : Nat → Int → Int → Int → Int → Int → List Int → Int → Int → Option (List Int)
 | 0, _, _, _, _, _, _, _, _ => none
 | k + 1, x0, x1, x7, x9, x10, x11, x12, x13 => if x13 < x0 then (if x11.length < 17592186044416 then (impl_pixelsOf.l1 k x0 x1 x7 x9 x10 (x11 ++ [wrap64 ((wrap64 (x12 * x0)) + x13)]) x12 (wrap64 (x13 + x9))) else (none)) else (impl_pixelsOf.l0 k x0 x1 x7 x9 x10 x11 (wrap64 (x12 + x10)))
end
def impl_pixelsOf.f (k : Nat) (a0 : Int) (a1 : Int) (a2 : Int) : Option (List Int) := (impl_PassStep.f a2).bind fun bt140 => (impl_pixelsOf.l0 k a0 a1 bt140.1 bt140.2.2.1 bt140.2.2.2 (([] : List Int)) bt140.2.1)
theorem impl_pixelsOf.mono_l : ∀ k, (∀ y0 y1 y2 y3 y4 y5 y6, LeO (impl_pixelsOf.l0 k y0 y1 y2 y3 y4 y5 y6) (impl_pixelsOf.l0 (k + 1) y0 y1 y2 y3 y4 y5 y6)) ∧ (∀ y0 y1 y2 y3 y4 y5 y6 y7, LeO (impl_pixelsOf.l1 k y0 y1 y2 y3 y4 y5 y6 y7) (impl_pixelsOf.l1 (k + 1) y0 y1 y2 y3 y4 y5 y6 y7))
 | 0 => ⟨fun _ _ _ _ _ _ _ r h => by simp [impl_pixelsOf.l0] at h, fun _ _ _ _ _ _ _ _ r h => by simp [impl_pixelsOf.l1] at h⟩
 | k + 1 => by
  obtain ⟨ih0, ih1⟩ := impl_pixelsOf.mono_l k
  refine ⟨?_, ?_⟩
  ·intro y0 y1 y2 y3 y4 y5 y6
   unfold impl_pixelsOf.l0
   repeat' first
   | (with_reducible exact ih0 _ _ _ _ _ _ _)
   | (with_reducible exact ih1 _ _ _ _ _ _ _ _)
   | (with_reducible exact LeO.refl _)
   | (with_reducible exact LeO.none _)
   | (with_reducible refine LeO.ite ?_ ?_)
   | (with_reducible refine LeO.bind ?_ (fun _ => ?_))
   | exact ih0 _ _ _ _ _ _ _
   | exact ih1 _ _ _ _ _ _ _ _
   | exact LeO.none _
   | refine LeO.ite ?_ ?_
   | refine LeO.bind ?_ (fun _ => ?_)
  ·intro y0 y1 y2 y3 y4 y5 y6 y7
   unfold impl_pixelsOf.l1
   repeat' first
   | (with_reducible exact ih0 _ _ _ _ _ _ _)
   | (with_reducible exact ih1 _ _ _ _ _ _ _ _)
   | (with_reducible exact LeO.refl _)
   | (with_reducible exact LeO.none _)
   | (with_reducible refine LeO.ite ?_ ?_)
   | (with_reducible refine LeO.bind ?_ (fun _ => ?_))
   | exact ih0 _ _ _ _ _ _ _
   | exact ih1 _ _ _ _ _ _ _ _
   | exact LeO.none _
   | refine LeO.ite ?_ ?_
   | refine LeO.bind ?_ (fun _ => ?_)
theorem impl_pixelsOf.mono : ∀ a0 a1 a2 k, LeO (impl_pixelsOf.f k a0 a1 a2) (impl_pixelsOf.f (k + 1) a0 a1 a2) := by
 intro a0 a1 a2 k
 obtain ⟨ih0, ih1⟩ := impl_pixelsOf.mono_l k
 unfold impl_pixelsOf.f
 repeat' first
   | (with_reducible exact ih0 _ _ _ _ _ _ _)
   | (with_reducible exact ih1 _ _ _ _ _ _ _ _)
   | (with_reducible exact LeO.refl _)
   | (with_reducible exact LeO.none _)
   | (with_reducible refine LeO.ite ?_ ?_)
   | (with_reducible refine LeO.bind ?_ (fun _ => ?_))
   | exact ih0 _ _ _ _ _ _ _
   | exact ih1 _ _ _ _ _ _ _ _
   | exact LeO.none _
   | refine LeO.ite ?_ ?_
   | refine LeO.bind ?_ (fun _ => ?_)
set_option maxHeartbeats 8000000 in
set_option maxRecDepth 100000 in
theorem impl_pixelsOf.calls (k : Nat) (a0 : Int) (a1 : Int) (a2 : Int) (r : List Int) (w : World) (h : impl_pixelsOf.f k a0 a1 a2 = some r) :
  Calls Try.prog 67 #[.int .i64 a0, .int .i64 a1, .int .i64 a2] w fun e w' => ∃ v0_ : Value, e = .returned (v0_) ∧ Kd.R (Kd.int .i64) 3 w' w.heap.size (fun _ => True) v0_ r ∧ Below w.heap.size w w' := by
 have HB := aM (Below.refl w.heap.size w)
 have H : ((impl_PassStep.f a2).bind fun bt140 => (impl_pixelsOf.l0 k a0 a1 bt140.1 bt140.2.2.1 bt140.2.2.2 (([] : List Int)) bt140.2.1)) = some r := h
 clear h
 replace H := oB.mp H
 obtain ⟨⟨t140, t141, t142, t143⟩, A40, H⟩ := H
 replace H : (impl_pixelsOf.l0 k a0 a1 t140 t142 t143 (([] : List Int)) t141) = some r := H
 have A4 := aM A40
 clear A40
 obtain ⟨y144, hy144⟩ : ∃ y_ : List Int, y_ = (([] : List Int)) := ⟨_, rfl⟩
 replace H : (impl_pixelsOf.l0 k a0 a1 t140 t142 t143 y144 t141) = some r := by first | (rw [hy144]; with_reducible exact H) | (have H2_ := (Option.bind_some _ _).symm.trans H; rw [hy144]; with_reducible exact H2_) | (have H2_ := (Option.bind_some _ _).symm.trans H; with_reducible exact H2_) | with_reducible exact H | (rw [hy144]; exact H) | exact H
 have Ny144 := aM hy144
 clear hy144
 have H' := aM H
 clear H
 go_enter Try.func67, Try.ntmps67
 go_wp2_with (first | ((with_reducible refine gate_callee (f := 140) rfl ?_); refine goesL_ (some 16) rfl rfl Try.func140 (by kernel_rfl) rfl #[.int .i64 a2] rfl (by (try simp only [lM, List.map_cons, List.map_nil]); first | done | rfl | (simp only [lD, lT]; rfl)) ?_; (with_reducible refine (impl_PassStep.calls a2 t140 t141 t142 t143 _ A4.out).mono ?_); rintro e w' ⟨rfl, ⟨nd, rfl⟩⟩; refine ⟨_, rfl, ?_⟩) | ((with_reducible refine gate_dst (N := 21) rfl ?_); refine Kd.R_lit (Kd.int .i64) _ 3 ?hg (N := 21) ?hd (xs := ([] : List Int)) (inner := []) (ok := fun _ => True) (okp := fun _ => True) ?hr ?hp (fun _ hk => hk) trivial (Below.refl _ _) (Nat.le_refl _) (by simp) ?_; (case hd => rfl); (case hg => rfl); (case hr => first | (go_simp; done) | (go_simp; rfl)); (case hp => exact (Reps.none _ _)); intro v145 w5 ho6 hb hg_ hnew_; clear hg_ hnew_; (first | rw [← Ny144.out] at ho6 | (simp only [Int.reduceToNat] at ho6; rw [← Ny144.out] at ho6)); have n0_ := aM (Kd.R_lower ho6 (bZ (by repeat (first | (with_reducible first | exact HB.out | apply bA | apply bN | apply bE) | exact HB.out)))); have n1_ := aM (bT (by repeat (first | (with_reducible first | exact HB.out | apply bA | apply bN | apply bE) | exact HB.out)) hb); clear HB; have HO146 := n0_; have HB := n1_; clear n0_ n1_; clear hb ho6))
 go_loopg [11, 12] k (fun kq v11 v12 w' => ∃ (x11_1 : List Int) (x12_1 : Int), v12 = .int .i64 x12_1 ∧ Aside0 (impl_pixelsOf.l0 kq a0 a1 t140 t142 t143 x11_1 x12_1 = some r) ∧ Aside0 (kq ≤ k) ∧ Aside0 (Kd.R (Kd.int .i64) 3 w' w.heap.size (fun _ => True) v11 x11_1) ∧ Aside0 (Below w.heap.size w w'))
 case atStart => exact ⟨(y144), (t141), (by first | rfl | (simp; done) | (simp [*]; done)), H', ⟨Nat.le_refl _⟩, ⟨by (with_reducible repeat (first | apply rA | apply rN | apply rD)); exact HO146.out⟩, ⟨by repeat (first | (with_reducible first | exact HB.out | apply bA | apply bN | apply bE) | exact HB.out)⟩⟩
 case round =>
  clear H'
  try clear c1
  try clear p2
  try clear c6
  obtain ⟨x11_1, x12_1, rfl, HA, HK1, HO_11, HB⟩ := hrel
  cases gk with
  | zero => exact absurd HA.out (by simp [impl_pixelsOf.l0])
  | succ k1 =>
   have H := HA.out
   clear HA
   simp only [impl_pixelsOf.l0] at H
   by_cases c7 : x12_1 < a1
   ·rw [if_pos c7] at H
    have c7b0 : decide (x12_1 < a1) = true := decide_eq_true c7
    clear c7
    have H' := aM H
    clear H
    go_wp2
    go_loopg [11, 13] k1 (fun kq v11 v13 w' => ∃ (x11_2 : List Int) (x13_2 : Int), v13 = .int .i64 x13_2 ∧ Aside0 (impl_pixelsOf.l1 kq a0 a1 t140 t142 t143 x11_2 x12_1 x13_2 = some r) ∧ Aside0 (kq ≤ k1) ∧ Aside0 (Kd.R (Kd.int .i64) 3 w' w.heap.size (fun _ => True) v11 x11_2) ∧ Aside0 (Below w.heap.size w w'))
    case atStart => exact ⟨(x11_1), (t140), (by first | rfl | (simp; done) | (simp [*]; done)), H', ⟨Nat.le_refl _⟩, ⟨by (with_reducible repeat (first | apply rA | apply rN | apply rD)); exact HO_11.out⟩, ⟨by repeat (first | (with_reducible first | exact HB.out | apply bA | apply bN | apply bE) | exact HB.out)⟩⟩
    case round =>
     clear H'
     try clear c1
     try clear p2
     try clear c6
     try clear c7
     try clear c7b0
     try clear p2
     obtain ⟨x11_2, x13_2, rfl, HA, HK2, HO_11, HB⟩ := hrel
     cases gk with
     | zero => exact absurd HA.out (by simp [impl_pixelsOf.l1])
     | succ k2 =>
      have H := HA.out
      clear HA
      simp only [impl_pixelsOf.l1] at H
      by_cases c8 : x13_2 < a0
      ·rw [if_pos c8] at H
       have c8b0 : decide (x13_2 < a0) = true := decide_eq_true c8
       clear c8
       by_cases c9 : x11_2.length < 17592186044416
       ·rw [if_pos c9] at H
        have LMc9 := aM c9
        clear c9
        obtain ⟨y147, hy147⟩ : ∃ y_ : List Int, y_ = (x11_2 ++ [wrap64 ((wrap64 (x12_1 * a0)) + x13_2)]) := ⟨_, rfl⟩
        replace H : (impl_pixelsOf.l1 k2 a0 a1 t140 t142 t143 y147 x12_1 (wrap64 (x13_2 + t142))) = some r := by first | (rw [hy147]; with_reducible exact H) | (have H2_ := (Option.bind_some _ _).symm.trans H; rw [hy147]; with_reducible exact H2_) | (have H2_ := (Option.bind_some _ _).symm.trans H; with_reducible exact H2_) | with_reducible exact H | (rw [hy147]; exact H) | exact H
        have Ny147 := aM hy147
        clear hy147
        have H' := aM H
        clear H
        go_wp2_with (first | ((with_reducible refine gate_builtin (b := .append) (xs := #[.tmp 36, .tmp 42]) rfl ?_); at_builtin; refine Kd.R_append (Kd.int .i64) (w0 := w) w.heap.size rfl (.tmp 36) (.tmp 42) 22 3 (.int .i64 0) 8 rfl Try.underlying22 info3 rfl (by decide) (by omega) u11 x11_2 (wrap64 ((wrap64 (x12_1 * a0)) + x13_2)) [.int .i64 (wrap64 ((wrap64 (x12_1 * a0)) + x13_2))] (fun _ => True) (fun _ => False) rfl rfl ?aP (fun _ hk => hk.elim) ?aF ?aO ?aB ?aS ?aL ?_; (case aP => exact rfl); (case aB => exact (by repeat (first | (with_reducible first | exact HB.out | apply bA | apply bN | apply bE) | exact HB.out))); (case aF => exact (fun _ _ => trivial)); (case aO => exact (by (with_reducible repeat (first | apply rA | apply rN | apply rD)); exact HO_11.out)); (case aS => exact (bZ (by repeat (first | (with_reducible first | exact HB.out | apply bA | apply bN | apply bE) | exact HB.out)))); (case aL => have := LMc9.out; omega); intro v148 w10 ho hb hg hat; rw [← Ny147.out] at ho; have n0_ := aM (hb); have n1_ := aM (ho); clear HB; clear HO_11; have HB := n0_; have HO149 := n1_; clear n0_ n1_; clear ho hb hg hat))
        go_roundg k2
        case measure => have := HK1.out; have := HK2.out; omega
        case rel => exact ⟨(y147), (wrap64 (x13_2 + t142)), (by first | rfl | (simp; done) | (simp [*]; done)), H', ⟨by have := HK1.out; have := HK2.out; omega⟩, ⟨by (with_reducible repeat (first | apply rA | apply rN | apply rD)); exact HO149.out⟩, ⟨by repeat (first | (with_reducible first | exact HB.out | apply bA | apply bN | apply bE) | exact HB.out)⟩⟩
       ·rw [if_neg c9] at H
        exact absurd H (by simp)
      ·rw [if_neg c8] at H
       have c8b0 : decide (x13_2 < a0) = false := decide_eq_false c8
       clear c8
       have H' := aM H
       clear H
       go_wp2
       go_roundg k2
       case measure => have := HK1.out; have := HK2.out; omega
       case rel => exact ⟨(x11_2), (wrap64 (x12_1 + t143)), (by first | rfl | (simp; done) | (simp [*]; done)), H', ⟨by have := HK1.out; have := HK2.out; omega⟩, ⟨by (with_reducible repeat (first | apply rA | apply rN | apply rD)); exact HO_11.out⟩, ⟨by repeat (first | (with_reducible first | exact HB.out | apply bA | apply bN | apply bE) | exact HB.out)⟩⟩
   ·rw [if_neg c7] at H
    have c7b0 : decide (x12_1 < a1) = false := decide_eq_false c7
    clear c7
    obtain rfl := Option.some.inj H
    go_wp2
    go_ret
    exact ⟨_, by first | rfl | (simp [errW_none, errW_some] <;> rfl) | (simp [*, errW_none, errW_some] <;> rfl), by (with_reducible repeat (first | apply rA | apply rN | apply rD)); exact HO_11.out, by repeat (first | (with_reducible first | exact HB.out | apply bA | apply bN | apply bE) | exact HB.out)⟩

end Go.Proofs.Ytajnobmnkbkkgaa.PFnExactScanOf
