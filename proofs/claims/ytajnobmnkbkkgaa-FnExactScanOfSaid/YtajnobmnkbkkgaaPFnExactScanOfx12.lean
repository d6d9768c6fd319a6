/- Walks of functions that the law FnExactScanOf reaches: each call comes to what the Lean function of its name tells. Written by p2.py, a program of this session, by way of the kit's print. -/
import Derived.Test.YtajnobmnkbkkgaaPFnExactScanOfx0
import Derived.Test.YtajnobmnkbkkgaaPFnExactScanOfx7
import Derived.Test.YtajnobmnkbkkgaaPFnExactScanOfx8
import Derived.Test.YtajnobmnkbkkgaaPFnExactScanOfx11
namespace Go.Proofs.Ytajnobmnkbkkgaa.PFnExactScanOf
open Go.RowKit Go.Proofs.YtajnobmnkbkkgaaW.PrintWords Go.Proofs.YtajnobmnkbkkgaaW.PrintLast Go.Proofs.YtajnobmnkbkkgaaW.PrintMore
attribute [local go_sem] max2_int min2_int max_two min_two max_three min_three max_four min_four   -- for this text's walks alone
set_option linter.unusedVariables false
set_option linter.unusedSimpArgs false

/-! ### spec_PackRow: function 171 -/
mutual
def spec_PackRow.j0 : Nat → List Int → Int → Bool → Option (ByteArray × Bool)
 | 0, _, _, _ => none
 | k + 1, x0, x1, x20 => if x20 = true then (some ((⟨#[]⟩ : ByteArray), false)) else (spec_PackRow.l0 k x0 x1 (([] : List Int)) 0)
def spec_PackRow.l0 : Nat → List Int → Int → List Int → Int → Option (ByteArray × Bool)
 | 0, _, _, _, _ => none
 | k + 1, x0, x1, x6, x7 => if x7 < (x0.length : Int) then (if 0 ≤ x7 then ((spec_l01Pow.f k x1).bind fun t312 => ((spec_l01In.f (rd x0 x7) 0 (wrap64 (t312 - 1))).bind fun t313 => (if t313 = true then (spec_PackRow.l1 k x0 x1 x6 x7 (wrap64 (x1 - 1))) else (some ((⟨#[]⟩ : ByteArray), false))))) else (none)) else (spec_PackRow.l2 k x6)
def spec_PackRow.l1 : Nat → List Int → Int → List Int → Int → Int → Option (ByteArray × Bool)
 | 0, _, _, _, _, _ => none
 | k + 1, x0, x1, x6, x7, x8 => if x8 ≥ 0 then (if 0 ≤ x7 then (if x7 < (x0.length : Int) then ((spec_l01Pow.f k x8).bind fun t315 => (if t315 = 0 then (none) else (if x6.length < 17592186044416 then (spec_PackRow.l1 k x0 x1 (x6 ++ [Int.tmod (wrap64 (Int.tdiv (rd x0 x7) t315)) 2]) x7 (wrap64 (x8 - 1))) else (none)))) else (none)) else (none)) else (spec_PackRow.l0 k x0 x1 x6 (wrap64 (x7 + 1)))
def spec_PackRow.l2 : Nat → List Int → Option (ByteArray × Bool)
 | 0, _ => none
 | k + 1, x6 => if ((x6.length : Int) % 8) = 0 then (spec_PackRow.l3 k x6 (([] : List Int)) 0) else (if x6.length < 17592186044416 then (spec_PackRow.l2 k (x6 ++ [0])) else (none))
def spec_PackRow.l3 : Nat → List Int → List Int → Int → Option (ByteArray × Bool)
 | 0, _, _, _ => none
 | k + 1, x6, x9, x10 => if x10 < (x6.length : Int) then (spec_PackRow.l4 k x6 x9 x10 0 0) else (some (strOfNums x9, true))
def spec_PackRow.l4 : Nat → List Int → List Int → Int → Int → Int → Option (ByteArray × Bool)
 | 0, _, _, _, _, _ => none
 | k + 1, x6, x9, x10, x11, x12 => if x12 < 8 then (if 0 ≤ (wrap64 (x10 + x12)) then (if (wrap64 (x10 + x12)) < (x6.length : Int) then (spec_PackRow.l4 k x6 x9 x10 (wrap64 ((wrap64 (2 * x11)) + (rd x6 (wrap64 (x10 + x12))))) (wrap64 (x12 + 1))) else (none)) else (none)) else (if x9.length < 140737488355328 then (spec_PackRow.l3 k x6 (x9 ++ [(x11) % 256]) (wrap64 (x10 + 8))) else (none))
end
def spec_PackRow.f (k : Nat) (l0 : List Int) (a1 : Int) : Option (ByteArray × Bool) := (spec_l12Depth.f k a1).bind fun t307 => (if t307 = true then (spec_PackRow.j0 k l0 a1 (decide ((l0.length : Int) > 96))) else (spec_PackRow.j0 k l0 a1 true))
theorem spec_PackRow.mono_l : ∀ k, (∀ y0 y1 y2, LeO (spec_PackRow.j0 k y0 y1 y2) (spec_PackRow.j0 (k + 1) y0 y1 y2)) ∧ (∀ y0 y1 y2 y3, LeO (spec_PackRow.l0 k y0 y1 y2 y3) (spec_PackRow.l0 (k + 1) y0 y1 y2 y3)) ∧ (∀ y0 y1 y2 y3 y4, LeO (spec_PackRow.l1 k y0 y1 y2 y3 y4) (spec_PackRow.l1 (k + 1) y0 y1 y2 y3 y4)) ∧ (∀ y0, LeO (spec_PackRow.l2 k y0) (spec_PackRow.l2 (k + 1) y0)) ∧ (∀ y0 y1 y2, LeO (spec_PackRow.l3 k y0 y1 y2) (spec_PackRow.l3 (k + 1) y0 y1 y2)) ∧ (∀ y0 y1 y2 y3 y4, LeO (spec_PackRow.l4 k y0 y1 y2 y3 y4) (spec_PackRow.l4 (k + 1) y0 y1 y2 y3 y4))
 | 0 => ⟨fun _ _ _ r h => by simp [spec_PackRow.j0] at h, fun _ _ _ _ r h => by simp [spec_PackRow.l0] at h, fun _ _ _ _ _ r h => by simp [spec_PackRow.l1] at h, fun _ r h => by simp [spec_PackRow.l2] at h, fun _ _ _ r h => by simp [spec_PackRow.l3] at h, fun _ _ _ _ _ r h => by simp [spec_PackRow.l4] at h⟩
 | k + 1 => by
  obtain ⟨ih0, ih1, ih2, ih3, ih4, ih5⟩ := spec_PackRow.mono_l k
  refine ⟨?_, ?_, ?_, ?_, ?_, ?_⟩
  ·intro y0 y1 y2
   unfold spec_PackRow.j0
   repeat' first
   | (with_reducible exact ih0 _ _ _)
   | (with_reducible exact ih1 _ _ _ _)
   | (with_reducible exact ih2 _ _ _ _ _)
   | (with_reducible exact ih3 _)
   | (with_reducible exact ih4 _ _ _)
   | (with_reducible exact ih5 _ _ _ _ _)
   | (with_reducible exact spec_l01Pow.mono _ _)
   | (with_reducible exact spec_l12Depth.mono _ _)
   | (with_reducible exact LeO.refl _)
   | (with_reducible exact LeO.none _)
   | (with_reducible refine LeO.ite ?_ ?_)
   | (with_reducible refine LeO.bind ?_ (fun _ => ?_))
   | exact ih0 _ _ _
   | exact ih1 _ _ _ _
   | exact ih2 _ _ _ _ _
   | exact ih3 _
   | exact ih4 _ _ _
   | exact ih5 _ _ _ _ _
   | exact spec_l01Pow.mono _ _
   | exact spec_l12Depth.mono _ _
   | exact LeO.none _
   | refine LeO.ite ?_ ?_
   | refine LeO.bind ?_ (fun _ => ?_)
  ·intro y0 y1 y2 y3
   unfold spec_PackRow.l0
   repeat' first
   | (with_reducible exact ih0 _ _ _)
   | (with_reducible exact ih1 _ _ _ _)
   | (with_reducible exact ih2 _ _ _ _ _)
   | (with_reducible exact ih3 _)
   | (with_reducible exact ih4 _ _ _)
   | (with_reducible exact ih5 _ _ _ _ _)
   | (with_reducible exact spec_l01Pow.mono _ _)
   | (with_reducible exact spec_l12Depth.mono _ _)
   | (with_reducible exact LeO.refl _)
   | (with_reducible exact LeO.none _)
   | (with_reducible refine LeO.ite ?_ ?_)
   | (with_reducible refine LeO.bind ?_ (fun _ => ?_))
   | exact ih0 _ _ _
   | exact ih1 _ _ _ _
   | exact ih2 _ _ _ _ _
   | exact ih3 _
   | exact ih4 _ _ _
   | exact ih5 _ _ _ _ _
   | exact spec_l01Pow.mono _ _
   | exact spec_l12Depth.mono _ _
   | exact LeO.none _
   | refine LeO.ite ?_ ?_
   | refine LeO.bind ?_ (fun _ => ?_)
  ·intro y0 y1 y2 y3 y4
   unfold spec_PackRow.l1
   repeat' first
   | (with_reducible exact ih0 _ _ _)
   | (with_reducible exact ih1 _ _ _ _)
   | (with_reducible exact ih2 _ _ _ _ _)
   | (with_reducible exact ih3 _)
   | (with_reducible exact ih4 _ _ _)
   | (with_reducible exact ih5 _ _ _ _ _)
   | (with_reducible exact spec_l01Pow.mono _ _)
   | (with_reducible exact spec_l12Depth.mono _ _)
   | (with_reducible exact LeO.refl _)
   | (with_reducible exact LeO.none _)
   | (with_reducible refine LeO.ite ?_ ?_)
   | (with_reducible refine LeO.bind ?_ (fun _ => ?_))
   | exact ih0 _ _ _
   | exact ih1 _ _ _ _
   | exact ih2 _ _ _ _ _
   | exact ih3 _
   | exact ih4 _ _ _
   | exact ih5 _ _ _ _ _
   | exact spec_l01Pow.mono _ _
   | exact spec_l12Depth.mono _ _
   | exact LeO.none _
   | refine LeO.ite ?_ ?_
   | refine LeO.bind ?_ (fun _ => ?_)
  ·intro y0
   unfold spec_PackRow.l2
   repeat' first
   | (with_reducible exact ih0 _ _ _)
   | (with_reducible exact ih1 _ _ _ _)
   | (with_reducible exact ih2 _ _ _ _ _)
   | (with_reducible exact ih3 _)
   | (with_reducible exact ih4 _ _ _)
   | (with_reducible exact ih5 _ _ _ _ _)
   | (with_reducible exact spec_l01Pow.mono _ _)
   | (with_reducible exact spec_l12Depth.mono _ _)
   | (with_reducible exact LeO.refl _)
   | (with_reducible exact LeO.none _)
   | (with_reducible refine LeO.ite ?_ ?_)
   | (with_reducible refine LeO.bind ?_ (fun _ => ?_))
   | exact ih0 _ _ _
   | exact ih1 _ _ _ _
   | exact ih2 _ _ _ _ _
   | exact ih3 _
   | exact ih4 _ _ _
   | exact ih5 _ _ _ _ _
   | exact spec_l01Pow.mono _ _
   | exact spec_l12Depth.mono _ _
   | exact LeO.none _
   | refine LeO.ite ?_ ?_
   | refine LeO.bind ?_ (fun _ => ?_)
  ·intro y0 y1 y2
   unfold spec_PackRow.l3
   repeat' first
   | (with_reducible exact ih0 _ _ _)
   | (with_reducible exact ih1 _ _ _ _)
   | (with_reducible exact ih2 _ _ _ _ _)
   | (with_reducible exact ih3 _)
   | (with_reducible exact ih4 _ _ _)
   | (with_reducible exact ih5 _ _ _ _ _)
   | (with_reducible exact spec_l01Pow.mono _ _)
   | (with_reducible exact spec_l12Depth.mono _ _)
   | (with_reducible exact LeO.refl _)
   | (with_reducible exact LeO.none _)
   | (with_reducible refine LeO.ite ?_ ?_)
   | (with_reducible refine LeO.bind ?_ (fun _ => ?_))
   | exact ih0 _ _ _
   | exact ih1 _ _ _ _
   | exact ih2 _ _ _ _ _
   | exact ih3 _
   | exact ih4 _ _ _
   | exact ih5 _ _ _ _ _
   | exact spec_l01Pow.mono _ _
   | exact spec_l12Depth.mono _ _
   | exact LeO.none _
   | refine LeO.ite ?_ ?_
   | refine LeO.bind ?_ (fun _ => ?_)
  ·intro y0 y1 y2 y3 y4
   unfold spec_PackRow.l4
   repeat' first
   | (with_reducible exact ih0 _ _ _)
   | (with_reducible exact ih1 _ _ _ _)
   | (with_reducible exact ih2 _ _ _ _ _)
   | (with_reducible exact ih3 _)
   | (with_reducible exact ih4 _ _ _)
   | (with_reducible exact ih5 _ _ _ _ _)
   | (with_reducible exact spec_l01Pow.mono _ _)
   | (with_reducible exact spec_l12Depth.mono _ _)
   | (with_reducible exact LeO.refl _)
   | (with_reducible exact LeO.none _)
   | (with_reducible refine LeO.ite ?_ ?_)
   | (with_reducible refine LeO.bind ?_ (fun _ => ?_))
   | exact ih0 _ _ _
   | exact ih1 _ _ _ _
   | exact ih2 _ _ _ _ _
   | exact ih3 _
   | exact ih4 _ _ _
   | exact ih5 _ _ _ _ _
   | exact spec_l01Pow.mono _ _
   | exact spec_l12Depth.mono _ _
   | exact LeO.none _
   | refine LeO.ite ?_ ?_
   | refine LeO.bind ?_ (fun _ => ?_)
theorem spec_PackRow.mono : ∀ a0 a1 k, LeO (spec_PackRow.f k a0 a1) (spec_PackRow.f (k + 1) a0 a1) := by
 intro a0 a1 k
 obtain ⟨ih0, ih1, ih2, ih3, ih4, ih5⟩ := spec_PackRow.mono_l k
 unfold spec_PackRow.f
 repeat' first
   | (with_reducible exact ih0 _ _ _)
   | (with_reducible exact ih1 _ _ _ _)
   | (with_reducible exact ih2 _ _ _ _ _)
   | (with_reducible exact ih3 _)
   | (with_reducible exact ih4 _ _ _)
   | (with_reducible exact ih5 _ _ _ _ _)
   | (with_reducible exact spec_l01Pow.mono _ _)
   | (with_reducible exact spec_l12Depth.mono _ _)
   | (with_reducible exact LeO.refl _)
   | (with_reducible exact LeO.none _)
   | (with_reducible refine LeO.ite ?_ ?_)
   | (with_reducible refine LeO.bind ?_ (fun _ => ?_))
   | exact ih0 _ _ _
   | exact ih1 _ _ _ _
   | exact ih2 _ _ _ _ _
   | exact ih3 _
   | exact ih4 _ _ _
   | exact ih5 _ _ _ _ _
   | exact spec_l01Pow.mono _ _
   | exact spec_l12Depth.mono _ _
   | exact LeO.none _
   | refine LeO.ite ?_ ?_
   | refine LeO.bind ?_ (fun _ => ?_)
def spec_PackRow.T7 : Bool × List (List Nat × List Nat) := (true, [([], []), ([], []), ([0, 1], [0, 1]), ([2], [2]), ([], []), ([4], [4]), ([5], [5]), ([3, 6, 5], [3, 6]), ([7], [7])])
def spec_PackRow.B7 : List Nat := [0, 0, 3, 7, 0, 16, 48, 127, 255]
theorem spec_PackRow.tab7 : rtab .any (opsOf Try.f171 7) = spec_PackRow.T7 := by kernel_rfl
theorem spec_PackRow.bits7 : waitsOk spec_PackRow.T7.2 spec_PackRow.B7 = true := by kernel_rfl
def spec_PackRow.T12 : Bool × List (List Nat × List Nat) := (true, [([], []), ([], []), ([], []), ([1, 2], [1, 2]), ([3], [3]), ([], []), ([5], [5]), ([4, 6], [4, 6]), ([7], [7]), ([8], [8]), ([0, 9, 6], [0, 9]), ([10, 10, 0, 1, 2, 3, 4, 5, 6, 7, 8, 9, 10], [0, 10])])
def spec_PackRow.B12 : List Nat := [0, 0, 0, 6, 14, 0, 32, 126, 254, 510, 1023, 2047]
theorem spec_PackRow.tab12 : rtab .any (opsOf Try.f171 12) = spec_PackRow.T12 := by kernel_rfl
theorem spec_PackRow.bits12 : waitsOk spec_PackRow.T12.2 spec_PackRow.B12 = true := by kernel_rfl
set_option maxHeartbeats 8000000 in
set_option maxRecDepth 100000 in
theorem spec_PackRow.calls (k : Nat) (A0 : Option Addr) (c0 : Nat) (l0 : List Int) (a1 : Int) (r1 : ByteArray) (r2 : Bool) (w : World) (hr0 : Kd.C (Kd.int .i64) w A0 l0.length l0) (hc0 : l0.length ≤ c0) (h : spec_PackRow.f k l0 a1 = some (r1, r2)) :
  Calls Try.prog 171 #[.slice A0 l0.length c0, .int .i64 a1] w fun e w' => e = .returned (.tuple #[.string r1, .bool r2]) ∧ Below w.heap.size w w' := by
 have HR0 := aM hr0
 have HC0 := aM hc0
 clear hr0 hc0
 have HB := aM (Below.refl w.heap.size w)
 have H : ((spec_l12Depth.f k a1).bind fun t307 => (if t307 = true then (spec_PackRow.j0 k l0 a1 (decide ((l0.length : Int) > 96))) else (spec_PackRow.j0 k l0 a1 true))) = some (r1, r2) := h
 clear h
 have HC3 := aM H
 clear H
 go_enter Try.func171, Try.ntmps171
 go_upto_region 1 with (fail)
 go_cut [20] (fun v20 wc => ∃ (kq : Nat) (x20_2 : Bool), v20 = .bool x20_2 ∧ Aside0 (spec_PackRow.j0 kq l0 a1 x20_2 = some (r1, r2)) ∧ Aside0 (kq ≤ k) ∧ Aside0 (Below w.heap.size w wc))
 case first =>
  have H := HC3.out
  clear HC3
  replace H := oB.mp H
  obtain ⟨t307, A40, H⟩ := H
  replace H : (if t307 = true then (spec_PackRow.j0 k l0 a1 (decide ((l0.length : Int) > 96))) else (spec_PackRow.j0 k l0 a1 true)) = some (r1, r2) := H
  have A4 := aM A40
  clear A40
  by_cases c5 : t307 = true
  ·subst c5
   have H1 : (spec_PackRow.j0 k l0 a1 (decide ((l0.length : Int) > 96))) = some (r1, r2) := by rw [if_pos rfl] at H; first | done | exact H
   clear H
   have H := H1
   clear H1
   have H' := aM H
   clear H
   go_wp2_with (first | ((with_reducible refine gate_callee (f := 176) rfl ?_); refine goesL_ (some 14) rfl rfl Try.func176 (by kernel_rfl) rfl #[.int .i64 a1] rfl (by (try simp only [lM, List.map_cons, List.map_nil]); first | done | rfl | (simp only [lD, lT]; rfl)) ?_; (with_reducible refine (spec_l12Depth.calls k a1 true _ A4.out).mono ?_); rintro e w' ⟨rfl, ⟨nd, rfl⟩⟩; refine ⟨_, rfl, ?_⟩))
   go_meet
   case rel => exact ⟨_, (decide ((l0.length : Int) > 96)), (by first | rfl | (simp; done) | (simp [*]; done)), H', ⟨by first | omega | exact Nat.le_refl _⟩, ⟨by repeat (first | (with_reducible first | exact HB.out | apply bA | apply bN | apply bE) | exact HB.out)⟩⟩
  ·replace c5 := Bool.eq_false_iff.mpr c5
   subst c5
   have H1 : (spec_PackRow.j0 k l0 a1 true) = some (r1, r2) := by rw [if_neg (show ¬ (false = true) by decide)] at H; first | done | exact H
   clear H
   have H := H1
   clear H1
   have H' := aM H
   clear H
   go_wp2_with (first | ((with_reducible refine gate_callee (f := 176) rfl ?_); refine goesL_ (some 14) rfl rfl Try.func176 (by kernel_rfl) rfl #[.int .i64 a1] rfl (by (try simp only [lM, List.map_cons, List.map_nil]); first | done | rfl | (simp only [lD, lT]; rfl)) ?_; (with_reducible refine (spec_l12Depth.calls k a1 false _ A4.out).mono ?_); rintro e w' ⟨rfl, ⟨nd, rfl⟩⟩; refine ⟨_, rfl, ?_⟩))
   go_meet
   case rel => exact ⟨_, (true), (by first | rfl | (simp; done) | (simp [*]; done)), H', ⟨by first | omega | exact Nat.le_refl _⟩, ⟨by repeat (first | (with_reducible first | exact HB.out | apply bA | apply bN | apply bE) | exact HB.out)⟩⟩
 case rest =>
  clear HC3
  try clear c1
  try clear p2
  try clear c5
  obtain ⟨kq, x20_2, rfl, HA, HJ2, HB⟩ := hcut
  cases kq with
  | zero => exact absurd HA.out (by simp [spec_PackRow.j0])
  | succ kj2 =>
   have H := HA.out
   clear HA
   simp only [spec_PackRow.j0] at H
   by_cases c6 : x20_2 = true
   ·subst c6
    have H1 : (some ((⟨#[]⟩ : ByteArray), false)) = some (r1, r2) := by rw [if_pos rfl] at H; first | done | exact H
    clear H
    have H := H1
    clear H1
    simp only [Option.some.injEq, Prod.mk.injEq] at H
    obtain ⟨rfl, rfl⟩ := H
    go_wp2
    go_ret2
    exact ⟨by first | rfl | (simp [errW_none, errW_some] <;> rfl) | (simp [*, errW_none, errW_some] <;> rfl), by repeat (first | (with_reducible first | exact HB.out | apply bA | apply bN | apply bE) | exact HB.out)⟩
   ·replace c6 := Bool.eq_false_iff.mpr c6
    subst c6
    have H1 : (spec_PackRow.l0 kj2 l0 a1 (([] : List Int)) 0) = some (r1, r2) := by rw [if_neg (show ¬ (false = true) by decide)] at H; first | done | exact H
    clear H
    have H := H1
    clear H1
    obtain ⟨y308, hy308⟩ : ∃ y_ : List Int, y_ = (([] : List Int)) := ⟨_, rfl⟩
    replace H : (spec_PackRow.l0 kj2 l0 a1 y308 0) = some (r1, r2) := by first | (rw [hy308]; with_reducible exact H) | (have H2_ := (Option.bind_some _ _).symm.trans H; rw [hy308]; with_reducible exact H2_) | (have H2_ := (Option.bind_some _ _).symm.trans H; with_reducible exact H2_) | with_reducible exact H | (rw [hy308]; exact H) | exact H
    have Ny308 := aM hy308
    clear hy308
    have H' := aM H
    clear H
    go_wp2_with (first | ((with_reducible refine gate_dst (N := 21) rfl ?_); (try (refine gate_guard (by rfl) ?_; dsimp only)); refine Kd.R_lit (Kd.int .i64) _ 3 ?hg (N := 21) ?hd (xs := ([] : List Int)) (inner := []) (ok := fun _ => True) (okp := fun _ => True) ?hr ?hp (fun _ hk => hk) trivial (Below.refl _ _) (Nat.le_refl _) (by simp) ?_; (case hd => rfl); (case hg => rfl); (case hr => first | (go_simp; done) | (go_simp; rfl)); (case hp => exact (Reps.none _ _)); intro v309 w7 ho8 hb hg_ hnew_; clear hg_ hnew_; (first | rw [← Ny308.out] at ho8 | (simp only [Int.reduceToNat] at ho8; rw [← Ny308.out] at ho8)); have n0_ := aM (Kd.R_lower ho8 (bZ (by repeat (first | (with_reducible first | exact HB.out | apply bA | apply bN | apply bE) | exact HB.out)))); have n1_ := aM (bT (by repeat (first | (with_reducible first | exact HB.out | apply bA | apply bN | apply bE) | exact HB.out)) hb); clear HB; have HO310 := n0_; have HB := n1_; clear n0_ n1_; clear hb ho8))
    go_loopg [6, 7] kj2 (fun kq v6 v7 w' => ∃ (x6_2 : List Int) (x7_2 : Int), v7 = .int .i64 x7_2 ∧ Aside0 (spec_PackRow.l0 kq l0 a1 x6_2 x7_2 = some (r1, r2)) ∧ Aside0 (kq ≤ kj2) ∧ Aside0 (Kd.R (Kd.int .i64) 3 w' w.heap.size (fun _ => True) v6 x6_2) ∧ Aside0 (Below w.heap.size w w'))
    case atStart => exact ⟨(y308), (0), (by first | rfl | (simp; done) | (simp [*]; done)), H', ⟨Nat.le_refl _⟩, ⟨by (with_reducible repeat (first | apply rA | apply rN | apply rD)); exact HO310.out⟩, ⟨by repeat (first | (with_reducible first | exact HB.out | apply bA | apply bN | apply bE) | exact HB.out)⟩⟩
    case round =>
     clear H'
     try clear c1
     try clear p2
     try clear c5
     try clear c6
     try clear p2
     obtain ⟨x6_2, x7_2, rfl, HA, HK2, HO_6, HB⟩ := hrel
     cases gk with
     | zero => exact absurd HA.out (by simp [spec_PackRow.l0])
     | succ k2 =>
      have H := HA.out
      clear HA
      simp only [spec_PackRow.l0] at H
      by_cases c9 : x7_2 < (l0.length : Int)
      ·rw [if_pos c9] at H
       have c9b0 : decide (x7_2 < (l0.length : Int)) = true := decide_eq_true c9
       clear c9
       by_cases c10 : 0 ≤ x7_2
       ·rw [if_pos c10] at H
        have c10b0 : decide (0 ≤ x7_2) = true := decide_eq_true c10
        clear c10
        replace H := oB.mp H
        obtain ⟨t312, A110, H⟩ := H
        replace H : ((spec_l01In.f (rd l0 x7_2) 0 (wrap64 (t312 - 1))).bind fun t313 => (if t313 = true then (spec_PackRow.l1 k2 l0 a1 x6_2 x7_2 (wrap64 (a1 - 1))) else (some ((⟨#[]⟩ : ByteArray), false)))) = some (r1, r2) := H
        have A11 := aM A110
        clear A110
        replace H := oB.mp H
        obtain ⟨t313, A120, H⟩ := H
        replace H : (if t313 = true then (spec_PackRow.l1 k2 l0 a1 x6_2 x7_2 (wrap64 (a1 - 1))) else (some ((⟨#[]⟩ : ByteArray), false))) = some (r1, r2) := H
        have A12 := aM A120
        clear A120
        by_cases c13 : t313 = true
        ·subst c13
         have H1 : (spec_PackRow.l1 k2 l0 a1 x6_2 x7_2 (wrap64 (a1 - 1))) = some (r1, r2) := by rw [if_pos rfl] at H; first | done | exact H
         clear H
         have H := H1
         clear H1
         have H' := aM H
         clear H
         try go_wp2
         have n0_ := aM (rD HO_6.out)
         have n1_ := aM (bE HB.out)
         clear HO_6
         clear HB
         have HO_6 := n0_
         have HB := n1_
         clear n0_ n1_
         have p311 : 0 ≤ (x7_2 : Int) := oD (by first | (with_reducible assumption) | assumption)
         have q311 : x7_2 < (l0.length : Int) := oD (by first | (with_reducible assumption) | assumption)
         obtain ⟨ad311, e311, hx311_0⟩ := Kd.at_int HR0.out x7_2 p311 q311
         have hw311_0 := hx311_0
         cases e311
         replace hx311_0 := (HB.out.cell (wL w _ hx311_0)).trans hx311_0
         replace p311 := eq_true p311
         replace q311 := eq_true q311
         refine start_ (n := 9) (S := fun w' => w'.cell? (ad311.add (x7_2).toNat) = some (.int .i64 (rd l0 x7_2))) (ds := []) #[false, false, false, false, false, false, false, false, false] (by kernel_rfl) rfl rfl (((HB.out.cell (wL w _ hw311_0)).trans hw311_0)) (fun hHeld => ?_); refine with_tabW spec_PackRow.tab7 spec_PackRow.bits7 (fun HT_ HW_ => ?_)
         generalize wr.drew = w14 at HO_6 HB hx311_0 hHeld ⊢
         refine pure_ (i := 0) (N := some 28) (v := ?_) (a' := ?_) #[true, false, false, false, false, false, false, false, false] rfl rfl (any_of HT_.out (by kernel_rfl)) (fun _ _ _ h => h) (Or.inl ⟨by rfl, ?_⟩) ?_ ?_
         rotate_left
         ·intro w'
          go_simp
          with_reducible rfl
         rotate_left
         ·simp only [Act.put, lI, lZ, lS, i64_w, i32_w]
          rfl
         refine pure_ (i := 1) (N := some 29) (v := ?_) (a' := ?_) #[true, true, false, false, false, false, false, false, false] rfl rfl (any_of HT_.out (by kernel_rfl)) (fun _ _ _ h => h) (Or.inl ⟨by rfl, ?_⟩) ?_ ?_
         rotate_left
         ·intro w'
          go_simp
          with_reducible rfl
         rotate_left
         ·simp only [Act.put, lI, lZ, lS, i64_w, i32_w]
          rfl
         refine pure_ (i := 2) (N := some 30) (v := ?_) (a' := ?_) #[true, true, true, false, false, false, false, false, false] rfl rfl (any_of HT_.out (by kernel_rfl)) (fun _ _ _ h => h) (Or.inl ⟨by rfl, ?_⟩) ?_ ?_
         rotate_left
         ·intro w'
          go_simp
          with_reducible rfl
         rotate_left
         ·simp only [Act.put, lI, lZ, lS, i64_w, i32_w]
          rfl
         refine pure_ (i := 4) (N := some 32) (v := ?_) (a' := ?_) #[true, true, true, false, true, false, false, false, false] rfl rfl (any_of HT_.out (by kernel_rfl)) (fun _ _ _ h => h) (Or.inl ⟨by rfl, ?_⟩) ?_ ?_
         rotate_left
         ·intro w'
          go_simp
          with_reducible rfl
         rotate_left
         ·simp only [Act.put, lI, lZ, lS, i64_w, i32_w]
          rfl
         refine take_ (i := 3) (N := some 31) (v := ?_) (a' := ?_) #[true, true, true, true, true, false, false, false, false] rfl rfl (take_ofW HT_.out HW_.out (by kernel_rfl)) (fun _ _ _ h => h) (Or.inl ⟨by rfl, ?_⟩) hHeld ?_ ?_
         rotate_left
         ·intro w' s0
          go_simp
          with_reducible rfl
         rotate_left
         ·simp only [Act.put, lI, lZ, lS, i64_w, i32_w]
          rfl
         refine one_ (i := 5) (N := some 33) #[true, true, true, true, true, true, false, false, false] rfl rfl (one_of HT_.out (by kernel_rfl)) (by decide) (fun K hK => ?_)
         refine goes_ Try.func99 (by kernel_rfl) rfl #[.int .i64 a1] (by rfl) rfl rfl (by (try simp only [lM, List.map_cons, List.map_nil]); first | done | rfl | (simp only [lD, lT]; rfl)) ?_
         with_reducible refine (spec_l01Pow.calls k2 a1 t312 _ A11.out).mono ?_
         rintro e w' ⟨rfl, ⟨nd, rfl⟩⟩
         refine ⟨_, rfl, ?_⟩
         refine hK.out _ _ (((HB.out.cell (wL w _ hw311_0)).trans hw311_0)) (fun hHeld => ?_)
         clear hK K
         refine norm_ (a' := ?_) ?_ ?_
         rotate_left
         ·show Act.put _ (some 33) _ = _
          simp only [Act.put, lI, lZ, lS, i64_w, i32_w]
          rfl
         refine pure_ (i := 6) (N := some 34) (v := ?_) (a' := ?_) #[true, true, true, true, true, true, true, false, false] rfl rfl (any_of HT_.out (by kernel_rfl)) (fun _ _ _ h => h) (Or.inl ⟨by rfl, ?_⟩) ?_ ?_
         rotate_left
         ·intro w'
          go_simp
          with_reducible rfl
         rotate_left
         ·simp only [Act.put, lI, lZ, lS, i64_w, i32_w]
          rfl
         refine one_ (i := 7) (N := some 35) #[true, true, true, true, true, true, true, true, false] rfl rfl (one_of HT_.out (by kernel_rfl)) (by decide) (fun K hK => ?_)
         refine goes_ Try.func129 (by kernel_rfl) rfl #[.int .i64 (rd l0 x7_2), .int .i64 0, .int .i64 (wrap64 (t312 - 1))] (by rfl) rfl rfl (by (try simp only [lM, List.map_cons, List.map_nil]); first | done | rfl | (simp only [lD, lT]; rfl)) ?_
         with_reducible refine (spec_l01In.calls (rd l0 x7_2) 0 (wrap64 (t312 - 1)) true _ A12.out).mono ?_
         rintro e w' ⟨rfl, ⟨nd, rfl⟩⟩
         refine ⟨_, rfl, ?_⟩
         refine hK.out _ _ (((HB.out.cell (wL w _ hw311_0)).trans hw311_0)) (fun hHeld => ?_)
         clear hK K
         refine norm_ (a' := ?_) ?_ ?_
         rotate_left
         ·show Act.put _ (some 35) _ = _
          simp only [Act.put, lI, lZ, lS, i64_w, i32_w]
          rfl
         refine pure_ (i := 8) (N := some 36) (v := ?_) (a' := ?_) #[true, true, true, true, true, true, true, true, true] rfl rfl (any_of HT_.out (by kernel_rfl)) (fun _ _ _ h => h) (Or.inl ⟨by rfl, ?_⟩) ?_ ?_
         rotate_left
         ·intro w'
          go_simp
          with_reducible rfl
         rotate_left
         ·simp only [Act.put, lI, lZ, lS, i64_w, i32_w]
          rfl
         refine done_ (done_of HT_.out (by kernel_rfl)) ?_
         try go_wp2
         go_loopg [6, 8] k2 (fun kq v6 v8 w' => ∃ (x6_3 : List Int) (x8_3 : Int), v8 = .int .i64 x8_3 ∧ Aside0 (spec_PackRow.l1 kq l0 a1 x6_3 x7_2 x8_3 = some (r1, r2)) ∧ Aside0 (kq ≤ k2) ∧ Aside0 (Kd.R (Kd.int .i64) 3 w' w.heap.size (fun _ => True) v6 x6_3) ∧ Aside0 (Below w.heap.size w w'))
         case atStart => exact ⟨(x6_2), (wrap64 (a1 - 1)), (by first | rfl | (simp; done) | (simp [*]; done)), H', ⟨Nat.le_refl _⟩, ⟨by (with_reducible repeat (first | apply rA | apply rN | apply rD)); exact HO_6.out⟩, ⟨by repeat (first | (with_reducible first | exact HB.out | apply bA | apply bN | apply bE) | exact HB.out)⟩⟩
         case round =>
          clear H'
          try clear c1
          try clear p2
          try clear p3
          try clear q3
          try clear hx3
          try clear c5
          try clear c6
          try clear p6
          try clear c9
          try clear c9b0
          try clear c10
          try clear c10b0
          try clear c12
          try clear c13
          try clear hx311_0
          try clear p2
          try clear p311
          try clear q311
          obtain ⟨x6_3, x8_3, rfl, HA, HK3, HO_6, HB⟩ := hrel
          cases gk with
          | zero => exact absurd HA.out (by simp [spec_PackRow.l1])
          | succ k3 =>
           have H := HA.out
           clear HA
           simp only [spec_PackRow.l1] at H
           by_cases c15 : x8_3 ≥ 0
           ·rw [if_pos c15] at H
            have c15b0 : decide (0 ≤ x8_3) = true := decide_eq_true c15
            clear c15
            by_cases c16 : 0 ≤ x7_2
            ·rw [if_pos c16] at H
             have c16b0 : decide (0 ≤ x7_2) = true := decide_eq_true c16
             clear c16
             by_cases c17 : x7_2 < (l0.length : Int)
             ·rw [if_pos c17] at H
              have c17b0 : decide (x7_2 < (l0.length : Int)) = true := decide_eq_true c17
              clear c17
              replace H := oB.mp H
              obtain ⟨t315, A180, H⟩ := H
              replace H : (if t315 = 0 then (none) else (if x6_3.length < 17592186044416 then (spec_PackRow.l1 k3 l0 a1 (x6_3 ++ [Int.tmod (wrap64 (Int.tdiv (rd l0 x7_2) t315)) 2]) x7_2 (wrap64 (x8_3 - 1))) else (none))) = some (r1, r2) := H
              have A18 := aM A180
              clear A180
              by_cases c19 : t315 = 0
              ·rw [if_pos c19] at H
               exact absurd H (by simp)
              ·rw [if_neg c19] at H
               have c19b0 : (t315 == 0) = false := beq_eq_false_iff_ne.mpr c19
               have c19b1 : (t315 != 0) = true := bne_iff_ne.mpr c19
               by_cases c20 : x6_3.length < 17592186044416
               ·rw [if_pos c20] at H
                have LMc20 := aM c20
                clear c20
                obtain ⟨y316, hy316⟩ : ∃ y_ : List Int, y_ = (x6_3 ++ [Int.tmod (wrap64 (Int.tdiv (rd l0 x7_2) t315)) 2]) := ⟨_, rfl⟩
                replace H : (spec_PackRow.l1 k3 l0 a1 y316 x7_2 (wrap64 (x8_3 - 1))) = some (r1, r2) := by first | (rw [hy316]; with_reducible exact H) | (have H2_ := (Option.bind_some _ _).symm.trans H; rw [hy316]; with_reducible exact H2_) | (have H2_ := (Option.bind_some _ _).symm.trans H; with_reducible exact H2_) | with_reducible exact H | (rw [hy316]; exact H) | exact H
                have Ny316 := aM hy316
                clear hy316
                have H' := aM H
                clear H
                try go_wp2
                have n0_ := aM (rD HO_6.out)
                have n1_ := aM (bE HB.out)
                clear HO_6
                clear HB
                have HO_6 := n0_
                have HB := n1_
                clear n0_ n1_
                have p314 : 0 ≤ (x7_2 : Int) := oD (by first | (with_reducible assumption) | assumption)
                have q314 : x7_2 < (l0.length : Int) := oD (by first | (with_reducible assumption) | assumption)
                obtain ⟨ad314, e314, hx314_0⟩ := Kd.at_int HR0.out x7_2 p314 q314
                have hw314_0 := hx314_0
                obtain rfl : ad311 = ad314 := (by injection e314)
                replace hx314_0 := (HB.out.cell (wL w _ hx314_0)).trans hx314_0
                replace p314 := eq_true p314
                replace q314 := eq_true q314
                refine start_ (n := 12) (S := fun w' => w'.cell? (ad311.add (x7_2).toNat) = some (.int .i64 (rd l0 x7_2))) (ds := []) #[false, false, false, false, false, false, false, false, false, false, false, false] (by kernel_rfl) rfl rfl (((HB.out.cell (wL w _ hw314_0)).trans hw314_0)) (fun hHeld => ?_); refine with_tabW spec_PackRow.tab12 spec_PackRow.bits12 (fun HT_ HW_ => ?_)
                generalize wr.drew = w21 at HO_6 HB hx314_0 hHeld ⊢
                refine pure_ (i := 0) (N := some 43) (v := ?_) (a' := ?_) #[true, false, false, false, false, false, false, false, false, false, false, false] rfl rfl (any_of HT_.out (by kernel_rfl)) (fun _ _ _ h => h) (Or.inl ⟨by rfl, ?_⟩) ?_ ?_
                rotate_left
                ·intro w'
                 go_simp
                 with_reducible rfl
                rotate_left
                ·simp only [Act.put, lI, lZ, lS, i64_w, i32_w]
                 rfl
                refine pure_ (i := 1) (N := some 44) (v := ?_) (a' := ?_) #[true, true, false, false, false, false, false, false, false, false, false, false] rfl rfl (any_of HT_.out (by kernel_rfl)) (fun _ _ _ h => h) (Or.inl ⟨by rfl, ?_⟩) ?_ ?_
                rotate_left
                ·intro w'
                 go_simp
                 with_reducible rfl
                rotate_left
                ·simp only [Act.put, lI, lZ, lS, i64_w, i32_w]
                 rfl
                refine pure_ (i := 2) (N := some 45) (v := ?_) (a' := ?_) #[true, true, true, false, false, false, false, false, false, false, false, false] rfl rfl (any_of HT_.out (by kernel_rfl)) (fun _ _ _ h => h) (Or.inl ⟨by rfl, ?_⟩) ?_ ?_
                rotate_left
                ·intro w'
                 go_simp
                 with_reducible rfl
                rotate_left
                ·simp only [Act.put, lI, lZ, lS, i64_w, i32_w]
                 rfl
                refine pure_ (i := 3) (N := some 46) (v := ?_) (a' := ?_) #[true, true, true, true, false, false, false, false, false, false, false, false] rfl rfl (any_of HT_.out (by kernel_rfl)) (fun _ _ _ h => h) (Or.inl ⟨by rfl, ?_⟩) ?_ ?_
                rotate_left
                ·intro w'
                 go_simp
                 with_reducible rfl
                rotate_left
                ·simp only [Act.put, lI, lZ, lS, i64_w, i32_w]
                 rfl
                refine pure_ (i := 5) (N := some 48) (v := ?_) (a' := ?_) #[true, true, true, true, false, true, false, false, false, false, false, false] rfl rfl (any_of HT_.out (by kernel_rfl)) (fun _ _ _ h => h) (Or.inl ⟨by rfl, ?_⟩) ?_ ?_
                rotate_left
                ·intro w'
                 go_simp
                 with_reducible rfl
                rotate_left
                ·simp only [Act.put, lI, lZ, lS, i64_w, i32_w]
                 rfl
                refine take_ (i := 4) (N := some 47) (v := ?_) (a' := ?_) #[true, true, true, true, true, true, false, false, false, false, false, false] rfl rfl (take_ofW HT_.out HW_.out (by kernel_rfl)) (fun _ _ _ h => h) (Or.inl ⟨by rfl, ?_⟩) hHeld ?_ ?_
                rotate_left
                ·intro w' s0
                 go_simp
                 with_reducible rfl
                rotate_left
                ·simp only [Act.put, lI, lZ, lS, i64_w, i32_w]
                 rfl
                refine one_ (i := 6) (N := some 49) #[true, true, true, true, true, true, true, false, false, false, false, false] rfl rfl (one_of HT_.out (by kernel_rfl)) (by decide) (fun K hK => ?_)
                refine goes_ Try.func99 (by kernel_rfl) rfl #[.int .i64 x8_3] (by rfl) rfl rfl (by (try simp only [lM, List.map_cons, List.map_nil]); first | done | rfl | (simp only [lD, lT]; rfl)) ?_
                with_reducible refine (spec_l01Pow.calls k3 x8_3 t315 _ A18.out).mono ?_
                rintro e w' ⟨rfl, ⟨nd, rfl⟩⟩
                refine ⟨_, rfl, ?_⟩
                refine hK.out _ _ (((HB.out.cell (wL w _ hw314_0)).trans hw314_0)) (fun hHeld => ?_)
                clear hK K
                refine norm_ (a' := ?_) ?_ ?_
                rotate_left
                ·show Act.put _ (some 49) _ = _
                 simp only [Act.put, lI, lZ, lS, i64_w, i32_w]
                 rfl
                refine pure_ (i := 7) (N := some 50) (v := ?_) (a' := ?_) #[true, true, true, true, true, true, true, true, false, false, false, false] rfl rfl (any_of HT_.out (by kernel_rfl)) (fun _ _ _ h => h) (Or.inl ⟨by rfl, ?_⟩) ?_ ?_
                rotate_left
                ·intro w'
                 go_simp
                 with_reducible rfl
                rotate_left
                ·simp only [Act.put, lI, lZ, lS, i64_w, i32_w]
                 rfl
                refine pure_ (i := 8) (N := some 51) (v := ?_) (a' := ?_) #[true, true, true, true, true, true, true, true, true, false, false, false] rfl rfl (any_of HT_.out (by kernel_rfl)) (fun _ _ _ h => h) (Or.inl ⟨by rfl, ?_⟩) ?_ ?_
                rotate_left
                ·intro w'
                 go_simp
                 with_reducible rfl
                rotate_left
                ·simp only [Act.put, lI, lZ, lS, i64_w, i32_w]
                 rfl
                refine one_ (i := 9) (N := some 52) #[true, true, true, true, true, true, true, true, true, true, false, false] rfl rfl (one_of HT_.out (by kernel_rfl)) (by decide) (fun K hK => ?_)
                refine value_ (w1 := ?_) (v := ?_) (by rfl) rfl ?_ ?_
                rotate_left 2
                ·go_simp
                 constructor
                 ·rfl
                 ·rfl
                refine hK.out _ _ ((World.cell?_alloc_lt _ _ _ (wL _ _ (((HB.out.cell (wL w _ hw314_0)).trans hw314_0)))).trans (((HB.out.cell (wL w _ hw314_0)).trans hw314_0))) (fun hHeld => ?_)
                clear hK K
                refine norm_ (a' := ?_) ?_ ?_
                rotate_left
                ·show Act.put _ (some 52) _ = _
                 simp only [Act.put, lI, lZ, lS, i64_w, i32_w]
                 rfl
                refine one_ (i := 10) (N := some 53) #[true, true, true, true, true, true, true, true, true, true, true, false] rfl rfl (one_of HT_.out (by kernel_rfl)) (by decide) (fun K hK => ?_)
                refine Kd.R_append_step (Kd.int .i64) (w0 := w) w.heap.size (by rfl) (.tmp 43) (.tmp 52) 22 3 (.int .i64 0) 8 rfl Try.underlying22 info3 rfl (by decide) (by omega) u6 x6_3 (Int.tmod (wrap64 (Int.tdiv (rd l0 x7_2) t315)) 2) [.int .i64 (Int.tmod (wrap64 (Int.tdiv (rd l0 x7_2) t315)) 2)] (fun _ => True) (fun _ => False) rfl rfl ?aP (fun _ hk => hk.elim) ?aF ?aO ?aB ?aS ?aL ?_
                (case aP => exact rfl)
                (case aB => exact (by repeat (first | (with_reducible first | exact HB.out | apply bA | apply bN | apply bE) | exact HB.out)))
                (case aF => exact (fun _ _ => trivial))
                (case aO => exact (by (with_reducible repeat (first | apply rA | apply rN | apply rD)); exact HO_6.out))
                (case aS => exact (bZ (by repeat (first | (with_reducible first | exact HB.out | apply bA | apply bN | apply bE) | exact HB.out))))
                (case aL => have := LMc20.out; omega)
                intro v317 w22 ho hb hg hat
                rw [← Ny316.out] at ho
                have n0_ := aM (hb)
                have n1_ := aM (ho)
                clear HB
                clear HO_6
                have HB := n0_
                have HO318 := n1_
                clear n0_ n1_
                clear ho hb hg hat
                refine hK.out _ _ (((HB.out.cell (wL w _ hw314_0)).trans hw314_0)) (fun hHeld => ?_)
                clear hK K
                refine norm_ (a' := ?_) ?_ ?_
                rotate_left
                ·show Act.put _ (some 53) _ = _
                 simp only [Act.put, lI, lZ, lS, i64_w, i32_w]
                 rfl
                refine pure_ (i := 11) (N := some 6) (v := ?_) (a' := ?_) #[true, true, true, true, true, true, true, true, true, true, true, true] rfl rfl (any_of HT_.out (by kernel_rfl)) (fun _ _ _ h => h) (Or.inl ⟨by rfl, ?_⟩) ?_ ?_
                rotate_left
                ·intro w'
                 go_simp
                 with_reducible rfl
                rotate_left
                ·simp only [Act.put, lI, lZ, lS, i64_w, i32_w]
                 rfl
                refine done_ (done_of HT_.out (by kernel_rfl)) ?_
                try go_wp2
                go_roundg k3
                case measure => have := HJ2.out; have := HK2.out; have := HK3.out; omega
                case rel => exact ⟨(y316), (wrap64 (x8_3 - 1)), (by first | rfl | (simp; done) | (simp [*]; done)), H', ⟨by have := HJ2.out; have := HK2.out; have := HK3.out; omega⟩, ⟨by (with_reducible repeat (first | apply rA | apply rN | apply rD)); exact HO318.out⟩, ⟨by repeat (first | (with_reducible first | exact HB.out | apply bA | apply bN | apply bE) | exact HB.out)⟩⟩
               ·rw [if_neg c20] at H
                exact absurd H (by simp)
             ·rw [if_neg c17] at H
              exact absurd H (by simp)
            ·rw [if_neg c16] at H
             exact absurd H (by simp)
           ·rw [if_neg c15] at H
            have c15b0 : decide (0 ≤ x8_3) = false := decide_eq_false c15
            clear c15
            have H' := aM H
            clear H
            go_wp2
            go_roundg k3
            case measure => have := HJ2.out; have := HK2.out; have := HK3.out; omega
            case rel => exact ⟨(x6_3), (wrap64 (x7_2 + 1)), (by first | rfl | (simp; done) | (simp [*]; done)), H', ⟨by have := HJ2.out; have := HK2.out; have := HK3.out; omega⟩, ⟨by (with_reducible repeat (first | apply rA | apply rN | apply rD)); exact HO_6.out⟩, ⟨by repeat (first | (with_reducible first | exact HB.out | apply bA | apply bN | apply bE) | exact HB.out)⟩⟩
        ·replace c13 := Bool.eq_false_iff.mpr c13
         subst c13
         have H1 : (some ((⟨#[]⟩ : ByteArray), false)) = some (r1, r2) := by rw [if_neg (show ¬ (false = true) by decide)] at H; first | done | exact H
         clear H
         have H := H1
         clear H1
         simp only [Option.some.injEq, Prod.mk.injEq] at H
         obtain ⟨rfl, rfl⟩ := H
         try go_wp2
         have n0_ := aM (rD HO_6.out)
         have n1_ := aM (bE HB.out)
         clear HO_6
         clear HB
         have HO_6 := n0_
         have HB := n1_
         clear n0_ n1_
         have p311 : 0 ≤ (x7_2 : Int) := oD (by first | (with_reducible assumption) | assumption)
         have q311 : x7_2 < (l0.length : Int) := oD (by first | (with_reducible assumption) | assumption)
         obtain ⟨ad311, e311, hx311_0⟩ := Kd.at_int HR0.out x7_2 p311 q311
         have hw311_0 := hx311_0
         cases e311
         replace hx311_0 := (HB.out.cell (wL w _ hx311_0)).trans hx311_0
         replace p311 := eq_true p311
         replace q311 := eq_true q311
         refine start_ (n := 9) (S := fun w' => w'.cell? (ad311.add (x7_2).toNat) = some (.int .i64 (rd l0 x7_2))) (ds := []) #[false, false, false, false, false, false, false, false, false] (by kernel_rfl) rfl rfl (((HB.out.cell (wL w _ hw311_0)).trans hw311_0)) (fun hHeld => ?_); refine with_tabW spec_PackRow.tab7 spec_PackRow.bits7 (fun HT_ HW_ => ?_)
         generalize wr.drew = w23 at HO_6 HB hx311_0 hHeld ⊢
         refine pure_ (i := 0) (N := some 28) (v := ?_) (a' := ?_) #[true, false, false, false, false, false, false, false, false] rfl rfl (any_of HT_.out (by kernel_rfl)) (fun _ _ _ h => h) (Or.inl ⟨by rfl, ?_⟩) ?_ ?_
         rotate_left
         ·intro w'
          go_simp
          with_reducible rfl
         rotate_left
         ·simp only [Act.put, lI, lZ, lS, i64_w, i32_w]
          rfl
         refine pure_ (i := 1) (N := some 29) (v := ?_) (a' := ?_) #[true, true, false, false, false, false, false, false, false] rfl rfl (any_of HT_.out (by kernel_rfl)) (fun _ _ _ h => h) (Or.inl ⟨by rfl, ?_⟩) ?_ ?_
         rotate_left
         ·intro w'
          go_simp
          with_reducible rfl
         rotate_left
         ·simp only [Act.put, lI, lZ, lS, i64_w, i32_w]
          rfl
         refine pure_ (i := 2) (N := some 30) (v := ?_) (a' := ?_) #[true, true, true, false, false, false, false, false, false] rfl rfl (any_of HT_.out (by kernel_rfl)) (fun _ _ _ h => h) (Or.inl ⟨by rfl, ?_⟩) ?_ ?_
         rotate_left
         ·intro w'
          go_simp
          with_reducible rfl
         rotate_left
         ·simp only [Act.put, lI, lZ, lS, i64_w, i32_w]
          rfl
         refine pure_ (i := 4) (N := some 32) (v := ?_) (a' := ?_) #[true, true, true, false, true, false, false, false, false] rfl rfl (any_of HT_.out (by kernel_rfl)) (fun _ _ _ h => h) (Or.inl ⟨by rfl, ?_⟩) ?_ ?_
         rotate_left
         ·intro w'
          go_simp
          with_reducible rfl
         rotate_left
         ·simp only [Act.put, lI, lZ, lS, i64_w, i32_w]
          rfl
         refine take_ (i := 3) (N := some 31) (v := ?_) (a' := ?_) #[true, true, true, true, true, false, false, false, false] rfl rfl (take_ofW HT_.out HW_.out (by kernel_rfl)) (fun _ _ _ h => h) (Or.inl ⟨by rfl, ?_⟩) hHeld ?_ ?_
         rotate_left
         ·intro w' s0
          go_simp
          with_reducible rfl
         rotate_left
         ·simp only [Act.put, lI, lZ, lS, i64_w, i32_w]
          rfl
         refine one_ (i := 5) (N := some 33) #[true, true, true, true, true, true, false, false, false] rfl rfl (one_of HT_.out (by kernel_rfl)) (by decide) (fun K hK => ?_)
         refine goes_ Try.func99 (by kernel_rfl) rfl #[.int .i64 a1] (by rfl) rfl rfl (by (try simp only [lM, List.map_cons, List.map_nil]); first | done | rfl | (simp only [lD, lT]; rfl)) ?_
         with_reducible refine (spec_l01Pow.calls k2 a1 t312 _ A11.out).mono ?_
         rintro e w' ⟨rfl, ⟨nd, rfl⟩⟩
         refine ⟨_, rfl, ?_⟩
         refine hK.out _ _ (((HB.out.cell (wL w _ hw311_0)).trans hw311_0)) (fun hHeld => ?_)
         clear hK K
         refine norm_ (a' := ?_) ?_ ?_
         rotate_left
         ·show Act.put _ (some 33) _ = _
          simp only [Act.put, lI, lZ, lS, i64_w, i32_w]
          rfl
         refine pure_ (i := 6) (N := some 34) (v := ?_) (a' := ?_) #[true, true, true, true, true, true, true, false, false] rfl rfl (any_of HT_.out (by kernel_rfl)) (fun _ _ _ h => h) (Or.inl ⟨by rfl, ?_⟩) ?_ ?_
         rotate_left
         ·intro w'
          go_simp
          with_reducible rfl
         rotate_left
         ·simp only [Act.put, lI, lZ, lS, i64_w, i32_w]
          rfl
         refine one_ (i := 7) (N := some 35) #[true, true, true, true, true, true, true, true, false] rfl rfl (one_of HT_.out (by kernel_rfl)) (by decide) (fun K hK => ?_)
         refine goes_ Try.func129 (by kernel_rfl) rfl #[.int .i64 (rd l0 x7_2), .int .i64 0, .int .i64 (wrap64 (t312 - 1))] (by rfl) rfl rfl (by (try simp only [lM, List.map_cons, List.map_nil]); first | done | rfl | (simp only [lD, lT]; rfl)) ?_
         with_reducible refine (spec_l01In.calls (rd l0 x7_2) 0 (wrap64 (t312 - 1)) false _ A12.out).mono ?_
         rintro e w' ⟨rfl, ⟨nd, rfl⟩⟩
         refine ⟨_, rfl, ?_⟩
         refine hK.out _ _ (((HB.out.cell (wL w _ hw311_0)).trans hw311_0)) (fun hHeld => ?_)
         clear hK K
         refine norm_ (a' := ?_) ?_ ?_
         rotate_left
         ·show Act.put _ (some 35) _ = _
          simp only [Act.put, lI, lZ, lS, i64_w, i32_w]
          rfl
         refine pure_ (i := 8) (N := some 36) (v := ?_) (a' := ?_) #[true, true, true, true, true, true, true, true, true] rfl rfl (any_of HT_.out (by kernel_rfl)) (fun _ _ _ h => h) (Or.inl ⟨by rfl, ?_⟩) ?_ ?_
         rotate_left
         ·intro w'
          go_simp
          with_reducible rfl
         rotate_left
         ·simp only [Act.put, lI, lZ, lS, i64_w, i32_w]
          rfl
         refine done_ (done_of HT_.out (by kernel_rfl)) ?_
         try go_wp2
         go_ret2
         exact ⟨by first | rfl | (simp [errW_none, errW_some] <;> rfl) | (simp [*, errW_none, errW_some] <;> rfl), by repeat (first | (with_reducible first | exact HB.out | apply bA | apply bN | apply bE) | exact HB.out)⟩
       ·rw [if_neg c10] at H
        exact absurd H (by simp)
      ·rw [if_neg c9] at H
       have c9b0 : decide (x7_2 < (l0.length : Int)) = false := decide_eq_false c9
       clear c9
       have H' := aM H
       clear H
       go_wp2
       go_loopg [6] k2 (fun kq v6 w' => ∃ (x6_3 : List Int), Aside0 (spec_PackRow.l2 kq x6_3 = some (r1, r2)) ∧ Aside0 (kq ≤ k2) ∧ Aside0 (Kd.R (Kd.int .i64) 3 w' w.heap.size (fun _ => True) v6 x6_3) ∧ Aside0 (Below w.heap.size w w'))
       case atStart => exact ⟨(x6_2), H', ⟨Nat.le_refl _⟩, ⟨by (with_reducible repeat (first | apply rA | apply rN | apply rD)); exact HO_6.out⟩, ⟨by repeat (first | (with_reducible first | exact HB.out | apply bA | apply bN | apply bE) | exact HB.out)⟩⟩
       case round =>
        clear H'
        try clear c1
        try clear c2
        try clear p2
        try clear p3
        try clear q3
        try clear hx3
        try clear c5
        try clear c6
        try clear p6
        try clear c9
        try clear c9b0
        try clear c10
        try clear c10b0
        try clear c12
        try clear c13
        try clear c15
        try clear c15b0
        try clear c16
        try clear c16b0
        try clear c17
        try clear c17b0
        try clear c19
        try clear c19b0
        try clear c19b1
        try clear c20
        try clear hx311_0
        try clear hx314_0
        try clear p2
        try clear p3
        try clear p311
        try clear p314
        try clear p6
        try clear q3
        try clear q311
        try clear q314
        obtain ⟨x6_3, HA, HK3, HO_6, HB⟩ := hrel
        cases gk with
        | zero => exact absurd HA.out (by simp [spec_PackRow.l2])
        | succ k3 =>
         have H := HA.out
         clear HA
         simp only [spec_PackRow.l2] at H
         by_cases c24 : ((x6_3.length : Int) % 8) = 0
         ·rw [if_pos c24] at H
          have c24b0 : (((x6_3.length : Int) % 8) == 0) = true := beq_iff_eq.mpr c24
          have c24b1 : (((x6_3.length : Int) % 8) != 0) = false := bne_eq_false_iff_eq.mpr c24
          clear c24
          obtain ⟨y322, hy322⟩ : ∃ y_ : List Int, y_ = (([] : List Int)) := ⟨_, rfl⟩
          replace H : (spec_PackRow.l3 k3 x6_3 y322 0) = some (r1, r2) := by first | (rw [hy322]; with_reducible exact H) | (have H2_ := (Option.bind_some _ _).symm.trans H; rw [hy322]; with_reducible exact H2_) | (have H2_ := (Option.bind_some _ _).symm.trans H; with_reducible exact H2_) | with_reducible exact H | (rw [hy322]; exact H) | exact H
          have Ny322 := aM hy322
          clear hy322
          have H' := aM H
          clear H
          obtain ⟨Ao25, co25, eo25⟩ := Kd.R_slice HO_6.out
          subst eo25
          go_wp2_with (first | ((with_reducible refine gate_dst (N := 61) rfl ?_); (try (refine gate_guard (by rfl) ?_; dsimp only)); refine Kd.R_lit (Kd.int .u8) _ 5 ?hg (N := 61) ?hd (xs := ([] : List Int)) (inner := []) (ok := fun _ => True) (okp := fun _ => True) ?hr ?hp (fun _ hk => hk) trivial (Below.refl _ _) (Nat.le_refl _) (by simp) ?_; (case hd => rfl); (case hg => rfl); (case hr => first | (go_simp; done) | (go_simp; rfl)); (case hp => exact (Reps.none _ _)); intro v323 w26 ho27 hb hg_ hnew_; clear hg_ hnew_; (first | rw [← Ny322.out] at ho27 | (simp only [Int.reduceToNat] at ho27; rw [← Ny322.out] at ho27)); have n0_ := aM (Kd.R_below (by (with_reducible repeat (first | apply rA | apply rN | apply rD)); exact HO_6.out) hb); have n1_ := aM (Kd.R_lower ho27 (bZ (by repeat (first | (with_reducible first | exact HB.out | apply bA | apply bN | apply bE) | exact HB.out)))); have n2_ := aM (bT (by repeat (first | (with_reducible first | exact HB.out | apply bA | apply bN | apply bE) | exact HB.out)) hb); clear HO_6; clear HB; have HO_6 := n0_; have HO324 := n1_; have HB := n2_; clear n0_ n1_ n2_; clear hb ho27))
          go_loopg [9, 10] k3 (fun kq v9 v10 w' => ∃ (x9_4 : List Int) (x10_4 : Int), v10 = .int .i64 x10_4 ∧ Aside0 (spec_PackRow.l3 kq x6_3 x9_4 x10_4 = some (r1, r2)) ∧ Aside0 (kq ≤ k3) ∧ Aside0 (Kd.R (Kd.int .i64) 3 w' w.heap.size (fun _ => True) (.slice Ao25 x6_3.length co25) x6_3) ∧ Aside0 (Kd.R (Kd.int .u8) 5 w' w.heap.size (fun _ => True) v9 x9_4) ∧ Aside0 (Below w.heap.size w w'))
          case atStart => exact ⟨(y322), (0), (by first | rfl | (simp; done) | (simp [*]; done)), H', ⟨Nat.le_refl _⟩, ⟨by (with_reducible repeat (first | apply rA | apply rN | apply rD)); exact HO_6.out⟩, ⟨by (with_reducible repeat (first | apply rA | apply rN | apply rD)); exact HO324.out⟩, ⟨by repeat (first | (with_reducible first | exact HB.out | apply bA | apply bN | apply bE) | exact HB.out)⟩⟩
          case round =>
           clear H'
           try clear c1
           try clear c2
           try clear p2
           try clear p3
           try clear q3
           try clear hx3
           try clear c5
           try clear c6
           try clear p6
           try clear c9
           try clear c9b0
           try clear c10
           try clear c10b0
           try clear c12
           try clear c13
           try clear c15
           try clear c15b0
           try clear c16
           try clear c16b0
           try clear c17
           try clear c17b0
           try clear c19
           try clear c19b0
           try clear c19b1
           try clear c20
           try clear c24
           try clear c24b0
           try clear c24b1
           try clear hx311_0
           try clear hx314_0
           try clear p2
           try clear p3
           try clear p311
           try clear p314
           try clear p6
           try clear q3
           try clear q311
           try clear q314
           obtain ⟨x9_4, x10_4, rfl, HA, HK4, HO_6, HO_9, HB⟩ := hrel
           cases gk with
           | zero => exact absurd HA.out (by simp [spec_PackRow.l3])
           | succ k4 =>
            have H := HA.out
            clear HA
            simp only [spec_PackRow.l3] at H
            by_cases c28 : x10_4 < (x6_3.length : Int)
            ·rw [if_pos c28] at H
             have c28b0 : decide (x10_4 < (x6_3.length : Int)) = true := decide_eq_true c28
             clear c28
             have H' := aM H
             clear H
             go_wp2
             go_loopg [11, 12] k4 (fun kq v11 v12 w' => ∃ (x11_5 : Int) (x12_5 : Int), v11 = .int .i64 x11_5 ∧ v12 = .int .i64 x12_5 ∧ Aside0 (spec_PackRow.l4 kq x6_3 x9_4 x10_4 x11_5 x12_5 = some (r1, r2)) ∧ Aside0 (kq ≤ k4) ∧ Aside0 (Kd.R (Kd.int .i64) 3 w' w.heap.size (fun _ => True) (.slice Ao25 x6_3.length co25) x6_3) ∧ Aside0 (Kd.R (Kd.int .u8) 5 w' w.heap.size (fun _ => True) u9 x9_4) ∧ Aside0 (Below w.heap.size w w'))
             case atStart => exact ⟨(0), (0), (by first | rfl | (simp; done) | (simp [*]; done)), (by first | rfl | (simp; done) | (simp [*]; done)), H', ⟨Nat.le_refl _⟩, ⟨by (with_reducible repeat (first | apply rA | apply rN | apply rD)); exact HO_6.out⟩, ⟨by (with_reducible repeat (first | apply rA | apply rN | apply rD)); exact HO_9.out⟩, ⟨by repeat (first | (with_reducible first | exact HB.out | apply bA | apply bN | apply bE) | exact HB.out)⟩⟩
             case round =>
              clear H'
              try clear c1
              try clear c2
              try clear p2
              try clear p3
              try clear q3
              try clear hx3
              try clear c5
              try clear c6
              try clear p6
              try clear c9
              try clear c9b0
              try clear c10
              try clear c10b0
              try clear c12
              try clear c13
              try clear c15
              try clear c15b0
              try clear c16
              try clear c16b0
              try clear c17
              try clear c17b0
              try clear c19
              try clear c19b0
              try clear c19b1
              try clear c20
              try clear c24
              try clear c24b0
              try clear c24b1
              try clear c28
              try clear c28b0
              try clear hx311_0
              try clear hx314_0
              try clear p2
              try clear p3
              try clear p311
              try clear p314
              try clear p6
              try clear q3
              try clear q311
              try clear q314
              obtain ⟨x11_5, x12_5, rfl, rfl, HA, HK5, HO_6, HO_9, HB⟩ := hrel
              cases gk with
              | zero => exact absurd HA.out (by simp [spec_PackRow.l4])
              | succ k5 =>
               have H := HA.out
               clear HA
               simp only [spec_PackRow.l4] at H
               by_cases c29 : x12_5 < 8
               ·rw [if_pos c29] at H
                have c29b0 : decide (x12_5 < 8) = true := decide_eq_true c29
                clear c29
                obtain ⟨ji30, hji30⟩ : ∃ j_ : Int, (wrap64 (x10_4 + x12_5)) = j_ := ⟨_, rfl⟩
                replace H : (if 0 ≤ (ji30) then (if (ji30) < (x6_3.length : Int) then (spec_PackRow.l4 k5 x6_3 x9_4 x10_4 (wrap64 ((wrap64 (2 * x11_5)) + (rd x6_3 (ji30)))) (wrap64 (x12_5 + 1))) else (none)) else (none)) = some (r1, r2) := by first | (rw [hji30] at H; exact H) | (simp only [hji30] at H ⊢; exact H)
                have hji30w : (IntKind.i64.wrap (x10_4 + x12_5)) = ji30 := (i64_w _).trans hji30
                by_cases c31 : 0 ≤ (ji30)
                ·rw [if_pos c31] at H
                 have c31b0 : decide (0 ≤ (ji30)) = true := decide_eq_true c31
                 clear c31
                 by_cases c32 : (ji30) < (x6_3.length : Int)
                 ·rw [if_pos c32] at H
                  have c32b0 : decide ((ji30) < (x6_3.length : Int)) = true := decide_eq_true c32
                  clear c32
                  have H' := aM H
                  clear H
                  have p325 : 0 ≤ ((ji30) : Int) := oD (by first | (with_reducible assumption) | assumption)
                  have q325 : (ji30) < (x6_3.length : Int) := oD (by first | (with_reducible assumption) | assumption)
                  obtain ⟨ad325, e325, hx325_0⟩ := Kd.at_int (Kd.R_reads' HO_6.out).2.2 (ji30) p325 q325
                  cases e325
                  replace p325 := eq_true p325
                  replace q325 := eq_true q325
                  go_wp2
                  go_roundg k5
                  case measure => have := HJ2.out; have := HK2.out; have := HK3.out; have := HK4.out; have := HK5.out; omega
                  case rel => exact ⟨(wrap64 ((wrap64 (2 * x11_5)) + (rd x6_3 (ji30)))), (wrap64 (x12_5 + 1)), (by first | rfl | (simp; done) | (simp only [← hji30] <;> (first | rfl | simp)) | (simp [*]; done)), (by first | rfl | (simp; done) | (simp [*]; done)), H', ⟨by have := HJ2.out; have := HK2.out; have := HK3.out; have := HK4.out; have := HK5.out; omega⟩, ⟨by (with_reducible repeat (first | apply rA | apply rN | apply rD)); exact HO_6.out⟩, ⟨by (with_reducible repeat (first | apply rA | apply rN | apply rD)); exact HO_9.out⟩, ⟨by repeat (first | (with_reducible first | exact HB.out | apply bA | apply bN | apply bE) | exact HB.out)⟩⟩
                 ·rw [if_neg c32] at H
                  exact absurd H (by simp)
                ·rw [if_neg c31] at H
                 exact absurd H (by simp)
               ·rw [if_neg c29] at H
                have c29b0 : decide (x12_5 < 8) = false := decide_eq_false c29
                clear c29
                by_cases c33 : x9_4.length < 140737488355328
                ·rw [if_pos c33] at H
                 have LMc33 := aM c33
                 clear c33
                 obtain ⟨y326, hy326⟩ : ∃ y_ : List Int, y_ = (x9_4 ++ [(x11_5) % 256]) := ⟨_, rfl⟩
                 replace H : (spec_PackRow.l3 k5 x6_3 y326 (wrap64 (x10_4 + 8))) = some (r1, r2) := by first | (rw [hy326]; with_reducible exact H) | (have H2_ := (Option.bind_some _ _).symm.trans H; rw [hy326]; with_reducible exact H2_) | (have H2_ := (Option.bind_some _ _).symm.trans H; with_reducible exact H2_) | with_reducible exact H | (rw [hy326]; exact H) | exact H
                 have Ny326 := aM hy326
                 clear hy326
                 have H' := aM H
                 clear H
                 go_wp2_with (first | ((with_reducible refine gate_builtin (b := .append) (xs := #[.tmp 81, .tmp 84]) rfl ?_); (try (refine gate_guard (by rfl) ?_; dsimp only)); at_builtin; refine Kd.R_append (Kd.int .u8) (w0 := w) w.heap.size rfl (.tmp 81) (.tmp 84) 36 5 (.int .u8 0) 1 rfl Try.underlying36 info5 rfl (by decide) (by omega) u9 x9_4 ((x11_5) % 256) [.int .u8 ((x11_5) % 256)] (fun _ => True) (fun _ => False) rfl rfl ?aP (fun _ hk => hk.elim) ?aF ?aO ?aB ?aS ?aL ?_; (case aP => exact rfl); (case aB => exact (by repeat (first | (with_reducible first | exact HB.out | apply bA | apply bN | apply bE) | exact HB.out))); (case aF => exact (fun _ _ => trivial)); (case aO => exact (by (with_reducible repeat (first | apply rA | apply rN | apply rD)); exact HO_9.out)); (case aS => exact (bZ (by repeat (first | (with_reducible first | exact HB.out | apply bA | apply bN | apply bE) | exact HB.out)))); (case aL => have := LMc33.out; omega); intro v327 w34 ho hb hg hat; rw [← Ny326.out] at ho; have n0_ := aM (Kd.R_over' (by (with_reducible repeat (first | apply rA | apply rN | apply rD)); exact HO_6.out) (Kd.R_typed (by (with_reducible repeat (first | apply rA | apply rN | apply rD)); exact HO_9.out)) (by decide) hg); have n1_ := aM (hb); have n2_ := aM (ho); clear HO_6; clear HB; clear HO_9; have HO_6 := n0_; have HB := n1_; have HO328 := n2_; clear n0_ n1_ n2_; clear ho hb hg hat))
                 go_roundg k5
                 case measure => have := HJ2.out; have := HK2.out; have := HK3.out; have := HK4.out; have := HK5.out; omega
                 case rel => exact ⟨(y326), (wrap64 (x10_4 + 8)), (by first | rfl | (simp; done) | (simp [*]; done)), H', ⟨by have := HJ2.out; have := HK2.out; have := HK3.out; have := HK4.out; have := HK5.out; omega⟩, ⟨by (with_reducible repeat (first | apply rA | apply rN | apply rD)); exact HO_6.out⟩, ⟨by (with_reducible repeat (first | apply rA | apply rN | apply rD)); exact HO328.out⟩, ⟨by repeat (first | (with_reducible first | exact HB.out | apply bA | apply bN | apply bE) | exact HB.out)⟩⟩
                ·rw [if_neg c33] at H
                 exact absurd H (by simp)
            ·rw [if_neg c28] at H
             have c28b0 : decide (x10_4 < (x6_3.length : Int)) = false := decide_eq_false c28
             clear c28
             simp only [Option.some.injEq, Prod.mk.injEq] at H
             obtain ⟨rfl, rfl⟩ := H
             have hcv35 := own_string (P := Try.prog) Try.underlying36 Try.underlying5 Try.underlying9 (Kd.own_of_R HO_9.out)
             go_wp2
             go_ret2
             exact ⟨by first | rfl | (simp [errW_none, errW_some] <;> rfl) | (simp [*, errW_none, errW_some] <;> rfl), by repeat (first | (with_reducible first | exact HB.out | apply bA | apply bN | apply bE) | exact HB.out)⟩
         ·rw [if_neg c24] at H
          have c24b0 : (((x6_3.length : Int) % 8) == 0) = false := beq_eq_false_iff_ne.mpr c24
          have c24b1 : (((x6_3.length : Int) % 8) != 0) = true := bne_iff_ne.mpr c24
          by_cases c36 : x6_3.length < 17592186044416
          ·rw [if_pos c36] at H
           have LMc36 := aM c36
           clear c36
           obtain ⟨y319, hy319⟩ : ∃ y_ : List Int, y_ = (x6_3 ++ [0]) := ⟨_, rfl⟩
           replace H : (spec_PackRow.l2 k3 y319) = some (r1, r2) := by first | (rw [hy319]; with_reducible exact H) | (have H2_ := (Option.bind_some _ _).symm.trans H; rw [hy319]; with_reducible exact H2_) | (have H2_ := (Option.bind_some _ _).symm.trans H; with_reducible exact H2_) | with_reducible exact H | (rw [hy319]; exact H) | exact H
           have Ny319 := aM hy319
           clear hy319
           have H' := aM H
           clear H
           obtain ⟨Ao37, co37, eo37⟩ := Kd.R_slice HO_6.out
           subst eo37
           go_wp2_with (first | ((with_reducible refine gate_builtin (b := .append) (xs := #[.tmp 58, .tmp 59]) rfl ?_); (try (refine gate_guard (by rfl) ?_; dsimp only)); at_builtin; refine Kd.R_append (Kd.int .i64) (w0 := w) w.heap.size rfl (.tmp 58) (.tmp 59) 22 3 (.int .i64 0) 8 rfl Try.underlying22 info3 rfl (by decide) (by omega) (.slice Ao37 x6_3.length co37) x6_3 0 [.int .i64 0] (fun _ => True) (fun _ => False) rfl rfl ?aP (fun _ hk => hk.elim) ?aF ?aO ?aB ?aS ?aL ?_; (case aP => exact rfl); (case aB => exact (by repeat (first | (with_reducible first | exact HB.out | apply bA | apply bN | apply bE) | exact HB.out))); (case aF => exact (fun _ _ => trivial)); (case aO => exact (by (with_reducible repeat (first | apply rA | apply rN | apply rD)); exact HO_6.out)); (case aS => exact (bZ (by repeat (first | (with_reducible first | exact HB.out | apply bA | apply bN | apply bE) | exact HB.out)))); (case aL => have := LMc36.out; omega); intro v320 w38 ho hb hg hat; rw [← Ny319.out] at ho; have n0_ := aM (hb); have n1_ := aM (ho); clear HB; clear HO_6; have HB := n0_; have HO321 := n1_; clear n0_ n1_; clear ho hb hg hat))
           go_roundg k3
           case measure => have := HJ2.out; have := HK2.out; have := HK3.out; omega
           case rel => exact ⟨(y319), H', ⟨by have := HJ2.out; have := HK2.out; have := HK3.out; omega⟩, ⟨by (with_reducible repeat (first | apply rA | apply rN | apply rD)); exact HO321.out⟩, ⟨by repeat (first | (with_reducible first | exact HB.out | apply bA | apply bN | apply bE) | exact HB.out)⟩⟩
          ·rw [if_neg c36] at H
           exact absurd H (by simp)

end Go.Proofs.Ytajnobmnkbkkgaa.PFnExactScanOf
