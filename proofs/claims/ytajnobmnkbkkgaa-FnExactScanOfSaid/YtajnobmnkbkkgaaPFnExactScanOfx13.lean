/- Walks of functions that the law FnExactScanOf reaches: each call comes to what the Lean function of its name tells. Written by p2.py, a program of this session, by way of the kit's print. -/
import Derived.Test.YtajnobmnkbkkgaaPFnExactScanOfx0
import Derived.Test.YtajnobmnkbkkgaaPFnExactScanOfx7
namespace Go.Proofs.Ytajnobmnkbkkgaa.PFnExactScanOf
open Go.RowKit Go.Proofs.YtajnobmnkbkkgaaW.PrintWords Go.Proofs.YtajnobmnkbkkgaaW.PrintLast Go.Proofs.YtajnobmnkbkkgaaW.PrintMore
attribute [local go_sem] max2_int min2_int max_two min_two max_three min_three max_four min_four   -- for this text's walks alone
set_option linter.unusedVariables false
set_option linter.unusedSimpArgs false

/-! ### spec_l13Ok: function 174 -/
def spec_l13Ok.f (a0 : Int) (a1 : ByteArray) (a2 : ByteArray) (a3 : Int) : Option (Bool) := (spec_l01In.f a0 0 4).bind fun t329 => (if t329 = true then ((spec_l01In.f a3 1 8).bind fun t330 => (if t330 = true then (if (a1.size : Int) = (a2.size : Int) then (some (decide ((a1.size : Int) ≤ 200))) else (some false)) else (some false))) else (some false))
set_option maxHeartbeats 8000000 in
set_option maxRecDepth 100000 in
theorem spec_l13Ok.calls (a0 : Int) (a1 : ByteArray) (a2 : ByteArray) (a3 : Int) (r : Bool) (w : World) (h : spec_l13Ok.f a0 a1 a2 a3 = some r) :
  Calls Try.prog 174 #[.int .i64 a0, .string a1, .string a2, .int .i64 a3] w fun e w' => e = .returned (.bool r) ∧ Drawn0 w w' := by
 unfold spec_l13Ok.f at h; have H := h
 clear h
 replace H := oB.mp H
 obtain ⟨t329, A50, H⟩ := H
 try dsimp only at H
 have A5 := aM A50
 clear A50
 by_cases c6 : t329 = true
 ·subst c6
  have H1 : ((spec_l01In.f a3 1 8).bind fun t330 => (if t330 = true then (if (a1.size : Int) = (a2.size : Int) then (some (decide ((a1.size : Int) ≤ 200))) else (some false)) else (some false))) = some r := by rw [if_pos rfl] at H; first | done | exact H
  clear H
  have H := H1
  clear H1
  replace H := oB.mp H
  obtain ⟨t330, A70, H⟩ := H
  replace H : (if t330 = true then (if (a1.size : Int) = (a2.size : Int) then (some (decide ((a1.size : Int) ≤ 200))) else (some false)) else (some false)) = some r := H
  have A7 := aM A70
  clear A70
  by_cases c8 : t330 = true
  ·subst c8
   have H1 : (if (a1.size : Int) = (a2.size : Int) then (some (decide ((a1.size : Int) ≤ 200))) else (some false)) = some r := by rw [if_pos rfl] at H; first | done | exact H
   clear H
   have H := H1
   clear H1
   by_cases c9 : (a1.size : Int) = (a2.size : Int)
   ·rw [if_pos c9] at H
    have c9b0 : ((a1.size : Int) == (a2.size : Int)) = true := beq_iff_eq.mpr c9
    have c9b1 : ((a1.size : Int) != (a2.size : Int)) = false := bne_eq_false_iff_eq.mpr c9
    have c9b2 : (a1.size == a2.size) = true := by first | simpa using c9 | (simp at c9 ⊢; omega)
    clear c9
    obtain rfl := Option.some.inj H
    go_enter Try.func174, Try.ntmps174
    go_wp2_with (first | ((with_reducible refine gate_callee (f := 129) rfl ?_); refine goesL_ (some 10) rfl rfl Try.func129 (by kernel_rfl) rfl #[.int .i64 a0, .int .i64 0, .int .i64 4] rfl (by (try simp only [lM, List.map_cons, List.map_nil]); first | done | rfl | (simp only [lD, lT]; rfl)) ?_; (with_reducible refine (spec_l01In.calls a0 0 4 true _ A5.out).mono ?_); rintro e w' ⟨rfl, ⟨nd, rfl⟩⟩; refine ⟨_, rfl, ?_⟩) | (go_at_call 129; (with_reducible refine (spec_l01In.calls a3 1 8 true _ A7.out).mono ?_); rintro e w' ⟨rfl, ⟨nd, rfl⟩⟩))
    go_ret
    exact ⟨by first | rfl | (simp; done) | (simp [*]; done), by repeat (first | exact Drawn0.refl _ | apply Drawn0.step)⟩
   ·rw [if_neg c9] at H
    have c9b0 : ((a1.size : Int) == (a2.size : Int)) = false := beq_eq_false_iff_ne.mpr c9
    have c9b1 : ((a1.size : Int) != (a2.size : Int)) = true := bne_iff_ne.mpr c9
    have c9b2 : (a1.size == a2.size) = false := by first | simpa using c9 | (simp at c9 ⊢; omega)
    obtain rfl := Option.some.inj H
    go_enter Try.func174, Try.ntmps174
    go_wp2_with (first | ((with_reducible refine gate_callee (f := 129) rfl ?_); refine goesL_ (some 10) rfl rfl Try.func129 (by kernel_rfl) rfl #[.int .i64 a0, .int .i64 0, .int .i64 4] rfl (by (try simp only [lM, List.map_cons, List.map_nil]); first | done | rfl | (simp only [lD, lT]; rfl)) ?_; (with_reducible refine (spec_l01In.calls a0 0 4 true _ A5.out).mono ?_); rintro e w' ⟨rfl, ⟨nd, rfl⟩⟩; refine ⟨_, rfl, ?_⟩) | (go_at_call 129; (with_reducible refine (spec_l01In.calls a3 1 8 true _ A7.out).mono ?_); rintro e w' ⟨rfl, ⟨nd, rfl⟩⟩))
    go_ret
    exact ⟨by first | rfl | (simp; done) | (simp [*]; done), by repeat (first | exact Drawn0.refl _ | apply Drawn0.step)⟩
  ·replace c8 := Bool.eq_false_iff.mpr c8
   subst c8
   have H1 : (some false) = some r := by rw [if_neg (show ¬ (false = true) by decide)] at H; first | done | exact H
   clear H
   have H := H1
   clear H1
   obtain rfl := Option.some.inj H
   go_enter Try.func174, Try.ntmps174
   go_wp2_with (first | ((with_reducible refine gate_callee (f := 129) rfl ?_); refine goesL_ (some 10) rfl rfl Try.func129 (by kernel_rfl) rfl #[.int .i64 a0, .int .i64 0, .int .i64 4] rfl (by (try simp only [lM, List.map_cons, List.map_nil]); first | done | rfl | (simp only [lD, lT]; rfl)) ?_; (with_reducible refine (spec_l01In.calls a0 0 4 true _ A5.out).mono ?_); rintro e w' ⟨rfl, ⟨nd, rfl⟩⟩; refine ⟨_, rfl, ?_⟩) | (go_at_call 129; (with_reducible refine (spec_l01In.calls a3 1 8 false _ A7.out).mono ?_); rintro e w' ⟨rfl, ⟨nd, rfl⟩⟩))
   go_ret
   exact ⟨by first | rfl | (simp; done) | (simp [*]; done), by repeat (first | exact Drawn0.refl _ | apply Drawn0.step)⟩
 ·replace c6 := Bool.eq_false_iff.mpr c6
  subst c6
  have H1 : (some false) = some r := by rw [if_neg (show ¬ (false = true) by decide)] at H; first | done | exact H
  clear H
  have H := H1
  clear H1
  obtain rfl := Option.some.inj H
  go_enter Try.func174, Try.ntmps174
  go_wp2_with (first | ((with_reducible refine gate_callee (f := 129) rfl ?_); refine goesL_ (some 10) rfl rfl Try.func129 (by kernel_rfl) rfl #[.int .i64 a0, .int .i64 0, .int .i64 4] rfl (by (try simp only [lM, List.map_cons, List.map_nil]); first | done | rfl | (simp only [lD, lT]; rfl)) ?_; (with_reducible refine (spec_l01In.calls a0 0 4 false _ A5.out).mono ?_); rintro e w' ⟨rfl, ⟨nd, rfl⟩⟩; refine ⟨_, rfl, ?_⟩))
  go_ret
  exact ⟨by first | rfl | (simp; done) | (simp [*]; done), by repeat (first | exact Drawn0.refl _ | apply Drawn0.step)⟩

/-! ### spec_l13Size: function 202 -/
def spec_l13Size.f (a0 : Int) : Option (Int) := if a0 < 0 then (some (wrap64 (-a0))) else (some a0)
set_option maxHeartbeats 8000000 in
set_option maxRecDepth 100000 in
theorem spec_l13Size.calls (a0 : Int) (r : Int) (w : World) (h : spec_l13Size.f a0 = some r) :
  Calls Try.prog 202 #[.int .i64 a0] w fun e w' => e = .returned (.int .i64 r) ∧ Drawn0 w w' := by
 have H : (if a0 < 0 then (some (wrap64 (-a0))) else (some a0)) = some r := h
 clear h
 by_cases c2 : a0 < 0
 ·rw [if_pos c2] at H
  have c2b0 : decide (a0 < 0) = true := decide_eq_true c2
  clear c2
  obtain rfl := Option.some.inj H
  go_enter Try.func202, Try.ntmps202
  go_wp2
  go_ret
  exact ⟨by first | rfl | (simp; done) | (simp [*]; done), by repeat (first | exact Drawn0.refl _ | apply Drawn0.step)⟩
 ·rw [if_neg c2] at H
  have c2b0 : decide (a0 < 0) = false := decide_eq_false c2
  clear c2
  obtain rfl := Option.some.inj H
  go_enter Try.func202, Try.ntmps202
  go_wp2
  go_ret
  exact ⟨by first | rfl | (simp; done) | (simp [*]; done), by repeat (first | exact Drawn0.refl _ | apply Drawn0.step)⟩

/-! ### spec_Paeth: function 191 -/
mutual
def spec_Paeth.j0 : Nat → Int → Int → Int → Bool → Option (Int)
 | 0, _, _, _, _ => none
 | k + 1, x0, x1, x2, x20 => if x20 = true then (some 0) else ((spec_l13Size.f (wrap64 ((wrap64 ((wrap64 (x0 + x1)) - x2)) - x0))).bind fun t334 => ((spec_l13Size.f (wrap64 ((wrap64 ((wrap64 (x0 + x1)) - x2)) - x1))).bind fun t335 => (if t334 ≤ t335 then ((spec_l13Size.f (wrap64 ((wrap64 ((wrap64 (x0 + x1)) - x2)) - x0))).bind fun t336 => ((spec_l13Size.f (wrap64 ((wrap64 ((wrap64 (x0 + x1)) - x2)) - x2))).bind fun t337 => (spec_Paeth.j1 k x0 x1 x2 (wrap64 ((wrap64 (x0 + x1)) - x2)) (decide (t336 ≤ t337))))) else (spec_Paeth.j1 k x0 x1 x2 (wrap64 ((wrap64 (x0 + x1)) - x2)) false))))
def spec_Paeth.j1 : Nat → Int → Int → Int → Int → Bool → Option (Int)
 | 0, _, _, _, _, _ => none
 | k + 1, x0, x1, x2, x7, x45 => if x45 = true then (some x0) else ((spec_l13Size.f (wrap64 (x7 - x1))).bind fun t338 => ((spec_l13Size.f (wrap64 (x7 - x2))).bind fun t339 => (if t338 ≤ t339 then (some x1) else (some x2))))
end
def spec_Paeth.f (k : Nat) (a0 : Int) (a1 : Int) (a2 : Int) : Option (Int) := (spec_l01In.f a0 (-1000) 1000).bind fun t331 => (if t331 = true then ((spec_l01In.f a1 (-1000) 1000).bind fun t332 => (if t332 = true then ((spec_l01In.f a2 (-1000) 1000).bind fun t333 => (spec_Paeth.j0 k a0 a1 a2 (!t333))) else (spec_Paeth.j0 k a0 a1 a2 true))) else (spec_Paeth.j0 k a0 a1 a2 true))
theorem spec_Paeth.mono_l : ∀ k, (∀ y0 y1 y2 y3, LeO (spec_Paeth.j0 k y0 y1 y2 y3) (spec_Paeth.j0 (k + 1) y0 y1 y2 y3)) ∧ (∀ y0 y1 y2 y3 y4, LeO (spec_Paeth.j1 k y0 y1 y2 y3 y4) (spec_Paeth.j1 (k + 1) y0 y1 y2 y3 y4))
 | 0 => ⟨fun _ _ _ _ r h => by simp [spec_Paeth.j0] at h, fun _ _ _ _ _ r h => by simp [spec_Paeth.j1] at h⟩
 | k + 1 => by
  obtain ⟨ih0, ih1⟩ := spec_Paeth.mono_l k
  refine ⟨?_, ?_⟩
  ·intro y0 y1 y2 y3
   unfold spec_Paeth.j0
   repeat' first
   | (with_reducible exact ih0 _ _ _ _)
   | (with_reducible exact ih1 _ _ _ _ _)
   | (with_reducible exact LeO.refl _)
   | (with_reducible exact LeO.none _)
   | (with_reducible refine LeO.ite ?_ ?_)
   | (with_reducible refine LeO.bind ?_ (fun _ => ?_))
   | exact ih0 _ _ _ _
   | exact ih1 _ _ _ _ _
   | exact LeO.none _
   | refine LeO.ite ?_ ?_
   | refine LeO.bind ?_ (fun _ => ?_)
  ·intro y0 y1 y2 y3 y4
   unfold spec_Paeth.j1
   repeat' first
   | (with_reducible exact ih0 _ _ _ _)
   | (with_reducible exact ih1 _ _ _ _ _)
   | (with_reducible exact LeO.refl _)
   | (with_reducible exact LeO.none _)
   | (with_reducible refine LeO.ite ?_ ?_)
   | (with_reducible refine LeO.bind ?_ (fun _ => ?_))
   | exact ih0 _ _ _ _
   | exact ih1 _ _ _ _ _
   | exact LeO.none _
   | refine LeO.ite ?_ ?_
   | refine LeO.bind ?_ (fun _ => ?_)
theorem spec_Paeth.mono : ∀ a0 a1 a2 k, LeO (spec_Paeth.f k a0 a1 a2) (spec_Paeth.f (k + 1) a0 a1 a2) := by
 intro a0 a1 a2 k
 obtain ⟨ih0, ih1⟩ := spec_Paeth.mono_l k
 unfold spec_Paeth.f
 repeat' first
   | (with_reducible exact ih0 _ _ _ _)
   | (with_reducible exact ih1 _ _ _ _ _)
   | (with_reducible exact LeO.refl _)
   | (with_reducible exact LeO.none _)
   | (with_reducible refine LeO.ite ?_ ?_)
   | (with_reducible refine LeO.bind ?_ (fun _ => ?_))
   | exact ih0 _ _ _ _
   | exact ih1 _ _ _ _ _
   | exact LeO.none _
   | refine LeO.ite ?_ ?_
   | refine LeO.bind ?_ (fun _ => ?_)
set_option maxHeartbeats 8000000 in
set_option maxRecDepth 100000 in
theorem spec_Paeth.calls (k : Nat) (a0 : Int) (a1 : Int) (a2 : Int) (r : Int) (w : World) (h : spec_Paeth.f k a0 a1 a2 = some r) :
  Calls Try.prog 191 #[.int .i64 a0, .int .i64 a1, .int .i64 a2] w fun e w' => e = .returned (.int .i64 r) ∧ Drawn0 w w' := by
 unfold spec_Paeth.f at h; have H := h
 clear h
 have HC4 := aM H
 clear H
 go_enter Try.func191, Try.ntmps191
 go_upto_region 1 with (fail)
 go_cut [20] (fun v20 wc => ∃ (kq : Nat) (x20_3 : Bool), v20 = .bool x20_3 ∧ Aside0 (spec_Paeth.j0 kq a0 a1 a2 x20_3 = some r) ∧ Aside0 (kq ≤ k) ∧ Drawn0 w wc)
 case first =>
  have H := HC4.out
  clear HC4
  replace H := oB.mp H
  obtain ⟨t331, A50, H⟩ := H
  try dsimp only at H
  have A5 := aM A50
  clear A50
  by_cases c6 : t331 = true
  ·subst c6
   have H1 : ((spec_l01In.f a1 (-1000) 1000).bind fun t332 => (if t332 = true then ((spec_l01In.f a2 (-1000) 1000).bind fun t333 => (spec_Paeth.j0 k a0 a1 a2 (!t333))) else (spec_Paeth.j0 k a0 a1 a2 true))) = some r := by rw [if_pos rfl] at H; first | done | exact H
   clear H
   have H := H1
   clear H1
   replace H := oB.mp H
   obtain ⟨t332, A70, H⟩ := H
   replace H : (if t332 = true then ((spec_l01In.f a2 (-1000) 1000).bind fun t333 => (spec_Paeth.j0 k a0 a1 a2 (!t333))) else (spec_Paeth.j0 k a0 a1 a2 true)) = some r := H
   have A7 := aM A70
   clear A70
   by_cases c8 : t332 = true
   ·subst c8
    have H1 : ((spec_l01In.f a2 (-1000) 1000).bind fun t333 => (spec_Paeth.j0 k a0 a1 a2 (!t333))) = some r := by rw [if_pos rfl] at H; first | done | exact H
    clear H
    have H := H1
    clear H1
    replace H := oB.mp H
    obtain ⟨t333, A90, H⟩ := H
    replace H : (spec_Paeth.j0 k a0 a1 a2 (!t333)) = some r := H
    have A9 := aM A90
    clear A90
    have H' := aM H
    clear H
    go_wp2_with (first | ((with_reducible refine gate_callee (f := 129) rfl ?_); refine goesL_ (some 9) rfl rfl Try.func129 (by kernel_rfl) rfl #[.int .i64 a0, .int .i64 (-1000), .int .i64 1000] rfl (by (try simp only [lM, List.map_cons, List.map_nil]); first | done | rfl | (simp only [lD, lT]; rfl)) ?_; (with_reducible refine (spec_l01In.calls a0 (-1000) 1000 true _ A5.out).mono ?_); rintro e w' ⟨rfl, ⟨nd, rfl⟩⟩; refine ⟨_, rfl, ?_⟩) | (go_at_call 129; (with_reducible refine (spec_l01In.calls a1 (-1000) 1000 true _ A7.out).mono ?_); rintro e w' ⟨rfl, ⟨nd, rfl⟩⟩) | (go_at_call 129; (with_reducible refine (spec_l01In.calls a2 (-1000) 1000 t333 _ A9.out).mono ?_); rintro e w' ⟨rfl, ⟨nd, rfl⟩⟩))
    go_meet
    case rel => exact ⟨_, (!t333), (by first | rfl | (simp; done) | (simp [*]; done)), H', ⟨by first | omega | exact Nat.le_refl _⟩, by repeat (first | exact Drawn0.refl _ | apply Drawn0.step)⟩
   ·replace c8 := Bool.eq_false_iff.mpr c8
    subst c8
    have H1 : (spec_Paeth.j0 k a0 a1 a2 true) = some r := by rw [if_neg (show ¬ (false = true) by decide)] at H; first | done | exact H
    clear H
    have H := H1
    clear H1
    have H' := aM H
    clear H
    go_wp2_with (first | ((with_reducible refine gate_callee (f := 129) rfl ?_); refine goesL_ (some 9) rfl rfl Try.func129 (by kernel_rfl) rfl #[.int .i64 a0, .int .i64 (-1000), .int .i64 1000] rfl (by (try simp only [lM, List.map_cons, List.map_nil]); first | done | rfl | (simp only [lD, lT]; rfl)) ?_; (with_reducible refine (spec_l01In.calls a0 (-1000) 1000 true _ A5.out).mono ?_); rintro e w' ⟨rfl, ⟨nd, rfl⟩⟩; refine ⟨_, rfl, ?_⟩) | (go_at_call 129; (with_reducible refine (spec_l01In.calls a1 (-1000) 1000 false _ A7.out).mono ?_); rintro e w' ⟨rfl, ⟨nd, rfl⟩⟩))
    go_meet
    case rel => exact ⟨_, (true), (by first | rfl | (simp; done) | (simp [*]; done)), H', ⟨by first | omega | exact Nat.le_refl _⟩, by repeat (first | exact Drawn0.refl _ | apply Drawn0.step)⟩
  ·replace c6 := Bool.eq_false_iff.mpr c6
   subst c6
   have H1 : (spec_Paeth.j0 k a0 a1 a2 true) = some r := by rw [if_neg (show ¬ (false = true) by decide)] at H; first | done | exact H
   clear H
   have H := H1
   clear H1
   have H' := aM H
   clear H
   go_wp2_with (first | ((with_reducible refine gate_callee (f := 129) rfl ?_); refine goesL_ (some 9) rfl rfl Try.func129 (by kernel_rfl) rfl #[.int .i64 a0, .int .i64 (-1000), .int .i64 1000] rfl (by (try simp only [lM, List.map_cons, List.map_nil]); first | done | rfl | (simp only [lD, lT]; rfl)) ?_; (with_reducible refine (spec_l01In.calls a0 (-1000) 1000 false _ A5.out).mono ?_); rintro e w' ⟨rfl, ⟨nd, rfl⟩⟩; refine ⟨_, rfl, ?_⟩))
   go_meet
   case rel => exact ⟨_, (true), (by first | rfl | (simp; done) | (simp [*]; done)), H', ⟨by first | omega | exact Nat.le_refl _⟩, by repeat (first | exact Drawn0.refl _ | apply Drawn0.step)⟩
 case rest =>
  clear HC4
  try clear c1
  try clear p2
  try clear c6
  try clear c8
  obtain ⟨kq, x20_3, rfl, HA, HJ3, ⟨mc3, rfl⟩⟩ := hcut
  cases kq with
  | zero => exact absurd HA.out (by simp [spec_Paeth.j0])
  | succ kj3 =>
   have H := HA.out
   clear HA
   simp only [spec_Paeth.j0] at H
   by_cases c10 : x20_3 = true
   ·subst c10
    have H1 : (some 0) = some r := by rw [if_pos rfl] at H; first | done | exact H
    clear H
    have H := H1
    clear H1
    obtain rfl := Option.some.inj H
    go_wp2
    go_ret
    exact ⟨by first | rfl | (simp; done) | (simp [*]; done), by repeat (first | exact Drawn0.refl _ | apply Drawn0.step)⟩
   ·replace c10 := Bool.eq_false_iff.mpr c10
    subst c10
    have H1 : ((spec_l13Size.f (wrap64 ((wrap64 ((wrap64 (a0 + a1)) - a2)) - a0))).bind fun t334 => ((spec_l13Size.f (wrap64 ((wrap64 ((wrap64 (a0 + a1)) - a2)) - a1))).bind fun t335 => (if t334 ≤ t335 then ((spec_l13Size.f (wrap64 ((wrap64 ((wrap64 (a0 + a1)) - a2)) - a0))).bind fun t336 => ((spec_l13Size.f (wrap64 ((wrap64 ((wrap64 (a0 + a1)) - a2)) - a2))).bind fun t337 => (spec_Paeth.j1 kj3 a0 a1 a2 (wrap64 ((wrap64 (a0 + a1)) - a2)) (decide (t336 ≤ t337))))) else (spec_Paeth.j1 kj3 a0 a1 a2 (wrap64 ((wrap64 (a0 + a1)) - a2)) false)))) = some r := by rw [if_neg (show ¬ (false = true) by decide)] at H; first | done | exact H
    clear H
    have H := H1
    clear H1
    have HC11 := aM H
    clear H
    go_upto_region 4 with (fail)
    go_cut [45] (fun v45 wc => ∃ (kq : Nat) (x45_10 : Bool), v45 = .bool x45_10 ∧ Aside0 (spec_Paeth.j1 kq a0 a1 a2 (wrap64 ((wrap64 (a0 + a1)) - a2)) x45_10 = some r) ∧ Aside0 (kq ≤ kj3) ∧ Drawn0 w wc)
    case first =>
     have H := HC11.out
     clear HC11
     replace H := oB.mp H
     obtain ⟨t334, A120, H⟩ := H
     try dsimp only at H
     have A12 := aM A120
     clear A120
     replace H := oB.mp H
     obtain ⟨t335, A130, H⟩ := H
     try dsimp only at H
     have A13 := aM A130
     clear A130
     by_cases c14 : t334 ≤ t335
     ·rw [if_pos c14] at H
      have c14b0 : decide (t334 ≤ t335) = true := decide_eq_true c14
      clear c14
      (first | rw [c14b0] | (simp only [i64_w, i32_w]; rw [c14b0]) | skip)
      replace H := oB.mp H
      obtain ⟨t336, A150, H⟩ := H
      replace H : ((spec_l13Size.f (wrap64 ((wrap64 ((wrap64 (a0 + a1)) - a2)) - a2))).bind fun t337 => (spec_Paeth.j1 kj3 a0 a1 a2 (wrap64 ((wrap64 (a0 + a1)) - a2)) (decide (t336 ≤ t337)))) = some r := H
      have A15 := aM A150
      clear A150
      replace H := oB.mp H
      obtain ⟨t337, A160, H⟩ := H
      replace H : (spec_Paeth.j1 kj3 a0 a1 a2 (wrap64 ((wrap64 (a0 + a1)) - a2)) (decide (t336 ≤ t337))) = some r := H
      have A16 := aM A160
      clear A160
      have H' := aM H
      clear H
      go_wp2_with (first | ((with_reducible refine gate_callee (f := 202) rfl ?_); refine goesL_ (some 29) rfl rfl Try.func202 (by kernel_rfl) rfl #[.int .i64 (wrap64 ((wrap64 ((wrap64 (a0 + a1)) - a2)) - a0))] rfl (by (try simp only [lM, List.map_cons, List.map_nil]); first | done | rfl | (simp only [lD, lT]; rfl)) ?_; (with_reducible refine (spec_l13Size.calls (wrap64 ((wrap64 ((wrap64 (a0 + a1)) - a2)) - a0)) t334 _ A12.out).mono ?_); rintro e w' ⟨rfl, ⟨nd, rfl⟩⟩; refine ⟨_, rfl, ?_⟩) | ((with_reducible refine gate_callee (f := 202) rfl ?_); refine goesL_ (some 33) rfl rfl Try.func202 (by kernel_rfl) rfl #[.int .i64 (wrap64 ((wrap64 ((wrap64 (a0 + a1)) - a2)) - a1))] rfl (by (try simp only [lM, List.map_cons, List.map_nil]); first | done | rfl | (simp only [lD, lT]; rfl)) ?_; (with_reducible refine (spec_l13Size.calls (wrap64 ((wrap64 ((wrap64 (a0 + a1)) - a2)) - a1)) t335 _ A13.out).mono ?_); rintro e w' ⟨rfl, ⟨nd, rfl⟩⟩; refine ⟨_, rfl, ?_⟩) | (go_at_call 202; (with_reducible refine (spec_l13Size.calls (wrap64 ((wrap64 ((wrap64 (a0 + a1)) - a2)) - a0)) t336 _ A15.out).mono ?_); rintro e w' ⟨rfl, ⟨nd, rfl⟩⟩) | (go_at_call 202; (with_reducible refine (spec_l13Size.calls (wrap64 ((wrap64 ((wrap64 (a0 + a1)) - a2)) - a2)) t337 _ A16.out).mono ?_); rintro e w' ⟨rfl, ⟨nd, rfl⟩⟩))
      go_meet
      case rel => exact ⟨_, (decide (t336 ≤ t337)), (by first | rfl | (simp; done) | (simp [*]; done)), H', ⟨by have := HJ3.out; first | omega | exact Nat.le_refl _⟩, by repeat (first | exact Drawn0.refl _ | apply Drawn0.step)⟩
     ·rw [if_neg c14] at H
      have c14b0 : decide (t334 ≤ t335) = false := decide_eq_false c14
      clear c14
      (first | rw [c14b0] | (simp only [i64_w, i32_w]; rw [c14b0]) | skip)
      have H' := aM H
      clear H
      go_wp2_with (first | ((with_reducible refine gate_callee (f := 202) rfl ?_); refine goesL_ (some 29) rfl rfl Try.func202 (by kernel_rfl) rfl #[.int .i64 (wrap64 ((wrap64 ((wrap64 (a0 + a1)) - a2)) - a0))] rfl (by (try simp only [lM, List.map_cons, List.map_nil]); first | done | rfl | (simp only [lD, lT]; rfl)) ?_; (with_reducible refine (spec_l13Size.calls (wrap64 ((wrap64 ((wrap64 (a0 + a1)) - a2)) - a0)) t334 _ A12.out).mono ?_); rintro e w' ⟨rfl, ⟨nd, rfl⟩⟩; refine ⟨_, rfl, ?_⟩) | ((with_reducible refine gate_callee (f := 202) rfl ?_); refine goesL_ (some 33) rfl rfl Try.func202 (by kernel_rfl) rfl #[.int .i64 (wrap64 ((wrap64 ((wrap64 (a0 + a1)) - a2)) - a1))] rfl (by (try simp only [lM, List.map_cons, List.map_nil]); first | done | rfl | (simp only [lD, lT]; rfl)) ?_; (with_reducible refine (spec_l13Size.calls (wrap64 ((wrap64 ((wrap64 (a0 + a1)) - a2)) - a1)) t335 _ A13.out).mono ?_); rintro e w' ⟨rfl, ⟨nd, rfl⟩⟩; refine ⟨_, rfl, ?_⟩))
      go_meet
      case rel => exact ⟨_, (false), (by first | rfl | (simp; done) | (simp [*]; done)), H', ⟨by have := HJ3.out; first | omega | exact Nat.le_refl _⟩, by repeat (first | exact Drawn0.refl _ | apply Drawn0.step)⟩
    case rest =>
     clear HC11
     try clear c1
     try clear c2
     try clear p2
     try clear c3
     try clear c6
     try clear p6
     try clear c8
     try clear c10
     try clear c12
     try clear c14
     try clear c14b0
     try clear p2
     obtain ⟨kq, x45_10, rfl, HA, HJ10, ⟨mc10, rfl⟩⟩ := hcut
     cases kq with
     | zero => exact absurd HA.out (by simp [spec_Paeth.j1])
     | succ kj10 =>
      have H := HA.out
      clear HA
      simp only [spec_Paeth.j1] at H
      by_cases c17 : x45_10 = true
      ·subst c17
       have H1 : (some a0) = some r := by rw [if_pos rfl] at H; first | done | exact H
       clear H
       have H := H1
       clear H1
       obtain rfl := Option.some.inj H
       go_wp2
       go_ret
       exact ⟨by first | rfl | (simp; done) | (simp [*]; done), by repeat (first | exact Drawn0.refl _ | apply Drawn0.step)⟩
      ·replace c17 := Bool.eq_false_iff.mpr c17
       subst c17
       have H1 : ((spec_l13Size.f (wrap64 ((wrap64 ((wrap64 (a0 + a1)) - a2)) - a1))).bind fun t338 => ((spec_l13Size.f (wrap64 ((wrap64 ((wrap64 (a0 + a1)) - a2)) - a2))).bind fun t339 => (if t338 ≤ t339 then (some a1) else (some a2)))) = some r := by rw [if_neg (show ¬ (false = true) by decide)] at H; first | done | exact H
       clear H
       have H := H1
       clear H1
       replace H := oB.mp H
       obtain ⟨t338, A180, H⟩ := H
       replace H : ((spec_l13Size.f (wrap64 ((wrap64 ((wrap64 (a0 + a1)) - a2)) - a2))).bind fun t339 => (if t338 ≤ t339 then (some a1) else (some a2))) = some r := H
       have A18 := aM A180
       clear A180
       replace H := oB.mp H
       obtain ⟨t339, A190, H⟩ := H
       replace H : (if t338 ≤ t339 then (some a1) else (some a2)) = some r := H
       have A19 := aM A190
       clear A190
       by_cases c20 : t338 ≤ t339
       ·rw [if_pos c20] at H
        have c20b0 : decide (t338 ≤ t339) = true := decide_eq_true c20
        clear c20
        obtain rfl := Option.some.inj H
        go_wp2_with (first | ((with_reducible refine gate_callee (f := 202) rfl ?_); refine goesL_ (some 50) rfl rfl Try.func202 (by kernel_rfl) rfl #[.int .i64 (wrap64 ((wrap64 ((wrap64 (a0 + a1)) - a2)) - a1))] rfl (by (try simp only [lM, List.map_cons, List.map_nil]); first | done | rfl | (simp only [lD, lT]; rfl)) ?_; (with_reducible refine (spec_l13Size.calls (wrap64 ((wrap64 ((wrap64 (a0 + a1)) - a2)) - a1)) t338 _ A18.out).mono ?_); rintro e w' ⟨rfl, ⟨nd, rfl⟩⟩; refine ⟨_, rfl, ?_⟩) | ((with_reducible refine gate_callee (f := 202) rfl ?_); refine goesL_ (some 54) rfl rfl Try.func202 (by kernel_rfl) rfl #[.int .i64 (wrap64 ((wrap64 ((wrap64 (a0 + a1)) - a2)) - a2))] rfl (by (try simp only [lM, List.map_cons, List.map_nil]); first | done | rfl | (simp only [lD, lT]; rfl)) ?_; (with_reducible refine (spec_l13Size.calls (wrap64 ((wrap64 ((wrap64 (a0 + a1)) - a2)) - a2)) t339 _ A19.out).mono ?_); rintro e w' ⟨rfl, ⟨nd, rfl⟩⟩; refine ⟨_, rfl, ?_⟩))
        go_ret
        exact ⟨by first | rfl | (simp; done) | (simp [*]; done), by repeat (first | exact Drawn0.refl _ | apply Drawn0.step)⟩
       ·rw [if_neg c20] at H
        have c20b0 : decide (t338 ≤ t339) = false := decide_eq_false c20
        clear c20
        obtain rfl := Option.some.inj H
        go_wp2_with (first | ((with_reducible refine gate_callee (f := 202) rfl ?_); refine goesL_ (some 50) rfl rfl Try.func202 (by kernel_rfl) rfl #[.int .i64 (wrap64 ((wrap64 ((wrap64 (a0 + a1)) - a2)) - a1))] rfl (by (try simp only [lM, List.map_cons, List.map_nil]); first | done | rfl | (simp only [lD, lT]; rfl)) ?_; (with_reducible refine (spec_l13Size.calls (wrap64 ((wrap64 ((wrap64 (a0 + a1)) - a2)) - a1)) t338 _ A18.out).mono ?_); rintro e w' ⟨rfl, ⟨nd, rfl⟩⟩; refine ⟨_, rfl, ?_⟩) | ((with_reducible refine gate_callee (f := 202) rfl ?_); refine goesL_ (some 54) rfl rfl Try.func202 (by kernel_rfl) rfl #[.int .i64 (wrap64 ((wrap64 ((wrap64 (a0 + a1)) - a2)) - a2))] rfl (by (try simp only [lM, List.map_cons, List.map_nil]); first | done | rfl | (simp only [lD, lT]; rfl)) ?_; (with_reducible refine (spec_l13Size.calls (wrap64 ((wrap64 ((wrap64 (a0 + a1)) - a2)) - a2)) t339 _ A19.out).mono ?_); rintro e w' ⟨rfl, ⟨nd, rfl⟩⟩; refine ⟨_, rfl, ?_⟩))
        go_ret
        exact ⟨by first | rfl | (simp; done) | (simp [*]; done), by repeat (first | exact Drawn0.refl _ | apply Drawn0.step)⟩

/-! ### spec_l13Says: function 175 -/
def spec_l13Says.j0 : Nat → Int → Int → Int → Int → Option (Int)
 | 0, _, _, _, _ => none
 | k + 1, x0, x11, x12, x13 => if x0 = 1 then (some x11) else (if x0 = 2 then (some x13) else (if x0 = 3 then (some (wrap64 (Int.tdiv (wrap64 (x11 + x13)) 2))) else (if x0 = 4 then ((spec_Paeth.f k x11 x13 x12).bind fun t341 => (some t341)) else (some 0))))
def spec_l13Says.f (k : Nat) (a0 : Int) (l1 : List Int) (a2 : ByteArray) (a3 : Int) (a4 : Int) : Option (Int) := if 0 ≤ a4 then (if a4 < (a2.size : Int) then (if a4 ≥ a3 then (if 0 ≤ (wrap64 (a4 - a3)) then (if (wrap64 (a4 - a3)) < (l1.length : Int) then (if (wrap64 (a4 - a3)) < (a2.size : Int) then (spec_l13Says.j0 k a0 (wrap64 (rd l1 (wrap64 (a4 - a3)))) (wrap64 (bt a2 (wrap64 (a4 - a3)))) (wrap64 (bt a2 a4))) else (none)) else (none)) else (none)) else (spec_l13Says.j0 k a0 0 0 (wrap64 (bt a2 a4)))) else (none)) else (none)
theorem spec_l13Says.mono_l : ∀ k, (∀ y0 y1 y2 y3, LeO (spec_l13Says.j0 k y0 y1 y2 y3) (spec_l13Says.j0 (k + 1) y0 y1 y2 y3))
 | 0 => fun _ _ _ _ r h => by simp [spec_l13Says.j0] at h
 | k + 1 => by
  have ih0 := spec_l13Says.mono_l k
  ·intro y0 y1 y2 y3
   unfold spec_l13Says.j0
   repeat' first
   | (with_reducible exact ih0 _ _ _ _)
   | (with_reducible exact spec_Paeth.mono _ _ _ _)
   | (with_reducible exact LeO.refl _)
   | (with_reducible exact LeO.none _)
   | (with_reducible refine LeO.ite ?_ ?_)
   | (with_reducible refine LeO.bind ?_ (fun _ => ?_))
   | exact ih0 _ _ _ _
   | exact spec_Paeth.mono _ _ _ _
   | exact LeO.none _
   | refine LeO.ite ?_ ?_
   | refine LeO.bind ?_ (fun _ => ?_)
theorem spec_l13Says.mono : ∀ a0 a1 a2 a3 a4 k, LeO (spec_l13Says.f k a0 a1 a2 a3 a4) (spec_l13Says.f (k + 1) a0 a1 a2 a3 a4) := by
 intro a0 a1 a2 a3 a4 k
 have ih0 := spec_l13Says.mono_l k
 unfold spec_l13Says.f
 repeat' first
   | (with_reducible exact ih0 _ _ _ _)
   | (with_reducible exact spec_Paeth.mono _ _ _ _)
   | (with_reducible exact LeO.refl _)
   | (with_reducible exact LeO.none _)
   | (with_reducible refine LeO.ite ?_ ?_)
   | (with_reducible refine LeO.bind ?_ (fun _ => ?_))
   | exact ih0 _ _ _ _
   | exact spec_Paeth.mono _ _ _ _
   | exact LeO.none _
   | refine LeO.ite ?_ ?_
   | refine LeO.bind ?_ (fun _ => ?_)
set_option maxHeartbeats 8000000 in
set_option maxRecDepth 100000 in
theorem spec_l13Says.calls (k : Nat) (a0 : Int) (A1 : Option Addr) (c1 : Nat) (l1 : List Int) (a2 : ByteArray) (a3 : Int) (a4 : Int) (r : Int) (w : World) (hr1 : Kd.C (Kd.int .u8) w A1 l1.length l1) (hc1 : l1.length ≤ c1) (h : spec_l13Says.f k a0 l1 a2 a3 a4 = some r) :
  Calls Try.prog 175 #[.int .i64 a0, .slice A1 l1.length c1, .string a2, .int .i64 a3, .int .i64 a4] w fun e w' => e = .returned (.int .i64 r) ∧ Drawn0 w w' := by
 have HR1 := aM hr1
 have HC1 := aM hc1
 clear hr1 hc1
 unfold spec_l13Says.f at h; have H := h
 clear h
 by_cases c6 : 0 ≤ a4
 ·rw [if_pos c6] at H
  have c6b0 : decide (0 ≤ a4) = true := decide_eq_true c6
  clear c6
  by_cases c7 : a4 < (a2.size : Int)
  ·rw [if_pos c7] at H
   have c7b0 : decide (a4 < (a2.size : Int)) = true := decide_eq_true c7
   clear c7
   have HC9 := aM H
   clear H
   have p8 : 0 ≤ (a4 : Int) := oD (by first | (with_reducible assumption) | assumption)
   have q8 : a4 < (a2.size : Int) := oD (by first | (with_reducible assumption) | assumption)
   have hx8 := bt_at a2 a4
   replace p8 := eq_true p8
   replace q8 := eq_true q8
   go_enter Try.func175, Try.ntmps175
   go_upto_if 20 with (fail)
   go_cut [11, 12] (fun v11 v12 wc => ∃ (kq : Nat) (x11_8 : Int) (x12_8 : Int), v11 = .int .i64 x11_8 ∧ v12 = .int .i64 x12_8 ∧ Aside0 (spec_l13Says.j0 kq a0 x11_8 x12_8 (wrap64 (bt a2 a4)) = some r) ∧ Aside0 (kq ≤ k) ∧ Drawn0 w wc)
   case first =>
    have H := HC9.out
    clear HC9
    by_cases c10 : a4 ≥ a3
    ·rw [if_pos c10] at H
     have c10b0 : decide (a3 ≤ a4) = true := decide_eq_true c10
     clear c10
     (first | rw [c10b0] | (simp only [i64_w, i32_w]; rw [c10b0]) | skip)
     obtain ⟨ji11, hji11⟩ : ∃ j_ : Int, (wrap64 (a4 - a3)) = j_ := ⟨_, rfl⟩
     replace H : (if 0 ≤ (ji11) then (if (ji11) < (l1.length : Int) then (if (ji11) < (a2.size : Int) then (spec_l13Says.j0 k a0 (wrap64 (rd l1 (ji11))) (wrap64 (bt a2 (ji11))) (wrap64 (bt a2 a4))) else (none)) else (none)) else (none)) = some r := by first | (rw [hji11] at H; exact H) | (simp only [hji11] at H ⊢; exact H)
     have hji11w : (IntKind.i64.wrap (a4 - a3)) = ji11 := (i64_w _).trans hji11
     by_cases c12 : 0 ≤ (ji11)
     ·rw [if_pos c12] at H
      have c12b0 : decide (0 ≤ (ji11)) = true := decide_eq_true c12
      clear c12
      by_cases c13 : (ji11) < (l1.length : Int)
      ·rw [if_pos c13] at H
       have c13b0 : decide ((ji11) < (l1.length : Int)) = true := decide_eq_true c13
       clear c13
       by_cases c14 : (ji11) < (a2.size : Int)
       ·rw [if_pos c14] at H
        have c14b0 : decide ((ji11) < (a2.size : Int)) = true := decide_eq_true c14
        clear c14
        have H' := aM H
        clear H
        have p340 : 0 ≤ ((ji11) : Int) := oD (by first | (with_reducible assumption) | assumption)
        have q340 : (ji11) < (l1.length : Int) := oD (by first | (with_reducible assumption) | assumption)
        obtain ⟨ad340, e340, hx340_0⟩ := Kd.at_int HR1.out (ji11) p340 q340
        cases e340
        replace p340 := eq_true p340
        replace q340 := eq_true q340
        have p15 : 0 ≤ ((ji11) : Int) := oD (by first | (with_reducible assumption) | assumption)
        have q15 : (ji11) < (a2.size : Int) := oD (by first | (with_reducible assumption) | assumption)
        have hx15 := bt_at a2 (ji11)
        replace p15 := eq_true p15
        replace q15 := eq_true q15
        go_wp2
        go_meet
        case rel => exact ⟨_, (wrap64 (rd l1 (ji11))), (wrap64 (bt a2 (ji11))), (by first | rfl | (simp; done) | (simp only [← hji11] <;> (first | rfl | simp)) | (simp [*]; done)), (by first | rfl | (simp; done) | (simp only [← hji11] <;> (first | rfl | simp)) | (simp [*]; done)), H', ⟨by first | omega | exact Nat.le_refl _⟩, by repeat (first | exact Drawn0.refl _ | apply Drawn0.step)⟩
       ·rw [if_neg c14] at H
        exact absurd H (by simp)
      ·rw [if_neg c13] at H
       exact absurd H (by simp)
     ·rw [if_neg c12] at H
      exact absurd H (by simp)
    ·rw [if_neg c10] at H
     have c10b0 : decide (a3 ≤ a4) = false := decide_eq_false c10
     clear c10
     (first | rw [c10b0] | (simp only [i64_w, i32_w]; rw [c10b0]) | skip)
     have H' := aM H
     clear H
     go_wp2
     go_meet
     case rel => exact ⟨_, (0), (0), (by first | rfl | (simp; done) | (simp [*]; done)), (by first | rfl | (simp; done) | (simp [*]; done)), H', ⟨by first | omega | exact Nat.le_refl _⟩, by repeat (first | exact Drawn0.refl _ | apply Drawn0.step)⟩
   case rest =>
    clear HC9
    try clear c1
    try clear p1
    try clear q1
    try clear hx1
    try clear p2
    try clear p3
    try clear q3
    try clear hx3
    try clear c6
    try clear c6b0
    try clear p6
    try clear c7
    try clear c7b0
    try clear p8
    try clear q8
    try clear hx8
    try clear c10
    try clear c10b0
    try clear c12
    try clear c12b0
    try clear c13
    try clear c13b0
    try clear c14
    try clear c14b0
    try clear p15
    try clear q15
    try clear hx15
    try clear hx340_0
    try clear p15
    try clear p340
    try clear p8
    try clear q15
    try clear q340
    try clear q8
    obtain ⟨kq, x11_8, x12_8, rfl, rfl, HA, HJ8, ⟨mc8, rfl⟩⟩ := hcut
    cases kq with
    | zero => exact absurd HA.out (by simp [spec_l13Says.j0])
    | succ kj8 =>
     have H := HA.out
     clear HA
     simp only [spec_l13Says.j0] at H
     by_cases c16 : a0 = 1
     ·rw [if_pos c16] at H
      have c16b0 : (a0 == 1) = true := beq_iff_eq.mpr c16
      have c16b1 : (a0 != 1) = false := bne_eq_false_iff_eq.mpr c16
      clear c16
      obtain rfl := Option.some.inj H
      go_wp2
      go_ret
      exact ⟨by first | rfl | (simp; done) | (simp [*]; done), by repeat (first | exact Drawn0.refl _ | apply Drawn0.step)⟩
     ·rw [if_neg c16] at H
      have c16b0 : (a0 == 1) = false := beq_eq_false_iff_ne.mpr c16
      have c16b1 : (a0 != 1) = true := bne_iff_ne.mpr c16
      by_cases c17 : a0 = 2
      ·rw [if_pos c17] at H
       have c17b0 : (a0 == 2) = true := beq_iff_eq.mpr c17
       have c17b1 : (a0 != 2) = false := bne_eq_false_iff_eq.mpr c17
       clear c17
       obtain rfl := Option.some.inj H
       go_wp2
       go_ret
       exact ⟨by first | rfl | (simp; done) | (simp [*]; done), by repeat (first | exact Drawn0.refl _ | apply Drawn0.step)⟩
      ·rw [if_neg c17] at H
       have c17b0 : (a0 == 2) = false := beq_eq_false_iff_ne.mpr c17
       have c17b1 : (a0 != 2) = true := bne_iff_ne.mpr c17
       by_cases c18 : a0 = 3
       ·rw [if_pos c18] at H
        have c18b0 : (a0 == 3) = true := beq_iff_eq.mpr c18
        have c18b1 : (a0 != 3) = false := bne_eq_false_iff_eq.mpr c18
        clear c18
        obtain rfl := Option.some.inj H
        go_wp2
        go_ret
        exact ⟨by first | rfl | (simp; done) | (simp [*]; done), by repeat (first | exact Drawn0.refl _ | apply Drawn0.step)⟩
       ·rw [if_neg c18] at H
        have c18b0 : (a0 == 3) = false := beq_eq_false_iff_ne.mpr c18
        have c18b1 : (a0 != 3) = true := bne_iff_ne.mpr c18
        by_cases c19 : a0 = 4
        ·rw [if_pos c19] at H
         have c19b0 : (a0 == 4) = true := beq_iff_eq.mpr c19
         have c19b1 : (a0 != 4) = false := bne_eq_false_iff_eq.mpr c19
         clear c19
         replace H := oB.mp H
         obtain ⟨t341, A200, H⟩ := H
         replace H : (some t341) = some r := H
         have A20 := aM A200
         clear A200
         obtain rfl := Option.some.inj H
         go_wp2_with (first | ((with_reducible refine gate_callee (f := 191) rfl ?_); refine goesL_ (some 52) rfl rfl Try.func191 (by kernel_rfl) rfl #[.int .i64 x11_8, .int .i64 (wrap64 (bt a2 a4)), .int .i64 x12_8] rfl (by (try simp only [lM, List.map_cons, List.map_nil]); first | done | rfl | (simp only [lD, lT]; rfl)) ?_; (with_reducible refine (spec_Paeth.calls kj8 x11_8 (wrap64 (bt a2 a4)) x12_8 t341 _ A20.out).mono ?_); rintro e w' ⟨rfl, ⟨nd, rfl⟩⟩; refine ⟨_, rfl, ?_⟩))
         go_ret
         exact ⟨by first | rfl | (simp; done) | (simp [*]; done), by repeat (first | exact Drawn0.refl _ | apply Drawn0.step)⟩
        ·rw [if_neg c19] at H
         have c19b0 : (a0 == 4) = false := beq_eq_false_iff_ne.mpr c19
         have c19b1 : (a0 != 4) = true := bne_iff_ne.mpr c19
         obtain rfl := Option.some.inj H
         go_wp2
         go_ret
         exact ⟨by first | rfl | (simp; done) | (simp [*]; done), by repeat (first | exact Drawn0.refl _ | apply Drawn0.step)⟩
  ·rw [if_neg c7] at H
   exact absurd H (by simp)
 ·rw [if_neg c6] at H
  exact absurd H (by simp)

end Go.Proofs.Ytajnobmnkbkkgaa.PFnExactScanOf
