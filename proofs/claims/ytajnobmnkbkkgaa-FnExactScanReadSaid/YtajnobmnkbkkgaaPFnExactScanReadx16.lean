/- Walks of functions that the law FnExactScanRead reaches: each call comes to what the Lean function of its name tells. Written by p2.py, a program of this session, by way of the kit's print. -/
import Derived.Test.YtajnobmnkbkkgaaVFnExactScanRead
import Derived.Test.YtajnobmnkbkkgaaPFnExactScanReadx0
import Derived.Test.YtajnobmnkbkkgaaPFnExactScanReadx10
import Derived.Test.YtajnobmnkbkkgaaPFnExactScanReadx15
namespace Go.Proofs.Ytajnobmnkbkkgaa.PFnExactScanRead
open Go.RowKit Go.Proofs.YtajnobmnkbkkgaaW.PrintWords Go.Proofs.YtajnobmnkbkkgaaW.PrintLast Go.Proofs.YtajnobmnkbkkgaaW.PrintMore
attribute [local go_sem] max2_int min2_int max_two min_two max_three min_three max_four min_four   -- for this text's walks alone
set_option linter.unusedVariables false
set_option linter.unusedSimpArgs false

/-! ### spec_Paeth: function 191 -/
mutual
def spec_Paeth.j0 : Nat → Int → Int → Int → Bool → Option (Int)
  | 0, _, _, _, _ => none
  | k + 1, x0, x1, x2, x20 => if x20 = true then (some 0) else ((spec_l13Size.f (wrap64 ((wrap64 ((wrap64 (x0 + x1)) - x2)) - x0))).bind fun t434 => ((spec_l13Size.f (wrap64 ((wrap64 ((wrap64 (x0 + x1)) - x2)) - x1))).bind fun t435 => (if t434 ≤ t435 then ((spec_l13Size.f (wrap64 ((wrap64 ((wrap64 (x0 + x1)) - x2)) - x0))).bind fun t436 => ((spec_l13Size.f (wrap64 ((wrap64 ((wrap64 (x0 + x1)) - x2)) - x2))).bind fun t437 => (spec_Paeth.j1 k x0 x1 x2 (wrap64 ((wrap64 (x0 + x1)) - x2)) (decide (t436 ≤ t437))))) else (spec_Paeth.j1 k x0 x1 x2 (wrap64 ((wrap64 (x0 + x1)) - x2)) false))))
def spec_Paeth.j1 : Nat → Int → Int → Int → Int → Bool → Option (Int)
  | 0, _, _, _, _, _ => none
  | k + 1, x0, x1, x2, x7, x45 => if x45 = true then (some x0) else ((spec_l13Size.f (wrap64 (x7 - x1))).bind fun t438 => ((spec_l13Size.f (wrap64 (x7 - x2))).bind fun t439 => (if t438 ≤ t439 then (some x1) else (some x2))))
end
def spec_Paeth.f (k : Nat) (a0 : Int) (a1 : Int) (a2 : Int) : Option (Int) := (spec_l01In.f a0 (-1000) 1000).bind fun t431 => (if t431 = true then ((spec_l01In.f a1 (-1000) 1000).bind fun t432 => (if t432 = true then ((spec_l01In.f a2 (-1000) 1000).bind fun t433 => (spec_Paeth.j0 k a0 a1 a2 (!t433))) else (spec_Paeth.j0 k a0 a1 a2 true))) else (spec_Paeth.j0 k a0 a1 a2 true))
set_option maxHeartbeats 8000000 in
set_option maxRecDepth 100000 in
theorem spec_Paeth.calls (k : Nat) (a0 : Int) (a1 : Int) (a2 : Int) (r : Int) (w : World) (h : spec_Paeth.f k a0 a1 a2 = some r) :
 Calls Try.prog 191 #[.int .i64 a0, .int .i64 a1, .int .i64 a2] w fun e w' => e = .returned (.int .i64 r) ∧ Drawn0 w w' := by
 unfold spec_Paeth.f at h; have H := h; clear h; revert H; refine adR fun HC4 => ?_; go_enter Try.func191, Try.ntmps191
 go_upto_region 1 with (fail)
 go_cut [20] (fun v20 wc => ∃ (kq : Nat) (x20_3 : Bool), v20 = .bool x20_3 ∧ Aside0 (spec_Paeth.j0 kq a0 a1 a2 x20_3 = some r) ∧ Aside0 (kq ≤ k) ∧ Drawn0 w wc)
 case first =>
  revert HC4; refine aoR ?_; refine bdR fun t431 A5 => ?_
  refine ifB (fun c6 => ?_) (fun c6 => ?_)
  · intro H; subst c6; revert H; refine bdR fun t432 A7 => ?_
    refine ifB (fun c8 => ?_) (fun c8 => ?_)
    · intro H; subst c8; revert H; refine bdR fun t433 A9 => ?_; refine adR fun H' => ?_
      go_wp2_with (first | ((with_reducible refine gC 129 ?_); refine gL (some 9) Try.func129 #[.int .i64 a0, .int .i64 (-1000), .int .i64 1000] ?_; (with_reducible refine (spec_l01In.calls a0 (-1000) 1000 true _ A5.out).mono ?_); rintro e w' ⟨rfl, ⟨nd, rfl⟩⟩; refine ⟨_, rfl, ?_⟩) | (go_at_call 129; (with_reducible refine (spec_l01In.calls a1 (-1000) 1000 true _ A7.out).mono ?_); rintro e w' ⟨rfl, ⟨nd, rfl⟩⟩) | (go_at_call 129; (with_reducible refine (spec_l01In.calls a2 (-1000) 1000 t433 _ A9.out).mono ?_); rintro e w' ⟨rfl, ⟨nd, rfl⟩⟩)); go_meet
      case rel => exact ⟨_, (!t433), eQ, H', ⟨lE⟩, dQ⟩
    · intro H; replace c8 := Bool.eq_false_iff.mpr c8; subst c8; revert H; refine adR fun H' => ?_
      go_wp2_with (first | ((with_reducible refine gC 129 ?_); refine gL (some 9) Try.func129 #[.int .i64 a0, .int .i64 (-1000), .int .i64 1000] ?_; (with_reducible refine (spec_l01In.calls a0 (-1000) 1000 true _ A5.out).mono ?_); rintro e w' ⟨rfl, ⟨nd, rfl⟩⟩; refine ⟨_, rfl, ?_⟩) | (go_at_call 129; (with_reducible refine (spec_l01In.calls a1 (-1000) 1000 false _ A7.out).mono ?_); rintro e w' ⟨rfl, ⟨nd, rfl⟩⟩)); go_meet
      case rel => exact ⟨_, (true), eQ, H', ⟨lE⟩, dQ⟩
  · intro H; replace c6 := Bool.eq_false_iff.mpr c6; subst c6; revert H; refine adR fun H' => ?_
    go_wp2_with (first | ((with_reducible refine gC 129 ?_); refine gL (some 9) Try.func129 #[.int .i64 a0, .int .i64 (-1000), .int .i64 1000] ?_; (with_reducible refine (spec_l01In.calls a0 (-1000) 1000 false _ A5.out).mono ?_); rintro e w' ⟨rfl, ⟨nd, rfl⟩⟩; refine ⟨_, rfl, ?_⟩)); go_meet
    case rel => exact ⟨_, (true), eQ, H', ⟨lE⟩, dQ⟩
 case rest =>
  clear HC4; (try clear c1); (try clear p2); (try clear c6); (try clear c8); obtain ⟨kq, x20_3, rfl, HA, HJ3, ⟨mc3, rfl⟩⟩ := hcut; rcases kq with _ | kj3
  · exact absurd HA.out (by simp [spec_Paeth.j0])
  revert HA; refine aoR ?_; intro H; simp only [spec_Paeth.j0] at H; revert H
  refine ifB (fun c10 => ?_) (fun c10 => ?_)
  · intro H; subst c10; obtain rfl := Option.some.inj H; go_wp2; go_ret; exact ⟨eQ, dQ⟩
  · intro H; replace c10 := Bool.eq_false_iff.mpr c10; subst c10; revert H; refine adR fun HC11 => ?_
    go_upto_region 4 with (fail)
    go_cut [45] (fun v45 wc => ∃ (kq : Nat) (x45_10 : Bool), v45 = .bool x45_10 ∧ Aside0 (spec_Paeth.j1 kq a0 a1 a2 (wrap64 ((wrap64 (a0 + a1)) - a2)) x45_10 = some r) ∧ Aside0 (kq ≤ kj3) ∧ Drawn0 w wc)
    case first =>
     revert HC11; refine aoR ?_; refine bdR fun t434 A12 => ?_; refine bdR fun t435 A13 => ?_
     refine ifB (fun c14 => ?_) (fun c14 => ?_)
     · intro H; have c14b0 := decide_eq_true c14; clear c14
       (first | rw [c14b0] | (simp only [i64_w, i32_w]; rw [c14b0]) | skip); revert H; refine bdR fun t436 A15 => ?_; refine bdR fun t437 A16 => ?_; refine adR fun H' => ?_
       go_wp2_with (first | ((with_reducible refine gC 202 ?_); refine gL (some 29) Try.func202 #[.int .i64 (wrap64 ((wrap64 ((wrap64 (a0 + a1)) - a2)) - a0))] ?_; (with_reducible refine (spec_l13Size.calls (wrap64 ((wrap64 ((wrap64 (a0 + a1)) - a2)) - a0)) t434 _ A12.out).mono ?_); rintro e w' ⟨rfl, ⟨nd, rfl⟩⟩; refine ⟨_, rfl, ?_⟩) | ((with_reducible refine gC 202 ?_); refine gL (some 33) Try.func202 #[.int .i64 (wrap64 ((wrap64 ((wrap64 (a0 + a1)) - a2)) - a1))] ?_; (with_reducible refine (spec_l13Size.calls (wrap64 ((wrap64 ((wrap64 (a0 + a1)) - a2)) - a1)) t435 _ A13.out).mono ?_); rintro e w' ⟨rfl, ⟨nd, rfl⟩⟩; refine ⟨_, rfl, ?_⟩) | (go_at_call 202; (with_reducible refine (spec_l13Size.calls (wrap64 ((wrap64 ((wrap64 (a0 + a1)) - a2)) - a0)) t436 _ A15.out).mono ?_); rintro e w' ⟨rfl, ⟨nd, rfl⟩⟩) | (go_at_call 202; (with_reducible refine (spec_l13Size.calls (wrap64 ((wrap64 ((wrap64 (a0 + a1)) - a2)) - a2)) t437 _ A16.out).mono ?_); rintro e w' ⟨rfl, ⟨nd, rfl⟩⟩)); go_meet
       case rel => exact ⟨_, (decide (t436 ≤ t437)), eQ, H', ⟨by have := HJ3.out; first | omega | exact Nat.le_refl _⟩, dQ⟩
     · intro H; have c14b0 := decide_eq_false c14; clear c14
       (first | rw [c14b0] | (simp only [i64_w, i32_w]; rw [c14b0]) | skip); revert H; refine adR fun H' => ?_
       go_wp2_with (first | ((with_reducible refine gC 202 ?_); refine gL (some 29) Try.func202 #[.int .i64 (wrap64 ((wrap64 ((wrap64 (a0 + a1)) - a2)) - a0))] ?_; (with_reducible refine (spec_l13Size.calls (wrap64 ((wrap64 ((wrap64 (a0 + a1)) - a2)) - a0)) t434 _ A12.out).mono ?_); rintro e w' ⟨rfl, ⟨nd, rfl⟩⟩; refine ⟨_, rfl, ?_⟩) | ((with_reducible refine gC 202 ?_); refine gL (some 33) Try.func202 #[.int .i64 (wrap64 ((wrap64 ((wrap64 (a0 + a1)) - a2)) - a1))] ?_; (with_reducible refine (spec_l13Size.calls (wrap64 ((wrap64 ((wrap64 (a0 + a1)) - a2)) - a1)) t435 _ A13.out).mono ?_); rintro e w' ⟨rfl, ⟨nd, rfl⟩⟩; refine ⟨_, rfl, ?_⟩)); go_meet
       case rel => exact ⟨_, (false), eQ, H', ⟨by have := HJ3.out; first | omega | exact Nat.le_refl _⟩, dQ⟩
    case rest =>
     clear HC11; (try clear c1); (try clear c2); (try clear p2); (try clear c3); (try clear c6); (try clear p6); (try clear c8); (try clear c10); (try clear c12); (try clear c14); (try clear c14b0); obtain ⟨kq, x45_10, rfl, HA, HJ10, ⟨mc10, rfl⟩⟩ := hcut; rcases kq with _ | kj10
     · exact absurd HA.out (by simp [spec_Paeth.j1])
     revert HA; refine aoR ?_; intro H; simp only [spec_Paeth.j1] at H; revert H
     refine ifB (fun c17 => ?_) (fun c17 => ?_)
     · intro H; subst c17; obtain rfl := Option.some.inj H; go_wp2; go_ret; exact ⟨eQ, dQ⟩
     · intro H; replace c17 := Bool.eq_false_iff.mpr c17; subst c17; revert H; refine bdR fun t438 A18 => ?_; refine bdR fun t439 A19 => ?_
       refine ifB (fun c20 => ?_) (fun c20 => ?_)
       · intro H; have c20b0 := decide_eq_true c20; clear c20; obtain rfl := Option.some.inj H
         go_wp2_with (first | ((with_reducible refine gC 202 ?_); refine gL (some 50) Try.func202 #[.int .i64 (wrap64 ((wrap64 ((wrap64 (a0 + a1)) - a2)) - a1))] ?_; (with_reducible refine (spec_l13Size.calls (wrap64 ((wrap64 ((wrap64 (a0 + a1)) - a2)) - a1)) t438 _ A18.out).mono ?_); rintro e w' ⟨rfl, ⟨nd, rfl⟩⟩; refine ⟨_, rfl, ?_⟩) | ((with_reducible refine gC 202 ?_); refine gL (some 54) Try.func202 #[.int .i64 (wrap64 ((wrap64 ((wrap64 (a0 + a1)) - a2)) - a2))] ?_; (with_reducible refine (spec_l13Size.calls (wrap64 ((wrap64 ((wrap64 (a0 + a1)) - a2)) - a2)) t439 _ A19.out).mono ?_); rintro e w' ⟨rfl, ⟨nd, rfl⟩⟩; refine ⟨_, rfl, ?_⟩)); go_ret; exact ⟨eQ, dQ⟩
       · intro H; have c20b0 := decide_eq_false c20; clear c20; obtain rfl := Option.some.inj H
         go_wp2_with (first | ((with_reducible refine gC 202 ?_); refine gL (some 50) Try.func202 #[.int .i64 (wrap64 ((wrap64 ((wrap64 (a0 + a1)) - a2)) - a1))] ?_; (with_reducible refine (spec_l13Size.calls (wrap64 ((wrap64 ((wrap64 (a0 + a1)) - a2)) - a1)) t438 _ A18.out).mono ?_); rintro e w' ⟨rfl, ⟨nd, rfl⟩⟩; refine ⟨_, rfl, ?_⟩) | ((with_reducible refine gC 202 ?_); refine gL (some 54) Try.func202 #[.int .i64 (wrap64 ((wrap64 ((wrap64 (a0 + a1)) - a2)) - a2))] ?_; (with_reducible refine (spec_l13Size.calls (wrap64 ((wrap64 ((wrap64 (a0 + a1)) - a2)) - a2)) t439 _ A19.out).mono ?_); rintro e w' ⟨rfl, ⟨nd, rfl⟩⟩; refine ⟨_, rfl, ?_⟩)); go_ret; exact ⟨eQ, dQ⟩

/-! ### spec_l13Says: function 175 -/
def spec_l13Says.j0 : Nat → Int → Int → Int → Int → Option (Int)
  | 0, _, _, _, _ => none
  | k + 1, x0, x11, x12, x13 => if x0 = 1 then (some x11) else (if x0 = 2 then (some x13) else (if x0 = 3 then (some (wrap64 (Int.tdiv (wrap64 (x11 + x13)) 2))) else (if x0 = 4 then ((spec_Paeth.f k x11 x13 x12).bind fun t441 => (some t441)) else (some 0))))
def spec_l13Says.f (k : Nat) (a0 : Int) (l1 : List Int) (a2 : ByteArray) (a3 : Int) (a4 : Int) : Option (Int) := if 0 ≤ a4 then (if a4 < (a2.size : Int) then (if a4 ≥ a3 then (if 0 ≤ (wrap64 (a4 - a3)) then (if (wrap64 (a4 - a3)) < (l1.length : Int) then (if (wrap64 (a4 - a3)) < (a2.size : Int) then (spec_l13Says.j0 k a0 (wrap64 (rd l1 (wrap64 (a4 - a3)))) (wrap64 (bt a2 (wrap64 (a4 - a3)))) (wrap64 (bt a2 a4))) else (none)) else (none)) else (none)) else (spec_l13Says.j0 k a0 0 0 (wrap64 (bt a2 a4)))) else (none)) else (none)
set_option maxHeartbeats 8000000 in
set_option maxRecDepth 100000 in
theorem spec_l13Says.calls (k : Nat) (a0 : Int) (A1 : Option Addr) (c1 : Nat) (l1 : List Int) (a2 : ByteArray) (a3 : Int) (a4 : Int) (r : Int) (w : World) (hr1 : Kd.C (Kd.int .u8) w A1 l1.length l1) (hc1 : l1.length ≤ c1) (h : spec_l13Says.f k a0 l1 a2 a3 a4 = some r) :
 Calls Try.prog 175 #[.int .i64 a0, .slice A1 l1.length c1, .string a2, .int .i64 a3, .int .i64 a4] w fun e w' => e = .returned (.int .i64 r) ∧ Drawn0 w w' := by
 have HR1 := aM hr1; have HC1 := aM hc1; clear hr1 hc1; unfold spec_l13Says.f at h; have H := h; clear h; revert H; refine ifR fun c6 => ?_; intro H; have c6b0 := decide_eq_true c6; clear c6; revert H; refine ifR fun c7 => ?_; intro H; have c7b0 := decide_eq_true c7; clear c7; revert H; refine adR fun HC9 => ?_; have p8 : 0 ≤ (a4 : Int) := bD; have q8 : a4 < (a2.size : Int) := bD; have hx8 := bt_at a2 a4; replace p8 := eq_true p8; replace q8 := eq_true q8; go_enter Try.func175, Try.ntmps175
 go_upto_if 20 with (fail)
 go_cut [11, 12] (fun v11 v12 wc => ∃ (kq : Nat) (x11_8 : Int) (x12_8 : Int), v11 = .int .i64 x11_8 ∧ v12 = .int .i64 x12_8 ∧ Aside0 (spec_l13Says.j0 kq a0 x11_8 x12_8 (wrap64 (bt a2 a4)) = some r) ∧ Aside0 (kq ≤ k) ∧ Drawn0 w wc)
 case first =>
  revert HC9; refine aoR ?_
  refine ifB (fun c10 => ?_) (fun c10 => ?_)
  · intro H; have c10b0 := decide_eq_true c10; clear c10
    (first | rw [c10b0] | (simp only [i64_w, i32_w]; rw [c10b0]) | skip); obtain ⟨ji11, hji11⟩ : ∃ j_ : Int, (wrap64 (a4 - a3)) = j_ := ⟨_, rfl⟩; replace H : (if 0 ≤ (ji11) then (if (ji11) < (l1.length : Int) then (if (ji11) < (a2.size : Int) then (spec_l13Says.j0 k a0 (wrap64 (rd l1 (ji11))) (wrap64 (bt a2 (ji11))) (wrap64 (bt a2 a4))) else (none)) else (none)) else (none)) = some r := by first | (rw [hji11] at H; exact H) | (simp only [hji11] at H ⊢; exact H)
    have hji11w : (IntKind.i64.wrap (a4 - a3)) = ji11 := (i64_w _).trans hji11; revert H; refine ifR fun c12 => ?_; intro H; have c12b0 := decide_eq_true c12; clear c12; revert H; refine ifR fun c13 => ?_; intro H; have c13b0 := decide_eq_true c13; clear c13; revert H; refine ifR fun c14 => ?_; intro H; have c14b0 := decide_eq_true c14; clear c14; revert H; refine adR fun H' => ?_; have p440 : 0 ≤ ((ji11) : Int) := bD; have q440 : (ji11) < (l1.length : Int) := bD; obtain ⟨ad440, e440, hx440_0⟩ := Kd.at_int HR1.out (ji11) p440 q440; cases e440; replace p440 := eq_true p440; replace q440 := eq_true q440; have p15 : 0 ≤ ((ji11) : Int) := bD; have q15 : (ji11) < (a2.size : Int) := bD; have hx15 := bt_at a2 (ji11); replace p15 := eq_true p15; replace q15 := eq_true q15; go_wp2; go_meet
    case rel => exact ⟨_, (wrap64 (rd l1 (ji11))), (wrap64 (bt a2 (ji11))), (by first | rfl | (simp; done) | (simp only [← hji11] <;> (first | rfl | simp)) | (simp [*]; done)), (by first | rfl | (simp; done) | (simp only [← hji11] <;> (first | rfl | simp)) | (simp [*]; done)), H', ⟨lE⟩, dQ⟩
  · intro H; have c10b0 := decide_eq_false c10; clear c10
    (first | rw [c10b0] | (simp only [i64_w, i32_w]; rw [c10b0]) | skip); revert H; refine adR fun H' => ?_; go_wp2; go_meet
    case rel => exact ⟨_, (0), (0), eQ, eQ, H', ⟨lE⟩, dQ⟩
 case rest =>
  clear HC9; (try clear c1); (try clear p1); (try clear q1); (try clear hx1); (try clear p2); (try clear p4); (try clear q4); (try clear hx4); (try clear c6); (try clear c6b0); (try clear p6); (try clear c7); (try clear c7b0); (try clear p8); (try clear q8); (try clear hx8); (try clear c10); (try clear c10b0); (try clear c12); (try clear c12b0); (try clear c13); (try clear c13b0); (try clear c14); (try clear c14b0); (try clear p15); (try clear q15); (try clear hx15); (try clear hx440_0); (try clear p440); (try clear q440); obtain ⟨kq, x11_8, x12_8, rfl, rfl, HA, HJ8, ⟨mc8, rfl⟩⟩ := hcut; rcases kq with _ | kj8
  · exact absurd HA.out (by simp [spec_l13Says.j0])
  revert HA; refine aoR ?_; intro H; simp only [spec_l13Says.j0] at H; revert H
  refine ifB (fun c16 => ?_) (fun c16 => ?_)
  · intro H; have c16b0 := beq_iff_eq.mpr c16; have c16b1 := bne_eq_false_iff_eq.mpr c16; clear c16; obtain rfl := Option.some.inj H; go_wp2; go_ret; exact ⟨eQ, dQ⟩
  · intro H; have c16b0 := beq_eq_false_iff_ne.mpr c16; have c16b1 := bne_iff_ne.mpr c16; revert H
    refine ifB (fun c17 => ?_) (fun c17 => ?_)
    · intro H; have c17b0 := beq_iff_eq.mpr c17; have c17b1 := bne_eq_false_iff_eq.mpr c17; clear c17; obtain rfl := Option.some.inj H; go_wp2; go_ret; exact ⟨eQ, dQ⟩
    · intro H; have c17b0 := beq_eq_false_iff_ne.mpr c17; have c17b1 := bne_iff_ne.mpr c17; revert H
      refine ifB (fun c18 => ?_) (fun c18 => ?_)
      · intro H; have c18b0 := beq_iff_eq.mpr c18; have c18b1 := bne_eq_false_iff_eq.mpr c18; clear c18; obtain rfl := Option.some.inj H; go_wp2; go_ret; exact ⟨eQ, dQ⟩
      · intro H; have c18b0 := beq_eq_false_iff_ne.mpr c18; have c18b1 := bne_iff_ne.mpr c18; revert H
        refine ifB (fun c19 => ?_) (fun c19 => ?_)
        · intro H; have c19b0 := beq_iff_eq.mpr c19; have c19b1 := bne_eq_false_iff_eq.mpr c19; clear c19; revert H; refine bdR fun t441 A20 => ?_; intro H; obtain rfl := Option.some.inj H
          go_wp2_with (first | ((with_reducible refine gC 191 ?_); refine gL (some 52) Try.func191 #[.int .i64 x11_8, .int .i64 (wrap64 (bt a2 a4)), .int .i64 x12_8] ?_; (with_reducible refine (spec_Paeth.calls kj8 x11_8 (wrap64 (bt a2 a4)) x12_8 t441 _ A20.out).mono ?_); rintro e w' ⟨rfl, ⟨nd, rfl⟩⟩; refine ⟨_, rfl, ?_⟩)); go_ret; exact ⟨eQ, dQ⟩
        · intro H; have c19b0 := beq_eq_false_iff_ne.mpr c19; have c19b1 := bne_iff_ne.mpr c19; obtain rfl := Option.some.inj H; go_wp2; go_ret; exact ⟨eQ, dQ⟩

/-! ### spec_UnfilterRow: function 136 -/
def spec_UnfilterRow.l0 : Nat → Int → ByteArray → ByteArray → Int → List Int → Int → Option (ByteArray × Bool)
  | 0, _, _, _, _, _, _ => none
  | k + 1, x0, x1, x2, x3, x10, x11 => if x11 < (x1.size : Int) then (if 0 ≤ x11 then ((spec_l13Says.f k x0 x10 x2 x3 x11).bind fun t446 => (if x10.length < 140737488355328 then (spec_UnfilterRow.l0 k x0 x1 x2 x3 (x10 ++ [(wrap64 ((wrap64 (bt x1 x11)) + t446)) % 256]) (wrap64 (x11 + 1))) else (none))) else (none)) else (some (strOfNums x10, true))
def spec_UnfilterRow.f (k : Nat) (a0 : Int) (a1 : ByteArray) (a2 : ByteArray) (a3 : Int) : Option (ByteArray × Bool) := (spec_l13Ok.f a0 a1 a2 a3).bind fun t442 => (if t442 = true then (spec_UnfilterRow.l0 k a0 a1 a2 a3 (([] : List Int)) 0) else (some ((⟨#[]⟩ : ByteArray), false)))
def spec_UnfilterRow.T7 : Bool × List (List Nat × List Nat) := (true, [([], []), ([], []), ([], []), ([1, 2], [1, 2]), ([3], [3]), ([], []), ([], []), ([], []), ([], []), ([], []), ([5, 6, 7, 8, 9], [5, 6, 7, 8, 9]), ([4, 10], [4, 10]), ([11], [11]), ([12], [12]), ([0, 13, 10], [0, 13]), ([14, 14, 0, 1, 2, 3, 4, 5, 6, 7, 8, 9, 10, 11, 12, 13, 14], [0, 6, 14])])
def spec_UnfilterRow.B7 : List Nat := [0, 0, 0, 6, 14, 0, 0, 0, 0, 0, 992, 2046, 4094, 8190, 16383, 32767]
theorem spec_UnfilterRow.tab7 : rtab .any (opsOf Try.f136 7) = spec_UnfilterRow.T7 := by kernel_rfl
theorem spec_UnfilterRow.bits7 : waitsOk spec_UnfilterRow.T7.2 spec_UnfilterRow.B7 = true := by kernel_rfl
set_option maxHeartbeats 8000000 in
set_option maxRecDepth 100000 in
theorem spec_UnfilterRow.calls (k : Nat) (a0 : Int) (a1 : ByteArray) (a2 : ByteArray) (a3 : Int) (r1 : ByteArray) (r2 : Bool) (w : World) (h : spec_UnfilterRow.f k a0 a1 a2 a3 = some (r1, r2)) :
 Calls Try.prog 136 #[.int .i64 a0, .string a1, .string a2, .int .i64 a3] w fun e w' => e = .returned (.tuple #[.string r1, .bool r2]) ∧ Below w.heap.size w w' := by
 have HB := aM (Below.refl w.heap.size w); have H : ((spec_l13Ok.f a0 a1 a2 a3).bind fun t442 => (if t442 = true then (spec_UnfilterRow.l0 k a0 a1 a2 a3 (([] : List Int)) 0) else (some ((⟨#[]⟩ : ByteArray), false)))) = some (r1, r2) := h; clear h; revert H; refine bdR fun t442 A5 => ?_
 refine ifB (fun c6 => ?_) (fun c6 => ?_)
 · intro H; subst c6; obtain ⟨y443, hy443⟩ : ∃ y_ : List Int, y_ = (([] : List Int)) := ⟨_, rfl⟩; replace H : (spec_UnfilterRow.l0 k a0 a1 a2 a3 y443 0) = some (r1, r2) := by first | (rw [hy443]; with_reducible exact H) | (have H2_ := (Option.bind_some _ _).symm.trans H; rw [hy443]; with_reducible exact H2_) | (have H2_ := (Option.bind_some _ _).symm.trans H; with_reducible exact H2_) | with_reducible exact H | (rw [hy443]; exact H) | exact H
   have Ny443 := aM hy443; clear hy443; revert H; refine adR fun H' => ?_; go_enter Try.func136, Try.ntmps136
   go_wp2_with (first | ((with_reducible refine gC 174 ?_); refine gL (some 16) Try.func174 #[.int .i64 a0, .string a1, .string a2, .int .i64 a3] ?_; (with_reducible refine (spec_l13Ok.calls a0 a1 a2 a3 true _ A5.out).mono ?_); rintro e w' ⟨rfl, ⟨nd, rfl⟩⟩; refine ⟨_, rfl, ?_⟩) | ((with_reducible refine gD 18 ?_); refine Kd.R_lit (Kd.int .u8) _ 5 ?hg (N := 18) ?hd (xs := ([] : List Int)) (inner := []) (ok := fun _ => True) (okp := fun _ => True) ?hr ?hp (fun _ hk => hk) trivial (Below.refl _ _) (Nat.le_refl _) (by simp) ?_; (case hd => rfl); (case hg => rfl); (case hr => first | (go_simp; done) | (go_simp; rfl)); (case hp => exact (Reps.none _ _)); intro v444 w7 ho8 hb hg_ hnew_; clear hg_ hnew_; (first | rw [← Ny443.out] at ho8 | (simp only [Int.reduceToNat] at ho8; rw [← Ny443.out] at ho8)); have HO445 := aM (Kd.R_lower ho8 (below_size hB)); replace HB := aM (below_step hB hb); clear hb ho8))
   go_loopg [10, 11] k (fun kq v10 v11 w' => ∃ (x10_1 : List Int) (x11_1 : Int), v11 = .int .i64 x11_1 ∧ Aside0 (spec_UnfilterRow.l0 kq a0 a1 a2 a3 x10_1 x11_1 = some (r1, r2)) ∧ Aside0 (kq ≤ k) ∧ Aside0 (Kd.R (Kd.int .u8) 5 w' w.heap.size (fun _ => True) v10 x10_1) ∧ Aside0 (Below w.heap.size w w'))
   case atStart => exact ⟨(y443), (0), eQ, H', ⟨Nat.le_refl _⟩, ⟨Kd.R_i HO445.out⟩, ⟨hB⟩⟩
   case round =>
    clear H'; (try clear c1); (try clear p2); (try clear c6); obtain ⟨x10_1, x11_1, rfl, HA, HK1, HO_10, HB⟩ := hrel; rcases gk with _ | k1
    · exact absurd HA.out (by simp [spec_UnfilterRow.l0])
    revert HA; refine aoR ?_; intro H; simp only [spec_UnfilterRow.l0] at H; revert H
    refine ifB (fun c9 => ?_) (fun c9 => ?_)
    · intro H; have c9b0 := decide_eq_true c9; clear c9; revert H; refine ifR fun c10 => ?_; intro H; have c10b0 := decide_eq_true c10; clear c10; revert H; refine bdR fun t446 A12 => ?_; refine ifR fun c13 => ?_; intro H; have LMc13 := aM c13; clear c13; obtain ⟨y447, hy447⟩ : ∃ y_ : List Int, y_ = (x10_1 ++ [(wrap64 ((wrap64 (bt a1 x11_1)) + t446)) % 256]) := ⟨_, rfl⟩; replace H : (spec_UnfilterRow.l0 k1 a0 a1 a2 a3 y447 (wrap64 (x11_1 + 1))) = some (r1, r2) := by first | (rw [hy447]; with_reducible exact H) | (have H2_ := (Option.bind_some _ _).symm.trans H; rw [hy447]; with_reducible exact H2_) | (have H2_ := (Option.bind_some _ _).symm.trans H; with_reducible exact H2_) | with_reducible exact H | (rw [hy447]; exact H) | exact H
      have Ny447 := aM hy447; clear hy447; revert H; refine adR fun H' => ?_
      try go_wp2
      replace HO_10 := aM (Kd.R_drew HO_10.out); replace HB := aM (below_drew1 HB.out); have p11 : 0 ≤ (x11_1 : Int) := bD; have q11 : x11_1 < (a1.size : Int) := bD; have hx11 := bt_at a1 x11_1; replace p11 := eq_true p11; replace q11 := eq_true q11; obtain ⟨Ao15, co15, eo15⟩ := Kd.R_slice HO_10.out
      (first | subst eo15 | (injection eo15 with f1_ f2_ f3_; have f4_ := f1_.symm; have f5_ := f3_.symm; clear f1_ f2_ f3_; subst f4_; subst f5_))
      refine start_ (n := 16) (S := fun w' => True) (ds := []) #[false, false, false, false, false, false, false, false, false, false, false, false, false, false, false, false] (by kernel_rfl) rfl rfl trivial (fun hHeld => ?_); refine with_tabW spec_UnfilterRow.tab7 spec_UnfilterRow.bits7 (fun HT_ HW_ => ?_)
      generalize wr.drew = w14 at HO_10 HB hHeld ⊢; refine pU 0 25 (bAr 16 1) ?_; refine pU 1 26 (bAr 16 3) ?_; refine pU 2 27 (bAr 16 7) ?_; refine pU 5 30 (bAr 16 39) ?_; refine pU 6 31 (bAr 16 103) ?_; refine pU 7 32 (bAr 16 231) ?_; refine pU 8 33 (bAr 16 487) ?_; refine pU 9 34 (bAr 16 999) ?_
      refine take_ (i := 3) (N := some 28) (v := ?_) (a' := ?_) #[true, true, true, true, false, true, true, true, true, true, false, false, false, false, false, false] rfl rfl (take_ofW HT_.out HW_.out (by kernel_rfl)) (fun _ _ _ h => h) (Or.inl ⟨by rfl, ?_⟩) hHeld ?_ ?_; rotate_left
      · intro w' _
        go_simp; with_reducible rfl
      rotate_left
      · simp only [Act.put, List.setIfInBounds_toArray, List.set_cons_zero, List.set_cons_succ, i64_w, i32_w]
        rfl
      refine pU 4 29 (bAr 16 1023) ?_
      refine one_ (i := 10) (N := some 35) #[true, true, true, true, true, true, true, true, true, true, true, false, false, false, false, false] rfl rfl (one_of HT_.out (by kernel_rfl)) (by decide) (fun K hK => ?_)
      refine goes_ Try.func175 (by kernel_rfl) rfl #[.int .i64 a0, .slice Ao15 x10_1.length co15, .string a2, .int .i64 a3, .int .i64 x11_1] (by rfl) rfl rfl (by (try simp only [List.map_toArray, List.map_cons, List.map_nil]); first | done | rfl | (simp only [List.length_drop, List.length_take]; rfl)) ?_
      with_reducible refine (spec_l13Says.calls k1 a0 _ _ x10_1 a2 a3 x11_1 t446 _ ?side1 ?side2 A12.out).mono ?_
      (case side1 => repeat (first | exact (Kd.R_reads' HO_10.out).2.2 | (with_reducible refine Kd.C_alloc ?_ _) | (with_reducible refine Kd.C_drewN ?_ _) | (with_reducible refine Kd.C_drew ?_)))
      (case side2 => exact (Kd.R_reads' HO_10.out).2.1)
      rintro e w' ⟨rfl, ⟨nd, rfl⟩⟩
      refine ⟨_, rfl, ?_⟩
      refine hK.out _ _ trivial (fun hHeld => ?_); clear hK K
      refine norm_ (a' := ?_) ?_ ?_; rotate_left
      · show Act.put _ (some 35) _ = _
        simp only [Act.put, List.setIfInBounds_toArray, List.set_cons_zero, List.set_cons_succ, i64_w, i32_w]
        rfl
      refine pU 11 36 (bAr 16 4095) ?_; refine pU 12 37 (bAr 16 8191) ?_
      refine one_ (i := 13) (N := some 38) #[true, true, true, true, true, true, true, true, true, true, true, true, true, true, false, false] rfl rfl (one_of HT_.out (by kernel_rfl)) (by decide) (fun K hK => ?_)
      refine value_ (w1 := ?_) (v := ?_) (by rfl) rfl ?_ ?_; rotate_left 2
      · go_simp
        constructor
        · rfl
        · rfl
      refine hK.out _ _ trivial (fun hHeld => ?_); clear hK K
      refine norm_ (a' := ?_) ?_ ?_; rotate_left
      · show Act.put _ (some 38) _ = _
        simp only [Act.put, List.setIfInBounds_toArray, List.set_cons_zero, List.set_cons_succ, i64_w, i32_w]
        rfl
      refine one_ (i := 14) (N := some 39) #[true, true, true, true, true, true, true, true, true, true, true, true, true, true, true, false] rfl rfl (one_of HT_.out (by kernel_rfl)) (by decide) (fun K hK => ?_)
      refine Kd.R_append_step (Kd.int .u8) (w0 := w) w.heap.size (by rfl) (.tmp 25) (.tmp 38) 36 5 (.int .u8 0) 1 rfl Try.underlying36 info5 rfl (by decide) (by omega) (.slice Ao15 x10_1.length co15) x10_1 ((wrap64 ((wrap64 (bt a1 x11_1)) + t446)) % 256) [.int .u8 ((wrap64 ((wrap64 (bt a1 x11_1)) + t446)) % 256)] (fun _ => True) (fun _ => False) rfl rfl ?aP (fun _ hk => hk.elim) ?aF ?aO ?aB ?aS ?aL ?_
      (case aP => exact rfl)
      (case aB => exact hB)
      (case aF => exact (fun _ _ => trivial))
      (case aO => exact (Kd.R_i HO_10.out))
      (case aS => exact (below_size hB))
      (case aL => have := LMc13.out; omega); intro v448 w16 ho hb hg hat
      rw [← Ny447.out] at ho; replace HB := aM (hb); have HO449 := aM (ho); clear HO_10; clear ho hb hg hat
      refine hK.out _ _ trivial (fun hHeld => ?_); clear hK K
      refine norm_ (a' := ?_) ?_ ?_; rotate_left
      · show Act.put _ (some 39) _ = _
        simp only [Act.put, List.setIfInBounds_toArray, List.set_cons_zero, List.set_cons_succ, i64_w, i32_w]
        rfl
      refine pU 15 10 (bAr 16 65535) ?_
      refine done_ (done_of HT_.out (by kernel_rfl)) ?_
      try go_wp2
      go_roundg k1
      case measure => have := HK1.out; omega
      case rel => exact ⟨(y447), (wrap64 (x11_1 + 1)), eQ, H', ⟨by have := HK1.out; omega⟩, ⟨Kd.R_i HO449.out⟩, ⟨hB⟩⟩
    · intro H; have c9b0 := decide_eq_false c9; clear c9; simp only [Option.some.injEq, Prod.mk.injEq] at H; obtain ⟨rfl, rfl⟩ := H; have hcv17 := own_string (P := Try.prog) Try.underlying36 Try.underlying5 Try.underlying9 (Kd.own_of_R HO_10.out); go_wp2
      go_ret2; exact ⟨eE, hB⟩
 · intro H; replace c6 := Bool.eq_false_iff.mpr c6; subst c6; simp only [Option.some.injEq, Prod.mk.injEq] at H; obtain ⟨rfl, rfl⟩ := H; go_enter Try.func136, Try.ntmps136
   go_wp2_with (first | ((with_reducible refine gC 174 ?_); refine gL (some 16) Try.func174 #[.int .i64 a0, .string a1, .string a2, .int .i64 a3] ?_; (with_reducible refine (spec_l13Ok.calls a0 a1 a2 a3 false _ A5.out).mono ?_); rintro e w' ⟨rfl, ⟨nd, rfl⟩⟩; refine ⟨_, rfl, ?_⟩))
   go_ret2; exact ⟨eE, hB⟩

/-! ### spec_l15Unit: function 137 -/
def spec_l15Unit.f (k : Nat) (a0 : Int) (a1 : Int) : Option (Int) := (spec_ChannelsOf.f k a0).bind fun t450 => (if (wrap64 (Int.tdiv (wrap64 (t450 * a1)) 8)) < 1 then (some 1) else (some (wrap64 (Int.tdiv (wrap64 (t450 * a1)) 8))))
set_option maxHeartbeats 8000000 in
set_option maxRecDepth 100000 in
theorem spec_l15Unit.calls (k : Nat) (a0 : Int) (a1 : Int) (r : Int) (w : World) (h : spec_l15Unit.f k a0 a1 = some r) :
 Calls Try.prog 137 #[.int .i64 a0, .int .i64 a1] w fun e w' => e = .returned (.int .i64 r) ∧ Drawn0 w w' := by
 have H : ((spec_ChannelsOf.f k a0).bind fun t450 => (if (wrap64 (Int.tdiv (wrap64 (t450 * a1)) 8)) < 1 then (some 1) else (some (wrap64 (Int.tdiv (wrap64 (t450 * a1)) 8))))) = some r := h; clear h; revert H; refine bdR fun t450 A3 => ?_
 refine ifB (fun c4 => ?_) (fun c4 => ?_)
 · intro H; have c4b0 := decide_eq_true c4; clear c4; obtain rfl := Option.some.inj H; go_enter Try.func137, Try.ntmps137
   go_wp2_with (first | ((with_reducible refine gC 88 ?_); refine gL (some 7) Try.func88 #[.int .i64 a0] ?_; (with_reducible refine (spec_ChannelsOf.calls k a0 t450 _ A3.out).mono ?_); rintro e w' ⟨rfl, ⟨nd, rfl⟩⟩; refine ⟨_, rfl, ?_⟩)); go_ret; exact ⟨eQ, dQ⟩
 · intro H; have c4b0 := decide_eq_false c4; clear c4; obtain rfl := Option.some.inj H; go_enter Try.func137, Try.ntmps137
   go_wp2_with (first | ((with_reducible refine gC 88 ?_); refine gL (some 7) Try.func88 #[.int .i64 a0] ?_; (with_reducible refine (spec_ChannelsOf.calls k a0 t450 _ A3.out).mono ?_); rintro e w' ⟨rfl, ⟨nd, rfl⟩⟩; refine ⟨_, rfl, ?_⟩)); go_ret; exact ⟨eQ, dQ⟩

/-! ### spec_l12Depth: function 176 -/
def spec_l12Depth.f (k : Nat) (a0 : Int) : Option (Bool) := (spec_DepthOk.f k 0 a0).bind fun t451 => (some t451)
set_option maxHeartbeats 8000000 in
set_option maxRecDepth 100000 in
theorem spec_l12Depth.calls (k : Nat) (a0 : Int) (r : Bool) (w : World) (h : spec_l12Depth.f k a0 = some r) :
 Calls Try.prog 176 #[.int .i64 a0] w fun e w' => e = .returned (.bool r) ∧ Drawn0 w w' := by
 have H : ((spec_DepthOk.f k 0 a0).bind fun t451 => (some t451)) = some r := h; clear h; revert H; refine bdR fun t451 A2 => ?_; intro H; obtain rfl := Option.some.inj H; go_enter Try.func176, Try.ntmps176
 go_wp2_with (first | ((with_reducible refine gC 78 ?_); refine gL (some 4) Try.func78 #[.int .i64 0, .int .i64 a0] ?_; (with_reducible refine (spec_DepthOk.calls k 0 a0 t451 _ A2.out).mono ?_); rintro e w' ⟨rfl, ⟨nd, rfl⟩⟩; refine ⟨_, rfl, ?_⟩)); go_ret; exact ⟨eQ, dQ⟩

end Go.Proofs.Ytajnobmnkbkkgaa.PFnExactScanRead
