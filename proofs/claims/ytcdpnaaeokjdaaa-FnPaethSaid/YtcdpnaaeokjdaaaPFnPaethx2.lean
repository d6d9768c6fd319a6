-- PRINTED BY print.sh 35421559b90ae4d0a3588c463048766b98c2df88dd9212a6774a882060cdf62d: not written by this session
import Derived.Test.YtcdpnaaeokjdaaaPFnPaethx0
import Derived.Test.YtcdpnaaeokjdaaaPFnPaethx1
namespace Go.Proofs.Ytcdpnaaeokjdaaa.PFnPaeth
open Go.RowKit Go.Proofs.YtcdpnaaeokjdaaaW.PrintWords Go.Proofs.YtcdpnaaeokjdaaaW.PrintLast Go.Proofs.YtcdpnaaeokjdaaaW.PrintMore
attribute [local go_sem] max2_int min2_int max_two min_two max_three min_three max_four min_four   -- for this text's walks alone
set_option linter.unusedVariables false
set_option linter.unusedSimpArgs false

/-! ### spec_Paeth: function 28 -/
mutual
def spec_Paeth.j0 : Nat → Int → Int → Int → Bool → Option (Int)
  | 0, _, _, _, _ => none
  | k + 1, x0, x1, x2, x20 => if x20 = true then (some 0) else ((spec_l13Size.f (wrap64 ((wrap64 ((wrap64 (x0 + x1)) - x2)) - x0))).bind fun t160 => ((spec_l13Size.f (wrap64 ((wrap64 ((wrap64 (x0 + x1)) - x2)) - x1))).bind fun t161 => (if t160 ≤ t161 then ((spec_l13Size.f (wrap64 ((wrap64 ((wrap64 (x0 + x1)) - x2)) - x0))).bind fun t162 => ((spec_l13Size.f (wrap64 ((wrap64 ((wrap64 (x0 + x1)) - x2)) - x2))).bind fun t163 => (spec_Paeth.j1 k x0 x1 x2 (wrap64 ((wrap64 (x0 + x1)) - x2)) (decide (t162 ≤ t163))))) else (spec_Paeth.j1 k x0 x1 x2 (wrap64 ((wrap64 (x0 + x1)) - x2)) false))))
def spec_Paeth.j1 : Nat → Int → Int → Int → Int → Bool → Option (Int)
  | 0, _, _, _, _, _ => none
  | k + 1, x0, x1, x2, x7, x45 => if x45 = true then (some x0) else ((spec_l13Size.f (wrap64 (x7 - x1))).bind fun t164 => ((spec_l13Size.f (wrap64 (x7 - x2))).bind fun t165 => (if t164 ≤ t165 then (some x1) else (some x2))))
end
def spec_Paeth.f (k : Nat) (a0 : Int) (a1 : Int) (a2 : Int) : Option (Int) := (spec_l01In.f a0 (-1000) 1000).bind fun t157 => (if t157 = true then ((spec_l01In.f a1 (-1000) 1000).bind fun t158 => (if t158 = true then ((spec_l01In.f a2 (-1000) 1000).bind fun t159 => (spec_Paeth.j0 k a0 a1 a2 (!t159))) else (spec_Paeth.j0 k a0 a1 a2 true))) else (spec_Paeth.j0 k a0 a1 a2 true))
theorem spec_Paeth.mono_l : ∀ k, (∀ y0 y1 y2 y3, LeO (spec_Paeth.j0 k y0 y1 y2 y3) (spec_Paeth.j0 (k + 1) y0 y1 y2 y3)) ∧ (∀ y0 y1 y2 y3 y4, LeO (spec_Paeth.j1 k y0 y1 y2 y3 y4) (spec_Paeth.j1 (k + 1) y0 y1 y2 y3 y4))
  | 0 => ⟨fun _ _ _ _ r h => by simp [spec_Paeth.j0] at h, fun _ _ _ _ _ r h => by simp [spec_Paeth.j1] at h⟩
  | k + 1 => by
    obtain ⟨ih0, ih1⟩ := spec_Paeth.mono_l k
    refine ⟨?_, ?_⟩
    · intro y0 y1 y2 y3
      unfold spec_Paeth.j0
      repeat' first
      | (with_reducible exact ih0 _ _ _ _)
      | (with_reducible exact ih1 _ _ _ _ _)
      | (with_reducible exact LeO.refl _)
      | (with_reducible exact LeO.none _)
      | (with_reducible refine LeO.ite ?_ ?_)
      | (with_reducible refine LeO.bind ?_ (fun _ => ?_))
      | exact ih0 _ _ _ _
      | exact ih1 _ _ _ _ _
      | exact LeO.none _
      | refine LeO.ite ?_ ?_
      | refine LeO.bind ?_ (fun _ => ?_)
    · intro y0 y1 y2 y3 y4
      unfold spec_Paeth.j1
      repeat' first
      | (with_reducible exact ih0 _ _ _ _)
      | (with_reducible exact ih1 _ _ _ _ _)
      | (with_reducible exact LeO.refl _)
      | (with_reducible exact LeO.none _)
      | (with_reducible refine LeO.ite ?_ ?_)
      | (with_reducible refine LeO.bind ?_ (fun _ => ?_))
      | exact ih0 _ _ _ _
      | exact ih1 _ _ _ _ _
      | exact LeO.none _
      | refine LeO.ite ?_ ?_
      | refine LeO.bind ?_ (fun _ => ?_)
theorem spec_Paeth.mono : ∀ a0 a1 a2 k, LeO (spec_Paeth.f k a0 a1 a2) (spec_Paeth.f (k + 1) a0 a1 a2) := by
  intro a0 a1 a2 k
  obtain ⟨ih0, ih1⟩ := spec_Paeth.mono_l k
  unfold spec_Paeth.f
  repeat' first
      | (with_reducible exact ih0 _ _ _ _)
      | (with_reducible exact ih1 _ _ _ _ _)
      | (with_reducible exact LeO.refl _)
      | (with_reducible exact LeO.none _)
      | (with_reducible refine LeO.ite ?_ ?_)
      | (with_reducible refine LeO.bind ?_ (fun _ => ?_))
      | exact ih0 _ _ _ _
      | exact ih1 _ _ _ _ _
      | exact LeO.none _
      | refine LeO.ite ?_ ?_
      | refine LeO.bind ?_ (fun _ => ?_)
set_option maxHeartbeats 8000000 in
set_option maxRecDepth 100000 in
theorem spec_Paeth.calls (k : Nat) (a0 : Int) (a1 : Int) (a2 : Int) (r : Int) (w : World) (h : spec_Paeth.f k a0 a1 a2 = some r) :
    Calls Try.prog 28 #[.int .i64 a0, .int .i64 a1, .int .i64 a2] w fun e w' => e = .returned (.int .i64 r) ∧ Drawn0 w w' := by
  have H : ((spec_l01In.f a0 (-1000) 1000).bind fun t157 => (if t157 = true then ((spec_l01In.f a1 (-1000) 1000).bind fun t158 => (if t158 = true then ((spec_l01In.f a2 (-1000) 1000).bind fun t159 => (spec_Paeth.j0 k a0 a1 a2 (!t159))) else (spec_Paeth.j0 k a0 a1 a2 true))) else (spec_Paeth.j0 k a0 a1 a2 true))) = some r := h
  clear h
  have HC4 := Aside0.mk H
  clear H
  go_enter Try.func28, Try.ntmps28
  go_upto_region 1 with (fail)
  go_cut [20] (fun v20 wc => ∃ (kq : Nat) (x20_3 : Bool), v20 = .bool x20_3 ∧ Aside0 (spec_Paeth.j0 kq a0 a1 a2 x20_3 = some r) ∧ Aside0 (kq ≤ k) ∧ Drawn0 w wc)
  case first =>
    have H := HC4.out
    clear HC4
    replace H := Option.bind_eq_some_iff.mp H
    obtain ⟨t157, A50, H⟩ := H
    replace H : (if t157 = true then ((spec_l01In.f a1 (-1000) 1000).bind fun t158 => (if t158 = true then ((spec_l01In.f a2 (-1000) 1000).bind fun t159 => (spec_Paeth.j0 k a0 a1 a2 (!t159))) else (spec_Paeth.j0 k a0 a1 a2 true))) else (spec_Paeth.j0 k a0 a1 a2 true)) = some r := H
    have A5 := Aside0.mk A50
    clear A50
    by_cases c6 : t157 = true
    · subst c6
      have H1 : ((spec_l01In.f a1 (-1000) 1000).bind fun t158 => (if t158 = true then ((spec_l01In.f a2 (-1000) 1000).bind fun t159 => (spec_Paeth.j0 k a0 a1 a2 (!t159))) else (spec_Paeth.j0 k a0 a1 a2 true))) = some r := by rw [if_pos rfl] at H; exact H
      clear H
      have H := H1
      clear H1
      replace H := Option.bind_eq_some_iff.mp H
      obtain ⟨t158, A70, H⟩ := H
      replace H : (if t158 = true then ((spec_l01In.f a2 (-1000) 1000).bind fun t159 => (spec_Paeth.j0 k a0 a1 a2 (!t159))) else (spec_Paeth.j0 k a0 a1 a2 true)) = some r := H
      have A7 := Aside0.mk A70
      clear A70
      by_cases c8 : t158 = true
      · subst c8
        have H1 : ((spec_l01In.f a2 (-1000) 1000).bind fun t159 => (spec_Paeth.j0 k a0 a1 a2 (!t159))) = some r := by rw [if_pos rfl] at H; exact H
        clear H
        have H := H1
        clear H1
        replace H := Option.bind_eq_some_iff.mp H
        obtain ⟨t159, A90, H⟩ := H
        replace H : (spec_Paeth.j0 k a0 a1 a2 (!t159)) = some r := H
        have A9 := Aside0.mk A90
        clear A90
        have H' := Aside0.mk H
        clear H
        go_wp2_with (first | ((with_reducible refine gate_callee (f := 62) rfl ?_); refine goesL_ (some 9) rfl rfl Try.func62 (by kernel_rfl) rfl #[.int .i64 a0, .int .i64 (-1000), .int .i64 1000] rfl (by (try simp only [List.map_toArray, List.map_cons, List.map_nil]); first | done | rfl | (simp only [List.length_drop, List.length_take]; rfl)) ?_; (with_reducible refine (spec_l01In.calls a0 (-1000) 1000 true _ A5.out).mono ?_); rintro e w' ⟨rfl, ⟨nd, rfl⟩⟩; refine ⟨_, rfl, ?_⟩) | (go_at_call 62; (with_reducible refine (spec_l01In.calls a1 (-1000) 1000 true _ A7.out).mono ?_); rintro e w' ⟨rfl, ⟨nd, rfl⟩⟩) | (go_at_call 62; (with_reducible refine (spec_l01In.calls a2 (-1000) 1000 t159 _ A9.out).mono ?_); rintro e w' ⟨rfl, ⟨nd, rfl⟩⟩))
        go_meet
        case rel => exact ⟨_, (!t159), (by first | rfl | (simp; done) | (simp [*]; done)), H', ⟨by first | omega | exact Nat.le_refl _⟩, by repeat (first | exact Drawn0.refl _ | apply Drawn0.step)⟩
      · replace c8 := Bool.eq_false_iff.mpr c8
        subst c8
        have H1 : (spec_Paeth.j0 k a0 a1 a2 true) = some r := by rw [if_neg (show ¬ (false = true) by decide)] at H; exact H
        clear H
        have H := H1
        clear H1
        have H' := Aside0.mk H
        clear H
        go_wp2_with (first | ((with_reducible refine gate_callee (f := 62) rfl ?_); refine goesL_ (some 9) rfl rfl Try.func62 (by kernel_rfl) rfl #[.int .i64 a0, .int .i64 (-1000), .int .i64 1000] rfl (by (try simp only [List.map_toArray, List.map_cons, List.map_nil]); first | done | rfl | (simp only [List.length_drop, List.length_take]; rfl)) ?_; (with_reducible refine (spec_l01In.calls a0 (-1000) 1000 true _ A5.out).mono ?_); rintro e w' ⟨rfl, ⟨nd, rfl⟩⟩; refine ⟨_, rfl, ?_⟩) | (go_at_call 62; (with_reducible refine (spec_l01In.calls a1 (-1000) 1000 false _ A7.out).mono ?_); rintro e w' ⟨rfl, ⟨nd, rfl⟩⟩))
        go_meet
        case rel => exact ⟨_, (true), (by first | rfl | (simp; done) | (simp [*]; done)), H', ⟨by first | omega | exact Nat.le_refl _⟩, by repeat (first | exact Drawn0.refl _ | apply Drawn0.step)⟩
    · replace c6 := Bool.eq_false_iff.mpr c6
      subst c6
      have H1 : (spec_Paeth.j0 k a0 a1 a2 true) = some r := by rw [if_neg (show ¬ (false = true) by decide)] at H; exact H
      clear H
      have H := H1
      clear H1
      have H' := Aside0.mk H
      clear H
      go_wp2_with (first | ((with_reducible refine gate_callee (f := 62) rfl ?_); refine goesL_ (some 9) rfl rfl Try.func62 (by kernel_rfl) rfl #[.int .i64 a0, .int .i64 (-1000), .int .i64 1000] rfl (by (try simp only [List.map_toArray, List.map_cons, List.map_nil]); first | done | rfl | (simp only [List.length_drop, List.length_take]; rfl)) ?_; (with_reducible refine (spec_l01In.calls a0 (-1000) 1000 false _ A5.out).mono ?_); rintro e w' ⟨rfl, ⟨nd, rfl⟩⟩; refine ⟨_, rfl, ?_⟩))
      go_meet
      case rel => exact ⟨_, (true), (by first | rfl | (simp; done) | (simp [*]; done)), H', ⟨by first | omega | exact Nat.le_refl _⟩, by repeat (first | exact Drawn0.refl _ | apply Drawn0.step)⟩
  case rest =>
    clear HC4
    try clear c2
    try clear p2
    try clear c6
    try clear c8
    obtain ⟨kq, x20_3, rfl, HA, HJ3, ⟨mc3, rfl⟩⟩ := hcut
    cases kq with
    | zero => exact absurd HA.out (by simp [spec_Paeth.j0])
    | succ kj3 =>
      have H := HA.out
      clear HA
      simp only [spec_Paeth.j0] at H
      by_cases c10 : x20_3 = true
      · subst c10
        have H1 : (some 0) = some r := by rw [if_pos rfl] at H; exact H
        clear H
        have H := H1
        clear H1
        obtain rfl := Option.some.inj H
        go_wp2
        go_ret
        exact ⟨by first | rfl | (simp; done) | (simp [*]; done), by repeat (first | exact Drawn0.refl _ | apply Drawn0.step)⟩
      · replace c10 := Bool.eq_false_iff.mpr c10
        subst c10
        have H1 : ((spec_l13Size.f (wrap64 ((wrap64 ((wrap64 (a0 + a1)) - a2)) - a0))).bind fun t160 => ((spec_l13Size.f (wrap64 ((wrap64 ((wrap64 (a0 + a1)) - a2)) - a1))).bind fun t161 => (if t160 ≤ t161 then ((spec_l13Size.f (wrap64 ((wrap64 ((wrap64 (a0 + a1)) - a2)) - a0))).bind fun t162 => ((spec_l13Size.f (wrap64 ((wrap64 ((wrap64 (a0 + a1)) - a2)) - a2))).bind fun t163 => (spec_Paeth.j1 kj3 a0 a1 a2 (wrap64 ((wrap64 (a0 + a1)) - a2)) (decide (t162 ≤ t163))))) else (spec_Paeth.j1 kj3 a0 a1 a2 (wrap64 ((wrap64 (a0 + a1)) - a2)) false)))) = some r := by rw [if_neg (show ¬ (false = true) by decide)] at H; exact H
        clear H
        have H := H1
        clear H1
        have HC11 := Aside0.mk H
        clear H
        go_upto_region 4 with (fail)
        go_cut [45] (fun v45 wc => ∃ (kq : Nat) (x45_10 : Bool), v45 = .bool x45_10 ∧ Aside0 (spec_Paeth.j1 kq a0 a1 a2 (wrap64 ((wrap64 (a0 + a1)) - a2)) x45_10 = some r) ∧ Aside0 (kq ≤ kj3) ∧ Drawn0 w wc)
        case first =>
          have H := HC11.out
          clear HC11
          replace H := Option.bind_eq_some_iff.mp H
          obtain ⟨t160, A120, H⟩ := H
          replace H : ((spec_l13Size.f (wrap64 ((wrap64 ((wrap64 (a0 + a1)) - a2)) - a1))).bind fun t161 => (if t160 ≤ t161 then ((spec_l13Size.f (wrap64 ((wrap64 ((wrap64 (a0 + a1)) - a2)) - a0))).bind fun t162 => ((spec_l13Size.f (wrap64 ((wrap64 ((wrap64 (a0 + a1)) - a2)) - a2))).bind fun t163 => (spec_Paeth.j1 kj3 a0 a1 a2 (wrap64 ((wrap64 (a0 + a1)) - a2)) (decide (t162 ≤ t163))))) else (spec_Paeth.j1 kj3 a0 a1 a2 (wrap64 ((wrap64 (a0 + a1)) - a2)) false))) = some r := H
          have A12 := Aside0.mk A120
          clear A120
          replace H := Option.bind_eq_some_iff.mp H
          obtain ⟨t161, A130, H⟩ := H
          replace H : (if t160 ≤ t161 then ((spec_l13Size.f (wrap64 ((wrap64 ((wrap64 (a0 + a1)) - a2)) - a0))).bind fun t162 => ((spec_l13Size.f (wrap64 ((wrap64 ((wrap64 (a0 + a1)) - a2)) - a2))).bind fun t163 => (spec_Paeth.j1 kj3 a0 a1 a2 (wrap64 ((wrap64 (a0 + a1)) - a2)) (decide (t162 ≤ t163))))) else (spec_Paeth.j1 kj3 a0 a1 a2 (wrap64 ((wrap64 (a0 + a1)) - a2)) false)) = some r := H
          have A13 := Aside0.mk A130
          clear A130
          by_cases c14 : t160 ≤ t161
          · rw [if_pos c14] at H
            have c14b0 : decide (t160 ≤ t161) = true := decide_eq_true c14
            clear c14
            (first | rw [c14b0] | (simp only [i64_w, i32_w]; rw [c14b0]) | skip)
            replace H := Option.bind_eq_some_iff.mp H
            obtain ⟨t162, A150, H⟩ := H
            replace H : ((spec_l13Size.f (wrap64 ((wrap64 ((wrap64 (a0 + a1)) - a2)) - a2))).bind fun t163 => (spec_Paeth.j1 kj3 a0 a1 a2 (wrap64 ((wrap64 (a0 + a1)) - a2)) (decide (t162 ≤ t163)))) = some r := H
            have A15 := Aside0.mk A150
            clear A150
            replace H := Option.bind_eq_some_iff.mp H
            obtain ⟨t163, A160, H⟩ := H
            replace H : (spec_Paeth.j1 kj3 a0 a1 a2 (wrap64 ((wrap64 (a0 + a1)) - a2)) (decide (t162 ≤ t163))) = some r := H
            have A16 := Aside0.mk A160
            clear A160
            have H' := Aside0.mk H
            clear H
            go_wp2_with (first | ((with_reducible refine gate_callee (f := 76) rfl ?_); refine goesL_ (some 29) rfl rfl Try.func76 (by kernel_rfl) rfl #[.int .i64 (wrap64 ((wrap64 ((wrap64 (a0 + a1)) - a2)) - a0))] rfl (by (try simp only [List.map_toArray, List.map_cons, List.map_nil]); first | done | rfl | (simp only [List.length_drop, List.length_take]; rfl)) ?_; (with_reducible refine (spec_l13Size.calls (wrap64 ((wrap64 ((wrap64 (a0 + a1)) - a2)) - a0)) t160 _ A12.out).mono ?_); rintro e w' ⟨rfl, ⟨nd, rfl⟩⟩; refine ⟨_, rfl, ?_⟩) | ((with_reducible refine gate_callee (f := 76) rfl ?_); refine goesL_ (some 33) rfl rfl Try.func76 (by kernel_rfl) rfl #[.int .i64 (wrap64 ((wrap64 ((wrap64 (a0 + a1)) - a2)) - a1))] rfl (by (try simp only [List.map_toArray, List.map_cons, List.map_nil]); first | done | rfl | (simp only [List.length_drop, List.length_take]; rfl)) ?_; (with_reducible refine (spec_l13Size.calls (wrap64 ((wrap64 ((wrap64 (a0 + a1)) - a2)) - a1)) t161 _ A13.out).mono ?_); rintro e w' ⟨rfl, ⟨nd, rfl⟩⟩; refine ⟨_, rfl, ?_⟩) | (go_at_call 76; (with_reducible refine (spec_l13Size.calls (wrap64 ((wrap64 ((wrap64 (a0 + a1)) - a2)) - a0)) t162 _ A15.out).mono ?_); rintro e w' ⟨rfl, ⟨nd, rfl⟩⟩) | (go_at_call 76; (with_reducible refine (spec_l13Size.calls (wrap64 ((wrap64 ((wrap64 (a0 + a1)) - a2)) - a2)) t163 _ A16.out).mono ?_); rintro e w' ⟨rfl, ⟨nd, rfl⟩⟩))
            go_meet
            case rel => exact ⟨_, (decide (t162 ≤ t163)), (by first | rfl | (simp; done) | (simp [*]; done)), H', ⟨by have := HJ3.out; first | omega | exact Nat.le_refl _⟩, by repeat (first | exact Drawn0.refl _ | apply Drawn0.step)⟩
          · rw [if_neg c14] at H
            have c14b0 : decide (t160 ≤ t161) = false := decide_eq_false c14
            clear c14
            (first | rw [c14b0] | (simp only [i64_w, i32_w]; rw [c14b0]) | skip)
            have H' := Aside0.mk H
            clear H
            go_wp2_with (first | ((with_reducible refine gate_callee (f := 76) rfl ?_); refine goesL_ (some 29) rfl rfl Try.func76 (by kernel_rfl) rfl #[.int .i64 (wrap64 ((wrap64 ((wrap64 (a0 + a1)) - a2)) - a0))] rfl (by (try simp only [List.map_toArray, List.map_cons, List.map_nil]); first | done | rfl | (simp only [List.length_drop, List.length_take]; rfl)) ?_; (with_reducible refine (spec_l13Size.calls (wrap64 ((wrap64 ((wrap64 (a0 + a1)) - a2)) - a0)) t160 _ A12.out).mono ?_); rintro e w' ⟨rfl, ⟨nd, rfl⟩⟩; refine ⟨_, rfl, ?_⟩) | ((with_reducible refine gate_callee (f := 76) rfl ?_); refine goesL_ (some 33) rfl rfl Try.func76 (by kernel_rfl) rfl #[.int .i64 (wrap64 ((wrap64 ((wrap64 (a0 + a1)) - a2)) - a1))] rfl (by (try simp only [List.map_toArray, List.map_cons, List.map_nil]); first | done | rfl | (simp only [List.length_drop, List.length_take]; rfl)) ?_; (with_reducible refine (spec_l13Size.calls (wrap64 ((wrap64 ((wrap64 (a0 + a1)) - a2)) - a1)) t161 _ A13.out).mono ?_); rintro e w' ⟨rfl, ⟨nd, rfl⟩⟩; refine ⟨_, rfl, ?_⟩))
            go_meet
            case rel => exact ⟨_, (false), (by first | rfl | (simp; done) | (simp [*]; done)), H', ⟨by have := HJ3.out; first | omega | exact Nat.le_refl _⟩, by repeat (first | exact Drawn0.refl _ | apply Drawn0.step)⟩
        case rest =>
          clear HC11
          try clear c1
          try clear c2
          try clear p2
          try clear c3
          try clear c6
          try clear p6
          try clear c7
          try clear c8
          try clear c10
          try clear c14
          try clear c14b0
          try clear p2
          obtain ⟨kq, x45_10, rfl, HA, HJ10, ⟨mc10, rfl⟩⟩ := hcut
          cases kq with
          | zero => exact absurd HA.out (by simp [spec_Paeth.j1])
          | succ kj10 =>
            have H := HA.out
            clear HA
            simp only [spec_Paeth.j1] at H
            by_cases c17 : x45_10 = true
            · subst c17
              have H1 : (some a0) = some r := by rw [if_pos rfl] at H; exact H
              clear H
              have H := H1
              clear H1
              obtain rfl := Option.some.inj H
              go_wp2
              go_ret
              exact ⟨by first | rfl | (simp; done) | (simp [*]; done), by repeat (first | exact Drawn0.refl _ | apply Drawn0.step)⟩
            · replace c17 := Bool.eq_false_iff.mpr c17
              subst c17
              have H1 : ((spec_l13Size.f (wrap64 ((wrap64 ((wrap64 (a0 + a1)) - a2)) - a1))).bind fun t164 => ((spec_l13Size.f (wrap64 ((wrap64 ((wrap64 (a0 + a1)) - a2)) - a2))).bind fun t165 => (if t164 ≤ t165 then (some a1) else (some a2)))) = some r := by rw [if_neg (show ¬ (false = true) by decide)] at H; exact H
              clear H
              have H := H1
              clear H1
              replace H := Option.bind_eq_some_iff.mp H
              obtain ⟨t164, A180, H⟩ := H
              replace H : ((spec_l13Size.f (wrap64 ((wrap64 ((wrap64 (a0 + a1)) - a2)) - a2))).bind fun t165 => (if t164 ≤ t165 then (some a1) else (some a2))) = some r := H
              have A18 := Aside0.mk A180
              clear A180
              replace H := Option.bind_eq_some_iff.mp H
              obtain ⟨t165, A190, H⟩ := H
              replace H : (if t164 ≤ t165 then (some a1) else (some a2)) = some r := H
              have A19 := Aside0.mk A190
              clear A190
              by_cases c20 : t164 ≤ t165
              · rw [if_pos c20] at H
                have c20b0 : decide (t164 ≤ t165) = true := decide_eq_true c20
                clear c20
                obtain rfl := Option.some.inj H
                go_wp2_with (first | ((with_reducible refine gate_callee (f := 76) rfl ?_); refine goesL_ (some 50) rfl rfl Try.func76 (by kernel_rfl) rfl #[.int .i64 (wrap64 ((wrap64 ((wrap64 (a0 + a1)) - a2)) - a1))] rfl (by (try simp only [List.map_toArray, List.map_cons, List.map_nil]); first | done | rfl | (simp only [List.length_drop, List.length_take]; rfl)) ?_; (with_reducible refine (spec_l13Size.calls (wrap64 ((wrap64 ((wrap64 (a0 + a1)) - a2)) - a1)) t164 _ A18.out).mono ?_); rintro e w' ⟨rfl, ⟨nd, rfl⟩⟩; refine ⟨_, rfl, ?_⟩) | ((with_reducible refine gate_callee (f := 76) rfl ?_); refine goesL_ (some 54) rfl rfl Try.func76 (by kernel_rfl) rfl #[.int .i64 (wrap64 ((wrap64 ((wrap64 (a0 + a1)) - a2)) - a2))] rfl (by (try simp only [List.map_toArray, List.map_cons, List.map_nil]); first | done | rfl | (simp only [List.length_drop, List.length_take]; rfl)) ?_; (with_reducible refine (spec_l13Size.calls (wrap64 ((wrap64 ((wrap64 (a0 + a1)) - a2)) - a2)) t165 _ A19.out).mono ?_); rintro e w' ⟨rfl, ⟨nd, rfl⟩⟩; refine ⟨_, rfl, ?_⟩))
                go_ret
                exact ⟨by first | rfl | (simp; done) | (simp [*]; done), by repeat (first | exact Drawn0.refl _ | apply Drawn0.step)⟩
              · rw [if_neg c20] at H
                have c20b0 : decide (t164 ≤ t165) = false := decide_eq_false c20
                clear c20
                obtain rfl := Option.some.inj H
                go_wp2_with (first | ((with_reducible refine gate_callee (f := 76) rfl ?_); refine goesL_ (some 50) rfl rfl Try.func76 (by kernel_rfl) rfl #[.int .i64 (wrap64 ((wrap64 ((wrap64 (a0 + a1)) - a2)) - a1))] rfl (by (try simp only [List.map_toArray, List.map_cons, List.map_nil]); first | done | rfl | (simp only [List.length_drop, List.length_take]; rfl)) ?_; (with_reducible refine (spec_l13Size.calls (wrap64 ((wrap64 ((wrap64 (a0 + a1)) - a2)) - a1)) t164 _ A18.out).mono ?_); rintro e w' ⟨rfl, ⟨nd, rfl⟩⟩; refine ⟨_, rfl, ?_⟩) | ((with_reducible refine gate_callee (f := 76) rfl ?_); refine goesL_ (some 54) rfl rfl Try.func76 (by kernel_rfl) rfl #[.int .i64 (wrap64 ((wrap64 ((wrap64 (a0 + a1)) - a2)) - a2))] rfl (by (try simp only [List.map_toArray, List.map_cons, List.map_nil]); first | done | rfl | (simp only [List.length_drop, List.length_take]; rfl)) ?_; (with_reducible refine (spec_l13Size.calls (wrap64 ((wrap64 ((wrap64 (a0 + a1)) - a2)) - a2)) t165 _ A19.out).mono ?_); rintro e w' ⟨rfl, ⟨nd, rfl⟩⟩; refine ⟨_, rfl, ?_⟩))
                go_ret
                exact ⟨by first | rfl | (simp; done) | (simp [*]; done), by repeat (first | exact Drawn0.refl _ | apply Drawn0.step)⟩

/-! ### laws_FnPaeth: function 5 -/
mutual
def laws_FnPaeth.j0 : Nat → Int → Int → Int → Int → Bool → Option (Bool)
  | 0, _, _, _, _, _ => none
  | k + 1, x3, x4, x5, x6, x35 => if x35 = true then (some (x6 == 0)) else ((some (([x3, x4, x5] : List Int) : List Int)).bind fun y172 => (if (wrap64 ((wrap64 ((wrap64 (x3 + x4)) - x5)) - x6)) < 0 then (laws_FnPaeth.j1 k x3 x4 x5 x6 (wrap64 ((wrap64 (x3 + x4)) - x5)) y172 (wrap64 (-(wrap64 ((wrap64 ((wrap64 (x3 + x4)) - x5)) - x6))))) else (laws_FnPaeth.j1 k x3 x4 x5 x6 (wrap64 ((wrap64 (x3 + x4)) - x5)) y172 (wrap64 ((wrap64 ((wrap64 (x3 + x4)) - x5)) - x6)))))
def laws_FnPaeth.j1 : Nat → Int → Int → Int → Int → Int → List Int → Int → Option (Bool)
  | 0, _, _, _, _, _, _, _ => none
  | k + 1, x3, x4, x5, x6, x7, x8, x9 => laws_FnPaeth.l0 k x3 x4 x5 x6 x7 x8 x9 0
def laws_FnPaeth.l0 : Nat → Int → Int → Int → Int → Int → List Int → Int → Int → Option (Bool)
  | 0, _, _, _, _, _, _, _, _ => none
  | k + 1, x3, x4, x5, x6, x7, x8, x9, x10 => if x10 < 3 then (if 0 ≤ x10 then (if x10 < (x8.length : Int) then (if (wrap64 (x7 - (rd x8 x10))) < 0 then (if (wrap64 (-(wrap64 (x7 - (rd x8 x10))))) < x9 then (some false) else (laws_FnPaeth.l0 k x3 x4 x5 x6 x7 x8 x9 (wrap64 (x10 + 1)))) else (if (wrap64 (x7 - (rd x8 x10))) < x9 then (some false) else (laws_FnPaeth.l0 k x3 x4 x5 x6 x7 x8 x9 (wrap64 (x10 + 1))))) else (none)) else (none)) else (if x6 = x3 then (some true) else (if x6 = x4 then (some true) else (some (x6 == x5))))
end
def laws_FnPaeth.f (k : Nat) (l0 : List Int) : Option (Bool) := (laws_big.f l0).bind fun t166 => (if t166 = true then (some true) else ((spec_DrawPaeth.f k l0).bind fun bt167 => ((impl_Paeth.f k bt167.1 bt167.2.1 bt167.2.2).bind fun t170 => ((spec_Paeth.f k bt167.1 bt167.2.1 bt167.2.2).bind fun t171 => (if t170 = t171 then (if bt167.2.1 < (-1000) then (laws_FnPaeth.j0 k bt167.1 bt167.2.1 bt167.2.2 t170 true) else (laws_FnPaeth.j0 k bt167.1 bt167.2.1 bt167.2.2 t170 (decide (bt167.2.1 > 1000)))) else (some false))))))
theorem laws_FnPaeth.mono_l : ∀ k, (∀ y0 y1 y2 y3 y4, LeO (laws_FnPaeth.j0 k y0 y1 y2 y3 y4) (laws_FnPaeth.j0 (k + 1) y0 y1 y2 y3 y4)) ∧ (∀ y0 y1 y2 y3 y4 y5 y6, LeO (laws_FnPaeth.j1 k y0 y1 y2 y3 y4 y5 y6) (laws_FnPaeth.j1 (k + 1) y0 y1 y2 y3 y4 y5 y6)) ∧ (∀ y0 y1 y2 y3 y4 y5 y6 y7, LeO (laws_FnPaeth.l0 k y0 y1 y2 y3 y4 y5 y6 y7) (laws_FnPaeth.l0 (k + 1) y0 y1 y2 y3 y4 y5 y6 y7))
  | 0 => ⟨fun _ _ _ _ _ r h => by simp [laws_FnPaeth.j0] at h, fun _ _ _ _ _ _ _ r h => by simp [laws_FnPaeth.j1] at h, fun _ _ _ _ _ _ _ _ r h => by simp [laws_FnPaeth.l0] at h⟩
  | k + 1 => by
    obtain ⟨ih0, ih1, ih2⟩ := laws_FnPaeth.mono_l k
    refine ⟨?_, ?_, ?_⟩
    · intro y0 y1 y2 y3 y4
      unfold laws_FnPaeth.j0
      repeat' first
      | (with_reducible exact ih0 _ _ _ _ _)
      | (with_reducible exact ih1 _ _ _ _ _ _ _)
      | (with_reducible exact ih2 _ _ _ _ _ _ _ _)
      | (with_reducible exact impl_Paeth.mono _ _ _ _)
      | (with_reducible exact spec_DrawPaeth.mono _ _)
      | (with_reducible exact spec_Paeth.mono _ _ _ _)
      | (with_reducible exact LeO.refl _)
      | (with_reducible exact LeO.none _)
      | (with_reducible refine LeO.ite ?_ ?_)
      | (with_reducible refine LeO.bind ?_ (fun _ => ?_))
      | exact ih0 _ _ _ _ _
      | exact ih1 _ _ _ _ _ _ _
      | exact ih2 _ _ _ _ _ _ _ _
      | exact impl_Paeth.mono _ _ _ _
      | exact spec_DrawPaeth.mono _ _
      | exact spec_Paeth.mono _ _ _ _
      | exact LeO.none _
      | refine LeO.ite ?_ ?_
      | refine LeO.bind ?_ (fun _ => ?_)
    · intro y0 y1 y2 y3 y4 y5 y6
      unfold laws_FnPaeth.j1
      repeat' first
      | (with_reducible exact ih0 _ _ _ _ _)
      | (with_reducible exact ih1 _ _ _ _ _ _ _)
      | (with_reducible exact ih2 _ _ _ _ _ _ _ _)
      | (with_reducible exact impl_Paeth.mono _ _ _ _)
      | (with_reducible exact spec_DrawPaeth.mono _ _)
      | (with_reducible exact spec_Paeth.mono _ _ _ _)
      | (with_reducible exact LeO.refl _)
      | (with_reducible exact LeO.none _)
      | (with_reducible refine LeO.ite ?_ ?_)
      | (with_reducible refine LeO.bind ?_ (fun _ => ?_))
      | exact ih0 _ _ _ _ _
      | exact ih1 _ _ _ _ _ _ _
      | exact ih2 _ _ _ _ _ _ _ _
      | exact impl_Paeth.mono _ _ _ _
      | exact spec_DrawPaeth.mono _ _
      | exact spec_Paeth.mono _ _ _ _
      | exact LeO.none _
      | refine LeO.ite ?_ ?_
      | refine LeO.bind ?_ (fun _ => ?_)
    · intro y0 y1 y2 y3 y4 y5 y6 y7
      unfold laws_FnPaeth.l0
      repeat' first
      | (with_reducible exact ih0 _ _ _ _ _)
      | (with_reducible exact ih1 _ _ _ _ _ _ _)
      | (with_reducible exact ih2 _ _ _ _ _ _ _ _)
      | (with_reducible exact impl_Paeth.mono _ _ _ _)
      | (with_reducible exact spec_DrawPaeth.mono _ _)
      | (with_reducible exact spec_Paeth.mono _ _ _ _)
      | (with_reducible exact LeO.refl _)
      | (with_reducible exact LeO.none _)
      | (with_reducible refine LeO.ite ?_ ?_)
      | (with_reducible refine LeO.bind ?_ (fun _ => ?_))
      | exact ih0 _ _ _ _ _
      | exact ih1 _ _ _ _ _ _ _
      | exact ih2 _ _ _ _ _ _ _ _
      | exact impl_Paeth.mono _ _ _ _
      | exact spec_DrawPaeth.mono _ _
      | exact spec_Paeth.mono _ _ _ _
      | exact LeO.none _
      | refine LeO.ite ?_ ?_
      | refine LeO.bind ?_ (fun _ => ?_)
theorem laws_FnPaeth.mono : ∀ a0 k, LeO (laws_FnPaeth.f k a0) (laws_FnPaeth.f (k + 1) a0) := by
  intro a0 k
  obtain ⟨ih0, ih1, ih2⟩ := laws_FnPaeth.mono_l k
  unfold laws_FnPaeth.f
  repeat' first
      | (with_reducible exact ih0 _ _ _ _ _)
      | (with_reducible exact ih1 _ _ _ _ _ _ _)
      | (with_reducible exact ih2 _ _ _ _ _ _ _ _)
      | (with_reducible exact impl_Paeth.mono _ _ _ _)
      | (with_reducible exact spec_DrawPaeth.mono _ _)
      | (with_reducible exact spec_Paeth.mono _ _ _ _)
      | (with_reducible exact LeO.refl _)
      | (with_reducible exact LeO.none _)
      | (with_reducible refine LeO.ite ?_ ?_)
      | (with_reducible refine LeO.bind ?_ (fun _ => ?_))
      | exact ih0 _ _ _ _ _
      | exact ih1 _ _ _ _ _ _ _
      | exact ih2 _ _ _ _ _ _ _ _
      | exact impl_Paeth.mono _ _ _ _
      | exact spec_DrawPaeth.mono _ _
      | exact spec_Paeth.mono _ _ _ _
      | exact LeO.none _
      | refine LeO.ite ?_ ?_
      | refine LeO.bind ?_ (fun _ => ?_)
set_option maxHeartbeats 8000000 in
set_option maxRecDepth 100000 in
theorem laws_FnPaeth.calls (k : Nat) (A0 : Option Addr) (c0 : Nat) (l0 : List Int) (r : Bool) (w : World) (hr0 : Kd.C (Kd.int .u8) w A0 l0.length l0) (hc0 : l0.length ≤ c0) (h : laws_FnPaeth.f k l0 = some r) :
    Calls Try.prog 5 #[.slice A0 l0.length c0] w fun e w' => e = .returned (.bool r) ∧ Below w.heap.size w w' := by
  have HR0 := Aside0.mk hr0
  have HC0 := Aside0.mk hc0
  clear hr0 hc0
  have HB := Aside0.mk (Below.refl w.heap.size w)
  have H : ((laws_big.f l0).bind fun t166 => (if t166 = true then (some true) else ((spec_DrawPaeth.f k l0).bind fun bt167 => ((impl_Paeth.f k bt167.1 bt167.2.1 bt167.2.2).bind fun t170 => ((spec_Paeth.f k bt167.1 bt167.2.1 bt167.2.2).bind fun t171 => (if t170 = t171 then (if bt167.2.1 < (-1000) then (laws_FnPaeth.j0 k bt167.1 bt167.2.1 bt167.2.2 t170 true) else (laws_FnPaeth.j0 k bt167.1 bt167.2.1 bt167.2.2 t170 (decide (bt167.2.1 > 1000)))) else (some false))))))) = some r := h
  clear h
  replace H := Option.bind_eq_some_iff.mp H
  obtain ⟨t166, A20, H⟩ := H
  replace H : (if t166 = true then (some true) else ((spec_DrawPaeth.f k l0).bind fun bt167 => ((impl_Paeth.f k bt167.1 bt167.2.1 bt167.2.2).bind fun t170 => ((spec_Paeth.f k bt167.1 bt167.2.1 bt167.2.2).bind fun t171 => (if t170 = t171 then (if bt167.2.1 < (-1000) then (laws_FnPaeth.j0 k bt167.1 bt167.2.1 bt167.2.2 t170 true) else (laws_FnPaeth.j0 k bt167.1 bt167.2.1 bt167.2.2 t170 (decide (bt167.2.1 > 1000)))) else (some false)))))) = some r := H
  have A2 := Aside0.mk A20
  clear A20
  by_cases c3 : t166 = true
  · subst c3
    have H1 : (some true) = some r := by rw [if_pos rfl] at H; exact H
    clear H
    have H := H1
    clear H1
    obtain rfl := Option.some.inj H
    go_enter Try.func5, Try.ntmps5
    go_wp2_with (first | ((with_reducible refine gate_callee (f := 25) rfl ?_); refine goesL_ (some 13) rfl rfl Try.func25 (by kernel_rfl) rfl #[.slice A0 l0.length c0] rfl (by (try simp only [List.map_toArray, List.map_cons, List.map_nil]); first | done | rfl | (simp only [List.length_drop, List.length_take]; rfl)) ?_; (with_reducible refine (laws_big.calls _ _ l0 true _ ?side1 ?side2 A2.out).mono ?_); (case side1 => repeat (first | exact HR0.out | (with_reducible refine Kd.C_alloc ?_ _) | (with_reducible refine Kd.C_drewN ?_ _) | (with_reducible refine Kd.C_drew ?_))); (case side2 => exact HC0.out); rintro e w' ⟨rfl, ⟨nd, rfl⟩⟩; refine ⟨_, rfl, ?_⟩))
    go_ret
    exact ⟨by first | rfl | (simp [errW_none, errW_some] <;> rfl) | (simp [*, errW_none, errW_some] <;> rfl), by repeat (first | (with_reducible first | exact HB.out | apply below_alloc | apply pw_below_drewN | apply below_drew1) | exact HB.out)⟩
  · replace c3 := Bool.eq_false_iff.mpr c3
    subst c3
    have H1 : ((spec_DrawPaeth.f k l0).bind fun bt167 => ((impl_Paeth.f k bt167.1 bt167.2.1 bt167.2.2).bind fun t170 => ((spec_Paeth.f k bt167.1 bt167.2.1 bt167.2.2).bind fun t171 => (if t170 = t171 then (if bt167.2.1 < (-1000) then (laws_FnPaeth.j0 k bt167.1 bt167.2.1 bt167.2.2 t170 true) else (laws_FnPaeth.j0 k bt167.1 bt167.2.1 bt167.2.2 t170 (decide (bt167.2.1 > 1000)))) else (some false))))) = some r := by rw [if_neg (show ¬ (false = true) by decide)] at H; exact H
    clear H
    have H := H1
    clear H1
    replace H := Option.bind_eq_some_iff.mp H
    obtain ⟨⟨t167, t168, t169⟩, A40, H⟩ := H
    replace H : ((impl_Paeth.f k t167 t168 t169).bind fun t170 => ((spec_Paeth.f k t167 t168 t169).bind fun t171 => (if t170 = t171 then (if t168 < (-1000) then (laws_FnPaeth.j0 k t167 t168 t169 t170 true) else (laws_FnPaeth.j0 k t167 t168 t169 t170 (decide (t168 > 1000)))) else (some false)))) = some r := H
    have A4 := Aside0.mk A40
    clear A40
    replace H := Option.bind_eq_some_iff.mp H
    obtain ⟨t170, A50, H⟩ := H
    replace H : ((spec_Paeth.f k t167 t168 t169).bind fun t171 => (if t170 = t171 then (if t168 < (-1000) then (laws_FnPaeth.j0 k t167 t168 t169 t170 true) else (laws_FnPaeth.j0 k t167 t168 t169 t170 (decide (t168 > 1000)))) else (some false))) = some r := H
    have A5 := Aside0.mk A50
    clear A50
    replace H := Option.bind_eq_some_iff.mp H
    obtain ⟨t171, A60, H⟩ := H
    replace H : (if t170 = t171 then (if t168 < (-1000) then (laws_FnPaeth.j0 k t167 t168 t169 t170 true) else (laws_FnPaeth.j0 k t167 t168 t169 t170 (decide (t168 > 1000)))) else (some false)) = some r := H
    have A6 := Aside0.mk A60
    clear A60
    by_cases c7 : t170 = t171
    · rw [if_pos c7] at H
      have c7b0 : (t170 == t171) = true := beq_iff_eq.mpr c7
      have c7b1 : (t170 != t171) = false := bne_eq_false_iff_eq.mpr c7
      clear c7
      have HC8 := Aside0.mk H
      clear H
      go_enter Try.func5, Try.ntmps5
      go_upto_region 7 with (first | ((with_reducible refine gate_callee (f := 25) rfl ?_); refine goesL_ (some 13) rfl rfl Try.func25 (by kernel_rfl) rfl #[.slice A0 l0.length c0] rfl (by (try simp only [List.map_toArray, List.map_cons, List.map_nil]); first | done | rfl | (simp only [List.length_drop, List.length_take]; rfl)) ?_; (with_reducible refine (laws_big.calls _ _ l0 false _ ?side1 ?side2 A2.out).mono ?_); (case side1 => repeat (first | exact HR0.out | (with_reducible refine Kd.C_alloc ?_ _) | (with_reducible refine Kd.C_drewN ?_ _) | (with_reducible refine Kd.C_drew ?_))); (case side2 => exact HC0.out); rintro e w' ⟨rfl, ⟨nd, rfl⟩⟩; refine ⟨_, rfl, ?_⟩) | ((with_reducible refine gate_callee (f := 26) rfl ?_); refine goesL_ (some 16) rfl rfl Try.func26 (by kernel_rfl) rfl #[.slice A0 l0.length c0] rfl (by (try simp only [List.map_toArray, List.map_cons, List.map_nil]); first | done | rfl | (simp only [List.length_drop, List.length_take]; rfl)) ?_; (with_reducible refine (spec_DrawPaeth.calls k _ _ l0 t167 t168 t169 _ ?side1 ?side2 A4.out).mono ?_); (case side1 => repeat (first | exact HR0.out | (with_reducible refine Kd.C_alloc ?_ _) | (with_reducible refine Kd.C_drewN ?_ _) | (with_reducible refine Kd.C_drew ?_))); (case side2 => exact HC0.out); rintro e w9 ⟨rfl, hb⟩; refine ⟨_, rfl, ?_⟩; have n0_ := Aside0.mk (below_step (by repeat (first | (with_reducible first | exact HB.out | apply below_alloc | apply pw_below_drewN | apply below_drew1) | exact HB.out)) hb); clear HB; have HB := n0_; clear n0_; (try clear hb); (try clear hb2); (try clear hk); (try clear hi)) | ((with_reducible refine gate_callee (f := 27) rfl ?_); refine goesL_ (some 23) rfl rfl Try.func27 (by kernel_rfl) rfl #[.int .i64 t167, .int .i64 t168, .int .i64 t169] rfl (by (try simp only [List.map_toArray, List.map_cons, List.map_nil]); first | done | rfl | (simp only [List.length_drop, List.length_take]; rfl)) ?_; (with_reducible refine (impl_Paeth.calls k t167 t168 t169 t170 _ A5.out).mono ?_); rintro e w10 ⟨rfl, hb⟩; refine ⟨_, rfl, ?_⟩; have n0_ := Aside0.mk (below_step (by repeat (first | (with_reducible first | exact HB.out | apply below_alloc | apply pw_below_drewN | apply below_drew1) | exact HB.out)) hb); clear HB; have HB := n0_; clear n0_; (try clear hb); (try clear hb2); (try clear hk); (try clear hi)) | ((with_reducible refine gate_callee (f := 28) rfl ?_); refine goesL_ (some 28) rfl rfl Try.func28 (by kernel_rfl) rfl #[.int .i64 t167, .int .i64 t168, .int .i64 t169] rfl (by (try simp only [List.map_toArray, List.map_cons, List.map_nil]); first | done | rfl | (simp only [List.length_drop, List.length_take]; rfl)) ?_; (with_reducible refine (spec_Paeth.calls k t167 t168 t169 t171 _ A6.out).mono ?_); rintro e w' ⟨rfl, ⟨nd, rfl⟩⟩; refine ⟨_, rfl, ?_⟩))
      (try simp only [Act.put, List.setIfInBounds_toArray, List.set_cons_zero, List.set_cons_succ])
      go_cut [35] (fun v35 wc => ∃ (kq : Nat) (x35_7 : Bool), v35 = .bool x35_7 ∧ Aside0 (laws_FnPaeth.j0 kq t167 t168 t169 t170 x35_7 = some r) ∧ Aside0 (kq ≤ k) ∧ Aside0 (Below w.heap.size w wc))
      case first =>
        have H := HC8.out
        clear HC8
        by_cases c11 : t168 < (-1000)
        · rw [if_pos c11] at H
          have c11b0 : decide (t168 < (-1000)) = true := decide_eq_true c11
          clear c11
          (first | rw [c11b0] | (simp only [i64_w, i32_w]; rw [c11b0]) | skip)
          have H' := Aside0.mk H
          clear H
          go_wp2
          go_meet
          case rel => exact ⟨_, (true), (by first | rfl | (simp; done) | (simp [*]; done)), H', ⟨by first | omega | exact Nat.le_refl _⟩, ⟨by repeat (first | (with_reducible first | exact HB.out | apply below_alloc | apply pw_below_drewN | apply below_drew1) | exact HB.out)⟩⟩
        · rw [if_neg c11] at H
          have c11b0 : decide (t168 < (-1000)) = false := decide_eq_false c11
          clear c11
          (first | rw [c11b0] | (simp only [i64_w, i32_w]; rw [c11b0]) | skip)
          have H' := Aside0.mk H
          clear H
          go_wp2
          go_meet
          case rel => exact ⟨_, (decide (t168 > 1000)), (by first | rfl | (simp; done) | (simp [*]; done)), H', ⟨by first | omega | exact Nat.le_refl _⟩, ⟨by repeat (first | (with_reducible first | exact HB.out | apply below_alloc | apply pw_below_drewN | apply below_drew1) | exact HB.out)⟩⟩
      case rest =>
        clear HC8
        try clear c1
        try clear c2
        try clear p2
        try clear c3
        try clear c5
        try clear c7
        try clear c7b0
        try clear c7b1
        try clear c11
        try clear c11b0
        obtain ⟨kq, x35_7, rfl, HA, HJ7, HB⟩ := hcut
        cases kq with
        | zero => exact absurd HA.out (by simp [laws_FnPaeth.j0])
        | succ kj7 =>
          have H := HA.out
          clear HA
          simp only [laws_FnPaeth.j0] at H
          by_cases c12 : x35_7 = true
          · subst c12
            have H1 : (some (t170 == 0)) = some r := by rw [if_pos rfl] at H; exact H
            clear H
            have H := H1
            clear H1
            obtain rfl := Option.some.inj H
            go_wp2
            go_ret
            exact ⟨by first | rfl | (simp [errW_none, errW_some] <;> rfl) | (simp [*, errW_none, errW_some] <;> rfl), by repeat (first | (with_reducible first | exact HB.out | apply below_alloc | apply pw_below_drewN | apply below_drew1) | exact HB.out)⟩
          · replace c12 := Bool.eq_false_iff.mpr c12
            subst c12
            have H1 : ((some (([t167, t168, t169] : List Int) : List Int)).bind fun y172 => (if (wrap64 ((wrap64 ((wrap64 (t167 + t168)) - t169)) - t170)) < 0 then (laws_FnPaeth.j1 kj7 t167 t168 t169 t170 (wrap64 ((wrap64 (t167 + t168)) - t169)) y172 (wrap64 (-(wrap64 ((wrap64 ((wrap64 (t167 + t168)) - t169)) - t170))))) else (laws_FnPaeth.j1 kj7 t167 t168 t169 t170 (wrap64 ((wrap64 (t167 + t168)) - t169)) y172 (wrap64 ((wrap64 ((wrap64 (t167 + t168)) - t169)) - t170))))) = some r := by rw [if_neg (show ¬ (false = true) by decide)] at H; exact H
            clear H
            have H := H1
            clear H1
            obtain ⟨y172, hy172⟩ : ∃ y_ : List Int, y_ = (([t167, t168, t169] : List Int)) := ⟨_, rfl⟩
            replace H : (if (wrap64 ((wrap64 ((wrap64 (t167 + t168)) - t169)) - t170)) < 0 then (laws_FnPaeth.j1 kj7 t167 t168 t169 t170 (wrap64 ((wrap64 (t167 + t168)) - t169)) y172 (wrap64 (-(wrap64 ((wrap64 ((wrap64 (t167 + t168)) - t169)) - t170))))) else (laws_FnPaeth.j1 kj7 t167 t168 t169 t170 (wrap64 ((wrap64 (t167 + t168)) - t169)) y172 (wrap64 ((wrap64 ((wrap64 (t167 + t168)) - t169)) - t170)))) = some r := by first | (rw [hy172]; with_reducible exact H) | (have H2_ := (Option.bind_some _ _).symm.trans H; rw [hy172]; with_reducible exact H2_) | (have H2_ := (Option.bind_some _ _).symm.trans H; with_reducible exact H2_) | with_reducible exact H | (rw [hy172]; exact H) | exact H
            have Ny172 := Aside0.mk hy172
            clear hy172
            have HC13 := Aside0.mk H
            clear H
            go_upto_if 51 with (first | ((with_reducible refine gate_dst (N := 46) rfl ?_); refine Kd.R_lit (Kd.int .i64) _ 3 ?hg (N := 46) ?hd (xs := ([t167, t168, t169] : List Int)) (inner := [.int .i64 t167, .int .i64 t168, .int .i64 t169]) (ok := fun _ => True) (okp := fun _ => True) ?hr ?hp (fun _ hk => hk) trivial (Below.refl _ _) (Nat.le_refl _) (by simp) ?_; (case hd => rfl); (case hg => rfl); (case hr => first | (go_simp; done) | (go_simp; rfl)); (case hp => exact (Reps.one (show Kd.M (Kd.int .i64) _ _ _ t167 [.int .i64 t167] from rfl) (Reps.one (show Kd.M (Kd.int .i64) _ _ _ t168 [.int .i64 t168] from rfl) (Reps.one (show Kd.M (Kd.int .i64) _ _ _ t169 [.int .i64 t169] from rfl) (Reps.none _ _))))); intro v173 w14 ho15 hb hg_ hnew_; clear hg_ hnew_; (first | rw [← Ny172.out] at ho15 | (simp only [Int.reduceToNat] at ho15; rw [← Ny172.out] at ho15)); have n0_ := Aside0.mk (Kd.R_lower ho15 (below_size (by repeat (first | (with_reducible first | exact HB.out | apply below_alloc | apply pw_below_drewN | apply below_drew1) | exact HB.out)))); have n1_ := Aside0.mk (below_step (by repeat (first | (with_reducible first | exact HB.out | apply below_alloc | apply pw_below_drewN | apply below_drew1) | exact HB.out)) hb); clear HB; have HO174 := n0_; have HB := n1_; clear n0_ n1_; clear hb ho15))
            (try simp only [Act.put, List.setIfInBounds_toArray, List.set_cons_zero, List.set_cons_succ])
            go_cut [9] (fun v9 wc => ∃ (kq : Nat) (x9_12 : Int), v9 = .int .i64 x9_12 ∧ Aside0 (laws_FnPaeth.j1 kq t167 t168 t169 t170 (wrap64 ((wrap64 (t167 + t168)) - t169)) y172 x9_12 = some r) ∧ Aside0 (kq ≤ kj7) ∧ Aside0 (Kd.R (Kd.int .i64) 3 wc w.heap.size (fun _ => True) v173 y172) ∧ Aside0 (Below w.heap.size w wc))
            case first =>
              have H := HC13.out
              clear HC13
              by_cases c16 : (wrap64 ((wrap64 ((wrap64 (t167 + t168)) - t169)) - t170)) < 0
              · rw [if_pos c16] at H
                have c16b0 : decide ((wrap64 ((wrap64 ((wrap64 (t167 + t168)) - t169)) - t170)) < 0) = true := decide_eq_true c16
                clear c16
                (first | rw [c16b0] | (simp only [i64_w, i32_w]; rw [c16b0]) | skip)
                have H' := Aside0.mk H
                clear H
                go_wp2
                go_meet
                case rel => exact ⟨_, (wrap64 (-(wrap64 ((wrap64 ((wrap64 (t167 + t168)) - t169)) - t170)))), (by first | rfl | (simp; done) | (simp [*]; done)), H', ⟨by have := HJ7.out; first | omega | exact Nat.le_refl _⟩, ⟨by (with_reducible repeat (first | apply Kd.R_alloc | apply Kd.R_drewN | apply Kd.R_drew)); exact HO174.out⟩, ⟨by repeat (first | (with_reducible first | exact HB.out | apply below_alloc | apply pw_below_drewN | apply below_drew1) | exact HB.out)⟩⟩
              · rw [if_neg c16] at H
                have c16b0 : decide ((wrap64 ((wrap64 ((wrap64 (t167 + t168)) - t169)) - t170)) < 0) = false := decide_eq_false c16
                clear c16
                (first | rw [c16b0] | (simp only [i64_w, i32_w]; rw [c16b0]) | skip)
                have H' := Aside0.mk H
                clear H
                go_wp2
                go_meet
                case rel => exact ⟨_, (wrap64 ((wrap64 ((wrap64 (t167 + t168)) - t169)) - t170)), (by first | rfl | (simp; done) | (simp [*]; done)), H', ⟨by have := HJ7.out; first | omega | exact Nat.le_refl _⟩, ⟨by (with_reducible repeat (first | apply Kd.R_alloc | apply Kd.R_drewN | apply Kd.R_drew)); exact HO174.out⟩, ⟨by repeat (first | (with_reducible first | exact HB.out | apply below_alloc | apply pw_below_drewN | apply below_drew1) | exact HB.out)⟩⟩
            case rest =>
              clear HC13
              try clear c1
              try clear c2
              try clear p2
              try clear c3
              try clear c5
              try clear p6
              try clear c7
              try clear c7b0
              try clear c7b1
              try clear c11
              try clear c11b0
              try clear c12
              try clear c16
              try clear c16b0
              try clear p2
              obtain ⟨kq, x9_12, rfl, HA, HJ12, HO_8, HB⟩ := hcut
              cases kq with
              | zero => exact absurd HA.out (by simp [laws_FnPaeth.j1])
              | succ kj12 =>
                have H := HA.out
                clear HA
                simp only [laws_FnPaeth.j1] at H
                have H' := Aside0.mk H
                clear H
                go_wp2
                go_loopg [10] kj12 (fun kq v10 w' => ∃ (x10_3 : Int), v10 = .int .i64 x10_3 ∧ Aside0 (laws_FnPaeth.l0 kq t167 t168 t169 t170 (wrap64 ((wrap64 (t167 + t168)) - t169)) y172 x9_12 x10_3 = some r) ∧ Aside0 (kq ≤ kj12) ∧ Aside0 (Kd.R (Kd.int .i64) 3 w' w.heap.size (fun _ => True) v173 y172) ∧ Aside0 (Below w.heap.size w w'))
                case atStart => exact ⟨(0), (by first | rfl | (simp; done) | (simp [*]; done)), H', ⟨Nat.le_refl _⟩, ⟨by (with_reducible repeat (first | apply Kd.R_alloc | apply Kd.R_drewN | apply Kd.R_drew)); exact HO_8.out⟩, ⟨by repeat (first | (with_reducible first | exact HB.out | apply below_alloc | apply pw_below_drewN | apply below_drew1) | exact HB.out)⟩⟩
                case round =>
                  clear H'
                  try clear c1
                  try clear c2
                  try clear p2
                  try clear c3
                  try clear c5
                  try clear p6
                  try clear c7
                  try clear c7b0
                  try clear c7b1
                  try clear c11
                  try clear c11b0
                  try clear c12
                  try clear c16
                  try clear c16b0
                  try clear p2
                  try clear p6
                  obtain ⟨x10_3, rfl, HA, HK3, HO_8, HB⟩ := hrel
                  cases gk with
                  | zero => exact absurd HA.out (by simp [laws_FnPaeth.l0])
                  | succ k3 =>
                    have H := HA.out
                    clear HA
                    simp only [laws_FnPaeth.l0] at H
                    by_cases c17 : x10_3 < 3
                    · rw [if_pos c17] at H
                      have c17b0 : decide (x10_3 < 3) = true := decide_eq_true c17
                      clear c17
                      by_cases c18 : 0 ≤ x10_3
                      · rw [if_pos c18] at H
                        have c18b0 : decide (0 ≤ x10_3) = true := decide_eq_true c18
                        clear c18
                        by_cases c19 : x10_3 < (y172.length : Int)
                        · rw [if_pos c19] at H
                          have c19b0 : decide (x10_3 < (y172.length : Int)) = true := decide_eq_true c19
                          clear c19
                          by_cases c20 : (wrap64 ((wrap64 ((wrap64 (t167 + t168)) - t169)) - (rd y172 x10_3))) < 0
                          · rw [if_pos c20] at H
                            have c20b0 : decide ((wrap64 ((wrap64 ((wrap64 (t167 + t168)) - t169)) - (rd y172 x10_3))) < 0) = true := decide_eq_true c20
                            clear c20
                            by_cases c21 : (wrap64 (-(wrap64 ((wrap64 ((wrap64 (t167 + t168)) - t169)) - (rd y172 x10_3))))) < x9_12
                            · rw [if_pos c21] at H
                              have c21b0 : decide ((wrap64 (-(wrap64 ((wrap64 ((wrap64 (t167 + t168)) - t169)) - (rd y172 x10_3))))) < x9_12) = true := decide_eq_true c21
                              clear c21
                              obtain rfl := Option.some.inj H
                              obtain ⟨Ao22, co22, eo22⟩ := Kd.R_slice HO_8.out
                              subst eo22
                              have p175 : 0 ≤ (x10_3 : Int) := of_decide_eq_true (by first | (with_reducible assumption) | assumption)
                              have q175 : x10_3 < (y172.length : Int) := of_decide_eq_true (by first | (with_reducible assumption) | assumption)
                              obtain ⟨ad175, e175, hx175_0⟩ := Kd.at_int (Kd.R_reads' HO_8.out).2.2 x10_3 p175 q175
                              cases e175
                              replace p175 := eq_true p175
                              replace q175 := eq_true q175
                              go_wp2
                              go_ret
                              exact ⟨by first | rfl | (simp [errW_none, errW_some] <;> rfl) | (simp [*, errW_none, errW_some] <;> rfl), by repeat (first | (with_reducible first | exact HB.out | apply below_alloc | apply pw_below_drewN | apply below_drew1) | exact HB.out)⟩
                            · rw [if_neg c21] at H
                              have c21b0 : decide ((wrap64 (-(wrap64 ((wrap64 ((wrap64 (t167 + t168)) - t169)) - (rd y172 x10_3))))) < x9_12) = false := decide_eq_false c21
                              clear c21
                              have H' := Aside0.mk H
                              clear H
                              obtain ⟨Ao23, co23, eo23⟩ := Kd.R_slice HO_8.out
                              subst eo23
                              have p175 : 0 ≤ (x10_3 : Int) := of_decide_eq_true (by first | (with_reducible assumption) | assumption)
                              have q175 : x10_3 < (y172.length : Int) := of_decide_eq_true (by first | (with_reducible assumption) | assumption)
                              obtain ⟨ad175, e175, hx175_0⟩ := Kd.at_int (Kd.R_reads' HO_8.out).2.2 x10_3 p175 q175
                              cases e175
                              replace p175 := eq_true p175
                              replace q175 := eq_true q175
                              go_wp2
                              go_roundg k3
                              case measure => have := HJ7.out; have := HJ12.out; have := HK3.out; omega
                              case rel => exact ⟨(wrap64 (x10_3 + 1)), (by first | rfl | (simp; done) | (simp [*]; done)), H', ⟨by have := HJ7.out; have := HJ12.out; have := HK3.out; omega⟩, ⟨by (with_reducible repeat (first | apply Kd.R_alloc | apply Kd.R_drewN | apply Kd.R_drew)); exact HO_8.out⟩, ⟨by repeat (first | (with_reducible first | exact HB.out | apply below_alloc | apply pw_below_drewN | apply below_drew1) | exact HB.out)⟩⟩
                          · rw [if_neg c20] at H
                            have c20b0 : decide ((wrap64 ((wrap64 ((wrap64 (t167 + t168)) - t169)) - (rd y172 x10_3))) < 0) = false := decide_eq_false c20
                            clear c20
                            by_cases c24 : (wrap64 ((wrap64 ((wrap64 (t167 + t168)) - t169)) - (rd y172 x10_3))) < x9_12
                            · rw [if_pos c24] at H
                              have c24b0 : decide ((wrap64 ((wrap64 ((wrap64 (t167 + t168)) - t169)) - (rd y172 x10_3))) < x9_12) = true := decide_eq_true c24
                              clear c24
                              obtain rfl := Option.some.inj H
                              obtain ⟨Ao25, co25, eo25⟩ := Kd.R_slice HO_8.out
                              subst eo25
                              have p175 : 0 ≤ (x10_3 : Int) := of_decide_eq_true (by first | (with_reducible assumption) | assumption)
                              have q175 : x10_3 < (y172.length : Int) := of_decide_eq_true (by first | (with_reducible assumption) | assumption)
                              obtain ⟨ad175, e175, hx175_0⟩ := Kd.at_int (Kd.R_reads' HO_8.out).2.2 x10_3 p175 q175
                              cases e175
                              replace p175 := eq_true p175
                              replace q175 := eq_true q175
                              go_wp2
                              go_ret
                              exact ⟨by first | rfl | (simp [errW_none, errW_some] <;> rfl) | (simp [*, errW_none, errW_some] <;> rfl), by repeat (first | (with_reducible first | exact HB.out | apply below_alloc | apply pw_below_drewN | apply below_drew1) | exact HB.out)⟩
                            · rw [if_neg c24] at H
                              have c24b0 : decide ((wrap64 ((wrap64 ((wrap64 (t167 + t168)) - t169)) - (rd y172 x10_3))) < x9_12) = false := decide_eq_false c24
                              clear c24
                              have H' := Aside0.mk H
                              clear H
                              obtain ⟨Ao26, co26, eo26⟩ := Kd.R_slice HO_8.out
                              subst eo26
                              have p175 : 0 ≤ (x10_3 : Int) := of_decide_eq_true (by first | (with_reducible assumption) | assumption)
                              have q175 : x10_3 < (y172.length : Int) := of_decide_eq_true (by first | (with_reducible assumption) | assumption)
                              obtain ⟨ad175, e175, hx175_0⟩ := Kd.at_int (Kd.R_reads' HO_8.out).2.2 x10_3 p175 q175
                              cases e175
                              replace p175 := eq_true p175
                              replace q175 := eq_true q175
                              go_wp2
                              go_roundg k3
                              case measure => have := HJ7.out; have := HJ12.out; have := HK3.out; omega
                              case rel => exact ⟨(wrap64 (x10_3 + 1)), (by first | rfl | (simp; done) | (simp [*]; done)), H', ⟨by have := HJ7.out; have := HJ12.out; have := HK3.out; omega⟩, ⟨by (with_reducible repeat (first | apply Kd.R_alloc | apply Kd.R_drewN | apply Kd.R_drew)); exact HO_8.out⟩, ⟨by repeat (first | (with_reducible first | exact HB.out | apply below_alloc | apply pw_below_drewN | apply below_drew1) | exact HB.out)⟩⟩
                        · rw [if_neg c19] at H
                          exact absurd H (by simp)
                      · rw [if_neg c18] at H
                        exact absurd H (by simp)
                    · rw [if_neg c17] at H
                      have c17b0 : decide (x10_3 < 3) = false := decide_eq_false c17
                      clear c17
                      by_cases c27 : t170 = t167
                      · rw [if_pos c27] at H
                        have c27b0 : (t170 == t167) = true := beq_iff_eq.mpr c27
                        have c27b1 : (t170 != t167) = false := bne_eq_false_iff_eq.mpr c27
                        clear c27
                        obtain rfl := Option.some.inj H
                        go_wp2
                        go_ret
                        exact ⟨by first | rfl | (simp [errW_none, errW_some] <;> rfl) | (simp [*, errW_none, errW_some] <;> rfl), by repeat (first | (with_reducible first | exact HB.out | apply below_alloc | apply pw_below_drewN | apply below_drew1) | exact HB.out)⟩
                      · rw [if_neg c27] at H
                        have c27b0 : (t170 == t167) = false := beq_eq_false_iff_ne.mpr c27
                        have c27b1 : (t170 != t167) = true := bne_iff_ne.mpr c27
                        by_cases c28 : t170 = t168
                        · rw [if_pos c28] at H
                          have c28b0 : (t170 == t168) = true := beq_iff_eq.mpr c28
                          have c28b1 : (t170 != t168) = false := bne_eq_false_iff_eq.mpr c28
                          clear c28
                          obtain rfl := Option.some.inj H
                          go_wp2
                          go_ret
                          exact ⟨by first | rfl | (simp [errW_none, errW_some] <;> rfl) | (simp [*, errW_none, errW_some] <;> rfl), by repeat (first | (with_reducible first | exact HB.out | apply below_alloc | apply pw_below_drewN | apply below_drew1) | exact HB.out)⟩
                        · rw [if_neg c28] at H
                          have c28b0 : (t170 == t168) = false := beq_eq_false_iff_ne.mpr c28
                          have c28b1 : (t170 != t168) = true := bne_iff_ne.mpr c28
                          obtain rfl := Option.some.inj H
                          go_wp2
                          go_ret
                          exact ⟨by first | rfl | (simp [errW_none, errW_some] <;> rfl) | (simp [*, errW_none, errW_some] <;> rfl), by repeat (first | (with_reducible first | exact HB.out | apply below_alloc | apply pw_below_drewN | apply below_drew1) | exact HB.out)⟩
    · rw [if_neg c7] at H
      have c7b0 : (t170 == t171) = false := beq_eq_false_iff_ne.mpr c7
      have c7b1 : (t170 != t171) = true := bne_iff_ne.mpr c7
      obtain rfl := Option.some.inj H
      go_enter Try.func5, Try.ntmps5
      go_wp2_with (first | ((with_reducible refine gate_callee (f := 25) rfl ?_); refine goesL_ (some 13) rfl rfl Try.func25 (by kernel_rfl) rfl #[.slice A0 l0.length c0] rfl (by (try simp only [List.map_toArray, List.map_cons, List.map_nil]); first | done | rfl | (simp only [List.length_drop, List.length_take]; rfl)) ?_; (with_reducible refine (laws_big.calls _ _ l0 false _ ?side1 ?side2 A2.out).mono ?_); (case side1 => repeat (first | exact HR0.out | (with_reducible refine Kd.C_alloc ?_ _) | (with_reducible refine Kd.C_drewN ?_ _) | (with_reducible refine Kd.C_drew ?_))); (case side2 => exact HC0.out); rintro e w' ⟨rfl, ⟨nd, rfl⟩⟩; refine ⟨_, rfl, ?_⟩) | ((with_reducible refine gate_callee (f := 26) rfl ?_); refine goesL_ (some 16) rfl rfl Try.func26 (by kernel_rfl) rfl #[.slice A0 l0.length c0] rfl (by (try simp only [List.map_toArray, List.map_cons, List.map_nil]); first | done | rfl | (simp only [List.length_drop, List.length_take]; rfl)) ?_; (with_reducible refine (spec_DrawPaeth.calls k _ _ l0 t167 t168 t169 _ ?side1 ?side2 A4.out).mono ?_); (case side1 => repeat (first | exact HR0.out | (with_reducible refine Kd.C_alloc ?_ _) | (with_reducible refine Kd.C_drewN ?_ _) | (with_reducible refine Kd.C_drew ?_))); (case side2 => exact HC0.out); rintro e w29 ⟨rfl, hb⟩; refine ⟨_, rfl, ?_⟩; have n0_ := Aside0.mk (below_step (by repeat (first | (with_reducible first | exact HB.out | apply below_alloc | apply pw_below_drewN | apply below_drew1) | exact HB.out)) hb); clear HB; have HB := n0_; clear n0_; (try clear hb); (try clear hb2); (try clear hk); (try clear hi)) | ((with_reducible refine gate_callee (f := 27) rfl ?_); refine goesL_ (some 23) rfl rfl Try.func27 (by kernel_rfl) rfl #[.int .i64 t167, .int .i64 t168, .int .i64 t169] rfl (by (try simp only [List.map_toArray, List.map_cons, List.map_nil]); first | done | rfl | (simp only [List.length_drop, List.length_take]; rfl)) ?_; (with_reducible refine (impl_Paeth.calls k t167 t168 t169 t170 _ A5.out).mono ?_); rintro e w30 ⟨rfl, hb⟩; refine ⟨_, rfl, ?_⟩; have n0_ := Aside0.mk (below_step (by repeat (first | (with_reducible first | exact HB.out | apply below_alloc | apply pw_below_drewN | apply below_drew1) | exact HB.out)) hb); clear HB; have HB := n0_; clear n0_; (try clear hb); (try clear hb2); (try clear hk); (try clear hi)) | ((with_reducible refine gate_callee (f := 28) rfl ?_); refine goesL_ (some 28) rfl rfl Try.func28 (by kernel_rfl) rfl #[.int .i64 t167, .int .i64 t168, .int .i64 t169] rfl (by (try simp only [List.map_toArray, List.map_cons, List.map_nil]); first | done | rfl | (simp only [List.length_drop, List.length_take]; rfl)) ?_; (with_reducible refine (spec_Paeth.calls k t167 t168 t169 t171 _ A6.out).mono ?_); rintro e w' ⟨rfl, ⟨nd, rfl⟩⟩; refine ⟨_, rfl, ?_⟩))
      go_ret
      exact ⟨by first | rfl | (simp [errW_none, errW_some] <;> rfl) | (simp [*, errW_none, errW_some] <;> rfl), by repeat (first | (with_reducible first | exact HB.out | apply below_alloc | apply pw_below_drewN | apply below_drew1) | exact HB.out)⟩

/-- THE ONE PURE STATEMENT of laws_FnPaeth: yours. -/
def laws_FnPaeth.Pure : Prop := ∀ (l0 : List Int), l0.length ≤ maxLen → l0.length * 1 ≤ 140737488351232 → (∀ x ∈ l0, (Lit.int .u8 x).wf = true) → ∃ k, laws_FnPaeth.f k l0 = some true
theorem laws_FnPaeth.walk (P : laws_FnPaeth.Pure) (a0 : Option Addr) (len0 cap0 : Nat) (z0 : List Int) (w : World) (w0 : (a0 = none ∧ len0 = 0 ∧ cap0 = 0 ∧ z0 = []) ∨ ∃ x, a0 = some x ∧ len0 ≤ cap0 ∧ cap0 ≤ maxLen ∧ z0.length = cap0 ∧ (∀ i, i < z0.length → w.cell? (x.add i) = some (.int .u8 (z0.getD i 0))) ∧ ∀ n ∈ z0, (Lit.int .u8 n).wf = true) (y0 : len0 * 1 ≤ 140737488351232) :
    Calls Try.prog 5 #[.slice a0 len0 cap0] w fun e w' => e = .returned (.bool true) ∧ Below w.heap.size w w' := by
  obtain ⟨l0, rfl, hr0, hm0, hw0, hc0⟩ := ReadsInt.ofRowC w0
  obtain ⟨k, h⟩ := P l0 hm0 y0 hw0
  refine (laws_FnPaeth.calls k _ _ l0 true w (Kd.C_of_reads (d := (0 : Int)) (h1 := fun _ => rfl) hr0) hc0 h).mono ?_
  rintro e w' ⟨rfl, hd⟩
  exact ⟨rfl, hd⟩

end Go.Proofs.Ytcdpnaaeokjdaaa.PFnPaeth
