/- Walks of functions that the law FnSums reaches: each call comes to what the Lean function of its name tells. Written by p2.py, a program of this session, by way of the kit's print. -/
import Derived.Test.YtcdpnaaeokjdaaaPFnSumsx0
import Derived.Test.YtcdpnaaeokjdaaaPFnSumsx1
namespace Go.Proofs.Ytcdpnaaeokjdaaa.PFnSums
open Go.RowKit Go.Proofs.YtcdpnaaeokjdaaaW.PrintWords Go.Proofs.YtcdpnaaeokjdaaaW.PrintLast Go.Proofs.YtcdpnaaeokjdaaaW.PrintMore
attribute [local go_sem] max2_int min2_int max_two min_two max_three min_three max_four min_four   -- for this text's walks alone
set_option linter.unusedVariables false
set_option linter.unusedSimpArgs false

/-! ### impl_AdlerMore: function 45 -/
def impl_AdlerMore.l0 : Nat → ByteArray → Int → Int → Int → Int → Option (Int)
  | 0, _, _, _, _, _ => none
  | k + 1, x1, x5, x6, x14, x15 => if x15 < x14 then (if 0 ≤ x15 then (if x15 < (x1.size : Int) then (impl_AdlerMore.l0 k x1 (Int.tmod (wrap64 (x5 + (wrap64 (bt x1 x15)))) 65521) (Int.tmod (wrap64 (x6 + (Int.tmod (wrap64 (x5 + (wrap64 (bt x1 x15)))) 65521))) 65521) x14 (wrap64 (x15 + 1))) else (none)) else (none)) else (some ((Go.bits .or .i64 (wrap64 (x6 * 65536)) x5) % 4294967296))
def impl_AdlerMore.f (k : Nat) (a0 : Int) (a1 : ByteArray) : Option (Int) := (impl_parts.f a0).bind fun bt157 => (impl_AdlerMore.l0 k a1 bt157.1 bt157.2 (a1.size : Int) 0)
theorem impl_AdlerMore.mono_l : ∀ k, (∀ y0 y1 y2 y3 y4, LeO (impl_AdlerMore.l0 k y0 y1 y2 y3 y4) (impl_AdlerMore.l0 (k + 1) y0 y1 y2 y3 y4))
  | 0 => fun _ _ _ _ _ r h => by simp [impl_AdlerMore.l0] at h
  | k + 1 => by
    have ih0 := impl_AdlerMore.mono_l k
    · intro y0 y1 y2 y3 y4
      unfold impl_AdlerMore.l0
      repeat' first
      | (with_reducible exact ih0 _ _ _ _ _)
      | (with_reducible exact LeO.refl _)
      | (with_reducible exact LeO.none _)
      | (with_reducible refine LeO.ite ?_ ?_)
      | (with_reducible refine LeO.bind ?_ (fun _ => ?_))
      | exact ih0 _ _ _ _ _
      | exact LeO.none _
      | refine LeO.ite ?_ ?_
      | refine LeO.bind ?_ (fun _ => ?_)
theorem impl_AdlerMore.mono : ∀ a0 a1 k, LeO (impl_AdlerMore.f k a0 a1) (impl_AdlerMore.f (k + 1) a0 a1) := by
  intro a0 a1 k
  have ih0 := impl_AdlerMore.mono_l k
  unfold impl_AdlerMore.f
  repeat' first
      | (with_reducible exact ih0 _ _ _ _ _)
      | (with_reducible exact LeO.refl _)
      | (with_reducible exact LeO.none _)
      | (with_reducible refine LeO.ite ?_ ?_)
      | (with_reducible refine LeO.bind ?_ (fun _ => ?_))
      | exact ih0 _ _ _ _ _
      | exact LeO.none _
      | refine LeO.ite ?_ ?_
      | refine LeO.bind ?_ (fun _ => ?_)
set_option maxHeartbeats 8000000 in
set_option maxRecDepth 100000 in
theorem impl_AdlerMore.calls (k : Nat) (a0 : Int) (a1 : ByteArray) (r : Int) (w : World) (h : impl_AdlerMore.f k a0 a1 = some r) :
    Calls Try.prog 45 #[.int .u32 a0, .string a1] w fun e w' => e = .returned (.int .u32 r) ∧ Drawn0 w w' := by
  have H : ((impl_parts.f a0).bind fun bt157 => (impl_AdlerMore.l0 k a1 bt157.1 bt157.2 (a1.size : Int) 0)) = some r := h
  clear h
  replace H := Option.bind_eq_some_iff.mp H
  obtain ⟨⟨t157, t158⟩, A30, H⟩ := H
  replace H : (impl_AdlerMore.l0 k a1 t157 t158 (a1.size : Int) 0) = some r := H
  have A3 := Aside0.mk A30
  clear A30
  have H' := Aside0.mk H
  clear H
  go_enter Try.func45, Try.ntmps45
  go_wp2_with (first | ((with_reducible refine gate_callee (f := 92) rfl ?_); refine goesL_ (some 10) rfl rfl Try.func92 (by kernel_rfl) rfl #[.int .u32 a0] rfl (by (try simp only [List.map_toArray, List.map_cons, List.map_nil]); first | done | rfl | (simp only [List.length_drop, List.length_take]; rfl)) ?_; (with_reducible refine (impl_parts.calls a0 t157 t158 _ A3.out).mono ?_); rintro e w' ⟨rfl, ⟨nd, rfl⟩⟩; refine ⟨_, rfl, ?_⟩))
  go_loopg [5, 6, 15] k (fun kq v5 v6 v15 w' => ∃ (x5_1 : Int) (x6_1 : Int) (x15_1 : Int), v5 = .int .i64 x5_1 ∧ v6 = .int .i64 x6_1 ∧ v15 = .int .i64 x15_1 ∧ Aside0 (impl_AdlerMore.l0 kq a1 x5_1 x6_1 (a1.size : Int) x15_1 = some r) ∧ Aside0 (kq ≤ k) ∧ Drawn0 w w')
  case atStart => exact ⟨(t157), (t158), (0), (by first | rfl | (simp; done) | (simp [*]; done)), (by first | rfl | (simp; done) | (simp [*]; done)), (by first | rfl | (simp; done) | (simp [*]; done)), H', ⟨Nat.le_refl _⟩, by repeat (first | exact Drawn0.refl _ | apply Drawn0.step)⟩
  case round =>
    clear H'
    try clear p2
    obtain ⟨x5_1, x6_1, x15_1, rfl, rfl, rfl, HA, HK1, ⟨m1, rfl⟩⟩ := hrel
    cases gk with
    | zero => exact absurd HA.out (by simp [impl_AdlerMore.l0])
    | succ k1 =>
      have H := HA.out
      clear HA
      simp only [impl_AdlerMore.l0] at H
      by_cases c4 : x15_1 < (a1.size : Int)
      · rw [if_pos c4] at H
        have c4b0 : decide (x15_1 < (a1.size : Int)) = true := decide_eq_true c4
        clear c4
        by_cases c5 : 0 ≤ x15_1
        · rw [if_pos c5] at H
          have c5b0 : decide (0 ≤ x15_1) = true := decide_eq_true c5
          clear c5
          by_cases c6 : x15_1 < (a1.size : Int)
          · rw [if_pos c6] at H
            have c6b0 : decide (x15_1 < (a1.size : Int)) = true := decide_eq_true c6
            clear c6
            have H' := Aside0.mk H
            clear H
            have p7 : 0 ≤ (x15_1 : Int) := of_decide_eq_true (by first | (with_reducible assumption) | assumption)
            have q7 : x15_1 < (a1.size : Int) := of_decide_eq_true (by first | (with_reducible assumption) | assumption)
            have hx7 := bt_at a1 x15_1
            replace p7 := eq_true p7
            replace q7 := eq_true q7
            go_wp2
            go_roundg k1
            case measure => have := HK1.out; omega
            case rel => exact ⟨(Int.tmod (wrap64 (x5_1 + (wrap64 (bt a1 x15_1)))) 65521), (Int.tmod (wrap64 (x6_1 + (Int.tmod (wrap64 (x5_1 + (wrap64 (bt a1 x15_1)))) 65521))) 65521), (wrap64 (x15_1 + 1)), (by first | rfl | (simp; done) | (simp [*]; done)), (by first | rfl | (simp; done) | (simp [*]; done)), (by first | rfl | (simp; done) | (simp [*]; done)), H', ⟨by have := HK1.out; omega⟩, by repeat (first | exact Drawn0.refl _ | apply Drawn0.step)⟩
          · rw [if_neg c6] at H
            exact absurd H (by simp)
        · rw [if_neg c5] at H
          exact absurd H (by simp)
      · rw [if_neg c4] at H
        have c4b0 : decide (x15_1 < (a1.size : Int)) = false := decide_eq_false c4
        clear c4
        obtain rfl := Option.some.inj H
        go_wp2
        go_ret
        exact ⟨by first | rfl | (simp; done) | (simp [*]; done), by repeat (first | exact Drawn0.refl _ | apply Drawn0.step)⟩

/-! ### impl_Adler: function 46 -/
def impl_Adler.f (k : Nat) (a0 : ByteArray) : Option (Int) := (impl_AdlerMore.f k 1 a0).bind fun t159 => (some t159)
theorem impl_Adler.mono : ∀ a0 k, LeO (impl_Adler.f k a0) (impl_Adler.f (k + 1) a0) := by
  intro a0 k
  unfold impl_Adler.f
  repeat' first
      | (with_reducible exact impl_AdlerMore.mono _ _ _)
      | (with_reducible exact LeO.refl _)
      | (with_reducible exact LeO.none _)
      | (with_reducible refine LeO.ite ?_ ?_)
      | (with_reducible refine LeO.bind ?_ (fun _ => ?_))
      | exact impl_AdlerMore.mono _ _ _
      | exact LeO.none _
      | refine LeO.ite ?_ ?_
      | refine LeO.bind ?_ (fun _ => ?_)
set_option maxHeartbeats 8000000 in
set_option maxRecDepth 100000 in
theorem impl_Adler.calls (k : Nat) (a0 : ByteArray) (r : Int) (w : World) (h : impl_Adler.f k a0 = some r) :
    Calls Try.prog 46 #[.string a0] w fun e w' => e = .returned (.int .u32 r) ∧ Drawn0 w w' := by
  have H : ((impl_AdlerMore.f k 1 a0).bind fun t159 => (some t159)) = some r := h
  clear h
  replace H := Option.bind_eq_some_iff.mp H
  obtain ⟨t159, A20, H⟩ := H
  replace H : (some t159) = some r := H
  have A2 := Aside0.mk A20
  clear A20
  obtain rfl := Option.some.inj H
  go_enter Try.func46, Try.ntmps46
  go_wp2_with (first | ((with_reducible refine gate_callee (f := 45) rfl ?_); refine goesL_ (some 4) rfl rfl Try.func45 (by kernel_rfl) rfl #[.int .u32 1, .string a0] rfl (by (try simp only [List.map_toArray, List.map_cons, List.map_nil]); first | done | rfl | (simp only [List.length_drop, List.length_take]; rfl)) ?_; (with_reducible refine (impl_AdlerMore.calls k 1 a0 t159 _ A2.out).mono ?_); rintro e w' ⟨rfl, ⟨nd, rfl⟩⟩; refine ⟨_, rfl, ?_⟩))
  go_ret
  exact ⟨by first | rfl | (simp; done) | (simp [*]; done), by repeat (first | exact Drawn0.refl _ | apply Drawn0.step)⟩

/-! ### impl_within: function 66 -/
def impl_within.f (a0 : Int) (a1 : Int) (a2 : Int) : Option (Bool) := if a0 ≥ a1 then (some (decide (a0 ≤ a2))) else (some false)
set_option maxHeartbeats 8000000 in
set_option maxRecDepth 100000 in
theorem impl_within.calls (a0 : Int) (a1 : Int) (a2 : Int) (r : Bool) (w : World) (h : impl_within.f a0 a1 a2 = some r) :
    Calls Try.prog 66 #[.int .i64 a0, .int .i64 a1, .int .i64 a2] w fun e w' => e = .returned (.bool r) ∧ Drawn0 w w' := by
  have H : (if a0 ≥ a1 then (some (decide (a0 ≤ a2))) else (some false)) = some r := h
  clear h
  by_cases c4 : a0 ≥ a1
  · rw [if_pos c4] at H
    have c4b0 : decide (a1 ≤ a0) = true := decide_eq_true c4
    clear c4
    obtain rfl := Option.some.inj H
    go_enter Try.func66, Try.ntmps66
    go_wp2
    go_ret
    exact ⟨by first | rfl | (simp; done) | (simp [*]; done), by repeat (first | exact Drawn0.refl _ | apply Drawn0.step)⟩
  · rw [if_neg c4] at H
    have c4b0 : decide (a1 ≤ a0) = false := decide_eq_false c4
    clear c4
    obtain rfl := Option.some.inj H
    go_enter Try.func66, Try.ntmps66
    go_wp2
    go_ret
    exact ⟨by first | rfl | (simp; done) | (simp [*]; done), by repeat (first | exact Drawn0.refl _ | apply Drawn0.step)⟩

/-! ### impl_CrcJoin: function 47 -/
def impl_CrcJoin.l0 : Nat → Int → Int → Int → Int → Option (Int)
  | 0, _, _, _, _ => none
  | k + 1, x0, x1, x10, x11 => if x11 < x10 then ((impl_halved.f k x0).bind fun t161 => (impl_CrcJoin.l0 k t161 x1 x10 (wrap64 (x11 + 1)))) else (some (Go.bits .xor .u32 x0 x1))
def impl_CrcJoin.f (k : Nat) (a0 : Int) (a1 : Int) (a2 : Int) : Option (Int) := (impl_within.f a2 0 12000).bind fun t160 => (if t160 = true then (impl_CrcJoin.l0 k a0 a1 a2 0) else (some 0))
theorem impl_CrcJoin.mono_l : ∀ k, (∀ y0 y1 y2 y3, LeO (impl_CrcJoin.l0 k y0 y1 y2 y3) (impl_CrcJoin.l0 (k + 1) y0 y1 y2 y3))
  | 0 => fun _ _ _ _ r h => by simp [impl_CrcJoin.l0] at h
  | k + 1 => by
    have ih0 := impl_CrcJoin.mono_l k
    · intro y0 y1 y2 y3
      unfold impl_CrcJoin.l0
      repeat' first
      | (with_reducible exact ih0 _ _ _ _)
      | (with_reducible exact impl_halved.mono _ _)
      | (with_reducible exact LeO.refl _)
      | (with_reducible exact LeO.none _)
      | (with_reducible refine LeO.ite ?_ ?_)
      | (with_reducible refine LeO.bind ?_ (fun _ => ?_))
      | exact ih0 _ _ _ _
      | exact impl_halved.mono _ _
      | exact LeO.none _
      | refine LeO.ite ?_ ?_
      | refine LeO.bind ?_ (fun _ => ?_)
theorem impl_CrcJoin.mono : ∀ a0 a1 a2 k, LeO (impl_CrcJoin.f k a0 a1 a2) (impl_CrcJoin.f (k + 1) a0 a1 a2) := by
  intro a0 a1 a2 k
  have ih0 := impl_CrcJoin.mono_l k
  unfold impl_CrcJoin.f
  repeat' first
      | (with_reducible exact ih0 _ _ _ _)
      | (with_reducible exact impl_halved.mono _ _)
      | (with_reducible exact LeO.refl _)
      | (with_reducible exact LeO.none _)
      | (with_reducible refine LeO.ite ?_ ?_)
      | (with_reducible refine LeO.bind ?_ (fun _ => ?_))
      | exact ih0 _ _ _ _
      | exact impl_halved.mono _ _
      | exact LeO.none _
      | refine LeO.ite ?_ ?_
      | refine LeO.bind ?_ (fun _ => ?_)
set_option maxHeartbeats 8000000 in
set_option maxRecDepth 100000 in
theorem impl_CrcJoin.calls (k : Nat) (a0 : Int) (a1 : Int) (a2 : Int) (r : Int) (w : World) (h : impl_CrcJoin.f k a0 a1 a2 = some r) :
    Calls Try.prog 47 #[.int .u32 a0, .int .u32 a1, .int .i64 a2] w fun e w' => e = .returned (.int .u32 r) ∧ Drawn0 w w' := by
  have H : ((impl_within.f a2 0 12000).bind fun t160 => (if t160 = true then (impl_CrcJoin.l0 k a0 a1 a2 0) else (some 0))) = some r := h
  clear h
  replace H := Option.bind_eq_some_iff.mp H
  obtain ⟨t160, A40, H⟩ := H
  replace H : (if t160 = true then (impl_CrcJoin.l0 k a0 a1 a2 0) else (some 0)) = some r := H
  have A4 := Aside0.mk A40
  clear A40
  by_cases c5 : t160 = true
  · subst c5
    have H1 : (impl_CrcJoin.l0 k a0 a1 a2 0) = some r := by rw [if_pos rfl] at H; exact H
    clear H
    have H := H1
    clear H1
    have H' := Aside0.mk H
    clear H
    go_enter Try.func47, Try.ntmps47
    go_wp2_with (first | ((with_reducible refine gate_callee (f := 66) rfl ?_); refine goesL_ (some 8) rfl rfl Try.func66 (by kernel_rfl) rfl #[.int .i64 a2, .int .i64 0, .int .i64 12000] rfl (by (try simp only [List.map_toArray, List.map_cons, List.map_nil]); first | done | rfl | (simp only [List.length_drop, List.length_take]; rfl)) ?_; (with_reducible refine (impl_within.calls a2 0 12000 true _ A4.out).mono ?_); rintro e w' ⟨rfl, ⟨nd, rfl⟩⟩; refine ⟨_, rfl, ?_⟩))
    go_loopg [0, 11] k (fun kq v0 v11 w' => ∃ (x0_1 : Int) (x11_1 : Int), v0 = .int .u32 x0_1 ∧ v11 = .int .i64 x11_1 ∧ Aside0 (impl_CrcJoin.l0 kq x0_1 a1 a2 x11_1 = some r) ∧ Aside0 (kq ≤ k) ∧ Drawn0 w w')
    case atStart => exact ⟨(a0), (0), (by first | rfl | (simp; done) | (simp [*]; done)), (by first | rfl | (simp; done) | (simp [*]; done)), H', ⟨Nat.le_refl _⟩, by repeat (first | exact Drawn0.refl _ | apply Drawn0.step)⟩
    case round =>
      clear H'
      try clear p2
      try clear c4
      try clear c5
      obtain ⟨x0_1, x11_1, rfl, rfl, HA, HK1, ⟨m1, rfl⟩⟩ := hrel
      cases gk with
      | zero => exact absurd HA.out (by simp [impl_CrcJoin.l0])
      | succ k1 =>
        have H := HA.out
        clear HA
        simp only [impl_CrcJoin.l0] at H
        by_cases c6 : x11_1 < a2
        · rw [if_pos c6] at H
          have c6b0 : decide (x11_1 < a2) = true := decide_eq_true c6
          clear c6
          replace H := Option.bind_eq_some_iff.mp H
          obtain ⟨t161, A70, H⟩ := H
          replace H : (impl_CrcJoin.l0 k1 t161 a1 a2 (wrap64 (x11_1 + 1))) = some r := H
          have A7 := Aside0.mk A70
          clear A70
          have H' := Aside0.mk H
          clear H
          go_wp2_with (first | ((with_reducible refine gate_callee (f := 91) rfl ?_); refine goesL_ (some 14) rfl rfl Try.func91 (by kernel_rfl) rfl #[.int .u32 x0_1] rfl (by (try simp only [List.map_toArray, List.map_cons, List.map_nil]); first | done | rfl | (simp only [List.length_drop, List.length_take]; rfl)) ?_; (with_reducible refine (impl_halved.calls k1 x0_1 t161 _ A7.out).mono ?_); rintro e w' ⟨rfl, ⟨nd, rfl⟩⟩; refine ⟨_, rfl, ?_⟩))
          go_roundg k1
          case measure => have := HK1.out; omega
          case rel => exact ⟨(t161), (wrap64 (x11_1 + 1)), (by first | rfl | (simp; done) | (simp [*]; done)), (by first | rfl | (simp; done) | (simp [*]; done)), H', ⟨by have := HK1.out; omega⟩, by repeat (first | exact Drawn0.refl _ | apply Drawn0.step)⟩
        · rw [if_neg c6] at H
          have c6b0 : decide (x11_1 < a2) = false := decide_eq_false c6
          clear c6
          obtain rfl := Option.some.inj H
          go_wp2
          go_ret
          exact ⟨by first | rfl | (simp; done) | (simp [*]; done), by repeat (first | exact Drawn0.refl _ | apply Drawn0.step)⟩
  · replace c5 := Bool.eq_false_iff.mpr c5
    subst c5
    have H1 : (some 0) = some r := by rw [if_neg (show ¬ (false = true) by decide)] at H; exact H
    clear H
    have H := H1
    clear H1
    obtain rfl := Option.some.inj H
    go_enter Try.func47, Try.ntmps47
    go_wp2_with (first | ((with_reducible refine gate_callee (f := 66) rfl ?_); refine goesL_ (some 8) rfl rfl Try.func66 (by kernel_rfl) rfl #[.int .i64 a2, .int .i64 0, .int .i64 12000] rfl (by (try simp only [List.map_toArray, List.map_cons, List.map_nil]); first | done | rfl | (simp only [List.length_drop, List.length_take]; rfl)) ?_; (with_reducible refine (impl_within.calls a2 0 12000 false _ A4.out).mono ?_); rintro e w' ⟨rfl, ⟨nd, rfl⟩⟩; refine ⟨_, rfl, ?_⟩))
    go_ret
    exact ⟨by first | rfl | (simp; done) | (simp [*]; done), by repeat (first | exact Drawn0.refl _ | apply Drawn0.step)⟩

/-! ### impl_AdlerJoin: function 48 -/
def impl_AdlerJoin.f (a0 : Int) (a1 : Int) (a2 : Int) : Option (Int) := (impl_within.f a2 0 12000).bind fun t162 => (if t162 = true then ((impl_parts.f a0).bind fun bt163 => ((impl_parts.f a1).bind fun bt165 => (some ((Go.bits .or .i64 (wrap64 ((Int.tmod (wrap64 ((wrap64 (bt163.2 + bt165.2)) + (wrap64 (a2 * (wrap64 ((wrap64 (bt163.1 + 65521)) - 1)))))) 65521) * 65536)) (Int.tmod (wrap64 ((wrap64 ((wrap64 (bt163.1 + 65521)) - 1)) + bt165.1)) 65521)) % 4294967296)))) else (some 0))
set_option maxHeartbeats 8000000 in
set_option maxRecDepth 100000 in
theorem impl_AdlerJoin.calls (a0 : Int) (a1 : Int) (a2 : Int) (r : Int) (w : World) (h : impl_AdlerJoin.f a0 a1 a2 = some r) :
    Calls Try.prog 48 #[.int .u32 a0, .int .u32 a1, .int .i64 a2] w fun e w' => e = .returned (.int .u32 r) ∧ Drawn0 w w' := by
  have H : ((impl_within.f a2 0 12000).bind fun t162 => (if t162 = true then ((impl_parts.f a0).bind fun bt163 => ((impl_parts.f a1).bind fun bt165 => (some ((Go.bits .or .i64 (wrap64 ((Int.tmod (wrap64 ((wrap64 (bt163.2 + bt165.2)) + (wrap64 (a2 * (wrap64 ((wrap64 (bt163.1 + 65521)) - 1)))))) 65521) * 65536)) (Int.tmod (wrap64 ((wrap64 ((wrap64 (bt163.1 + 65521)) - 1)) + bt165.1)) 65521)) % 4294967296)))) else (some 0))) = some r := h
  clear h
  replace H := Option.bind_eq_some_iff.mp H
  obtain ⟨t162, A40, H⟩ := H
  replace H : (if t162 = true then ((impl_parts.f a0).bind fun bt163 => ((impl_parts.f a1).bind fun bt165 => (some ((Go.bits .or .i64 (wrap64 ((Int.tmod (wrap64 ((wrap64 (bt163.2 + bt165.2)) + (wrap64 (a2 * (wrap64 ((wrap64 (bt163.1 + 65521)) - 1)))))) 65521) * 65536)) (Int.tmod (wrap64 ((wrap64 ((wrap64 (bt163.1 + 65521)) - 1)) + bt165.1)) 65521)) % 4294967296)))) else (some 0)) = some r := H
  have A4 := Aside0.mk A40
  clear A40
  by_cases c5 : t162 = true
  · subst c5
    have H1 : ((impl_parts.f a0).bind fun bt163 => ((impl_parts.f a1).bind fun bt165 => (some ((Go.bits .or .i64 (wrap64 ((Int.tmod (wrap64 ((wrap64 (bt163.2 + bt165.2)) + (wrap64 (a2 * (wrap64 ((wrap64 (bt163.1 + 65521)) - 1)))))) 65521) * 65536)) (Int.tmod (wrap64 ((wrap64 ((wrap64 (bt163.1 + 65521)) - 1)) + bt165.1)) 65521)) % 4294967296)))) = some r := by rw [if_pos rfl] at H; exact H
    clear H
    have H := H1
    clear H1
    replace H := Option.bind_eq_some_iff.mp H
    obtain ⟨⟨t163, t164⟩, A60, H⟩ := H
    replace H : ((impl_parts.f a1).bind fun bt165 => (some ((Go.bits .or .i64 (wrap64 ((Int.tmod (wrap64 ((wrap64 (t164 + bt165.2)) + (wrap64 (a2 * (wrap64 ((wrap64 (t163 + 65521)) - 1)))))) 65521) * 65536)) (Int.tmod (wrap64 ((wrap64 ((wrap64 (t163 + 65521)) - 1)) + bt165.1)) 65521)) % 4294967296))) = some r := H
    have A6 := Aside0.mk A60
    clear A60
    replace H := Option.bind_eq_some_iff.mp H
    obtain ⟨⟨t165, t166⟩, A70, H⟩ := H
    replace H : (some ((Go.bits .or .i64 (wrap64 ((Int.tmod (wrap64 ((wrap64 (t164 + t166)) + (wrap64 (a2 * (wrap64 ((wrap64 (t163 + 65521)) - 1)))))) 65521) * 65536)) (Int.tmod (wrap64 ((wrap64 ((wrap64 (t163 + 65521)) - 1)) + t165)) 65521)) % 4294967296)) = some r := H
    have A7 := Aside0.mk A70
    clear A70
    obtain rfl := Option.some.inj H
    go_enter Try.func48, Try.ntmps48
    go_wp2_with (first | ((with_reducible refine gate_callee (f := 66) rfl ?_); refine goesL_ (some 13) rfl rfl Try.func66 (by kernel_rfl) rfl #[.int .i64 a2, .int .i64 0, .int .i64 12000] rfl (by (try simp only [List.map_toArray, List.map_cons, List.map_nil]); first | done | rfl | (simp only [List.length_drop, List.length_take]; rfl)) ?_; (with_reducible refine (impl_within.calls a2 0 12000 true _ A4.out).mono ?_); rintro e w' ⟨rfl, ⟨nd, rfl⟩⟩; refine ⟨_, rfl, ?_⟩) | ((with_reducible refine gate_callee (f := 92) rfl ?_); refine goesL_ (some 17) rfl rfl Try.func92 (by kernel_rfl) rfl #[.int .u32 a0] rfl (by (try simp only [List.map_toArray, List.map_cons, List.map_nil]); first | done | rfl | (simp only [List.length_drop, List.length_take]; rfl)) ?_; (with_reducible refine (impl_parts.calls a0 t163 t164 _ A6.out).mono ?_); rintro e w' ⟨rfl, ⟨nd, rfl⟩⟩; refine ⟨_, rfl, ?_⟩) | ((with_reducible refine gate_callee (f := 92) rfl ?_); refine goesL_ (some 22) rfl rfl Try.func92 (by kernel_rfl) rfl #[.int .u32 a1] rfl (by (try simp only [List.map_toArray, List.map_cons, List.map_nil]); first | done | rfl | (simp only [List.length_drop, List.length_take]; rfl)) ?_; (with_reducible refine (impl_parts.calls a1 t165 t166 _ A7.out).mono ?_); rintro e w' ⟨rfl, ⟨nd, rfl⟩⟩; refine ⟨_, rfl, ?_⟩))
    go_ret
    exact ⟨by first | rfl | (simp; done) | (simp [*]; done), by repeat (first | exact Drawn0.refl _ | apply Drawn0.step)⟩
  · replace c5 := Bool.eq_false_iff.mpr c5
    subst c5
    have H1 : (some 0) = some r := by rw [if_neg (show ¬ (false = true) by decide)] at H; exact H
    clear H
    have H := H1
    clear H1
    obtain rfl := Option.some.inj H
    go_enter Try.func48, Try.ntmps48
    go_wp2_with (first | ((with_reducible refine gate_callee (f := 66) rfl ?_); refine goesL_ (some 13) rfl rfl Try.func66 (by kernel_rfl) rfl #[.int .i64 a2, .int .i64 0, .int .i64 12000] rfl (by (try simp only [List.map_toArray, List.map_cons, List.map_nil]); first | done | rfl | (simp only [List.length_drop, List.length_take]; rfl)) ?_; (with_reducible refine (impl_within.calls a2 0 12000 false _ A4.out).mono ?_); rintro e w' ⟨rfl, ⟨nd, rfl⟩⟩; refine ⟨_, rfl, ?_⟩))
    go_ret
    exact ⟨by first | rfl | (simp; done) | (simp [*]; done), by repeat (first | exact Drawn0.refl _ | apply Drawn0.step)⟩

/-! ### laws_turned: function 49 -/
section
open Go.Proofs.Ytcdpnaaeokjdaaa.HandKit
/-- One byte of a text turned. -/
def laws_turned.f (a0 : ByteArray) (a1 : Int) (a2 : Int) : Option (ByteArray) := if 0 < (a0.size : Int) then (if 0 ≤ Int.tmod a1 (a0.size : Int) then (some (strOfNums ((bytesOf a0).set (Int.tmod a1 (a0.size : Int)).toNat (Go.bits .xor .u8 (rd (bytesOf a0) (Int.tmod a1 (a0.size : Int))) ((wrap64 (1 + Int.tmod a2 255)) % 256))))) else (none)) else (some a0)
theorem strOf_bytesOf (s : ByteArray) : strOfNums (bytesOf s) = s := by
  apply ByteArray.ext
  apply Array.ext'
  rw [strOfNums_data]
  unfold bytesOf
  rw [List.map_map]
  have : (fun n : Int => UInt8.ofNat n.toNat) ∘ (fun b : UInt8 => (b.toNat : Int)) = id := by
    funext b; simp
  rw [this, List.map_id]
set_option maxHeartbeats 8000000 in
set_option maxRecDepth 100000 in
theorem laws_turned.calls (a0 : ByteArray) (a1 : Int) (a2 : Int) (r : ByteArray) (w : World) (h : laws_turned.f a0 a1 a2 = some r) :
    Calls Try.prog 49 #[.string a0, .int .i64 a1, .int .i64 a2] w fun e w' => e = .returned (.string r) ∧ Below w.heap.size w w' := by
  unfold laws_turned.f at h
  have hbl := bytesOf_len a0
  by_cases h0 : 0 < (a0.size : Int)
  · rw [if_pos h0] at h
    by_cases h1 : 0 ≤ Int.tmod a1 (a0.size : Int)
    · rw [if_pos h1] at h
      have h2 : Int.tmod a1 (a0.size : Int) < a0.size := Int.tmod_lt_of_pos _ h0
      obtain ⟨i, hi⟩ : ∃ i : Nat, Int.tmod a1 (a0.size : Int) = (i : Int) := ⟨(Int.tmod a1 (a0.size : Int)).toNat, by omega⟩
      rw [hi] at h h2
      rw [Int.toNat_natCast] at h
      have hr := Aside0.mk (Option.some.inj h)
      have HI := Aside0.mk hi
      have H2 := Aside0.mk h2
      have HL := Aside0.mk hbl
      clear h h1 hi h2 hbl
      have c0 : decide (0 < (a0.size : Int)) = true := decide_eq_true h0
      have c1 : ((a0.size : Int) == 0) = false := by
        rw [beq_eq_false_iff_ne]; omega
      clear h0
      go_enter Try.func49, Try.ntmps49
      go_wp2_with (first | ((with_reducible refine gate_dst (N := 10) rfl ?_); refine conv_event (N := 10) rfl rfl rfl Try.underlying9 Try.underlying36 Try.underlying5 (s := a0) rfl ?_; intro g hg c w1 row hb hz; have hcell := row.cell i (by rw [HL.out]; have := H2.out; omega); have hfree := row.free i (by have := row.len; rw [HL.out] at this; have := H2.out; omega); have hstr := fun (v : Int) => (row.set i (by rw [HL.out]; have := H2.out; omega) v).string (P := Try.prog) Try.underlying36 Try.underlying5 Try.underlying9 (n := a0.size) (by rw [List.length_set]; exact HL.out) c; have HB := Aside0.mk hb; have HG := Aside0.mk hg; have h2 := H2.out; have hi := HI.out; clear hb hg hz row))
      go_ret
      refine ⟨?_, ?_⟩
      · exact congrArg (fun z => Ending.returned (Value.string z)) hr.out
      · exact below_set HB.out (by rw [HG.out]; omega)
    · rw [if_neg h1] at h; cases h
  · rw [if_neg h0] at h
    have hr := Option.some.inj h
    subst hr
    have HZ := Aside0.mk (show a0.size = 0 by omega)
    have c0 : decide (0 < (a0.size : Int)) = false := decide_eq_false h0
    have c1 : decide (0 < a0.size) = false := decide_eq_false (by omega)
    clear h h0
    go_enter Try.func49, Try.ntmps49
    go_wp2_with (first | ((with_reducible refine gate_dst (N := 10) rfl ?_); refine conv_event (N := 10) rfl rfl rfl Try.underlying9 Try.underlying36 Try.underlying5 (s := a0) rfl ?_; intro g hg c w1 row hb hz; have hstr := row.string (P := Try.prog) Try.underlying36 Try.underlying5 Try.underlying9 (n := a0.size) hbl c; have HB := Aside0.mk hb; clear hb hg hz row))
    go_ret
    refine ⟨?_, HB.out⟩
    rw [strOf_bytesOf]
    rfl
end

end Go.Proofs.Ytcdpnaaeokjdaaa.PFnSums
