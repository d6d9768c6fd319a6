/- Walks of functions that the law FnScans reaches: each call comes to what the Lean function of its name tells. Written by p2.py, a program of this session, by way of the kit's print. -/
import Derived.Test.YtajnobmnkbkkgaaVFnScans
import Derived.Test.YtajnobmnkbkkgaaPFnScansx0
namespace Go.Proofs.Ytajnobmnkbkkgaa.PFnScans
open Go.RowKit Go.Proofs.YtajnobmnkbkkgaaW.PrintWords Go.Proofs.YtajnobmnkbkkgaaW.PrintLast Go.Proofs.YtajnobmnkbkkgaaW.PrintMore
attribute [local go_sem] max2_int min2_int max_two min_two max_three min_three max_four min_four   -- for this text's walks alone
set_option linter.unusedVariables false
set_option linter.unusedSimpArgs false

/-! ### impl_ChannelsOf: function 65 -/
def impl_ChannelsOf.j0 : Nat → Int → Bool → Option (Int)
  | 0, _, _ => none
  | k + 1, x3, x4 => if x4 = true then (some 1) else (if x3 = 4 then (some 2) else (if x3 = 2 then (some 3) else (if x3 = 6 then (some 4) else (some 0))))
def impl_ChannelsOf.f (k : Nat) (a0 : Int) : Option (Int) := if a0 = 0 then (impl_ChannelsOf.j0 k a0 (a0 == 0)) else (impl_ChannelsOf.j0 k a0 (a0 == 3))
set_option maxHeartbeats 8000000 in
set_option maxRecDepth 100000 in
theorem impl_ChannelsOf.calls (k : Nat) (a0 : Int) (r : Int) (w : World) (h : impl_ChannelsOf.f k a0 = some r) :
 Calls Try.prog 65 #[.int .i64 a0] w fun e w' => e = .returned (.int .i64 r) ∧ Drawn0 w w' := by
 have H : (if a0 = 0 then (impl_ChannelsOf.j0 k a0 (a0 == 0)) else (impl_ChannelsOf.j0 k a0 (a0 == 3))) = some r := h; clear h; revert H; refine adR fun HC2 => ?_; go_enter Try.func65, Try.ntmps65
 go_upto_if 4 with (fail)
 go_cut [4] (fun v4 wc => ∃ (kq : Nat) (x4_1 : Bool), v4 = .bool x4_1 ∧ Aside0 (impl_ChannelsOf.j0 kq a0 x4_1 = some r) ∧ Aside0 (kq ≤ k) ∧ Drawn0 w wc)
 case first =>
  revert HC2; refine aoR ?_
  refine ifB (fun c3 => ?_) (fun c3 => ?_)
  · intro H; have c3b0 := beq_iff_eq.mpr c3; have c3b1 := bne_eq_false_iff_eq.mpr c3; clear c3
    (first | rw [c3b0] | (simp only [i64_w, i32_w]; rw [c3b0]) | skip); revert H; refine adR fun H' => ?_; go_wp2; go_meet
    case rel => exact ⟨_, ((a0 == 0)), eQ, H', ⟨lE⟩, dQ⟩
  · intro H; have c3b0 := beq_eq_false_iff_ne.mpr c3; have c3b1 := bne_iff_ne.mpr c3
    (first | rw [c3b0] | (simp only [i64_w, i32_w]; rw [c3b0]) | skip); revert H; refine adR fun H' => ?_; go_wp2; go_meet
    case rel => exact ⟨_, ((a0 == 3)), eQ, H', ⟨lE⟩, dQ⟩
 case rest =>
  clear HC2; (try clear p2); (try clear c3); (try clear c3b0); (try clear c3b1); obtain ⟨kq, x4_1, rfl, HA, HJ1, ⟨mc1, rfl⟩⟩ := hcut; rcases kq with _ | kj1
  · exact absurd HA.out (by simp [impl_ChannelsOf.j0])
  revert HA; refine aoR ?_; intro H; simp only [impl_ChannelsOf.j0] at H; revert H
  refine ifB (fun c4 => ?_) (fun c4 => ?_)
  · intro H; subst c4; obtain rfl := Option.some.inj H; go_wp2; go_ret; exact ⟨eQ, dQ⟩
  · intro H; replace c4 := Bool.eq_false_iff.mpr c4; subst c4; revert H
    refine ifB (fun c5 => ?_) (fun c5 => ?_)
    · intro H; have c5b0 := beq_iff_eq.mpr c5; have c5b1 := bne_eq_false_iff_eq.mpr c5; clear c5; obtain rfl := Option.some.inj H; go_wp2; go_ret; exact ⟨eQ, dQ⟩
    · intro H; have c5b0 := beq_eq_false_iff_ne.mpr c5; have c5b1 := bne_iff_ne.mpr c5; revert H
      refine ifB (fun c6 => ?_) (fun c6 => ?_)
      · intro H; have c6b0 := beq_iff_eq.mpr c6; have c6b1 := bne_eq_false_iff_eq.mpr c6; clear c6; obtain rfl := Option.some.inj H; go_wp2; go_ret; exact ⟨eQ, dQ⟩
      · intro H; have c6b0 := beq_eq_false_iff_ne.mpr c6; have c6b1 := bne_iff_ne.mpr c6; revert H
        refine ifB (fun c7 => ?_) (fun c7 => ?_)
        · intro H; have c7b0 := beq_iff_eq.mpr c7; have c7b1 := bne_eq_false_iff_eq.mpr c7; clear c7; obtain rfl := Option.some.inj H; go_wp2; go_ret; exact ⟨eQ, dQ⟩
        · intro H; have c7b0 := beq_eq_false_iff_ne.mpr c7; have c7b1 := bne_iff_ne.mpr c7; obtain rfl := Option.some.inj H; go_wp2; go_ret; exact ⟨eQ, dQ⟩

/-! ### impl_within: function 82 -/
def impl_within.f (a0 : Int) (a1 : Int) (a2 : Int) : Option (Bool) := if a0 ≥ a1 then (some (decide (a0 ≤ a2))) else (some false)
set_option maxHeartbeats 8000000 in
set_option maxRecDepth 100000 in
theorem impl_within.calls (a0 : Int) (a1 : Int) (a2 : Int) (r : Bool) (w : World) (h : impl_within.f a0 a1 a2 = some r) :
 Calls Try.prog 82 #[.int .i64 a0, .int .i64 a1, .int .i64 a2] w fun e w' => e = .returned (.bool r) ∧ Drawn0 w w' := by
 have H : (if a0 ≥ a1 then (some (decide (a0 ≤ a2))) else (some false)) = some r := h; clear h; revert H
 refine ifB (fun c4 => ?_) (fun c4 => ?_)
 · intro H; have c4b0 := decide_eq_true c4; clear c4; obtain rfl := Option.some.inj H; go_enter Try.func82, Try.ntmps82; go_wp2; go_ret; exact ⟨eQ, dQ⟩
 · intro H; have c4b0 := decide_eq_false c4; clear c4; obtain rfl := Option.some.inj H; go_enter Try.func82, Try.ntmps82; go_wp2; go_ret; exact ⟨eQ, dQ⟩

/-! ### impl_isSide: function 92 -/
def impl_isSide.f (a0 : Int) : Option (Bool) := (impl_within.f a0 1 24).bind fun t191 => (some t191)
set_option maxHeartbeats 8000000 in
set_option maxRecDepth 100000 in
theorem impl_isSide.calls (a0 : Int) (r : Bool) (w : World) (h : impl_isSide.f a0 = some r) :
 Calls Try.prog 92 #[.int .i64 a0] w fun e w' => e = .returned (.bool r) ∧ Drawn0 w w' := by
 have H : ((impl_within.f a0 1 24).bind fun t191 => (some t191)) = some r := h; clear h; revert H; refine bdR fun t191 A2 => ?_; intro H; obtain rfl := Option.some.inj H; go_enter Try.func92, Try.ntmps92
 go_wp2_with (first | ((with_reducible refine gC 82 ?_); refine gL (some 4) Try.func82 #[.int .i64 a0, .int .i64 1, .int .i64 24] ?_; (with_reducible refine (impl_within.calls a0 1 24 t191 _ A2.out).mono ?_); rintro e w' ⟨rfl, ⟨nd, rfl⟩⟩; refine ⟨_, rfl, ?_⟩)); go_ret; exact ⟨eQ, dQ⟩

/-! ### impl_isDepth: function 164 -/
def impl_isDepth.f (a0 : Int) : Option (Bool) := if a0 = 1 then (some true) else (if a0 = 2 then (some true) else (if a0 = 4 then (some true) else (if a0 = 8 then (some true) else (some (a0 == 16)))))
set_option maxHeartbeats 8000000 in
set_option maxRecDepth 100000 in
theorem impl_isDepth.calls (a0 : Int) (r : Bool) (w : World) (h : impl_isDepth.f a0 = some r) :
 Calls Try.prog 164 #[.int .i64 a0] w fun e w' => e = .returned (.bool r) ∧ Drawn0 w w' := by
 have H : (if a0 = 1 then (some true) else (if a0 = 2 then (some true) else (if a0 = 4 then (some true) else (if a0 = 8 then (some true) else (some (a0 == 16)))))) = some r := h; clear h; revert H
 refine ifB (fun c2 => ?_) (fun c2 => ?_)
 · intro H; have c2b0 := beq_iff_eq.mpr c2; have c2b1 := bne_eq_false_iff_eq.mpr c2; clear c2; obtain rfl := Option.some.inj H; go_enter Try.func164, Try.ntmps164; go_wp2; go_ret; exact ⟨eQ, dQ⟩
 · intro H; have c2b0 := beq_eq_false_iff_ne.mpr c2; have c2b1 := bne_iff_ne.mpr c2; revert H
   refine ifB (fun c3 => ?_) (fun c3 => ?_)
   · intro H; have c3b0 := beq_iff_eq.mpr c3; have c3b1 := bne_eq_false_iff_eq.mpr c3; clear c3; obtain rfl := Option.some.inj H; go_enter Try.func164, Try.ntmps164; go_wp2; go_ret; exact ⟨eQ, dQ⟩
   · intro H; have c3b0 := beq_eq_false_iff_ne.mpr c3; have c3b1 := bne_iff_ne.mpr c3; revert H
     refine ifB (fun c4 => ?_) (fun c4 => ?_)
     · intro H; have c4b0 := beq_iff_eq.mpr c4; have c4b1 := bne_eq_false_iff_eq.mpr c4; clear c4; obtain rfl := Option.some.inj H; go_enter Try.func164, Try.ntmps164; go_wp2; go_ret; exact ⟨eQ, dQ⟩
     · intro H; have c4b0 := beq_eq_false_iff_ne.mpr c4; have c4b1 := bne_iff_ne.mpr c4; revert H
       refine ifB (fun c5 => ?_) (fun c5 => ?_)
       · intro H; have c5b0 := beq_iff_eq.mpr c5; have c5b1 := bne_eq_false_iff_eq.mpr c5; clear c5; obtain rfl := Option.some.inj H; go_enter Try.func164, Try.ntmps164; go_wp2; go_ret; exact ⟨eQ, dQ⟩
       · intro H; have c5b0 := beq_eq_false_iff_ne.mpr c5; have c5b1 := bne_iff_ne.mpr c5; obtain rfl := Option.some.inj H; go_enter Try.func164, Try.ntmps164; go_wp2; go_ret; exact ⟨eQ, dQ⟩

/-! ### impl_DepthOk: function 114 -/
def impl_DepthOk.f (k : Nat) (a0 : Int) (a1 : Int) : Option (Bool) := if a0 = 0 then ((impl_isDepth.f a1).bind fun t192 => (some t192)) else (if a0 = 3 then ((impl_isDepth.f a1).bind fun t193 => (if t193 = true then (some (decide (a1 < 16))) else (some false))) else ((impl_ChannelsOf.f k a0).bind fun t194 => (if t194 > 0 then (if a1 = 8 then (some true) else (some (a1 == 16))) else (some false))))
set_option maxHeartbeats 8000000 in
set_option maxRecDepth 100000 in
theorem impl_DepthOk.calls (k : Nat) (a0 : Int) (a1 : Int) (r : Bool) (w : World) (h : impl_DepthOk.f k a0 a1 = some r) :
 Calls Try.prog 114 #[.int .i64 a0, .int .i64 a1] w fun e w' => e = .returned (.bool r) ∧ Drawn0 w w' := by
 unfold impl_DepthOk.f at h; have H := h; clear h; revert H
 refine ifB (fun c3 => ?_) (fun c3 => ?_)
 · intro H; have c3b0 := beq_iff_eq.mpr c3; have c3b1 := bne_eq_false_iff_eq.mpr c3; clear c3; revert H; refine bdR fun t192 A4 => ?_; intro H; obtain rfl := Option.some.inj H; go_enter Try.func114, Try.ntmps114
   go_wp2_with (first | ((with_reducible refine gC 164 ?_); refine gL (some 9) Try.func164 #[.int .i64 a1] ?_; (with_reducible refine (impl_isDepth.calls a1 t192 _ A4.out).mono ?_); rintro e w' ⟨rfl, ⟨nd, rfl⟩⟩; refine ⟨_, rfl, ?_⟩)); go_ret; exact ⟨eQ, dQ⟩
 · intro H; have c3b0 := beq_eq_false_iff_ne.mpr c3; have c3b1 := bne_iff_ne.mpr c3; revert H
   refine ifB (fun c5 => ?_) (fun c5 => ?_)
   · intro H; have c5b0 := beq_iff_eq.mpr c5; have c5b1 := bne_eq_false_iff_eq.mpr c5; clear c5; revert H; refine bdR fun t193 A6 => ?_
     refine ifB (fun c7 => ?_) (fun c7 => ?_)
     · intro H; subst c7; obtain rfl := Option.some.inj H; go_enter Try.func114, Try.ntmps114
       go_wp2_with (first | ((with_reducible refine gC 164 ?_); refine gL (some 13) Try.func164 #[.int .i64 a1] ?_; (with_reducible refine (impl_isDepth.calls a1 true _ A6.out).mono ?_); rintro e w' ⟨rfl, ⟨nd, rfl⟩⟩; refine ⟨_, rfl, ?_⟩)); go_ret; exact ⟨eQ, dQ⟩
     · intro H; replace c7 := Bool.eq_false_iff.mpr c7; subst c7; obtain rfl := Option.some.inj H; go_enter Try.func114, Try.ntmps114
       go_wp2_with (first | ((with_reducible refine gC 164 ?_); refine gL (some 13) Try.func164 #[.int .i64 a1] ?_; (with_reducible refine (impl_isDepth.calls a1 false _ A6.out).mono ?_); rintro e w' ⟨rfl, ⟨nd, rfl⟩⟩; refine ⟨_, rfl, ?_⟩)); go_ret; exact ⟨eQ, dQ⟩
   · intro H; have c5b0 := beq_eq_false_iff_ne.mpr c5; have c5b1 := bne_iff_ne.mpr c5; revert H; refine bdR fun t194 A8 => ?_
     refine ifB (fun c9 => ?_) (fun c9 => ?_)
     · intro H; have c9b0 := decide_eq_true c9; clear c9; revert H
       refine ifB (fun c10 => ?_) (fun c10 => ?_)
       · intro H; have c10b0 := beq_iff_eq.mpr c10; have c10b1 := bne_eq_false_iff_eq.mpr c10; clear c10; obtain rfl := Option.some.inj H; go_enter Try.func114, Try.ntmps114
         go_wp2_with (first | ((with_reducible refine gC 65 ?_); refine gL (some 19) Try.func65 #[.int .i64 a0] ?_; (with_reducible refine (impl_ChannelsOf.calls k a0 t194 _ A8.out).mono ?_); rintro e w' ⟨rfl, ⟨nd, rfl⟩⟩; refine ⟨_, rfl, ?_⟩)); go_ret; exact ⟨eQ, dQ⟩
       · intro H; have c10b0 := beq_eq_false_iff_ne.mpr c10; have c10b1 := bne_iff_ne.mpr c10; obtain rfl := Option.some.inj H; go_enter Try.func114, Try.ntmps114
         go_wp2_with (first | ((with_reducible refine gC 65 ?_); refine gL (some 19) Try.func65 #[.int .i64 a0] ?_; (with_reducible refine (impl_ChannelsOf.calls k a0 t194 _ A8.out).mono ?_); rintro e w' ⟨rfl, ⟨nd, rfl⟩⟩; refine ⟨_, rfl, ?_⟩)); go_ret; exact ⟨eQ, dQ⟩
     · intro H; have c9b0 := decide_eq_false c9; clear c9; obtain rfl := Option.some.inj H; go_enter Try.func114, Try.ntmps114
       go_wp2_with (first | ((with_reducible refine gC 65 ?_); refine gL (some 19) Try.func65 #[.int .i64 a0] ?_; (with_reducible refine (impl_ChannelsOf.calls k a0 t194 _ A8.out).mono ?_); rintro e w' ⟨rfl, ⟨nd, rfl⟩⟩; refine ⟨_, rfl, ?_⟩)); go_ret; exact ⟨eQ, dQ⟩

/-! ### impl_powerOf: function 126 -/
def impl_powerOf.f (a0 : Int) : Option (Int) := (impl_within.f a0 0 62).bind fun t195 => (if t195 = true then (if 0 ≤ a0 then (some (shl .i64 1 a0)) else (none)) else (some 0))
set_option maxHeartbeats 8000000 in
set_option maxRecDepth 100000 in
theorem impl_powerOf.calls (a0 : Int) (r : Int) (w : World) (h : impl_powerOf.f a0 = some r) :
 Calls Try.prog 126 #[.int .i64 a0] w fun e w' => e = .returned (.int .i64 r) ∧ Drawn0 w w' := by
 have H : ((impl_within.f a0 0 62).bind fun t195 => (if t195 = true then (if 0 ≤ a0 then (some (shl .i64 1 a0)) else (none)) else (some 0))) = some r := h; clear h; revert H; refine bdR fun t195 A2 => ?_
 refine ifB (fun c3 => ?_) (fun c3 => ?_)
 · intro H; subst c3; revert H; refine ifR fun c4 => ?_; intro H; have c4b0 := eq_true c4; have c4b1 := decide_eq_true c4; clear c4; obtain ⟨ji5, hji5⟩ : ∃ j_ : Int, (shl .i64 1 a0) = j_ := ⟨_, rfl⟩; replace H : (some ji5) = some r := by first | (rw [hji5] at H; exact H) | (simp only [hji5] at H ⊢; exact H)
   (try rw [hji5] at A2); have hji5_ : (IntKind.i64.wrap (1 * 2 ^ min a0.toNat 64)) = ji5 := hji5; have hji5z : a0 ≤ 64 → (IntKind.i64.wrap (1 * 2 ^ a0.toNat)) = ji5 := shl_small hji5; have hji5u : (IntKind.i64.wrap (2 ^ min a0.toNat 64)) = ji5 := by have h_ := hji5_; rw [Int.one_mul] at h_; exact h_
   have hji5v : a0 ≤ 64 → (IntKind.i64.wrap (2 ^ a0.toNat)) = ji5 := fun hle_ => by have h_ := hji5z hle_; rw [Int.one_mul] at h_; exact h_
   have hji5y : (wrap64 (1 * 2 ^ min a0.toNat 64)) = ji5 := (i64_w _).symm.trans hji5_; have hji5x : a0 ≤ 64 → (wrap64 (1 * 2 ^ a0.toNat)) = ji5 := fun h_ => (i64_w _).symm.trans (hji5z h_)
   obtain rfl := Option.some.inj H; go_enter Try.func126, Try.ntmps126
   go_wp2_with (first | ((with_reducible refine gC 82 ?_); refine gL (some 4) Try.func82 #[.int .i64 a0, .int .i64 0, .int .i64 62] ?_; (with_reducible refine (impl_within.calls a0 0 62 true _ A2.out).mono ?_); rintro e w' ⟨rfl, ⟨nd, rfl⟩⟩; refine ⟨_, rfl, ?_⟩)); go_ret; exact ⟨by first | rfl | (simp; done) | (simp only [← hji5] <;> (first | rfl | simp)) | (simp [*]; done), dQ⟩
 · intro H; replace c3 := Bool.eq_false_iff.mpr c3; subst c3; obtain rfl := Option.some.inj H; go_enter Try.func126, Try.ntmps126
   go_wp2_with (first | ((with_reducible refine gC 82 ?_); refine gL (some 4) Try.func82 #[.int .i64 a0, .int .i64 0, .int .i64 62] ?_; (with_reducible refine (impl_within.calls a0 0 62 false _ A2.out).mono ?_); rintro e w' ⟨rfl, ⟨nd, rfl⟩⟩; refine ⟨_, rfl, ?_⟩)); go_ret; exact ⟨eQ, dQ⟩

/-! ### impl_samplesOk: function 139 -/
def impl_samplesOk.l0 : Nat → Int → List Int → Int → Int → Option (Bool)
  | 0, _, _, _, _ => none
  | k + 1, x1, x7, x8, x9 => if x9 < x8 then (if 0 ≤ x9 then (if x9 < (x7.length : Int) then ((impl_powerOf.f x1).bind fun t197 => ((impl_within.f (rd x7 x9) 0 (wrap64 (t197 - 1))).bind fun t198 => (if t198 = true then (impl_samplesOk.l0 k x1 x7 x8 (wrap64 (x9 + 1))) else (some false)))) else (none)) else (none)) else (some true)
def impl_samplesOk.f (k : Nat) (l0 : List Int) (a1 : Int) : Option (Bool) := impl_samplesOk.l0 k a1 l0 (l0.length : Int) 0
set_option maxHeartbeats 8000000 in
set_option maxRecDepth 100000 in
theorem impl_samplesOk.calls (k : Nat) (A0 : Option Addr) (c0 : Nat) (l0 : List Int) (a1 : Int) (r : Bool) (w : World) (hr0 : Kd.C (Kd.int .i64) w A0 l0.length l0) (hc0 : l0.length ≤ c0) (h : impl_samplesOk.f k l0 a1 = some r) :
 Calls Try.prog 139 #[.slice A0 l0.length c0, .int .i64 a1] w fun e w' => e = .returned (.bool r) ∧ Drawn0 w w' := by
 have HR0 := aM hr0; have HC0 := aM hc0; clear hr0 hc0; have H : (impl_samplesOk.l0 k a1 l0 (l0.length : Int) 0) = some r := h; clear h; revert H; refine adR fun H' => ?_; go_enter Try.func139, Try.ntmps139; go_wp2
 go_loopg [9] k (fun kq v9 w' => ∃ (x9_1 : Int), v9 = .int .i64 x9_1 ∧ Aside0 (impl_samplesOk.l0 kq a1 l0 (l0.length : Int) x9_1 = some r) ∧ Aside0 (kq ≤ k) ∧ Drawn0 w w')
 case atStart => exact ⟨(0), eQ, H', ⟨Nat.le_refl _⟩, dQ⟩
 case round =>
  clear H'; (try clear c1); (try clear p2); obtain ⟨x9_1, rfl, HA, HK1, ⟨m1, rfl⟩⟩ := hrel; rcases gk with _ | k1
  · exact absurd HA.out (by simp [impl_samplesOk.l0])
  revert HA; refine aoR ?_; intro H; simp only [impl_samplesOk.l0] at H; revert H
  refine ifB (fun c3 => ?_) (fun c3 => ?_)
  · intro H; have c3b0 := decide_eq_true c3; clear c3; revert H; refine ifR fun c4 => ?_; intro H; have c4b0 := decide_eq_true c4; clear c4; revert H; refine ifR fun c5 => ?_; intro H; have c5b0 := decide_eq_true c5; clear c5; revert H; refine bdR fun t197 A6 => ?_; refine bdR fun t198 A7 => ?_
    refine ifB (fun c8 => ?_) (fun c8 => ?_)
    · intro H; subst c8; revert H; refine adR fun H' => ?_; have p196 : 0 ≤ (x9_1 : Int) := bD; have q196 : x9_1 < (l0.length : Int) := bD; obtain ⟨ad196, e196, hx196_0⟩ := Kd.at_int HR0.out x9_1 p196 q196; cases e196; replace p196 := eq_true p196; replace q196 := eq_true q196
      go_wp2_with (first | ((with_reducible refine gC 126 ?_); refine gL (some 15) Try.func126 #[.int .i64 a1] ?_; (with_reducible refine (impl_powerOf.calls a1 t197 _ A6.out).mono ?_); rintro e w' ⟨rfl, ⟨nd, rfl⟩⟩; refine ⟨_, rfl, ?_⟩) | ((with_reducible refine gC 82 ?_); refine gL (some 17) Try.func82 #[.int .i64 (rd l0 x9_1), .int .i64 0, .int .i64 (wrap64 (t197 - 1))] ?_; (with_reducible refine (impl_within.calls (rd l0 x9_1) 0 (wrap64 (t197 - 1)) true _ A7.out).mono ?_); rintro e w' ⟨rfl, ⟨nd, rfl⟩⟩; refine ⟨_, rfl, ?_⟩)); go_roundg k1
      case measure => have := HK1.out; omega
      case rel => exact ⟨(wrap64 (x9_1 + 1)), eQ, H', ⟨by have := HK1.out; omega⟩, dQ⟩
    · intro H; replace c8 := Bool.eq_false_iff.mpr c8; subst c8; obtain rfl := Option.some.inj H; have p196 : 0 ≤ (x9_1 : Int) := bD; have q196 : x9_1 < (l0.length : Int) := bD; obtain ⟨ad196, e196, hx196_0⟩ := Kd.at_int HR0.out x9_1 p196 q196; cases e196; replace p196 := eq_true p196; replace q196 := eq_true q196
      go_wp2_with (first | ((with_reducible refine gC 126 ?_); refine gL (some 15) Try.func126 #[.int .i64 a1] ?_; (with_reducible refine (impl_powerOf.calls a1 t197 _ A6.out).mono ?_); rintro e w' ⟨rfl, ⟨nd, rfl⟩⟩; refine ⟨_, rfl, ?_⟩) | ((with_reducible refine gC 82 ?_); refine gL (some 17) Try.func82 #[.int .i64 (rd l0 x9_1), .int .i64 0, .int .i64 (wrap64 (t197 - 1))] ?_; (with_reducible refine (impl_within.calls (rd l0 x9_1) 0 (wrap64 (t197 - 1)) false _ A7.out).mono ?_); rintro e w' ⟨rfl, ⟨nd, rfl⟩⟩; refine ⟨_, rfl, ?_⟩)); go_ret; exact ⟨eQ, dQ⟩
  · intro H; have c3b0 := decide_eq_false c3; clear c3; obtain rfl := Option.some.inj H; go_wp2; go_ret; exact ⟨eQ, dQ⟩

/-! ### impl_RasterOk: function 64 -/
def impl_RasterOk.j0 : Nat → Bool → Int → Int → Int → Int → List Int → Option (Bool)
  | 0, _, _, _, _, _, _ => none
  | k + 1, x20, x200000, x200001, x200002, x200003, x200004 => if x20 = true then (some false) else ((impl_ChannelsOf.f k x200002).bind fun t203 => (if (x200004.length : Int) = (wrap64 ((wrap64 (x200000 * x200001)) * t203)) then ((impl_samplesOk.f k x200004 x200003).bind fun t204 => (some t204)) else (some false)))
def impl_RasterOk.f (k : Nat) (a0_0 : Int) (a0_1 : Int) (a0_2 : Int) (a0_3 : Int) (l0_4 : List Int) : Option (Bool) := (impl_isSide.f a0_0).bind fun t200 => (if t200 = true then ((impl_isSide.f a0_1).bind fun t201 => (if t201 = true then ((impl_DepthOk.f k a0_2 a0_3).bind fun t202 => (impl_RasterOk.j0 k (!t202) a0_0 a0_1 a0_2 a0_3 l0_4)) else (impl_RasterOk.j0 k true a0_0 a0_1 a0_2 a0_3 l0_4))) else (impl_RasterOk.j0 k true a0_0 a0_1 a0_2 a0_3 l0_4))
set_option maxHeartbeats 8000000 in
set_option maxRecDepth 100000 in
theorem impl_RasterOk.calls (k : Nat) (a0_0 : Int) (a0_1 : Int) (a0_2 : Int) (a0_3 : Int) (A0_4 : Option Addr) (c0_4 : Nat) (l0_4 : List Int) (r : Bool) (w : World) (hr0_4 : Kd.C (Kd.int .i64) w A0_4 l0_4.length l0_4) (hc0_4 : l0_4.length ≤ c0_4) (h : impl_RasterOk.f k a0_0 a0_1 a0_2 a0_3 l0_4 = some r) :
 Calls Try.prog 64 #[.agg #[.int .i64 a0_0, .int .i64 a0_1, .int .i64 a0_2, .int .i64 a0_3, .slice A0_4 l0_4.length c0_4]] w fun e w' => e = .returned (.bool r) ∧ Below w.heap.size w w' := by
 have hu29 := Try.underlying29; have HR0_4 := aM hr0_4; have HC0_4 := aM hc0_4; clear hr0_4 hc0_4; have HB := aM (Below.refl w.heap.size w); unfold impl_RasterOk.f at h; have H := h; clear h; revert H; refine adR fun HC2 => ?_; go_enter Try.func64, Try.ntmps64
 go_upto_region 1 with (first | ((with_reducible refine gD 1 ?_); refine bE 1 #[.int .i64 a0_0, .int .i64 a0_1, .int .i64 a0_2, .int .i64 a0_3, .slice A0_4 l0_4.length c0_4] 29 ?_; intro gb199 hg w3 hbox hb; have BK199 := aM (hbox); have GW199 := aM ((sZ hg : w.heap.size ≤ gb199)); have GE199 := aM ((sZ hg : w.heap.size ≤ gb199)); replace HB := aM (below_step hB hb); clear hb hbox hg))
 repeat (go_quiet (first | ((with_reducible refine gD 1 ?_); refine bE 1 #[.int .i64 a0_0, .int .i64 a0_1, .int .i64 a0_2, .int .i64 a0_3, .slice A0_4 l0_4.length c0_4] 29 ?_; intro gb199 hg w3 hbox hb; have n0_ := aM (below_step hB hb); have n1_ := aM (hbox); have n2_ := aM ((sZ hg : w.heap.size ≤ gb199)); have n3_ := aM ((sZ hg : w.heap.size ≤ gb199)); clear HB; have HB := n0_; have BK199 := n1_; have GW199 := n2_; have GE199 := n3_; clear n0_ n1_ n2_ n3_; clear hb hbox hg)); go_upto_region 1 with (first | ((with_reducible refine gD 1 ?_); refine bE 1 #[.int .i64 a0_0, .int .i64 a0_1, .int .i64 a0_2, .int .i64 a0_3, .slice A0_4 l0_4.length c0_4] 29 ?_; intro gb199 hg w3 hbox hb; have n0_ := aM (below_step hB hb); have n1_ := aM (hbox); have n2_ := aM ((sZ hg : w.heap.size ≤ gb199)); have n3_ := aM ((sZ hg : w.heap.size ≤ gb199)); clear HB; have HB := n0_; have BK199 := n1_; have GW199 := n2_; have GE199 := n3_; clear n0_ n1_ n2_ n3_; clear hb hbox hg)))
 (try simp only [Act.put, List.setIfInBounds_toArray, List.set_cons_zero, List.set_cons_succ])
 go_cut [20] (fun v20 wc => ∃ (kq : Nat) (x20_1 : Bool), v20 = .bool x20_1 ∧ Aside0 (impl_RasterOk.j0 kq x20_1 a0_0 a0_1 a0_2 a0_3 l0_4 = some r) ∧ Aside0 (kq ≤ k) ∧ Aside0 (wc.heap[gb199]? = some (.cells #[.int .i64 a0_0, .int .i64 a0_1, .int .i64 a0_2, .int .i64 a0_3, (.slice A0_4 l0_4.length c0_4)] 29 (0, 0))) ∧ Aside0 (Below w.heap.size w wc))
 case first =>
  revert HC2; refine aoR ?_; refine bdR fun t200 A4 => ?_
  refine ifB (fun c5 => ?_) (fun c5 => ?_)
  · intro H; subst c5; revert H; refine bdR fun t201 A6 => ?_
    refine ifB (fun c7 => ?_) (fun c7 => ?_)
    · intro H; subst c7; revert H; refine bdR fun t202 A8 => ?_; refine adR fun H' => ?_; obtain ⟨hcz9_0, hcz9_1, hcz9_2, hcz9_3, hcz9_4⟩ := blk_c5 BK199.out; obtain ⟨hfz9_0, hfz9_1, hfz9_2, hfz9_3, hfz9_4⟩ := blk_f5 BK199.out
      go_wp2_with (first | (go_at_call 92; (with_reducible refine (impl_isSide.calls a0_0 true _ A4.out).mono ?_); rintro e w' ⟨rfl, ⟨nd, rfl⟩⟩; (try first | exact ⟨rfl, _, World.drewN_drewN _ _ _⟩ | exact ⟨rfl, _, Eq.trans (World.drewN_drewN _ _ _) (congrArg (World.drewN _) (Nat.add_assoc _ _ _))⟩)) | (go_at_call 92; (with_reducible refine (impl_isSide.calls a0_1 true _ A6.out).mono ?_); rintro e w' ⟨rfl, ⟨nd, rfl⟩⟩; (try first | exact ⟨rfl, _, World.drewN_drewN _ _ _⟩ | exact ⟨rfl, _, Eq.trans (World.drewN_drewN _ _ _) (congrArg (World.drewN _) (Nat.add_assoc _ _ _))⟩)) | (go_at_call 114; (with_reducible refine (impl_DepthOk.calls k a0_2 a0_3 t202 _ A8.out).mono ?_); rintro e w' ⟨rfl, ⟨nd, rfl⟩⟩; (try first | exact ⟨rfl, _, World.drewN_drewN _ _ _⟩ | exact ⟨rfl, _, Eq.trans (World.drewN_drewN _ _ _) (congrArg (World.drewN _) (Nat.add_assoc _ _ _))⟩)))
      repeat (go_quiet (first | (go_at_call 92; (with_reducible refine (impl_isSide.calls a0_0 true _ A4.out).mono ?_); rintro e w' ⟨rfl, ⟨nd, rfl⟩⟩; (try first | exact ⟨rfl, _, World.drewN_drewN _ _ _⟩ | exact ⟨rfl, _, Eq.trans (World.drewN_drewN _ _ _) (congrArg (World.drewN _) (Nat.add_assoc _ _ _))⟩)) | (go_at_call 92; (with_reducible refine (impl_isSide.calls a0_1 true _ A6.out).mono ?_); rintro e w' ⟨rfl, ⟨nd, rfl⟩⟩; (try first | exact ⟨rfl, _, World.drewN_drewN _ _ _⟩ | exact ⟨rfl, _, Eq.trans (World.drewN_drewN _ _ _) (congrArg (World.drewN _) (Nat.add_assoc _ _ _))⟩)) | (go_at_call 114; (with_reducible refine (impl_DepthOk.calls k a0_2 a0_3 t202 _ A8.out).mono ?_); rintro e w' ⟨rfl, ⟨nd, rfl⟩⟩; (try first | exact ⟨rfl, _, World.drewN_drewN _ _ _⟩ | exact ⟨rfl, _, Eq.trans (World.drewN_drewN _ _ _) (congrArg (World.drewN _) (Nat.add_assoc _ _ _))⟩))); try go_wp2_with (first | (go_at_call 92; (with_reducible refine (impl_isSide.calls a0_0 true _ A4.out).mono ?_); rintro e w' ⟨rfl, ⟨nd, rfl⟩⟩; (try first | exact ⟨rfl, _, World.drewN_drewN _ _ _⟩ | exact ⟨rfl, _, Eq.trans (World.drewN_drewN _ _ _) (congrArg (World.drewN _) (Nat.add_assoc _ _ _))⟩)) | (go_at_call 92; (with_reducible refine (impl_isSide.calls a0_1 true _ A6.out).mono ?_); rintro e w' ⟨rfl, ⟨nd, rfl⟩⟩; (try first | exact ⟨rfl, _, World.drewN_drewN _ _ _⟩ | exact ⟨rfl, _, Eq.trans (World.drewN_drewN _ _ _) (congrArg (World.drewN _) (Nat.add_assoc _ _ _))⟩)) | (go_at_call 114; (with_reducible refine (impl_DepthOk.calls k a0_2 a0_3 t202 _ A8.out).mono ?_); rintro e w' ⟨rfl, ⟨nd, rfl⟩⟩; (try first | exact ⟨rfl, _, World.drewN_drewN _ _ _⟩ | exact ⟨rfl, _, Eq.trans (World.drewN_drewN _ _ _) (congrArg (World.drewN _) (Nat.add_assoc _ _ _))⟩))))
      go_meet
      case rel => exact ⟨_, (!t202), eQ, H', ⟨lE⟩, ⟨bI BK199.out⟩, ⟨hB⟩⟩
    · intro H; replace c7 := Bool.eq_false_iff.mpr c7; subst c7; revert H; refine adR fun H' => ?_; obtain ⟨hcz10_0, hcz10_1, hcz10_2, hcz10_3, hcz10_4⟩ := blk_c5 BK199.out; obtain ⟨hfz10_0, hfz10_1, hfz10_2, hfz10_3, hfz10_4⟩ := blk_f5 BK199.out
      go_wp2_with (first | (go_at_call 92; (with_reducible refine (impl_isSide.calls a0_0 true _ A4.out).mono ?_); rintro e w' ⟨rfl, ⟨nd, rfl⟩⟩; (try first | exact ⟨rfl, _, World.drewN_drewN _ _ _⟩ | exact ⟨rfl, _, Eq.trans (World.drewN_drewN _ _ _) (congrArg (World.drewN _) (Nat.add_assoc _ _ _))⟩)) | (go_at_call 92; (with_reducible refine (impl_isSide.calls a0_1 false _ A6.out).mono ?_); rintro e w' ⟨rfl, ⟨nd, rfl⟩⟩; (try first | exact ⟨rfl, _, World.drewN_drewN _ _ _⟩ | exact ⟨rfl, _, Eq.trans (World.drewN_drewN _ _ _) (congrArg (World.drewN _) (Nat.add_assoc _ _ _))⟩)))
      repeat (go_quiet (first | (go_at_call 92; (with_reducible refine (impl_isSide.calls a0_0 true _ A4.out).mono ?_); rintro e w' ⟨rfl, ⟨nd, rfl⟩⟩; (try first | exact ⟨rfl, _, World.drewN_drewN _ _ _⟩ | exact ⟨rfl, _, Eq.trans (World.drewN_drewN _ _ _) (congrArg (World.drewN _) (Nat.add_assoc _ _ _))⟩)) | (go_at_call 92; (with_reducible refine (impl_isSide.calls a0_1 false _ A6.out).mono ?_); rintro e w' ⟨rfl, ⟨nd, rfl⟩⟩; (try first | exact ⟨rfl, _, World.drewN_drewN _ _ _⟩ | exact ⟨rfl, _, Eq.trans (World.drewN_drewN _ _ _) (congrArg (World.drewN _) (Nat.add_assoc _ _ _))⟩))); try go_wp2_with (first | (go_at_call 92; (with_reducible refine (impl_isSide.calls a0_0 true _ A4.out).mono ?_); rintro e w' ⟨rfl, ⟨nd, rfl⟩⟩; (try first | exact ⟨rfl, _, World.drewN_drewN _ _ _⟩ | exact ⟨rfl, _, Eq.trans (World.drewN_drewN _ _ _) (congrArg (World.drewN _) (Nat.add_assoc _ _ _))⟩)) | (go_at_call 92; (with_reducible refine (impl_isSide.calls a0_1 false _ A6.out).mono ?_); rintro e w' ⟨rfl, ⟨nd, rfl⟩⟩; (try first | exact ⟨rfl, _, World.drewN_drewN _ _ _⟩ | exact ⟨rfl, _, Eq.trans (World.drewN_drewN _ _ _) (congrArg (World.drewN _) (Nat.add_assoc _ _ _))⟩))))
      go_meet
      case rel => exact ⟨_, (true), eQ, H', ⟨lE⟩, ⟨bI BK199.out⟩, ⟨hB⟩⟩
  · intro H; replace c5 := Bool.eq_false_iff.mpr c5; subst c5; revert H; refine adR fun H' => ?_; obtain ⟨hcz11_0, hcz11_1, hcz11_2, hcz11_3, hcz11_4⟩ := blk_c5 BK199.out; obtain ⟨hfz11_0, hfz11_1, hfz11_2, hfz11_3, hfz11_4⟩ := blk_f5 BK199.out
    go_wp2_with (first | (go_at_call 92; (with_reducible refine (impl_isSide.calls a0_0 false _ A4.out).mono ?_); rintro e w' ⟨rfl, ⟨nd, rfl⟩⟩; (try first | exact ⟨rfl, _, World.drewN_drewN _ _ _⟩ | exact ⟨rfl, _, Eq.trans (World.drewN_drewN _ _ _) (congrArg (World.drewN _) (Nat.add_assoc _ _ _))⟩)))
    repeat (go_quiet (first | (go_at_call 92; (with_reducible refine (impl_isSide.calls a0_0 false _ A4.out).mono ?_); rintro e w' ⟨rfl, ⟨nd, rfl⟩⟩; (try first | exact ⟨rfl, _, World.drewN_drewN _ _ _⟩ | exact ⟨rfl, _, Eq.trans (World.drewN_drewN _ _ _) (congrArg (World.drewN _) (Nat.add_assoc _ _ _))⟩))); try go_wp2_with (first | (go_at_call 92; (with_reducible refine (impl_isSide.calls a0_0 false _ A4.out).mono ?_); rintro e w' ⟨rfl, ⟨nd, rfl⟩⟩; (try first | exact ⟨rfl, _, World.drewN_drewN _ _ _⟩ | exact ⟨rfl, _, Eq.trans (World.drewN_drewN _ _ _) (congrArg (World.drewN _) (Nat.add_assoc _ _ _))⟩))))
    go_meet
    case rel => exact ⟨_, (true), eQ, H', ⟨lE⟩, ⟨bI BK199.out⟩, ⟨hB⟩⟩
 case rest =>
  clear HC2; (try clear p2); (try clear c5); (try clear c6); (try clear c7); (try clear hcz10_0 hcz10_1 hcz10_2 hcz10_3 hcz10_4); (try clear hcz11_0 hcz11_1 hcz11_2 hcz11_3 hcz11_4); (try clear hcz9_0 hcz9_1 hcz9_2 hcz9_3 hcz9_4); (try clear hfz10_0 hfz10_1 hfz10_2 hfz10_3 hfz10_4); (try clear hfz11_0 hfz11_1 hfz11_2 hfz11_3 hfz11_4); (try clear hfz9_0 hfz9_1 hfz9_2 hfz9_3 hfz9_4); obtain ⟨kq, x20_1, rfl, HA, HJ1, BK199, HB⟩ := hcut; rcases kq with _ | kj1
  · exact absurd HA.out (by simp [impl_RasterOk.j0])
  revert HA; refine aoR ?_; intro H; simp only [impl_RasterOk.j0] at H; revert H
  refine ifB (fun c12 => ?_) (fun c12 => ?_)
  · intro H; subst c12; obtain rfl := Option.some.inj H; go_wp2
    repeat (go_quiet (fail); try go_wp2)
    go_ret; exact ⟨eE, hB⟩
  · intro H; replace c12 := Bool.eq_false_iff.mpr c12; subst c12; revert H; refine bdR fun t203 A13 => ?_
    refine ifB (fun c14 => ?_) (fun c14 => ?_)
    · intro H; have c14b0 := beq_iff_eq.mpr c14; have c14b1 := bne_eq_false_iff_eq.mpr c14; clear c14; revert H; refine bdR fun t204 A15 => ?_; intro H; obtain rfl := Option.some.inj H; obtain ⟨hcz16_0, hcz16_1, hcz16_2, hcz16_3, hcz16_4⟩ := blk_c5 BK199.out; obtain ⟨hfz16_0, hfz16_1, hfz16_2, hfz16_3, hfz16_4⟩ := blk_f5 BK199.out
      go_wp2_with (first | (go_at_call 65; (with_reducible refine (impl_ChannelsOf.calls kj1 a0_2 t203 _ A13.out).mono ?_); rintro e w' ⟨rfl, ⟨nd, rfl⟩⟩; (try first | exact ⟨rfl, _, World.drewN_drewN _ _ _⟩ | exact ⟨rfl, _, Eq.trans (World.drewN_drewN _ _ _) (congrArg (World.drewN _) (Nat.add_assoc _ _ _))⟩)) | (go_at_call 139; (with_reducible refine (impl_samplesOk.calls kj1 _ _ l0_4 a0_3 t204 _ ?side1 ?side2 A15.out).mono ?_); (case side1 => repeat (first | exact (Kd.C_below HR0_4.out hB) | (with_reducible refine Kd.C_alloc ?_ _) | (with_reducible refine Kd.C_drewN ?_ _) | (with_reducible refine Kd.C_drew ?_))); (case side2 => exact HC0_4.out); rintro e w' ⟨rfl, ⟨nd, rfl⟩⟩; (try first | exact ⟨rfl, _, World.drewN_drewN _ _ _⟩ | exact ⟨rfl, _, Eq.trans (World.drewN_drewN _ _ _) (congrArg (World.drewN _) (Nat.add_assoc _ _ _))⟩)))
      repeat (go_quiet (first | (go_at_call 65; (with_reducible refine (impl_ChannelsOf.calls kj1 a0_2 t203 _ A13.out).mono ?_); rintro e w' ⟨rfl, ⟨nd, rfl⟩⟩; (try first | exact ⟨rfl, _, World.drewN_drewN _ _ _⟩ | exact ⟨rfl, _, Eq.trans (World.drewN_drewN _ _ _) (congrArg (World.drewN _) (Nat.add_assoc _ _ _))⟩)) | (go_at_call 139; (with_reducible refine (impl_samplesOk.calls kj1 _ _ l0_4 a0_3 t204 _ ?side1 ?side2 A15.out).mono ?_); (case side1 => repeat (first | exact (Kd.C_below HR0_4.out hB) | (with_reducible refine Kd.C_alloc ?_ _) | (with_reducible refine Kd.C_drewN ?_ _) | (with_reducible refine Kd.C_drew ?_))); (case side2 => exact HC0_4.out); rintro e w' ⟨rfl, ⟨nd, rfl⟩⟩; (try first | exact ⟨rfl, _, World.drewN_drewN _ _ _⟩ | exact ⟨rfl, _, Eq.trans (World.drewN_drewN _ _ _) (congrArg (World.drewN _) (Nat.add_assoc _ _ _))⟩))); try go_wp2_with (first | (go_at_call 65; (with_reducible refine (impl_ChannelsOf.calls kj1 a0_2 t203 _ A13.out).mono ?_); rintro e w' ⟨rfl, ⟨nd, rfl⟩⟩; (try first | exact ⟨rfl, _, World.drewN_drewN _ _ _⟩ | exact ⟨rfl, _, Eq.trans (World.drewN_drewN _ _ _) (congrArg (World.drewN _) (Nat.add_assoc _ _ _))⟩)) | (go_at_call 139; (with_reducible refine (impl_samplesOk.calls kj1 _ _ l0_4 a0_3 t204 _ ?side1 ?side2 A15.out).mono ?_); (case side1 => repeat (first | exact (Kd.C_below HR0_4.out hB) | (with_reducible refine Kd.C_alloc ?_ _) | (with_reducible refine Kd.C_drewN ?_ _) | (with_reducible refine Kd.C_drew ?_))); (case side2 => exact HC0_4.out); rintro e w' ⟨rfl, ⟨nd, rfl⟩⟩; (try first | exact ⟨rfl, _, World.drewN_drewN _ _ _⟩ | exact ⟨rfl, _, Eq.trans (World.drewN_drewN _ _ _) (congrArg (World.drewN _) (Nat.add_assoc _ _ _))⟩))))
      go_ret; exact ⟨eE, hB⟩
    · intro H; have c14b0 := beq_eq_false_iff_ne.mpr c14; have c14b1 := bne_iff_ne.mpr c14; obtain rfl := Option.some.inj H; obtain ⟨hcz17_0, hcz17_1, hcz17_2, hcz17_3, hcz17_4⟩ := blk_c5 BK199.out; obtain ⟨hfz17_0, hfz17_1, hfz17_2, hfz17_3, hfz17_4⟩ := blk_f5 BK199.out
      go_wp2_with (first | (go_at_call 65; (with_reducible refine (impl_ChannelsOf.calls kj1 a0_2 t203 _ A13.out).mono ?_); rintro e w' ⟨rfl, ⟨nd, rfl⟩⟩; (try first | exact ⟨rfl, _, World.drewN_drewN _ _ _⟩ | exact ⟨rfl, _, Eq.trans (World.drewN_drewN _ _ _) (congrArg (World.drewN _) (Nat.add_assoc _ _ _))⟩)))
      repeat (go_quiet (first | (go_at_call 65; (with_reducible refine (impl_ChannelsOf.calls kj1 a0_2 t203 _ A13.out).mono ?_); rintro e w' ⟨rfl, ⟨nd, rfl⟩⟩; (try first | exact ⟨rfl, _, World.drewN_drewN _ _ _⟩ | exact ⟨rfl, _, Eq.trans (World.drewN_drewN _ _ _) (congrArg (World.drewN _) (Nat.add_assoc _ _ _))⟩))); try go_wp2_with (first | (go_at_call 65; (with_reducible refine (impl_ChannelsOf.calls kj1 a0_2 t203 _ A13.out).mono ?_); rintro e w' ⟨rfl, ⟨nd, rfl⟩⟩; (try first | exact ⟨rfl, _, World.drewN_drewN _ _ _⟩ | exact ⟨rfl, _, Eq.trans (World.drewN_drewN _ _ _) (congrArg (World.drewN _) (Nat.add_assoc _ _ _))⟩))))
      go_ret; exact ⟨eE, hB⟩

/-! ### impl_PassStep: function 140 -/
def impl_PassStep.f (a0 : Int) : Option (Int × Int × Int × Int) := if a0 = 0 then (some (0, 0, 8, 8)) else (if a0 = 1 then (some (4, 0, 8, 8)) else (if a0 = 2 then (some (0, 4, 4, 8)) else (if a0 = 3 then (some (2, 0, 4, 4)) else (if a0 = 4 then (some (0, 2, 2, 4)) else (if a0 = 5 then (some (1, 0, 2, 2)) else (if a0 = 6 then (some (0, 1, 1, 2)) else (some (0, 0, 0, 0))))))))
set_option maxHeartbeats 8000000 in
set_option maxRecDepth 100000 in
theorem impl_PassStep.calls (a0 : Int) (r1 : Int) (r2 : Int) (r3 : Int) (r4 : Int) (w : World) (h : impl_PassStep.f a0 = some (r1, r2, r3, r4)) :
 Calls Try.prog 140 #[.int .i64 a0] w fun e w' => e = .returned (.tuple #[.int .i64 r1, .int .i64 r2, .int .i64 r3, .int .i64 r4]) ∧ Drawn0 w w' := by
 unfold impl_PassStep.f at h; have H := h; clear h; revert H
 refine ifB (fun c2 => ?_) (fun c2 => ?_)
 · intro H; have c2b0 := beq_iff_eq.mpr c2; have c2b1 := bne_eq_false_iff_eq.mpr c2; clear c2; simp only [Option.some.injEq, Prod.mk.injEq] at H; obtain ⟨rfl, rfl, rfl, rfl⟩ := H; go_enter Try.func140, Try.ntmps140; go_wp2
   refine bodyPost_ret (results_list (rs := [.tmp 2, .tmp 3, .tmp 4, .tmp 5]) rfl (by simp) (.tmp (.tmp (.tmp (.tmp .nil))))) rfl ?_; exact ⟨eQ, dQ⟩
 · intro H; have c2b0 := beq_eq_false_iff_ne.mpr c2; have c2b1 := bne_iff_ne.mpr c2; revert H
   refine ifB (fun c3 => ?_) (fun c3 => ?_)
   · intro H; have c3b0 := beq_iff_eq.mpr c3; have c3b1 := bne_eq_false_iff_eq.mpr c3; clear c3; simp only [Option.some.injEq, Prod.mk.injEq] at H; obtain ⟨rfl, rfl, rfl, rfl⟩ := H; go_enter Try.func140, Try.ntmps140; go_wp2
     refine bodyPost_ret (results_list (rs := [.tmp 2, .tmp 3, .tmp 4, .tmp 5]) rfl (by simp) (.tmp (.tmp (.tmp (.tmp .nil))))) rfl ?_; exact ⟨eQ, dQ⟩
   · intro H; have c3b0 := beq_eq_false_iff_ne.mpr c3; have c3b1 := bne_iff_ne.mpr c3; revert H
     refine ifB (fun c4 => ?_) (fun c4 => ?_)
     · intro H; have c4b0 := beq_iff_eq.mpr c4; have c4b1 := bne_eq_false_iff_eq.mpr c4; clear c4; simp only [Option.some.injEq, Prod.mk.injEq] at H; obtain ⟨rfl, rfl, rfl, rfl⟩ := H; go_enter Try.func140, Try.ntmps140; go_wp2
       refine bodyPost_ret (results_list (rs := [.tmp 2, .tmp 3, .tmp 4, .tmp 5]) rfl (by simp) (.tmp (.tmp (.tmp (.tmp .nil))))) rfl ?_; exact ⟨eQ, dQ⟩
     · intro H; have c4b0 := beq_eq_false_iff_ne.mpr c4; have c4b1 := bne_iff_ne.mpr c4; revert H
       refine ifB (fun c5 => ?_) (fun c5 => ?_)
       · intro H; have c5b0 := beq_iff_eq.mpr c5; have c5b1 := bne_eq_false_iff_eq.mpr c5; clear c5; simp only [Option.some.injEq, Prod.mk.injEq] at H; obtain ⟨rfl, rfl, rfl, rfl⟩ := H; go_enter Try.func140, Try.ntmps140; go_wp2
         refine bodyPost_ret (results_list (rs := [.tmp 2, .tmp 3, .tmp 4, .tmp 5]) rfl (by simp) (.tmp (.tmp (.tmp (.tmp .nil))))) rfl ?_; exact ⟨eQ, dQ⟩
       · intro H; have c5b0 := beq_eq_false_iff_ne.mpr c5; have c5b1 := bne_iff_ne.mpr c5; revert H
         refine ifB (fun c6 => ?_) (fun c6 => ?_)
         · intro H; have c6b0 := beq_iff_eq.mpr c6; have c6b1 := bne_eq_false_iff_eq.mpr c6; clear c6; simp only [Option.some.injEq, Prod.mk.injEq] at H; obtain ⟨rfl, rfl, rfl, rfl⟩ := H; go_enter Try.func140, Try.ntmps140; go_wp2
           refine bodyPost_ret (results_list (rs := [.tmp 2, .tmp 3, .tmp 4, .tmp 5]) rfl (by simp) (.tmp (.tmp (.tmp (.tmp .nil))))) rfl ?_; exact ⟨eQ, dQ⟩
         · intro H; have c6b0 := beq_eq_false_iff_ne.mpr c6; have c6b1 := bne_iff_ne.mpr c6; revert H
           refine ifB (fun c7 => ?_) (fun c7 => ?_)
           · intro H; have c7b0 := beq_iff_eq.mpr c7; have c7b1 := bne_eq_false_iff_eq.mpr c7; clear c7; simp only [Option.some.injEq, Prod.mk.injEq] at H; obtain ⟨rfl, rfl, rfl, rfl⟩ := H; go_enter Try.func140, Try.ntmps140; go_wp2
             refine bodyPost_ret (results_list (rs := [.tmp 2, .tmp 3, .tmp 4, .tmp 5]) rfl (by simp) (.tmp (.tmp (.tmp (.tmp .nil))))) rfl ?_; exact ⟨eQ, dQ⟩
           · intro H; have c7b0 := beq_eq_false_iff_ne.mpr c7; have c7b1 := bne_iff_ne.mpr c7; revert H
             refine ifB (fun c8 => ?_) (fun c8 => ?_)
             · intro H; have c8b0 := beq_iff_eq.mpr c8; have c8b1 := bne_eq_false_iff_eq.mpr c8; clear c8; simp only [Option.some.injEq, Prod.mk.injEq] at H; obtain ⟨rfl, rfl, rfl, rfl⟩ := H; go_enter Try.func140, Try.ntmps140; go_wp2
               refine bodyPost_ret (results_list (rs := [.tmp 2, .tmp 3, .tmp 4, .tmp 5]) rfl (by simp) (.tmp (.tmp (.tmp (.tmp .nil))))) rfl ?_; exact ⟨eQ, dQ⟩
             · intro H; have c8b0 := beq_eq_false_iff_ne.mpr c8; have c8b1 := bne_iff_ne.mpr c8; simp only [Option.some.injEq, Prod.mk.injEq] at H; obtain ⟨rfl, rfl, rfl, rfl⟩ := H; go_enter Try.func140, Try.ntmps140; go_wp2
               refine bodyPost_ret (results_list (rs := [.tmp 2, .tmp 3, .tmp 4, .tmp 5]) rfl (by simp) (.tmp (.tmp (.tmp (.tmp .nil))))) rfl ?_; exact ⟨eQ, dQ⟩

end Go.Proofs.Ytajnobmnkbkkgaa.PFnScans
