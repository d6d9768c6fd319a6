/- Walks of functions that the law FnExactMeaningOf reaches: each call comes to what the Lean function of its name tells. Written by p2.py, a program of this session, by way of the kit's print. -/
import Derived.Test.YtajnobmnkbkkgaaVFnExactMeaningOf
import Derived.Test.YtajnobmnkbkkgaaPFnExactMeaningOfx0
import Derived.Test.YtajnobmnkbkkgaaPFnExactMeaningOfx3
namespace Go.Proofs.Ytajnobmnkbkkgaa.PFnExactMeaningOf
open Go.RowKit Go.Proofs.YtajnobmnkbkkgaaW.PrintWords Go.Proofs.YtajnobmnkbkkgaaW.PrintLast Go.Proofs.YtajnobmnkbkkgaaW.PrintMore
attribute [local go_sem] max2_int min2_int max_two min_two max_three min_three max_four min_four   -- for this text's walks alone
set_option linter.unusedVariables false
set_option linter.unusedSimpArgs false

/-! ### spec_HeadOk: function 24 -/
def spec_HeadOk.f (k : Nat) (a0_0 : Int) (a0_1 : Int) (a0_2 : Int) (a0_3 : Int) (a0_4 : Bool) : Option (Bool) := (spec_l12Side.f a0_0).bind fun t196 => (if t196 = true then ((spec_l12Side.f a0_1).bind fun t197 => (if t197 = true then ((spec_DepthOk.f k a0_3 a0_2).bind fun t198 => (some t198)) else (some false))) else (some false))
set_option maxHeartbeats 8000000 in
set_option maxRecDepth 100000 in
theorem spec_HeadOk.calls (k : Nat) (a0_0 : Int) (a0_1 : Int) (a0_2 : Int) (a0_3 : Int) (a0_4 : Bool) (r : Bool) (w : World) (h : spec_HeadOk.f k a0_0 a0_1 a0_2 a0_3 a0_4 = some r) :
 Calls Try.prog 24 #[.agg #[.int .i64 a0_0, .int .i64 a0_1, .int .i64 a0_2, .int .i64 a0_3, .bool a0_4]] w fun e w' => e = .returned (.bool r) ∧ Below w.heap.size w w' := by
 have hu39 := Try.underlying39; have HB := aM (Below.refl w.heap.size w); unfold spec_HeadOk.f at h; have H := h; clear h; revert H; refine bdR fun t196 A2 => ?_
 refine ifB (fun c3 => ?_) (fun c3 => ?_)
 · intro H; subst c3; revert H; refine bdR fun t197 A4 => ?_
   refine ifB (fun c5 => ?_) (fun c5 => ?_)
   · intro H; subst c5; revert H; refine bdR fun t198 A6 => ?_; intro H; obtain rfl := Option.some.inj H; go_enter Try.func24, Try.ntmps24
     go_wp2_with (first | ((with_reducible refine gD 1 ?_); refine bE 1 #[.int .i64 a0_0, .int .i64 a0_1, .int .i64 a0_2, .int .i64 a0_3, .bool a0_4] 39 ?_; intro gb195 hg w7 hbox hb; have BK195 := aM hbox; have GW195 := aM (sZ hg); have GE195 := GW195; replace HB := hS hb; clear hb hbox hg; have hz8 := bz5 BK195) | ((with_reducible refine gC 77 ?_); refine gL (some 5) Try.func77 #[.int .i64 a0_0] ?_; (with_reducible refine (spec_l12Side.calls a0_0 true _ A2.out).mono ?_); rintro e w' ⟨rfl, ⟨nd, rfl⟩⟩; refine ⟨_, rfl, ?_⟩) | (go_at_call 77; (with_reducible refine (spec_l12Side.calls a0_1 true _ A4.out).mono ?_); rintro e w' ⟨rfl, ⟨nd, rfl⟩⟩) | (go_at_call 78; (with_reducible refine (spec_DepthOk.calls k a0_3 a0_2 t198 _ A6.out).mono ?_); rintro e w' ⟨rfl, ⟨nd, rfl⟩⟩)); go_ret; exact ⟨eE, hB⟩
   · intro H; replace c5 := Bool.eq_false_iff.mpr c5; subst c5; obtain rfl := Option.some.inj H; go_enter Try.func24, Try.ntmps24
     go_wp2_with (first | ((with_reducible refine gD 1 ?_); refine bE 1 #[.int .i64 a0_0, .int .i64 a0_1, .int .i64 a0_2, .int .i64 a0_3, .bool a0_4] 39 ?_; intro gb195 hg w9 hbox hb; have BK195 := aM hbox; have GW195 := aM (sZ hg); have GE195 := GW195; replace HB := hS hb; clear hb hbox hg; have hz10 := bz5 BK195) | ((with_reducible refine gC 77 ?_); refine gL (some 5) Try.func77 #[.int .i64 a0_0] ?_; (with_reducible refine (spec_l12Side.calls a0_0 true _ A2.out).mono ?_); rintro e w' ⟨rfl, ⟨nd, rfl⟩⟩; refine ⟨_, rfl, ?_⟩) | (go_at_call 77; (with_reducible refine (spec_l12Side.calls a0_1 false _ A4.out).mono ?_); rintro e w' ⟨rfl, ⟨nd, rfl⟩⟩)); go_ret; exact ⟨eE, hB⟩
 · intro H; replace c3 := Bool.eq_false_iff.mpr c3; subst c3; obtain rfl := Option.some.inj H; go_enter Try.func24, Try.ntmps24
   go_wp2_with (first | ((with_reducible refine gD 1 ?_); refine bE 1 #[.int .i64 a0_0, .int .i64 a0_1, .int .i64 a0_2, .int .i64 a0_3, .bool a0_4] 39 ?_; intro gb195 hg w11 hbox hb; have BK195 := aM hbox; have GW195 := aM (sZ hg); have GE195 := GW195; replace HB := hS hb; clear hb hbox hg; have hz12 := bz5 BK195) | ((with_reducible refine gC 77 ?_); refine gL (some 5) Try.func77 #[.int .i64 a0_0] ?_; (with_reducible refine (spec_l12Side.calls a0_0 false _ A2.out).mono ?_); rintro e w' ⟨rfl, ⟨nd, rfl⟩⟩; refine ⟨_, rfl, ?_⟩)); go_ret; exact ⟨eE, hB⟩

/-! ### spec_ChannelsOf: function 88 -/
def spec_ChannelsOf.j0 : Nat → Int → Bool → Option (Int)
  | 0, _, _ => none
  | k + 1, x3, x4 => if x4 = true then (some 1) else (if x3 = 2 then (some 3) else (if x3 = 4 then (some 2) else (if x3 = 6 then (some 4) else (some 0))))
def spec_ChannelsOf.f (k : Nat) (a0 : Int) : Option (Int) := if a0 = 0 then (spec_ChannelsOf.j0 k a0 (a0 == 0)) else (spec_ChannelsOf.j0 k a0 (a0 == 3))
set_option maxHeartbeats 8000000 in
set_option maxRecDepth 100000 in
theorem spec_ChannelsOf.calls (k : Nat) (a0 : Int) (r : Int) (w : World) (h : spec_ChannelsOf.f k a0 = some r) :
 Calls Try.prog 88 #[.int .i64 a0] w fun e w' => e = .returned (.int .i64 r) ∧ Drawn0 w w' := by
 have H : (if a0 = 0 then (spec_ChannelsOf.j0 k a0 (a0 == 0)) else (spec_ChannelsOf.j0 k a0 (a0 == 3))) = some r := h; clear h; revert H; refine adR fun HC2 => ?_; go_enter Try.func88, Try.ntmps88
 go_upto_if 4 with (fail)
 go_cut [4] (fun v4 wc => ∃ (kq : Nat) (x4_1 : Bool), v4 = .bool x4_1 ∧ Aside0 (spec_ChannelsOf.j0 kq a0 x4_1 = some r) ∧ Aside0 (kq ≤ k) ∧ Drawn0 w wc)
 case first =>
  revert HC2; refine aoR ?_
  refine ifB (fun c3 => ?_) (fun c3 => ?_)
  · intro H; have c3b0 := beq_iff_eq.mpr c3; have c3b1 := bne_eq_false_iff_eq.mpr c3; clear c3
    (first | rw [c3b0] | (simp only [i64_w, i32_w]; rw [c3b0]) | skip); revert H; refine adR fun H' => ?_; go_wp2; go_meet
    case rel => exact ⟨_, ((a0 == 0)), eQ, H', ⟨lE⟩, dQ⟩
  · intro H; have c3b0 := beq_eq_false_iff_ne.mpr c3; have c3b1 := bne_iff_ne.mpr c3
    (first | rw [c3b0] | (simp only [i64_w, i32_w]; rw [c3b0]) | skip); revert H; refine adR fun H' => ?_; go_wp2; go_meet
    case rel => exact ⟨_, ((a0 == 3)), eQ, H', ⟨lE⟩, dQ⟩
 case rest =>
  clear HC2; (try clear p2); (try clear c3); (try clear c3b0); (try clear c3b1); obtain ⟨kq, x4_1, rfl, HA, HJ1, ⟨mc1, rfl⟩⟩ := hcut; rcases kq with _ | kj1
  · exact absurd HA.out (by simp [spec_ChannelsOf.j0])
  revert HA; refine aoR ?_; intro H; simp only [spec_ChannelsOf.j0] at H; revert H
  refine ifB (fun c4 => ?_) (fun c4 => ?_)
  · intro H; subst c4; obtain rfl := Option.some.inj H; go_wp2; go_ret; exact ⟨eQ, dQ⟩
  · intro H; replace c4 := Bool.eq_false_iff.mpr c4; subst c4; revert H
    refine ifB (fun c5 => ?_) (fun c5 => ?_)
    · intro H; have c5b0 := beq_iff_eq.mpr c5; have c5b1 := bne_eq_false_iff_eq.mpr c5; clear c5; obtain rfl := Option.some.inj H; go_wp2; go_ret; exact ⟨eQ, dQ⟩
    · intro H; have c5b0 := beq_eq_false_iff_ne.mpr c5; have c5b1 := bne_iff_ne.mpr c5; revert H
      refine ifB (fun c6 => ?_) (fun c6 => ?_)
      · intro H; have c6b0 := beq_iff_eq.mpr c6; have c6b1 := bne_eq_false_iff_eq.mpr c6; clear c6; obtain rfl := Option.some.inj H; go_wp2; go_ret; exact ⟨eQ, dQ⟩
      · intro H; have c6b0 := beq_eq_false_iff_ne.mpr c6; have c6b1 := bne_iff_ne.mpr c6; revert H
        refine ifB (fun c7 => ?_) (fun c7 => ?_)
        · intro H; have c7b0 := beq_iff_eq.mpr c7; have c7b1 := bne_eq_false_iff_eq.mpr c7; clear c7; obtain rfl := Option.some.inj H; go_wp2; go_ret; exact ⟨eQ, dQ⟩
        · intro H; have c7b0 := beq_eq_false_iff_ne.mpr c7; have c7b1 := bne_iff_ne.mpr c7; obtain rfl := Option.some.inj H; go_wp2; go_ret; exact ⟨eQ, dQ⟩

/-! ### spec_l01Pow: function 99 -/
def spec_l01Pow.l0 : Nat → Int → Int → Int → Option (Int)
  | 0, _, _, _ => none
  | k + 1, x0, x3, x4 => if x4 < x0 then (spec_l01Pow.l0 k x0 (wrap64 (2 * x3)) (wrap64 (x4 + 1))) else (some x3)
def spec_l01Pow.f (k : Nat) (a0 : Int) : Option (Int) := spec_l01Pow.l0 k a0 1 0
set_option maxHeartbeats 8000000 in
set_option maxRecDepth 100000 in
theorem spec_l01Pow.calls (k : Nat) (a0 : Int) (r : Int) (w : World) (h : spec_l01Pow.f k a0 = some r) :
 Calls Try.prog 99 #[.int .i64 a0] w fun e w' => e = .returned (.int .i64 r) ∧ Drawn0 w w' := by
 have H : (spec_l01Pow.l0 k a0 1 0) = some r := h; clear h; revert H; refine adR fun H' => ?_; go_enter Try.func99, Try.ntmps99; go_wp2
 go_loopg [3, 4] k (fun kq v3 v4 w' => ∃ (x3_1 : Int) (x4_1 : Int), v3 = .int .i64 x3_1 ∧ v4 = .int .i64 x4_1 ∧ Aside0 (spec_l01Pow.l0 kq a0 x3_1 x4_1 = some r) ∧ Aside0 (kq ≤ k) ∧ Drawn0 w w')
 case atStart => exact ⟨(1), (0), eQ, eQ, H', ⟨Nat.le_refl _⟩, dQ⟩
 case round =>
  clear H'; obtain ⟨x3_1, x4_1, rfl, rfl, HA, HK1, ⟨m1, rfl⟩⟩ := hrel; rcases gk with _ | k1
  · exact absurd HA.out (by simp [spec_l01Pow.l0])
  revert HA; refine aoR ?_; intro H; simp only [spec_l01Pow.l0] at H; revert H
  refine ifB (fun c2 => ?_) (fun c2 => ?_)
  · intro H; have c2b0 := decide_eq_true c2; clear c2; revert H; refine adR fun H' => ?_; go_wp2; go_roundg k1
    case measure => have := HK1.out; omega
    case rel => exact ⟨(wrap64 (2 * x3_1)), (wrap64 (x4_1 + 1)), eQ, eQ, H', ⟨by have := HK1.out; omega⟩, dQ⟩
  · intro H; have c2b0 := decide_eq_false c2; clear c2; obtain rfl := Option.some.inj H; go_wp2; go_ret; exact ⟨eQ, dQ⟩

end Go.Proofs.Ytajnobmnkbkkgaa.PFnExactMeaningOf
