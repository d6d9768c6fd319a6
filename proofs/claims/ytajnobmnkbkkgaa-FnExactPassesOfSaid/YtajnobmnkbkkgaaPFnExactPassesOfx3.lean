/- Walks of functions that the law FnExactPassesOf reaches: each call comes to what the Lean function of its name tells. Written by p2.py, a program of this session, turned by mendwr.py, by way of the kit's print. -/
import Derived.Test.YtajnobmnkbkkgaaVFnExactPassesOf
import Derived.Test.YtajnobmnkbkkgaaPFnExactPassesOfx0
import Derived.Test.YtajnobmnkbkkgaaPFnExactPassesOfx1
namespace Go.Proofs.Ytajnobmnkbkkgaa.PFnExactPassesOf
open Go.RowKit Go.Proofs.YtajnobmnkbkkgaaW.PrintWords Go.Proofs.YtajnobmnkbkkgaaW.PrintLast Go.Proofs.YtajnobmnkbkkgaaW.PrintMore
attribute [local go_sem] max2_int min2_int max_two min_two max_three min_three max_four min_four   -- for this text's walks alone
set_option linter.unusedVariables false
set_option linter.unusedSimpArgs false

/-! ### spec_PassStep: function 90 -/
def spec_PassStep.f (a0 : Int) : Option (Int × Int × Int × Int) := if a0 = 0 then (some (0, 0, 8, 8)) else (if a0 = 1 then (some (4, 0, 8, 8)) else (if a0 = 2 then (some (0, 4, 4, 8)) else (if a0 = 3 then (some (2, 0, 4, 4)) else (if a0 = 4 then (some (0, 2, 2, 4)) else (if a0 = 5 then (some (1, 0, 2, 2)) else (if a0 = 6 then (some (0, 1, 1, 2)) else (some (0, 0, 0, 0))))))))
set_option maxHeartbeats 8000000 in
set_option maxRecDepth 100000 in
theorem spec_PassStep.calls (a0 : Int) (r1 : Int) (r2 : Int) (r3 : Int) (r4 : Int) (w : World) (h : spec_PassStep.f a0 = some (r1, r2, r3, r4)) :
 Calls Try.prog 90 #[.int .i64 a0] w fun e w' => e = .returned (.tuple #[.int .i64 r1, .int .i64 r2, .int .i64 r3, .int .i64 r4]) ∧ Drawn0 w w' := by
 unfold spec_PassStep.f at h; have H := h; clear h; revert H
 refine ifB (fun c2 => ?_) (fun c2 => ?_)
 · intro H; have c2b0 := beq_iff_eq.mpr c2; have c2b1 := bne_eq_false_iff_eq.mpr c2; clear c2; simp only [Option.some.injEq, Prod.mk.injEq] at H; obtain ⟨rfl, rfl, rfl, rfl⟩ := H; go_enter Try.func90, Try.ntmps90; go_wp2
   refine bodyPost_ret (results_list (rs := [.tmp 2, .tmp 3, .tmp 4, .tmp 5]) rfl (by simp) (.tmp (.tmp (.tmp (.tmp .nil))))) rfl ?_; exact ⟨eQ, dQ⟩
 · intro H; have c2b0 := beq_eq_false_iff_ne.mpr c2; have c2b1 := bne_iff_ne.mpr c2; revert H
   refine ifB (fun c3 => ?_) (fun c3 => ?_)
   · intro H; have c3b0 := beq_iff_eq.mpr c3; have c3b1 := bne_eq_false_iff_eq.mpr c3; clear c3; simp only [Option.some.injEq, Prod.mk.injEq] at H; obtain ⟨rfl, rfl, rfl, rfl⟩ := H; go_enter Try.func90, Try.ntmps90; go_wp2
     refine bodyPost_ret (results_list (rs := [.tmp 2, .tmp 3, .tmp 4, .tmp 5]) rfl (by simp) (.tmp (.tmp (.tmp (.tmp .nil))))) rfl ?_; exact ⟨eQ, dQ⟩
   · intro H; have c3b0 := beq_eq_false_iff_ne.mpr c3; have c3b1 := bne_iff_ne.mpr c3; revert H
     refine ifB (fun c4 => ?_) (fun c4 => ?_)
     · intro H; have c4b0 := beq_iff_eq.mpr c4; have c4b1 := bne_eq_false_iff_eq.mpr c4; clear c4; simp only [Option.some.injEq, Prod.mk.injEq] at H; obtain ⟨rfl, rfl, rfl, rfl⟩ := H; go_enter Try.func90, Try.ntmps90; go_wp2
       refine bodyPost_ret (results_list (rs := [.tmp 2, .tmp 3, .tmp 4, .tmp 5]) rfl (by simp) (.tmp (.tmp (.tmp (.tmp .nil))))) rfl ?_; exact ⟨eQ, dQ⟩
     · intro H; have c4b0 := beq_eq_false_iff_ne.mpr c4; have c4b1 := bne_iff_ne.mpr c4; revert H
       refine ifB (fun c5 => ?_) (fun c5 => ?_)
       · intro H; have c5b0 := beq_iff_eq.mpr c5; have c5b1 := bne_eq_false_iff_eq.mpr c5; clear c5; simp only [Option.some.injEq, Prod.mk.injEq] at H; obtain ⟨rfl, rfl, rfl, rfl⟩ := H; go_enter Try.func90, Try.ntmps90; go_wp2
         refine bodyPost_ret (results_list (rs := [.tmp 2, .tmp 3, .tmp 4, .tmp 5]) rfl (by simp) (.tmp (.tmp (.tmp (.tmp .nil))))) rfl ?_; exact ⟨eQ, dQ⟩
       · intro H; have c5b0 := beq_eq_false_iff_ne.mpr c5; have c5b1 := bne_iff_ne.mpr c5; revert H
         refine ifB (fun c6 => ?_) (fun c6 => ?_)
         · intro H; have c6b0 := beq_iff_eq.mpr c6; have c6b1 := bne_eq_false_iff_eq.mpr c6; clear c6; simp only [Option.some.injEq, Prod.mk.injEq] at H; obtain ⟨rfl, rfl, rfl, rfl⟩ := H; go_enter Try.func90, Try.ntmps90; go_wp2
           refine bodyPost_ret (results_list (rs := [.tmp 2, .tmp 3, .tmp 4, .tmp 5]) rfl (by simp) (.tmp (.tmp (.tmp (.tmp .nil))))) rfl ?_; exact ⟨eQ, dQ⟩
         · intro H; have c6b0 := beq_eq_false_iff_ne.mpr c6; have c6b1 := bne_iff_ne.mpr c6; revert H
           refine ifB (fun c7 => ?_) (fun c7 => ?_)
           · intro H; have c7b0 := beq_iff_eq.mpr c7; have c7b1 := bne_eq_false_iff_eq.mpr c7; clear c7; simp only [Option.some.injEq, Prod.mk.injEq] at H; obtain ⟨rfl, rfl, rfl, rfl⟩ := H; go_enter Try.func90, Try.ntmps90; go_wp2
             refine bodyPost_ret (results_list (rs := [.tmp 2, .tmp 3, .tmp 4, .tmp 5]) rfl (by simp) (.tmp (.tmp (.tmp (.tmp .nil))))) rfl ?_; exact ⟨eQ, dQ⟩
           · intro H; have c7b0 := beq_eq_false_iff_ne.mpr c7; have c7b1 := bne_iff_ne.mpr c7; revert H
             refine ifB (fun c8 => ?_) (fun c8 => ?_)
             · intro H; have c8b0 := beq_iff_eq.mpr c8; have c8b1 := bne_eq_false_iff_eq.mpr c8; clear c8; simp only [Option.some.injEq, Prod.mk.injEq] at H; obtain ⟨rfl, rfl, rfl, rfl⟩ := H; go_enter Try.func90, Try.ntmps90; go_wp2
               refine bodyPost_ret (results_list (rs := [.tmp 2, .tmp 3, .tmp 4, .tmp 5]) rfl (by simp) (.tmp (.tmp (.tmp (.tmp .nil))))) rfl ?_; exact ⟨eQ, dQ⟩
             · intro H; have c8b0 := beq_eq_false_iff_ne.mpr c8; have c8b1 := bne_iff_ne.mpr c8; simp only [Option.some.injEq, Prod.mk.injEq] at H; obtain ⟨rfl, rfl, rfl, rfl⟩ := H; go_enter Try.func90, Try.ntmps90; go_wp2
               refine bodyPost_ret (results_list (rs := [.tmp 2, .tmp 3, .tmp 4, .tmp 5]) rfl (by simp) (.tmp (.tmp (.tmp (.tmp .nil))))) rfl ?_; exact ⟨eQ, dQ⟩

/-! ### spec_l14Count: function 147 -/
def spec_l14Count.l0 : Nat → Int → Int → Int → Int → Option (Int)
  | 0, _, _, _, _ => none
  | k + 1, x0, x2, x7, x8 => if x8 < x0 then (spec_l14Count.l0 k x0 x2 (wrap64 (x7 + 1)) (wrap64 (x8 + x2))) else (some x7)
def spec_l14Count.f (k : Nat) (a0 : Int) (a1 : Int) (a2 : Int) : Option (Int) := spec_l14Count.l0 k a0 a2 0 a1
set_option maxHeartbeats 8000000 in
set_option maxRecDepth 100000 in
theorem spec_l14Count.calls (k : Nat) (a0 : Int) (a1 : Int) (a2 : Int) (r : Int) (w : World) (h : spec_l14Count.f k a0 a1 a2 = some r) :
 Calls Try.prog 147 #[.int .i64 a0, .int .i64 a1, .int .i64 a2] w fun e w' => e = .returned (.int .i64 r) ∧ Drawn0 w w' := by
 have H : (spec_l14Count.l0 k a0 a2 0 a1) = some r := h; clear h; revert H; refine adR fun H' => ?_; go_enter Try.func147, Try.ntmps147; go_wp2
 go_loopg [7, 8] k (fun kq v7 v8 w' => ∃ (x7_1 : Int) (x8_1 : Int), v7 = .int .i64 x7_1 ∧ v8 = .int .i64 x8_1 ∧ Aside0 (spec_l14Count.l0 kq a0 a2 x7_1 x8_1 = some r) ∧ Aside0 (kq ≤ k) ∧ Drawn0 w w')
 case atStart => exact ⟨(0), (a1), eQ, eQ, H', ⟨Nat.le_refl _⟩, dQ⟩
 case round =>
  clear H'; (try clear c1); (try clear p2); obtain ⟨x7_1, x8_1, rfl, rfl, HA, HK1, ⟨m1, rfl⟩⟩ := hrel; rcases gk with _ | k1
  · exact absurd HA.out (by simp [spec_l14Count.l0])
  revert HA; refine aoR ?_; intro H; simp only [spec_l14Count.l0] at H; revert H
  refine ifB (fun c4 => ?_) (fun c4 => ?_)
  · intro H; have c4b0 := decide_eq_true c4; clear c4; revert H; refine adR fun H' => ?_; go_wp2; go_roundg k1
    case measure => have := HK1.out; omega
    case rel => exact ⟨(wrap64 (x7_1 + 1)), (wrap64 (x8_1 + a2)), eQ, eQ, H', ⟨by have := HK1.out; omega⟩, dQ⟩
  · intro H; have c4b0 := decide_eq_false c4; clear c4; obtain rfl := Option.some.inj H; go_wp2; go_ret; exact ⟨eQ, dQ⟩

/-! ### spec_PassSize: function 89 -/
def spec_PassSize.j0 : Nat → Int → Int → Int → Bool → Option (Int × Int)
  | 0, _, _, _, _ => none
  | k + 1, x0, x1, x2, x26 => if x26 = true then (some (0, 0)) else ((spec_PassStep.f x2).bind fun bt115 => ((spec_l14Count.f k x0 bt115.1 bt115.2.2.1).bind fun t119 => ((spec_l14Count.f k x1 bt115.2.1 bt115.2.2.2).bind fun t120 => (if t119 = 0 then (some (0, 0)) else (if t120 = 0 then (some (0, 0)) else (some (t119, t120)))))))
def spec_PassSize.f (k : Nat) (a0 : Int) (a1 : Int) (a2 : Int) : Option (Int × Int) := (spec_l12Side.f a0).bind fun t112 => (if t112 = true then ((spec_l12Side.f a1).bind fun t113 => (if t113 = true then ((spec_l01In.f a2 0 6).bind fun t114 => (spec_PassSize.j0 k a0 a1 a2 (!t114))) else (spec_PassSize.j0 k a0 a1 a2 true))) else (spec_PassSize.j0 k a0 a1 a2 true))
set_option maxHeartbeats 8000000 in
set_option maxRecDepth 100000 in
theorem spec_PassSize.calls (k : Nat) (a0 : Int) (a1 : Int) (a2 : Int) (r1 : Int) (r2 : Int) (w : World) (h : spec_PassSize.f k a0 a1 a2 = some (r1, r2)) :
 Calls Try.prog 89 #[.int .i64 a0, .int .i64 a1, .int .i64 a2] w fun e w' => e = .returned (.tuple #[.int .i64 r1, .int .i64 r2]) ∧ Drawn0 w w' := by
 unfold spec_PassSize.f at h; have H := h; clear h; revert H; refine adR fun HC4 => ?_; go_enter Try.func89, Try.ntmps89
 go_upto_region 1 with (fail)
 go_cut [26] (fun v26 wc => ∃ (kq : Nat) (x26_3 : Bool), v26 = .bool x26_3 ∧ Aside0 (spec_PassSize.j0 kq a0 a1 a2 x26_3 = some (r1, r2)) ∧ Aside0 (kq ≤ k) ∧ Drawn0 w wc)
 case first =>
  revert HC4; refine aoR ?_; refine bdR fun t112 A5 => ?_
  refine ifB (fun c6 => ?_) (fun c6 => ?_)
  · intro H; subst c6; revert H; refine bdR fun t113 A7 => ?_
    refine ifB (fun c8 => ?_) (fun c8 => ?_)
    · intro H; subst c8; revert H; refine bdR fun t114 A9 => ?_; refine adR fun H' => ?_
      go_wp2_with (first | ((with_reducible refine gC 77 ?_); refine gL (some 15) Try.func77 #[.int .i64 a0] ?_; (with_reducible refine (spec_l12Side.calls a0 true _ A5.out).mono ?_); rintro e w' ⟨rfl, ⟨nd, rfl⟩⟩; refine ⟨_, rfl, ?_⟩) | (go_at_call 77; (with_reducible refine (spec_l12Side.calls a1 true _ A7.out).mono ?_); rintro e w' ⟨rfl, ⟨nd, rfl⟩⟩) | (go_at_call 129; (with_reducible refine (spec_l01In.calls a2 0 6 t114 _ A9.out).mono ?_); rintro e w' ⟨rfl, ⟨nd, rfl⟩⟩)); go_meet
      case rel => exact ⟨_, (!t114), eQ, H', ⟨lE⟩, dQ⟩
    · intro H; replace c8 := Bool.eq_false_iff.mpr c8; subst c8; revert H; refine adR fun H' => ?_
      go_wp2_with (first | ((with_reducible refine gC 77 ?_); refine gL (some 15) Try.func77 #[.int .i64 a0] ?_; (with_reducible refine (spec_l12Side.calls a0 true _ A5.out).mono ?_); rintro e w' ⟨rfl, ⟨nd, rfl⟩⟩; refine ⟨_, rfl, ?_⟩) | (go_at_call 77; (with_reducible refine (spec_l12Side.calls a1 false _ A7.out).mono ?_); rintro e w' ⟨rfl, ⟨nd, rfl⟩⟩)); go_meet
      case rel => exact ⟨_, (true), eQ, H', ⟨lE⟩, dQ⟩
  · intro H; replace c6 := Bool.eq_false_iff.mpr c6; subst c6; revert H; refine adR fun H' => ?_
    go_wp2_with (first | ((with_reducible refine gC 77 ?_); refine gL (some 15) Try.func77 #[.int .i64 a0] ?_; (with_reducible refine (spec_l12Side.calls a0 false _ A5.out).mono ?_); rintro e w' ⟨rfl, ⟨nd, rfl⟩⟩; refine ⟨_, rfl, ?_⟩)); go_meet
    case rel => exact ⟨_, (true), eQ, H', ⟨lE⟩, dQ⟩
 case rest =>
  clear HC4; (try clear p2); (try clear c6); (try clear c7); (try clear c8); obtain ⟨kq, x26_3, rfl, HA, HJ3, ⟨mc3, rfl⟩⟩ := hcut; rcases kq with _ | kj3
  · exact absurd HA.out (by simp [spec_PassSize.j0])
  revert HA; refine aoR ?_; intro H; simp only [spec_PassSize.j0] at H; revert H
  refine ifB (fun c10 => ?_) (fun c10 => ?_)
  · intro H; subst c10; simp only [Option.some.injEq, Prod.mk.injEq] at H; obtain ⟨rfl, rfl⟩ := H; go_wp2
    go_ret2; exact ⟨eQ, dQ⟩
  · intro H; replace c10 := Bool.eq_false_iff.mpr c10; subst c10; revert H; refine bdR fun ⟨t115, t116, t117, t118⟩ A11 => ?_; intro H
    try dsimp only at H
    revert H; refine bdR fun t119 A12 => ?_; refine bdR fun t120 A13 => ?_
    refine ifB (fun c14 => ?_) (fun c14 => ?_)
    · intro H; have c14b0 := beq_iff_eq.mpr c14; have c14b1 := bne_eq_false_iff_eq.mpr c14; clear c14; simp only [Option.some.injEq, Prod.mk.injEq] at H; obtain ⟨rfl, rfl⟩ := H
      go_wp2_with (first | ((with_reducible refine gC 90 ?_); refine gL (some 29) Try.func90 #[.int .i64 a2] ?_; (with_reducible refine (spec_PassStep.calls a2 t115 t116 t117 t118 _ A11.out).mono ?_); rintro e w' ⟨rfl, ⟨nd, rfl⟩⟩; refine ⟨_, rfl, ?_⟩) | ((with_reducible refine gC 147 ?_); refine gL (some 37) Try.func147 #[.int .i64 a0, .int .i64 t115, .int .i64 t117] ?_; (with_reducible refine (spec_l14Count.calls kj3 a0 t115 t117 t119 _ A12.out).mono ?_); rintro e w' ⟨rfl, ⟨nd, rfl⟩⟩; refine ⟨_, rfl, ?_⟩) | ((with_reducible refine gC 147 ?_); refine gL (some 41) Try.func147 #[.int .i64 a1, .int .i64 t116, .int .i64 t118] ?_; (with_reducible refine (spec_l14Count.calls kj3 a1 t116 t118 t120 _ A13.out).mono ?_); rintro e w' ⟨rfl, ⟨nd, rfl⟩⟩; refine ⟨_, rfl, ?_⟩))
      go_ret2; exact ⟨eQ, dQ⟩
    · intro H; have c14b0 := beq_eq_false_iff_ne.mpr c14; have c14b1 := bne_iff_ne.mpr c14; revert H
      refine ifB (fun c15 => ?_) (fun c15 => ?_)
      · intro H; have c15b0 := beq_iff_eq.mpr c15; have c15b1 := bne_eq_false_iff_eq.mpr c15; clear c15; simp only [Option.some.injEq, Prod.mk.injEq] at H; obtain ⟨rfl, rfl⟩ := H
        go_wp2_with (first | ((with_reducible refine gC 90 ?_); refine gL (some 29) Try.func90 #[.int .i64 a2] ?_; (with_reducible refine (spec_PassStep.calls a2 t115 t116 t117 t118 _ A11.out).mono ?_); rintro e w' ⟨rfl, ⟨nd, rfl⟩⟩; refine ⟨_, rfl, ?_⟩) | ((with_reducible refine gC 147 ?_); refine gL (some 37) Try.func147 #[.int .i64 a0, .int .i64 t115, .int .i64 t117] ?_; (with_reducible refine (spec_l14Count.calls kj3 a0 t115 t117 t119 _ A12.out).mono ?_); rintro e w' ⟨rfl, ⟨nd, rfl⟩⟩; refine ⟨_, rfl, ?_⟩) | ((with_reducible refine gC 147 ?_); refine gL (some 41) Try.func147 #[.int .i64 a1, .int .i64 t116, .int .i64 t118] ?_; (with_reducible refine (spec_l14Count.calls kj3 a1 t116 t118 t120 _ A13.out).mono ?_); rintro e w' ⟨rfl, ⟨nd, rfl⟩⟩; refine ⟨_, rfl, ?_⟩))
        go_ret2; exact ⟨eQ, dQ⟩
      · intro H; have c15b0 := beq_eq_false_iff_ne.mpr c15; have c15b1 := bne_iff_ne.mpr c15; simp only [Option.some.injEq, Prod.mk.injEq] at H; obtain ⟨rfl, rfl⟩ := H
        go_wp2_with (first | ((with_reducible refine gC 90 ?_); refine gL (some 29) Try.func90 #[.int .i64 a2] ?_; (with_reducible refine (spec_PassStep.calls a2 t115 t116 t117 t118 _ A11.out).mono ?_); rintro e w' ⟨rfl, ⟨nd, rfl⟩⟩; refine ⟨_, rfl, ?_⟩) | ((with_reducible refine gC 147 ?_); refine gL (some 37) Try.func147 #[.int .i64 a0, .int .i64 t115, .int .i64 t117] ?_; (with_reducible refine (spec_l14Count.calls kj3 a0 t115 t117 t119 _ A12.out).mono ?_); rintro e w' ⟨rfl, ⟨nd, rfl⟩⟩; refine ⟨_, rfl, ?_⟩) | ((with_reducible refine gC 147 ?_); refine gL (some 41) Try.func147 #[.int .i64 a1, .int .i64 t116, .int .i64 t118] ?_; (with_reducible refine (spec_l14Count.calls kj3 a1 t116 t118 t120 _ A13.out).mono ?_); rintro e w' ⟨rfl, ⟨nd, rfl⟩⟩; refine ⟨_, rfl, ?_⟩))
        go_ret2; exact ⟨eQ, dQ⟩

/-! ### spec_l14Passes: function 62 -/
mutual
def spec_l14Passes.l0 : Nat → List (S29) → Int → Int → Int → Int → Int → Int → List Int → Option ((List (S29)))
  | 0, _, _, _, _, _, _, _, _ => none
  | k + 1, x3, x4, x5, x122000, x122001, x122002, x122003, x122004 => if x5 < 7 then ((spec_PassSize.f k x122000 x122001 x5).bind fun bt126 => ((spec_PassStep.f x5).bind fun bt128 => (spec_l14Passes.l1 k x3 x4 x5 bt126.1 bt126.2 bt128.1 bt128.2.1 bt128.2.2.1 bt128.2.2.2 0 x122000 x122001 x122002 x122003 x122004 bt126.1 bt126.2 x122002 x122003 ([] : List Int)))) else (some x3)
def spec_l14Passes.l1 : Nat → List (S29) → Int → Int → Int → Int → Int → Int → Int → Int → Int → Int → Int → Int → Int → List Int → Int → Int → Int → Int → List Int → Option ((List (S29)))
  | 0, _, _, _, _, _, _, _, _, _, _, _, _, _, _, _, _, _, _, _, _ => none
  | k + 1, x3, x4, x5, x6, x7, x8, x9, x10, x11, x13, x122000, x122001, x122002, x122003, x122004, x133000, x133001, x133002, x133003, x133004 => if x13 < x7 then (spec_l14Passes.l2 k x3 x4 x5 x6 x7 x8 x9 x10 x11 x13 0 x122000 x122001 x122002 x122003 x122004 x133000 x133001 x133002 x133003 x133004) else (if x3.length < 2513169434916 then (spec_l14Passes.l0 k (x3 ++ [(⟨x133000, x133001, x133002, x133003, x133004⟩ : S29)]) x4 (wrap64 (x5 + 1)) x122000 x122001 x122002 x122003 x122004) else (none))
def spec_l14Passes.l2 : Nat → List (S29) → Int → Int → Int → Int → Int → Int → Int → Int → Int → Int → Int → Int → Int → Int → List Int → Int → Int → Int → Int → List Int → Option ((List (S29)))
  | 0, _, _, _, _, _, _, _, _, _, _, _, _, _, _, _, _, _, _, _, _, _ => none
  | k + 1, x3, x4, x5, x6, x7, x8, x9, x10, x11, x13, x14, x122000, x122001, x122002, x122003, x122004, x133000, x133001, x133002, x133003, x133004 => if x14 < x6 then (if 0 ≤ (wrap64 ((wrap64 ((wrap64 ((wrap64 ((wrap64 (x9 + (wrap64 (x13 * x11)))) * x122000)) + x8)) + (wrap64 (x14 * x10)))) * x4)) then (if (wrap64 ((wrap64 ((wrap64 ((wrap64 ((wrap64 (x9 + (wrap64 (x13 * x11)))) * x122000)) + x8)) + (wrap64 (x14 * x10)))) * x4)) ≤ (wrap64 ((wrap64 ((wrap64 ((wrap64 ((wrap64 ((wrap64 (x9 + (wrap64 (x13 * x11)))) * x122000)) + x8)) + (wrap64 (x14 * x10)))) * x4)) + x4)) then (if (wrap64 ((wrap64 ((wrap64 ((wrap64 ((wrap64 ((wrap64 (x9 + (wrap64 (x13 * x11)))) * x122000)) + x8)) + (wrap64 (x14 * x10)))) * x4)) + x4)) ≤ (x122004.length : Int) then (if x133004.length + ((x122004.take ((wrap64 ((wrap64 ((wrap64 ((wrap64 ((wrap64 ((wrap64 (x9 + (wrap64 (x13 * x11)))) * x122000)) + x8)) + (wrap64 (x14 * x10)))) * x4)) + x4)) : Int).toNat).drop ((wrap64 ((wrap64 ((wrap64 ((wrap64 ((wrap64 (x9 + (wrap64 (x13 * x11)))) * x122000)) + x8)) + (wrap64 (x14 * x10)))) * x4)) : Int).toNat).length < 17592186044416 then (spec_l14Passes.l2 k x3 x4 x5 x6 x7 x8 x9 x10 x11 x13 (wrap64 (x14 + 1)) x122000 x122001 x122002 x122003 x122004 x133000 x133001 x133002 x133003 (x133004 ++ ((x122004.take ((wrap64 ((wrap64 ((wrap64 ((wrap64 ((wrap64 ((wrap64 (x9 + (wrap64 (x13 * x11)))) * x122000)) + x8)) + (wrap64 (x14 * x10)))) * x4)) + x4)) : Int).toNat).drop ((wrap64 ((wrap64 ((wrap64 ((wrap64 ((wrap64 (x9 + (wrap64 (x13 * x11)))) * x122000)) + x8)) + (wrap64 (x14 * x10)))) * x4)) : Int).toNat))) else (none)) else (none)) else (none)) else (none)) else (spec_l14Passes.l1 k x3 x4 x5 x6 x7 x8 x9 x10 x11 (wrap64 (x13 + 1)) x122000 x122001 x122002 x122003 x122004 x133000 x133001 x133002 x133003 x133004)
end
def spec_l14Passes.f (k : Nat) (a0_0 : Int) (a0_1 : Int) (a0_2 : Int) (a0_3 : Int) (l0_4 : List Int) : Option ((List (S29))) := (spec_ChannelsOf.f k a0_2).bind fun t125 => (spec_l14Passes.l0 k (([] : List (S29))) t125 0 a0_0 a0_1 a0_2 a0_3 l0_4)
def spec_l14Passes.T16 : Bool × List (List Nat × List Nat) := (true, [([], []), ([0], [0]), ([], []), ([2], [2]), ([], []), ([], []), ([], []), ([5, 6], [5, 6]), ([3, 4, 7], [3, 4, 7]), ([1, 8], [1, 8]), ([0, 1, 2, 3, 4, 5, 6, 7, 8, 9], []), ([10, 9, 9, 0, 1, 2, 3, 4, 5, 6, 7, 8, 9], [9, 10])])
def spec_l14Passes.B16 : List Nat := [0, 1, 0, 4, 0, 0, 0, 96, 252, 511, 1023, 2047]
theorem spec_l14Passes.tab16 : rtab .any (opsOf Try.f62 16) = spec_l14Passes.T16 := by kernel_rfl
theorem spec_l14Passes.bits16 : waitsOk spec_l14Passes.T16.2 spec_l14Passes.B16 = true := by kernel_rfl
set_option maxHeartbeats 8000000 in
set_option maxRecDepth 100000 in
theorem spec_l14Passes.calls (k : Nat) (a0_0 : Int) (a0_1 : Int) (a0_2 : Int) (a0_3 : Int) (A0_4 : Option Addr) (c0_4 : Nat) (l0_4 : List Int) (r : List (S29)) (w : World) (hr0_4 : Kd.C (Kd.int .i64) w A0_4 l0_4.length l0_4) (hc0_4 : l0_4.length ≤ c0_4) (h : spec_l14Passes.f k a0_0 a0_1 a0_2 a0_3 l0_4 = some r) :
 Calls Try.prog 62 #[.agg #[.int .i64 a0_0, .int .i64 a0_1, .int .i64 a0_2, .int .i64 a0_3, .slice A0_4 l0_4.length c0_4]] w fun e w' => ∃ v0_ : Value, e = .returned (v0_) ∧ Kd.S k29 29 w' w.heap.size (fun _ => True) v0_ r ∧ Below w.heap.size w w' := by
 have hu29 := Try.underlying29; have HR0_4 := aM hr0_4; have HC0_4 := aM hc0_4; clear hr0_4 hc0_4; have HB := aM (Below.refl w.heap.size w); have H : ((spec_ChannelsOf.f k a0_2).bind fun t125 => (spec_l14Passes.l0 k (([] : List (S29))) t125 0 a0_0 a0_1 a0_2 a0_3 l0_4)) = some r := h; clear h; obtain ⟨y122, hy_⟩ : ∃ y_ : List (S29), y_ = (([] : List (S29))) := ⟨_, rfl⟩; replace H : ((spec_ChannelsOf.f k a0_2).bind fun t125 => (spec_l14Passes.l0 k y122 t125 0 a0_0 a0_1 a0_2 a0_3 l0_4)) = some r := nH; have Ny122 := aM hy_; clear hy_; revert H; refine bdR fun t125 A2 => ?_; refine adR fun H' => ?_; go_enter Try.func62, Try.ntmps62
 go_wp2_with (first | ((with_reducible refine gD 1 ?_); refine bE 1 #[.int .i64 a0_0, .int .i64 a0_1, .int .i64 a0_2, .int .i64 a0_3, .slice A0_4 l0_4.length c0_4] 29 ?_; intro gb121 hg w3 hbox hb; have BK121 := aM hbox; have GW121 := aM (sZ hg); have GE121 := GW121; replace HB := hS hb; clear hb hbox hg) | ((with_reducible refine gD 16 ?_); refine Kd.S_lit k29 _ 29 ?hg (N := 16) ?hd (xs := ([] : List (S29))) (inner := []) (ok := fun _ => True) (okp := fun _ => True) ?hr ?hp (fun _ hk => hk) trivial (Below.refl _ _) (Nat.le_refl _) (by simp) ?_; (case hd => rfl); (case hg => rfl); (case hr => first | (go_simp; done) | (go_simp; rfl)); (case hp => exact (Reps.none _ _)); intro v123 w4 ho5 hb hg_ hnew_; clear hg_ hnew_; (first | rw [← Ny122.out] at ho5 | (simp only [Int.reduceToNat] at ho5; rw [← Ny122.out] at ho5)); have HO124 := aM (Kd.S_lower (Kd.S_newB ho5 (g := gb121) (o := .cells #[.int .i64 a0_0, .int .i64 a0_1, .int .i64 a0_2, .int .i64 a0_3, .slice A0_4 l0_4.length c0_4] 29 (0, 0)) (bI BK121.out)) (below_size hB)); replace BK121 := bW BK121 hb; replace HB := hS hb; clear hb ho5; have hz6 := bz5 BK121) | ((with_reducible refine gC 88 ?_); refine gL (some 19) Try.func88 #[.int .i64 a0_2] ?_; (with_reducible refine (spec_ChannelsOf.calls k a0_2 t125 _ A2.out).mono ?_); rintro e w' ⟨rfl, ⟨nd, rfl⟩⟩; refine ⟨_, rfl, ?_⟩))
 go_loopg [3, 5] k (fun kq v3 v5 w' => ∃ (x3_1 : List (S29)) (x5_1 : Int), v5 = .int .i64 x5_1 ∧ Aside0 (spec_l14Passes.l0 kq x3_1 t125 x5_1 a0_0 a0_1 a0_2 a0_3 l0_4 = some r) ∧ Aside0 (kq ≤ k) ∧ Aside0 (Kd.S k29 29 w' w.heap.size (fun k_ => k_ ≠ gb121) v3 x3_1) ∧ Aside0 (w'.heap[gb121]? = some (.cells #[.int .i64 a0_0, .int .i64 a0_1, .int .i64 a0_2, .int .i64 a0_3, (.slice A0_4 l0_4.length c0_4)] 29 (0, 0))) ∧ Aside0 (Below w.heap.size w w'))
 case atStart => exact ⟨(y122), (0), eQ, H', ⟨Nat.le_refl _⟩, ⟨Kd.S_i (Kd.S_mono HO124.out (fun _ hk => hk.2))⟩, ⟨bI BK121.out⟩, ⟨hB⟩⟩
 case round =>
  clear H'; (try clear p2); (try clear c5); (try clear c6); (try clear hz6); obtain ⟨x3_1, x5_1, rfl, HA, HK1, HO_3, BK121, HB⟩ := hrel; rcases gk with _ | k1
  · exact absurd HA.out (by simp [spec_l14Passes.l0])
  revert HA; refine aoR ?_; intro H; simp only [spec_l14Passes.l0] at H; revert H
  refine ifB (fun c7 => ?_) (fun c7 => ?_)
  · intro H; have c7b0 := decide_eq_true c7; clear c7; revert H; refine bdR fun ⟨t126, t127⟩ A8 => ?_; intro H
    try dsimp only at H
    revert H; refine bdR fun ⟨t128, t129, t130, t131⟩ A9 => ?_; intro H
    try dsimp only at H
    revert H; refine adR fun H' => ?_; have hz10 := bz5 BK121
    go_wp2_with (first | ((with_reducible refine gC 89 ?_); refine gL (some 30) Try.func89 #[.int .i64 a0_0, .int .i64 a0_1, .int .i64 x5_1] ?_; (with_reducible refine (spec_PassSize.calls k1 a0_0 a0_1 x5_1 t126 t127 _ A8.out).mono ?_); rintro e w' ⟨rfl, ⟨nd, rfl⟩⟩; refine ⟨_, rfl, ?_⟩; (try (rw [drewN_self wr]; generalize hq_ : World.drewN wr _ = wr; have n0_ : Aside0 (Kd.S k29 29 wr w.heap.size (fun k_ => k_ ≠ gb121) u3 x3_1) := ⟨by rw [← hq_]; exact (Kd.S_i HO_3.out)⟩; have n1_ : Aside0 (wr.heap[gb121]? = some (.cells #[.int .i64 a0_0, .int .i64 a0_1, .int .i64 a0_2, .int .i64 a0_3, .slice A0_4 l0_4.length c0_4] 29 (0, 0))) := ⟨by rw [← hq_]; exact (bI BK121.out)⟩; have n2_ : Aside0 (Below w.heap.size w wr) := ⟨by rw [← hq_]; exact hB⟩; clear HO_3 BK121 HB hq_; have HO_3 := n0_; have BK121 := n1_; have HB := n2_; clear n0_ n1_ n2_; have hy121 := bz5 BK121))) | ((with_reducible refine gC 90 ?_); refine gL (some 35) Try.func90 #[.int .i64 x5_1] ?_; (with_reducible refine (spec_PassStep.calls x5_1 t128 t129 t130 t131 _ A9.out).mono ?_); rintro e w' ⟨rfl, ⟨nd, rfl⟩⟩; refine ⟨_, rfl, ?_⟩; (try (rw [drewN_self wr]; generalize hq_ : World.drewN wr _ = wr; have n0_ : Aside0 (Kd.S k29 29 wr w.heap.size (fun k_ => k_ ≠ gb121) u3 x3_1) := ⟨by rw [← hq_]; exact (Kd.S_i HO_3.out)⟩; have n1_ : Aside0 (wr.heap[gb121]? = some (.cells #[.int .i64 a0_0, .int .i64 a0_1, .int .i64 a0_2, .int .i64 a0_3, .slice A0_4 l0_4.length c0_4] 29 (0, 0))) := ⟨by rw [← hq_]; exact (bI BK121.out)⟩; have n2_ : Aside0 (Below w.heap.size w wr) := ⟨by rw [← hq_]; exact hB⟩; clear HO_3 BK121 HB hq_; have HO_3 := n0_; have BK121 := n1_; have HB := n2_; clear n0_ n1_ n2_; have hy121 := bz5 BK121))) | ((with_reducible refine gD 12 ?_); refine bE 12 #[.int .i64 0, .int .i64 0, .int .i64 0, .int .i64 0, .slice none 0 0] 29 ?_; intro gb132 hg w11 hbox hb; replace HO_3 := aM (Kd.S_below (Kd.S_elderB (Kd.S_i HO_3.out) gb132 (Nat.le_of_eq hg.symm)) hb); have BK132 := aM hbox; have GW132 := aM (sZ hg); have GE132 := GW132; replace HB := hS hb; have NB121_132 := aM (nL BK121 hg); have NB132_121 := aM (nG BK121 hg); replace BK121 := bW BK121 hb; clear hb hbox hg; have hnb12 := NB132_121.out; have hnc12 := NB121_132.out; have hz13 := bz5 BK132))
    go_loopg [13] k1 (fun kq v13 w' => ∃ (x13_2 : Int) (x133004_2 : List Int) (u133004 : Value), v13 = .int .i64 x13_2 ∧ Aside0 (spec_l14Passes.l1 kq x3_1 t125 x5_1 t126 t127 t128 t129 t130 t131 x13_2 a0_0 a0_1 a0_2 a0_3 l0_4 t126 t127 a0_2 a0_3 x133004_2 = some r) ∧ Aside0 (kq ≤ k1) ∧ Aside0 (Kd.S k29 29 w' w.heap.size (fun k_ => some k_ ≠ (u133004 : Value).ownBlock ∧ k_ ≠ gb121 ∧ k_ ≠ gb132) u3 x3_1) ∧ Aside0 (Kd.R (Kd.int .i64) 3 w' w.heap.size (fun _ => True) u133004 x133004_2) ∧ Aside0 (w'.heap[gb121]? = some (.cells #[.int .i64 a0_0, .int .i64 a0_1, .int .i64 a0_2, .int .i64 a0_3, (.slice A0_4 l0_4.length c0_4)] 29 (0, 0))) ∧ Aside0 (w'.heap[gb132]? = some (.cells #[.int .i64 t126, .int .i64 t127, .int .i64 a0_2, .int .i64 a0_3, u133004] 29 (0, 0))) ∧ Aside0 (Below w.heap.size w w'))
    case atStart => exact ⟨(0), (([] : List Int)), (.slice none 0 0), eQ, H', ⟨Nat.le_refl _⟩, ⟨Kd.S_i (Kd.S_mono (Kd.S_far (p := ⟨gb132, 4, none⟩) (Kd.S_far (p := ⟨gb132, 3, none⟩) (Kd.S_far (p := ⟨gb132, 2, none⟩) (Kd.S_far (p := ⟨gb132, 1, none⟩) (Kd.S_far (p := ⟨gb132, 0, none⟩) (Kd.S_mono HO_3.out (fun k_ hk => (⟨hk, hk.2⟩ : _ ∧ k_ ≠ gb132))) (fun _ hk => hk.2) (.int .i64 t126)) (fun _ hk => hk.2) (.int .i64 t127)) (fun _ hk => hk.2) (.int .i64 a0_2)) (fun _ hk => hk.2) (.int .i64 a0_3)) (fun _ hk => hk.2) (.slice none 0 0)) (fun _ hk => ⟨(by simp [Value.ownBlock]), ⟨hk.1.1, hk.1.2⟩⟩))⟩, ⟨by first | exact Kd.R_nil _ _ _ _ _ | exact Kd.N_nil _ _ _ _ _ | exact Kd.V_nil _ _ _ _ _ | exact Kd.Q_nil _ _ _ _ _ | exact Kd.S_nil _ _ _ _ _⟩, ⟨kB⟩, ⟨kB⟩, ⟨hB⟩⟩
    case round =>
     clear H'; (try clear c1); (try clear p2); (try clear c5); (try clear c6); (try clear c7); (try clear c7b0); (try clear c8); (try clear c9); (try clear c12); (try clear hz10); (try clear hz13); (try clear hz6); obtain ⟨x13_2, x133004_2, u133004, rfl, HA, HK2, HO_3, HO_133004, BK121, BK132, HB⟩ := hrel; rcases gk with _ | k2
     · exact absurd HA.out (by simp [spec_l14Passes.l1])
     revert HA; refine aoR ?_; intro H; simp only [spec_l14Passes.l1] at H; revert H
     refine ifB (fun c14 => ?_) (fun c14 => ?_)
     · intro H; have c14b0 := decide_eq_true c14; clear c14; revert H; refine adR fun H' => ?_; go_wp2
       go_loopg [14] k2 (fun kq v14 w' => ∃ (x14_3 : Int) (x133004_3 : List Int) (u133004 : Value), v14 = .int .i64 x14_3 ∧ Aside0 (spec_l14Passes.l2 kq x3_1 t125 x5_1 t126 t127 t128 t129 t130 t131 x13_2 x14_3 a0_0 a0_1 a0_2 a0_3 l0_4 t126 t127 a0_2 a0_3 x133004_3 = some r) ∧ Aside0 (kq ≤ k2) ∧ Aside0 (Kd.S k29 29 w' w.heap.size (fun k_ => some k_ ≠ (u133004 : Value).ownBlock ∧ k_ ≠ gb121 ∧ k_ ≠ gb132) u3 x3_1) ∧ Aside0 (Kd.R (Kd.int .i64) 3 w' w.heap.size (fun _ => True) u133004 x133004_3) ∧ Aside0 (w'.heap[gb121]? = some (.cells #[.int .i64 a0_0, .int .i64 a0_1, .int .i64 a0_2, .int .i64 a0_3, (.slice A0_4 l0_4.length c0_4)] 29 (0, 0))) ∧ Aside0 (w'.heap[gb132]? = some (.cells #[.int .i64 t126, .int .i64 t127, .int .i64 a0_2, .int .i64 a0_3, u133004] 29 (0, 0))) ∧ Aside0 (Below w.heap.size w w'))
       case atStart => exact ⟨(0), (x133004_2), (u133004), eQ, H', ⟨Nat.le_refl _⟩, ⟨Kd.S_i HO_3.out⟩, ⟨Kd.R_i HO_133004.out⟩, ⟨bI BK121.out⟩, ⟨bI BK132.out⟩, ⟨hB⟩⟩
       case round =>
        clear H'; (try clear c1); (try clear p2); (try clear c5); (try clear c6); (try clear c7); (try clear c7b0); (try clear c8); (try clear c9); (try clear c12); (try clear c14); (try clear c14b0); (try clear hz10); (try clear hz13); (try clear hz6); obtain ⟨x14_3, x133004_3, u133004, rfl, HA, HK3, HO_3, HO_133004, BK121, BK132, HB⟩ := hrel; rcases gk with _ | k3
        · exact absurd HA.out (by simp [spec_l14Passes.l2])
        revert HA; refine aoR ?_; intro H; simp only [spec_l14Passes.l2] at H; revert H
        refine ifB (fun c15 => ?_) (fun c15 => ?_)
        · intro H; have c15b0 := decide_eq_true c15; clear c15; obtain ⟨ji16, hji16⟩ : ∃ j_ : Int, (wrap64 ((wrap64 ((wrap64 ((wrap64 ((wrap64 (t129 + (wrap64 (x13_2 * t131)))) * a0_0)) + t128)) + (wrap64 (x14_3 * t130)))) * t125)) = j_ := ⟨_, rfl⟩; replace H : (if 0 ≤ (ji16) then (if (ji16) ≤ (wrap64 ((ji16) + t125)) then (if (wrap64 ((ji16) + t125)) ≤ (l0_4.length : Int) then (if x133004_3.length + ((l0_4.take ((wrap64 ((ji16) + t125)) : Int).toNat).drop ((ji16) : Int).toNat).length < 17592186044416 then (spec_l14Passes.l2 k3 x3_1 t125 x5_1 t126 t127 t128 t129 t130 t131 x13_2 (wrap64 (x14_3 + 1)) a0_0 a0_1 a0_2 a0_3 l0_4 t126 t127 a0_2 a0_3 (x133004_3 ++ ((l0_4.take ((wrap64 ((ji16) + t125)) : Int).toNat).drop ((ji16) : Int).toNat))) else (none)) else (none)) else (none)) else (none)) = some r := by first | (rw [hji16] at H; exact H) | (simp only [hji16] at H ⊢; exact H)
          have hji16w : (IntKind.i64.wrap ((wrap64 ((wrap64 ((wrap64 ((wrap64 (t129 + (wrap64 (x13_2 * t131)))) * a0_0)) + t128)) + (wrap64 (x14_3 * t130)))) * t125)) = ji16 := (i64_w _).trans hji16; revert H; refine ifR fun c17 => ?_; intro H; have c17b0 := eq_true c17; have c17b1 := decide_eq_true c17; clear c17; revert H; refine ifR fun c18 => ?_; intro H; have c18b0 := eq_true c18; have c18b1 := decide_eq_true c18; revert H; refine ifR fun c19 => ?_; intro H; have c19b0 := eq_true c19; have c19b1 := decide_eq_true c19; revert H; refine ifR fun c20 => ?_; intro H; have LMc20 := aM c20; clear c20; obtain ⟨y137, hy_⟩ : ∃ y_ : List Int, y_ = (x133004_3 ++ ((l0_4.take ((wrap64 ((ji16) + t125)) : Int).toNat).drop ((ji16) : Int).toNat)) := ⟨_, rfl⟩; replace H : (spec_l14Passes.l2 k3 x3_1 t125 x5_1 t126 t127 t128 t129 t130 t131 x13_2 (wrap64 (x14_3 + 1)) a0_0 a0_1 a0_2 a0_3 l0_4 t126 t127 a0_2 a0_3 y137) = some r := nH; have Ny137 := aM hy_; clear hy_; revert H; refine adR fun H' => ?_; have hnb21 := NB121_132.out; have hnc21 := NB132_121.out; have hz22 := bz5 BK121
          try go_wp2
          replace HO_3 := aM (Kd.S_drew HO_3.out); replace HO_133004 := aM (Kd.R_drew HO_133004.out); replace BK121 := aM (blk_drew BK121.out); replace BK132 := aM (blk_drew BK132.out); replace HB := aM (below_drew1 HB.out); obtain ⟨i024, hi024, _, hsz24, _⟩ := info_parts info3; obtain ⟨A24, hcut24, hA24, hC24⟩ := print_mid_of (P := Try.prog) (Value.int .i64) 0 22 3 .i64 .i64 Try.underlying22 hi024 hsz24 A0_4 c0_4 l0_4 (ji16) (wrap64 ((ji16) + t125)) (bD) (by first | omega | exact bD) (bD) HC0_4.out; have HR136 := aM (Kd.C_of_reads (h1 := fun _ => rfl) (hA24 _ (Kd.reads_of_C HR0_4.out))); have HC136 := aM hC24; clear hA24 hC24 hi024 hsz24
          refine start_ (n := 12) (S := fun w' => w'.cell? ⟨gb132, 0, none⟩ = some (.int .i64 t126) ∧ w'.cell? ⟨gb132, 1, none⟩ = some (.int .i64 t127) ∧ w'.cell? ⟨gb132, 2, none⟩ = some (.int .i64 a0_2) ∧ w'.cell? ⟨gb132, 3, none⟩ = some (.int .i64 a0_3) ∧ w'.cell? ⟨gb132, 4, none⟩ = some (u133004) ∧ w'.cell? ⟨gb121, 0, none⟩ = some (.int .i64 a0_0) ∧ w'.cell? ⟨gb121, 1, none⟩ = some (.int .i64 a0_1) ∧ w'.cell? ⟨gb121, 2, none⟩ = some (.int .i64 a0_2) ∧ w'.cell? ⟨gb121, 3, none⟩ = some (.int .i64 a0_3) ∧ w'.cell? ⟨gb121, 4, none⟩ = some (.slice A0_4 l0_4.length c0_4)) (ds := [11]) (bAr 12 0) (by kernel_rfl) rfl rfl ⟨bC BK132 0, bC BK132 1, bC BK132 2, bC BK132 3, bC BK132 4, bC BK121 0, bC BK121 1, bC BK121 2, bC BK121 3, bC BK121 4⟩ (fun hHeld => ?_); refine with_tabW spec_l14Passes.tab16 spec_l14Passes.bits16 (fun HT_ HW_ => ?_)
          generalize wr.drew = w23 at HO_3 HO_133004 BK121 BK132 HB HR136 hHeld ⊢; refine pU 0 73 (bAr 12 1) ?_; refine pU 2 75 (bAr 12 5) ?_; refine pU 4 77 (bAr 12 21) ?_; refine pU 5 78 (bAr 12 53) ?_; refine pU 6 79 (bAr 12 117) ?_; refine pU 7 80 (bAr 12 245) ?_
          refine tK 1 74 (bAr 12 247) ?_
          refine tK 3 76 (bAr 12 255) ?_; refine pU 8 81 (bAr 12 511) ?_
          refine one_ (i := 9) (N := some 82) (bAr 12 1023) rfl rfl (one_of HT_.out (by kernel_rfl)) (by decide) (fun K hK => ?_)
          refine Kd.R_append_rows_step (Kd.int .i64) (w0 := w) w.heap.size (by rfl) (.tmp 74) (.tmp 81) 22 3 (.int .i64 0) 8 rfl Try.underlying22 info3 rfl (by decide) (by omega) u133004 x133004_3 ((l0_4.take ((wrap64 ((ji16) + t125)) : Int).toNat).drop ((ji16) : Int).toNat) _ _ _ (fun _ => True) (fun _ => False) rfl rfl ?aO ?aR (fun _ _ h => h) (fun _ h => h.elim) ?aF ?aB ?aS ?aL ?_
          (case aR => first | (rw [← show ((l0_4.take ((wrap64 ((ji16) + t125)) : Int).toNat).drop ((ji16) : Int).toNat).length = ((wrap64 ((ji16) + t125)).toNat - (ji16).toNat) from (by rw [lD, lT]; have h_ : ((wrap64 ((ji16) + t125)) : Int) ≤ (l0_4.length : Int) := bD; omega)]; repeat (first | exact (Kd.C_below HR136.out HB.out) | (with_reducible refine Kd.C_alloc ?_ _) | (with_reducible refine Kd.C_drewN ?_ _) | (with_reducible refine Kd.C_drew ?_))) | (repeat (first | exact (Kd.C_below HR136.out HB.out) | (with_reducible refine Kd.C_alloc ?_ _) | (with_reducible refine Kd.C_drewN ?_ _) | (with_reducible refine Kd.C_drew ?_))))
          (case aB => exact hB)
          (case aF => exact (fun _ _ => trivial))
          (case aO => exact (Kd.R_i HO_133004.out))
          (case aS => exact (below_size hB))
          (case aL => have := LMc20.out; have hlx_ := (show ((l0_4.take ((wrap64 ((ji16) + t125)) : Int).toNat).drop ((ji16) : Int).toNat).length = ((wrap64 ((ji16) + t125)).toNat - (ji16).toNat) from (by rw [lD, lT]; have h_ : ((wrap64 ((ji16) + t125)) : Int) ≤ (l0_4.length : Int) := bD; omega)); omega); intro v138 w25 ho hb hg hat
          rw [← Ny137.out] at ho; replace HO_3 := aM (Kd.S_after (ok := (fun k_ => k_ ≠ gb121 ∧ k_ ≠ gb132)) (Kd.S_i (Kd.S_mono HO_3.out (fun _ hk => ⟨⟨hk.2.1, hk.2.2⟩, hk.1⟩))) hg hat); replace BK121 := aM (blk_grown (g := gb121) (o := .cells #[.int .i64 a0_0, .int .i64 a0_1, .int .i64 a0_2, .int .i64 a0_3, .slice A0_4 l0_4.length c0_4] 29 (0, 0)) (bI BK121.out) hg (Kd.R_ne HO_133004.out BK121.out (by decide))); replace BK132 := aM (blk_grown (g := gb132) (o := .cells #[.int .i64 t126, .int .i64 t127, .int .i64 a0_2, .int .i64 a0_3, u133004] 29 (0, 0)) (bI BK132.out) hg (Kd.R_ne HO_133004.out BK132.out (by decide))); replace HB := aM hb; have HO139 := aM ho; clear HO_133004; clear ho hb hg hat; obtain ⟨Ao26, co26, eo26⟩ := Kd.R_slice HO139.out
          (first | subst eo26 | (injection eo26 with f1_ f2_ f3_; have f4_ := f1_.symm; have f5_ := f3_.symm; clear f1_ f2_ f3_; subst f4_; subst f5_))
          refine hK.out _ _ ⟨bC BK132 0, bC BK132 1, bC BK132 2, bC BK132 3, bC BK132 4, bC BK121 0, bC BK121 1, bC BK121 2, bC BK121 3, bC BK121 4⟩ (fun hHeld => ?_); clear hK K
          refine norm_ (a' := ?_) ?_ ?_; rotate_left
          · show Act.put _ (some 82) _ = _
            simp only [Act.put, lI, lZ, lS, i64_w, i32_w]
            rfl
          refine pU 10 83 (bAr 12 2047) ?_
          refine last_ (i := 11) (N := none) (bAr 12 4095) rfl rfl (one_of HT_.out (by kernel_rfl)) (by decide) (fun K hK => ?_); have hs27 : w25.cell? ⟨gb132, 4, none⟩ = some (u133004) := bC BK132 4; have hfs27 := blk_frozen BK132.out 4; have hns27_0 := NB121_132.out; have hms27_0 := NB132_121.out
          refine skip_ (w1 := ?_) (by rfl) rfl ?_ ?_; rotate_left
          · go_simp
            rfl
          refine hK.out _ _ ?_; clear hK K
          refine done_ (done_of HT_.out (by kernel_rfl)) ?_
          try go_wp2
          go_roundg k3
          case measure => have := HK1.out; have := HK2.out; have := HK3.out; omega
          case rel => exact ⟨(wrap64 (x14_3 + 1)), (y137), (.slice Ao26 y137.length co26), eQ, H', ⟨by have := HK1.out; have := HK2.out; have := HK3.out; omega⟩, ⟨Kd.S_i (Kd.S_mono (Kd.S_far (p := ⟨gb132, 4, none⟩) (Kd.S_mono HO_3.out (fun k_ hk => (⟨hk, hk.1.2⟩ : _ ∧ k_ ≠ gb132))) (fun _ hk => hk.2) (.slice Ao26 y137.length co26)) (fun _ hk => ⟨hk.1.2, ⟨hk.1.1.1, hk.1.1.2⟩⟩))⟩, ⟨Kd.R_i (Kd.R_mono (Kd.R_far (p := ⟨gb132, 4, none⟩) (Kd.R_types HO139.out BK132.out (by decide)) (fun _ hk => hk.2) (.slice Ao26 y137.length co26)) (fun _ hk => trivial))⟩, ⟨kB⟩, ⟨kB⟩, ⟨hB⟩⟩
        · intro H; have c15b0 := decide_eq_false c15; clear c15; revert H; refine adR fun H' => ?_; go_wp2; go_roundg k3
          case measure => have := HK1.out; have := HK2.out; have := HK3.out; omega
          case rel => exact ⟨(wrap64 (x13_2 + 1)), (x133004_3), (u133004), eQ, H', ⟨by have := HK1.out; have := HK2.out; have := HK3.out; omega⟩, ⟨Kd.S_i HO_3.out⟩, ⟨Kd.R_i HO_133004.out⟩, ⟨bI BK121.out⟩, ⟨bI BK132.out⟩, ⟨hB⟩⟩
     · intro H; have c14b0 := decide_eq_false c14; clear c14; revert H; refine ifR fun c28 => ?_; intro H; have LMc28 := aM c28; clear c28; obtain ⟨y133, hy_⟩ : ∃ y_ : List (S29), y_ = (x3_1 ++ [(⟨t126, t127, a0_2, a0_3, x133004_2⟩ : S29)]) := ⟨_, rfl⟩; replace H : (spec_l14Passes.l0 k2 y133 t125 (wrap64 (x5_1 + 1)) a0_0 a0_1 a0_2 a0_3 l0_4) = some r := nH; have Ny133 := aM hy_; clear hy_; revert H; refine adR fun H' => ?_; have hnb29 := NB132_121.out; have hnc29 := NB121_132.out; have hz30 := bz5 BK132; obtain ⟨Ao32, co32, eo32⟩ := Kd.R_slice HO_133004.out; subst eo32
       go_wp2_with (first | ((with_reducible refine gate_builtin (b := .append) (xs := #[.tmp 84, .tmp 86]) rfl ?_); at_builtin; refine Kd.S_append k29 (w0 := w) w.heap.size rfl (.tmp 84) (.tmp 86) 26 29 (.agg #[(.int .i64 0), (.int .i64 0), (.int .i64 0), (.int .i64 0), (.slice none 0 0)]) 56 rfl Try.underlying26 info29 rfl (by decide) (by omega) u3 x3_1 (⟨t126, t127, a0_2, a0_3, x133004_2⟩ : S29) [.int .i64 t126, .int .i64 t127, .int .i64 a0_2, .int .i64 a0_3, .slice Ao32 x133004_2.length co32] (fun k_ => k_ ≠ gb121 ∧ k_ ≠ gb132) (fun k_ => some k_ = (.slice Ao32 x133004_2.length co32 : Value).ownBlock) rfl rfl ?aP (fun k_ hk_ => ((Kd.R_mono (ok' := fun k_ => ((fun k_ => k_ ≠ gb121 ∧ k_ ≠ gb132)) k_ ∧ some k_ ≠ (u3 : Value).ownBlock) (Kd.R_types (Kd.R_types (Kd.R_apart' (HO_133004.out) (Kd.S_typed HO_3.out) (by decide)) BK121.out (by decide)) BK132.out (by decide)) (fun k_ hk => ⟨⟨hk.1.2, hk.2⟩, hk.1.1.2⟩))).1 k_ hk_.symm) ?aF ?aO ?aB ?aS ?aL ?_; (case aP => exact k29_mkM _ _ _ (⟨t126, t127, a0_2, a0_3, x133004_2⟩ : S29) (Kd.R_mono (Kd.R_tight rfl (Kd.R_mono (ok' := fun k_ => ((fun k_ => k_ ≠ gb121 ∧ k_ ≠ gb132)) k_ ∧ some k_ ≠ (u3 : Value).ownBlock) (Kd.R_types (Kd.R_types (Kd.R_apart' (HO_133004.out) (Kd.S_typed HO_3.out) (by decide)) BK121.out (by decide)) BK132.out (by decide)) (fun k_ hk => ⟨⟨hk.1.2, hk.2⟩, hk.1.1.2⟩))) (fun _ h_ => h_))); (case aB => exact hB); (case aF => exact (fun k_ hk => ⟨Kd.freshB (g := gb121) (o := .cells #[.int .i64 a0_0, .int .i64 a0_1, .int .i64 a0_2, .int .i64 a0_3, .slice A0_4 l0_4.length c0_4] 29 (0, 0)) (bI BK121.out) k_ hk, Kd.freshB (g := gb132) (o := .cells #[.int .i64 t126, .int .i64 t127, .int .i64 a0_2, .int .i64 a0_3, .slice Ao32 x133004_2.length co32] 29 (0, 0)) (bI BK132.out) k_ hk⟩)); (case aO => exact (Kd.S_i (Kd.S_mono HO_3.out (fun k_ hk => ⟨⟨hk.2.1, hk.2.2⟩, fun e_ => hk.1 e_⟩)))); (case aS => exact (below_size hB)); (case aL => have := LMc28.out; omega); intro v134 w31 ho hb hg hat; rw [← Ny133.out] at ho; replace BK121 := aM (blk_grown (g := gb121) (o := .cells #[.int .i64 a0_0, .int .i64 a0_1, .int .i64 a0_2, .int .i64 a0_3, .slice A0_4 l0_4.length c0_4] 29 (0, 0)) (bI BK121.out) hg (Kd.S_away HO_3.out (fun _ hk => hk.2.1))); replace BK132 := aM (blk_grown (g := gb132) (o := .cells #[.int .i64 t126, .int .i64 t127, .int .i64 a0_2, .int .i64 a0_3, .slice Ao32 x133004_2.length co32] 29 (0, 0)) (bI BK132.out) hg (Kd.S_away HO_3.out (fun _ hk => hk.2.2))); replace HB := aM hb; have HO135 := aM ho; clear HO_3 HO_133004; clear ho hb hg hat)); go_roundg k2
       case measure => have := HK1.out; have := HK2.out; omega
       case rel => exact ⟨(y133), (wrap64 (x5_1 + 1)), eQ, H', ⟨by have := HK1.out; have := HK2.out; omega⟩, ⟨Kd.S_i (Kd.S_mono HO135.out (fun _ hk => hk.1))⟩, ⟨bI BK121.out⟩, ⟨hB⟩⟩
  · intro H; have c7b0 := decide_eq_false c7; clear c7; obtain rfl := Option.some.inj H; go_wp2; go_ret; exact ⟨_, eE, Kd.S_i (Kd.S_mono HO_3.out (fun _ hk => trivial)), hB⟩

end Go.Proofs.Ytajnobmnkbkkgaa.PFnExactPassesOf
