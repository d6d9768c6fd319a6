/- Walks of functions that the law FnExactFromPasses reaches: each call comes to what the Lean function of its name tells. Written by p2.py, a program of this session, turned by mendwr.py, by way of the kit's print. -/
import Derived.Test.YtajnobmnkbkkgaaVFnExactFromPasses
import Derived.Test.YtajnobmnkbkkgaaPFnExactFromPassesx0
import Derived.Test.YtajnobmnkbkkgaaPFnExactFromPassesx2
namespace Go.Proofs.Ytajnobmnkbkkgaa.PFnExactFromPasses
open Go.RowKit Go.Proofs.YtajnobmnkbkkgaaW.PrintWords Go.Proofs.YtajnobmnkbkkgaaW.PrintLast Go.Proofs.YtajnobmnkbkkgaaW.PrintMore
attribute [local go_sem] max2_int min2_int max_two min_two max_three min_three max_four min_four   -- for this text's walks alone
set_option linter.unusedVariables false
set_option linter.unusedSimpArgs false

/-! ### spec_PassStep: function 90 -/
def spec_PassStep.f (a0 : Int) : Option (Int × Int × Int × Int) := if a0 = 0 then (some (0, 0, 8, 8)) else (if a0 = 1 then (some (4, 0, 8, 8)) else (if a0 = 2 then (some (0, 4, 4, 8)) else (if a0 = 3 then (some (2, 0, 4, 4)) else (if a0 = 4 then (some (0, 2, 2, 4)) else (if a0 = 5 then (some (1, 0, 2, 2)) else (if a0 = 6 then (some (0, 1, 1, 2)) else (some (0, 0, 0, 0))))))))
set_option maxHeartbeats 8000000 in
set_option maxRecDepth 100000 in
theorem spec_PassStep.calls (a0 : Int) (r1 : Int) (r2 : Int) (r3 : Int) (r4 : Int) (w : World) (h : spec_PassStep.f a0 = some (r1, r2, r3, r4)) :
 Calls Try.prog 90 #[.int .i64 a0] w fun e w' => e = .returned (.tuple #[.int .i64 r1, .int .i64 r2, .int .i64 r3, .int .i64 r4]) ∧ Drawn0 w w' := by
 unfold spec_PassStep.f at h; have H := h; clear h; revert H
 refine ifB (fun c2 => ?_) (fun c2 => ?_)
 · intro H; have c2b0 := beq_iff_eq.mpr c2; have c2b1 := bne_eq_false_iff_eq.mpr c2; clear c2; simp only [Option.some.injEq, Prod.mk.injEq] at H; obtain ⟨rfl, rfl, rfl, rfl⟩ := H; go_enter Try.func90, Try.ntmps90; go_wp2
   refine bodyPost_ret (results_list (rs := [.tmp 2, .tmp 3, .tmp 4, .tmp 5]) rfl (by simp) (.tmp (.tmp (.tmp (.tmp .nil))))) rfl ?_; exact ⟨eQ, dQ⟩
 · intro H; have c2b0 := beq_eq_false_iff_ne.mpr c2; have c2b1 := bne_iff_ne.mpr c2; revert H
   refine ifB (fun c3 => ?_) (fun c3 => ?_)
   · intro H; have c3b0 := beq_iff_eq.mpr c3; have c3b1 := bne_eq_false_iff_eq.mpr c3; clear c3; simp only [Option.some.injEq, Prod.mk.injEq] at H; obtain ⟨rfl, rfl, rfl, rfl⟩ := H; go_enter Try.func90, Try.ntmps90; go_wp2
     refine bodyPost_ret (results_list (rs := [.tmp 2, .tmp 3, .tmp 4, .tmp 5]) rfl (by simp) (.tmp (.tmp (.tmp (.tmp .nil))))) rfl ?_; exact ⟨eQ, dQ⟩
   · intro H; have c3b0 := beq_eq_false_iff_ne.mpr c3; have c3b1 := bne_iff_ne.mpr c3; revert H
     refine ifB (fun c4 => ?_) (fun c4 => ?_)
     · intro H; have c4b0 := beq_iff_eq.mpr c4; have c4b1 := bne_eq_false_iff_eq.mpr c4; clear c4; simp only [Option.some.injEq, Prod.mk.injEq] at H; obtain ⟨rfl, rfl, rfl, rfl⟩ := H; go_enter Try.func90, Try.ntmps90; go_wp2
       refine bodyPost_ret (results_list (rs := [.tmp 2, .tmp 3, .tmp 4, .tmp 5]) rfl (by simp) (.tmp (.tmp (.tmp (.tmp .nil))))) rfl ?_; exact ⟨eQ, dQ⟩
     · intro H; have c4b0 := beq_eq_false_iff_ne.mpr c4; have c4b1 := bne_iff_ne.mpr c4; revert H
       refine ifB (fun c5 => ?_) (fun c5 => ?_)
       · intro H; have c5b0 := beq_iff_eq.mpr c5; have c5b1 := bne_eq_false_iff_eq.mpr c5; clear c5; simp only [Option.some.injEq, Prod.mk.injEq] at H; obtain ⟨rfl, rfl, rfl, rfl⟩ := H; go_enter Try.func90, Try.ntmps90; go_wp2
         refine bodyPost_ret (results_list (rs := [.tmp 2, .tmp 3, .tmp 4, .tmp 5]) rfl (by simp) (.tmp (.tmp (.tmp (.tmp .nil))))) rfl ?_; exact ⟨eQ, dQ⟩
       · intro H; have c5b0 := beq_eq_false_iff_ne.mpr c5; have c5b1 := bne_iff_ne.mpr c5; revert H
         refine ifB (fun c6 => ?_) (fun c6 => ?_)
         · intro H; have c6b0 := beq_iff_eq.mpr c6; have c6b1 := bne_eq_false_iff_eq.mpr c6; clear c6; simp only [Option.some.injEq, Prod.mk.injEq] at H; obtain ⟨rfl, rfl, rfl, rfl⟩ := H; go_enter Try.func90, Try.ntmps90; go_wp2
           refine bodyPost_ret (results_list (rs := [.tmp 2, .tmp 3, .tmp 4, .tmp 5]) rfl (by simp) (.tmp (.tmp (.tmp (.tmp .nil))))) rfl ?_; exact ⟨eQ, dQ⟩
         · intro H; have c6b0 := beq_eq_false_iff_ne.mpr c6; have c6b1 := bne_iff_ne.mpr c6; revert H
           refine ifB (fun c7 => ?_) (fun c7 => ?_)
           · intro H; have c7b0 := beq_iff_eq.mpr c7; have c7b1 := bne_eq_false_iff_eq.mpr c7; clear c7; simp only [Option.some.injEq, Prod.mk.injEq] at H; obtain ⟨rfl, rfl, rfl, rfl⟩ := H; go_enter Try.func90, Try.ntmps90; go_wp2
             refine bodyPost_ret (results_list (rs := [.tmp 2, .tmp 3, .tmp 4, .tmp 5]) rfl (by simp) (.tmp (.tmp (.tmp (.tmp .nil))))) rfl ?_; exact ⟨eQ, dQ⟩
           · intro H; have c7b0 := beq_eq_false_iff_ne.mpr c7; have c7b1 := bne_iff_ne.mpr c7; revert H
             refine ifB (fun c8 => ?_) (fun c8 => ?_)
             · intro H; have c8b0 := beq_iff_eq.mpr c8; have c8b1 := bne_eq_false_iff_eq.mpr c8; clear c8; simp only [Option.some.injEq, Prod.mk.injEq] at H; obtain ⟨rfl, rfl, rfl, rfl⟩ := H; go_enter Try.func90, Try.ntmps90; go_wp2
               refine bodyPost_ret (results_list (rs := [.tmp 2, .tmp 3, .tmp 4, .tmp 5]) rfl (by simp) (.tmp (.tmp (.tmp (.tmp .nil))))) rfl ?_; exact ⟨eQ, dQ⟩
             · intro H; have c8b0 := beq_eq_false_iff_ne.mpr c8; have c8b1 := bne_iff_ne.mpr c8; simp only [Option.some.injEq, Prod.mk.injEq] at H; obtain ⟨rfl, rfl, rfl, rfl⟩ := H; go_enter Try.func90, Try.ntmps90; go_wp2
               refine bodyPost_ret (results_list (rs := [.tmp 2, .tmp 3, .tmp 4, .tmp 5]) rfl (by simp) (.tmp (.tmp (.tmp (.tmp .nil))))) rfl ?_; exact ⟨eQ, dQ⟩

/-! ### spec_l14Count: function 147 -/
def spec_l14Count.l0 : Nat → Int → Int → Int → Int → Option (Int)
  | 0, _, _, _, _ => none
  | k + 1, x0, x2, x7, x8 => if x8 < x0 then (spec_l14Count.l0 k x0 x2 (wrap64 (x7 + 1)) (wrap64 (x8 + x2))) else (some x7)
def spec_l14Count.f (k : Nat) (a0 : Int) (a1 : Int) (a2 : Int) : Option (Int) := spec_l14Count.l0 k a0 a2 0 a1
set_option maxHeartbeats 8000000 in
set_option maxRecDepth 100000 in
theorem spec_l14Count.calls (k : Nat) (a0 : Int) (a1 : Int) (a2 : Int) (r : Int) (w : World) (h : spec_l14Count.f k a0 a1 a2 = some r) :
 Calls Try.prog 147 #[.int .i64 a0, .int .i64 a1, .int .i64 a2] w fun e w' => e = .returned (.int .i64 r) ∧ Drawn0 w w' := by
 have H : (spec_l14Count.l0 k a0 a2 0 a1) = some r := h; clear h; revert H; refine adR fun H' => ?_; go_enter Try.func147, Try.ntmps147; go_wp2
 go_loopg [7, 8] k (fun kq v7 v8 w' => ∃ (x7_1 : Int) (x8_1 : Int), v7 = .int .i64 x7_1 ∧ v8 = .int .i64 x8_1 ∧ Aside0 (spec_l14Count.l0 kq a0 a2 x7_1 x8_1 = some r) ∧ Aside0 (kq ≤ k) ∧ Drawn0 w w')
 case atStart => exact ⟨(0), (a1), eQ, eQ, H', ⟨Nat.le_refl _⟩, dQ⟩
 case round =>
  clear H'; (try clear c1); (try clear p2); obtain ⟨x7_1, x8_1, rfl, rfl, HA, HK1, ⟨m1, rfl⟩⟩ := hrel; rcases gk with _ | k1
  · exact absurd HA.out (by simp [spec_l14Count.l0])
  revert HA; refine aoR ?_; intro H; simp only [spec_l14Count.l0] at H; revert H
  refine ifB (fun c4 => ?_) (fun c4 => ?_)
  · intro H; have c4b0 := decide_eq_true c4; clear c4; revert H; refine adR fun H' => ?_; go_wp2; go_roundg k1
    case measure => have := HK1.out; omega
    case rel => exact ⟨(wrap64 (x7_1 + 1)), (wrap64 (x8_1 + a2)), eQ, eQ, H', ⟨by have := HK1.out; omega⟩, dQ⟩
  · intro H; have c4b0 := decide_eq_false c4; clear c4; obtain rfl := Option.some.inj H; go_wp2; go_ret; exact ⟨eQ, dQ⟩

/-! ### spec_PassSize: function 89 -/
def spec_PassSize.j0 : Nat → Int → Int → Int → Bool → Option (Int × Int)
  | 0, _, _, _, _ => none
  | k + 1, x0, x1, x2, x26 => if x26 = true then (some (0, 0)) else ((spec_PassStep.f x2).bind fun bt135 => ((spec_l14Count.f k x0 bt135.1 bt135.2.2.1).bind fun t139 => ((spec_l14Count.f k x1 bt135.2.1 bt135.2.2.2).bind fun t140 => (if t139 = 0 then (some (0, 0)) else (if t140 = 0 then (some (0, 0)) else (some (t139, t140)))))))
def spec_PassSize.f (k : Nat) (a0 : Int) (a1 : Int) (a2 : Int) : Option (Int × Int) := (spec_l12Side.f a0).bind fun t132 => (if t132 = true then ((spec_l12Side.f a1).bind fun t133 => (if t133 = true then ((spec_l01In.f a2 0 6).bind fun t134 => (spec_PassSize.j0 k a0 a1 a2 (!t134))) else (spec_PassSize.j0 k a0 a1 a2 true))) else (spec_PassSize.j0 k a0 a1 a2 true))
set_option maxHeartbeats 8000000 in
set_option maxRecDepth 100000 in
theorem spec_PassSize.calls (k : Nat) (a0 : Int) (a1 : Int) (a2 : Int) (r1 : Int) (r2 : Int) (w : World) (h : spec_PassSize.f k a0 a1 a2 = some (r1, r2)) :
 Calls Try.prog 89 #[.int .i64 a0, .int .i64 a1, .int .i64 a2] w fun e w' => e = .returned (.tuple #[.int .i64 r1, .int .i64 r2]) ∧ Drawn0 w w' := by
 unfold spec_PassSize.f at h; have H := h; clear h; revert H; refine adR fun HC4 => ?_; go_enter Try.func89, Try.ntmps89
 go_upto_region 1 with (fail)
 go_cut [26] (fun v26 wc => ∃ (kq : Nat) (x26_3 : Bool), v26 = .bool x26_3 ∧ Aside0 (spec_PassSize.j0 kq a0 a1 a2 x26_3 = some (r1, r2)) ∧ Aside0 (kq ≤ k) ∧ Drawn0 w wc)
 case first =>
  revert HC4; refine aoR ?_; refine bdR fun t132 A5 => ?_
  refine ifB (fun c6 => ?_) (fun c6 => ?_)
  · intro H; subst c6; revert H; refine bdR fun t133 A7 => ?_
    refine ifB (fun c8 => ?_) (fun c8 => ?_)
    · intro H; subst c8; revert H; refine bdR fun t134 A9 => ?_; refine adR fun H' => ?_
      go_wp2_with (first | ((with_reducible refine gC 77 ?_); refine gL (some 15) Try.func77 #[.int .i64 a0] ?_; (with_reducible refine (spec_l12Side.calls a0 true _ A5.out).mono ?_); rintro e w' ⟨rfl, ⟨nd, rfl⟩⟩; refine ⟨_, rfl, ?_⟩) | (go_at_call 77; (with_reducible refine (spec_l12Side.calls a1 true _ A7.out).mono ?_); rintro e w' ⟨rfl, ⟨nd, rfl⟩⟩) | (go_at_call 129; (with_reducible refine (spec_l01In.calls a2 0 6 t134 _ A9.out).mono ?_); rintro e w' ⟨rfl, ⟨nd, rfl⟩⟩)); go_meet
      case rel => exact ⟨_, (!t134), eQ, H', ⟨lE⟩, dQ⟩
    · intro H; replace c8 := Bool.eq_false_iff.mpr c8; subst c8; revert H; refine adR fun H' => ?_
      go_wp2_with (first | ((with_reducible refine gC 77 ?_); refine gL (some 15) Try.func77 #[.int .i64 a0] ?_; (with_reducible refine (spec_l12Side.calls a0 true _ A5.out).mono ?_); rintro e w' ⟨rfl, ⟨nd, rfl⟩⟩; refine ⟨_, rfl, ?_⟩) | (go_at_call 77; (with_reducible refine (spec_l12Side.calls a1 false _ A7.out).mono ?_); rintro e w' ⟨rfl, ⟨nd, rfl⟩⟩)); go_meet
      case rel => exact ⟨_, (true), eQ, H', ⟨lE⟩, dQ⟩
  · intro H; replace c6 := Bool.eq_false_iff.mpr c6; subst c6; revert H; refine adR fun H' => ?_
    go_wp2_with (first | ((with_reducible refine gC 77 ?_); refine gL (some 15) Try.func77 #[.int .i64 a0] ?_; (with_reducible refine (spec_l12Side.calls a0 false _ A5.out).mono ?_); rintro e w' ⟨rfl, ⟨nd, rfl⟩⟩; refine ⟨_, rfl, ?_⟩)); go_meet
    case rel => exact ⟨_, (true), eQ, H', ⟨lE⟩, dQ⟩
 case rest =>
  clear HC4; (try clear p2); (try clear c6); (try clear c7); (try clear c8); obtain ⟨kq, x26_3, rfl, HA, HJ3, ⟨mc3, rfl⟩⟩ := hcut; rcases kq with _ | kj3
  · exact absurd HA.out (by simp [spec_PassSize.j0])
  revert HA; refine aoR ?_; intro H; simp only [spec_PassSize.j0] at H; revert H
  refine ifB (fun c10 => ?_) (fun c10 => ?_)
  · intro H; subst c10; simp only [Option.some.injEq, Prod.mk.injEq] at H; obtain ⟨rfl, rfl⟩ := H; go_wp2
    go_ret2; exact ⟨eQ, dQ⟩
  · intro H; replace c10 := Bool.eq_false_iff.mpr c10; subst c10; revert H; refine bdR fun ⟨t135, t136, t137, t138⟩ A11 => ?_; intro H
    try dsimp only at H
    revert H; refine bdR fun t139 A12 => ?_; refine bdR fun t140 A13 => ?_
    refine ifB (fun c14 => ?_) (fun c14 => ?_)
    · intro H; have c14b0 := beq_iff_eq.mpr c14; have c14b1 := bne_eq_false_iff_eq.mpr c14; clear c14; simp only [Option.some.injEq, Prod.mk.injEq] at H; obtain ⟨rfl, rfl⟩ := H
      go_wp2_with (first | ((with_reducible refine gC 90 ?_); refine gL (some 29) Try.func90 #[.int .i64 a2] ?_; (with_reducible refine (spec_PassStep.calls a2 t135 t136 t137 t138 _ A11.out).mono ?_); rintro e w' ⟨rfl, ⟨nd, rfl⟩⟩; refine ⟨_, rfl, ?_⟩) | ((with_reducible refine gC 147 ?_); refine gL (some 37) Try.func147 #[.int .i64 a0, .int .i64 t135, .int .i64 t137] ?_; (with_reducible refine (spec_l14Count.calls kj3 a0 t135 t137 t139 _ A12.out).mono ?_); rintro e w' ⟨rfl, ⟨nd, rfl⟩⟩; refine ⟨_, rfl, ?_⟩) | ((with_reducible refine gC 147 ?_); refine gL (some 41) Try.func147 #[.int .i64 a1, .int .i64 t136, .int .i64 t138] ?_; (with_reducible refine (spec_l14Count.calls kj3 a1 t136 t138 t140 _ A13.out).mono ?_); rintro e w' ⟨rfl, ⟨nd, rfl⟩⟩; refine ⟨_, rfl, ?_⟩))
      go_ret2; exact ⟨eQ, dQ⟩
    · intro H; have c14b0 := beq_eq_false_iff_ne.mpr c14; have c14b1 := bne_iff_ne.mpr c14; revert H
      refine ifB (fun c15 => ?_) (fun c15 => ?_)
      · intro H; have c15b0 := beq_iff_eq.mpr c15; have c15b1 := bne_eq_false_iff_eq.mpr c15; clear c15; simp only [Option.some.injEq, Prod.mk.injEq] at H; obtain ⟨rfl, rfl⟩ := H
        go_wp2_with (first | ((with_reducible refine gC 90 ?_); refine gL (some 29) Try.func90 #[.int .i64 a2] ?_; (with_reducible refine (spec_PassStep.calls a2 t135 t136 t137 t138 _ A11.out).mono ?_); rintro e w' ⟨rfl, ⟨nd, rfl⟩⟩; refine ⟨_, rfl, ?_⟩) | ((with_reducible refine gC 147 ?_); refine gL (some 37) Try.func147 #[.int .i64 a0, .int .i64 t135, .int .i64 t137] ?_; (with_reducible refine (spec_l14Count.calls kj3 a0 t135 t137 t139 _ A12.out).mono ?_); rintro e w' ⟨rfl, ⟨nd, rfl⟩⟩; refine ⟨_, rfl, ?_⟩) | ((with_reducible refine gC 147 ?_); refine gL (some 41) Try.func147 #[.int .i64 a1, .int .i64 t136, .int .i64 t138] ?_; (with_reducible refine (spec_l14Count.calls kj3 a1 t136 t138 t140 _ A13.out).mono ?_); rintro e w' ⟨rfl, ⟨nd, rfl⟩⟩; refine ⟨_, rfl, ?_⟩))
        go_ret2; exact ⟨eQ, dQ⟩
      · intro H; have c15b0 := beq_eq_false_iff_ne.mpr c15; have c15b1 := bne_iff_ne.mpr c15; simp only [Option.some.injEq, Prod.mk.injEq] at H; obtain ⟨rfl, rfl⟩ := H
        go_wp2_with (first | ((with_reducible refine gC 90 ?_); refine gL (some 29) Try.func90 #[.int .i64 a2] ?_; (with_reducible refine (spec_PassStep.calls a2 t135 t136 t137 t138 _ A11.out).mono ?_); rintro e w' ⟨rfl, ⟨nd, rfl⟩⟩; refine ⟨_, rfl, ?_⟩) | ((with_reducible refine gC 147 ?_); refine gL (some 37) Try.func147 #[.int .i64 a0, .int .i64 t135, .int .i64 t137] ?_; (with_reducible refine (spec_l14Count.calls kj3 a0 t135 t137 t139 _ A12.out).mono ?_); rintro e w' ⟨rfl, ⟨nd, rfl⟩⟩; refine ⟨_, rfl, ?_⟩) | ((with_reducible refine gC 147 ?_); refine gL (some 41) Try.func147 #[.int .i64 a1, .int .i64 t136, .int .i64 t138] ?_; (with_reducible refine (spec_l14Count.calls kj3 a1 t136 t138 t140 _ A13.out).mono ?_); rintro e w' ⟨rfl, ⟨nd, rfl⟩⟩; refine ⟨_, rfl, ?_⟩))
        go_ret2; exact ⟨eQ, dQ⟩

/-! ### spec_l14Passes: function 62 -/
mutual
def spec_l14Passes.l0 : Nat → List (S29) → Int → Int → Int → Int → Int → Int → List Int → Option ((List (S29)))
  | 0, _, _, _, _, _, _, _, _ => none
  | k + 1, x3, x4, x5, x142000, x142001, x142002, x142003, x142004 => if x5 < 7 then ((spec_PassSize.f k x142000 x142001 x5).bind fun bt146 => ((spec_PassStep.f x5).bind fun bt148 => (spec_l14Passes.l1 k x3 x4 x5 bt146.1 bt146.2 bt148.1 bt148.2.1 bt148.2.2.1 bt148.2.2.2 0 x142000 x142001 x142002 x142003 x142004 bt146.1 bt146.2 x142002 x142003 ([] : List Int)))) else (some x3)
def spec_l14Passes.l1 : Nat → List (S29) → Int → Int → Int → Int → Int → Int → Int → Int → Int → Int → Int → Int → Int → List Int → Int → Int → Int → Int → List Int → Option ((List (S29)))
  | 0, _, _, _, _, _, _, _, _, _, _, _, _, _, _, _, _, _, _, _, _ => none
  | k + 1, x3, x4, x5, x6, x7, x8, x9, x10, x11, x13, x142000, x142001, x142002, x142003, x142004, x153000, x153001, x153002, x153003, x153004 => if x13 < x7 then (spec_l14Passes.l2 k x3 x4 x5 x6 x7 x8 x9 x10 x11 x13 0 x142000 x142001 x142002 x142003 x142004 x153000 x153001 x153002 x153003 x153004) else (if x3.length < 2513169434916 then (spec_l14Passes.l0 k (x3 ++ [(⟨x153000, x153001, x153002, x153003, x153004⟩ : S29)]) x4 (wrap64 (x5 + 1)) x142000 x142001 x142002 x142003 x142004) else (none))
def spec_l14Passes.l2 : Nat → List (S29) → Int → Int → Int → Int → Int → Int → Int → Int → Int → Int → Int → Int → Int → Int → List Int → Int → Int → Int → Int → List Int → Option ((List (S29)))
  | 0, _, _, _, _, _, _, _, _, _, _, _, _, _, _, _, _, _, _, _, _, _ => none
  | k + 1, x3, x4, x5, x6, x7, x8, x9, x10, x11, x13, x14, x142000, x142001, x142002, x142003, x142004, x153000, x153001, x153002, x153003, x153004 => if x14 < x6 then (if 0 ≤ (wrap64 ((wrap64 ((wrap64 ((wrap64 ((wrap64 (x9 + (wrap64 (x13 * x11)))) * x142000)) + x8)) + (wrap64 (x14 * x10)))) * x4)) then (if (wrap64 ((wrap64 ((wrap64 ((wrap64 ((wrap64 (x9 + (wrap64 (x13 * x11)))) * x142000)) + x8)) + (wrap64 (x14 * x10)))) * x4)) ≤ (wrap64 ((wrap64 ((wrap64 ((wrap64 ((wrap64 ((wrap64 (x9 + (wrap64 (x13 * x11)))) * x142000)) + x8)) + (wrap64 (x14 * x10)))) * x4)) + x4)) then (if (wrap64 ((wrap64 ((wrap64 ((wrap64 ((wrap64 ((wrap64 (x9 + (wrap64 (x13 * x11)))) * x142000)) + x8)) + (wrap64 (x14 * x10)))) * x4)) + x4)) ≤ (x142004.length : Int) then (if x153004.length + ((x142004.take ((wrap64 ((wrap64 ((wrap64 ((wrap64 ((wrap64 ((wrap64 (x9 + (wrap64 (x13 * x11)))) * x142000)) + x8)) + (wrap64 (x14 * x10)))) * x4)) + x4)) : Int).toNat).drop ((wrap64 ((wrap64 ((wrap64 ((wrap64 ((wrap64 (x9 + (wrap64 (x13 * x11)))) * x142000)) + x8)) + (wrap64 (x14 * x10)))) * x4)) : Int).toNat).length < 17592186044416 then (spec_l14Passes.l2 k x3 x4 x5 x6 x7 x8 x9 x10 x11 x13 (wrap64 (x14 + 1)) x142000 x142001 x142002 x142003 x142004 x153000 x153001 x153002 x153003 (x153004 ++ ((x142004.take ((wrap64 ((wrap64 ((wrap64 ((wrap64 ((wrap64 ((wrap64 (x9 + (wrap64 (x13 * x11)))) * x142000)) + x8)) + (wrap64 (x14 * x10)))) * x4)) + x4)) : Int).toNat).drop ((wrap64 ((wrap64 ((wrap64 ((wrap64 ((wrap64 (x9 + (wrap64 (x13 * x11)))) * x142000)) + x8)) + (wrap64 (x14 * x10)))) * x4)) : Int).toNat))) else (none)) else (none)) else (none)) else (none)) else (spec_l14Passes.l1 k x3 x4 x5 x6 x7 x8 x9 x10 x11 (wrap64 (x13 + 1)) x142000 x142001 x142002 x142003 x142004 x153000 x153001 x153002 x153003 x153004)
end
def spec_l14Passes.f (k : Nat) (a0_0 : Int) (a0_1 : Int) (a0_2 : Int) (a0_3 : Int) (l0_4 : List Int) : Option ((List (S29))) := (spec_ChannelsOf.f k a0_2).bind fun t145 => (spec_l14Passes.l0 k (([] : List (S29))) t145 0 a0_0 a0_1 a0_2 a0_3 l0_4)
def spec_l14Passes.T16 : Bool × List (List Nat × List Nat) := (true, [([], []), ([0], [0]), ([], []), ([2], [2]), ([], []), ([], []), ([], []), ([5, 6], [5, 6]), ([3, 4, 7], [3, 4, 7]), ([1, 8], [1, 8]), ([0, 1, 2, 3, 4, 5, 6, 7, 8, 9], []), ([10, 9, 9, 0, 1, 2, 3, 4, 5, 6, 7, 8, 9], [9, 10])])
def spec_l14Passes.B16 : List Nat := [0, 1, 0, 4, 0, 0, 0, 96, 252, 511, 1023, 2047]
theorem spec_l14Passes.tab16 : rtab .any (opsOf Try.f62 16) = spec_l14Passes.T16 := by kernel_rfl
theorem spec_l14Passes.bits16 : waitsOk spec_l14Passes.T16.2 spec_l14Passes.B16 = true := by kernel_rfl
set_option maxHeartbeats 8000000 in
set_option maxRecDepth 100000 in
theorem spec_l14Passes.calls (k : Nat) (a0_0 : Int) (a0_1 : Int) (a0_2 : Int) (a0_3 : Int) (A0_4 : Option Addr) (c0_4 : Nat) (l0_4 : List Int) (r : List (S29)) (w : World) (hr0_4 : Kd.C (Kd.int .i64) w A0_4 l0_4.length l0_4) (hc0_4 : l0_4.length ≤ c0_4) (h : spec_l14Passes.f k a0_0 a0_1 a0_2 a0_3 l0_4 = some r) :
 Calls Try.prog 62 #[.agg #[.int .i64 a0_0, .int .i64 a0_1, .int .i64 a0_2, .int .i64 a0_3, .slice A0_4 l0_4.length c0_4]] w fun e w' => ∃ v0_ : Value, e = .returned (v0_) ∧ Kd.S k29 29 w' w.heap.size (fun _ => True) v0_ r ∧ Below w.heap.size w w' := by
 have hu29 := Try.underlying29; have HR0_4 := aM hr0_4; have HC0_4 := aM hc0_4; clear hr0_4 hc0_4; have HB := aM (Below.refl w.heap.size w); have H : ((spec_ChannelsOf.f k a0_2).bind fun t145 => (spec_l14Passes.l0 k (([] : List (S29))) t145 0 a0_0 a0_1 a0_2 a0_3 l0_4)) = some r := h; clear h; obtain ⟨y142, hy_⟩ : ∃ y_ : List (S29), y_ = (([] : List (S29))) := ⟨_, rfl⟩; replace H : ((spec_ChannelsOf.f k a0_2).bind fun t145 => (spec_l14Passes.l0 k y142 t145 0 a0_0 a0_1 a0_2 a0_3 l0_4)) = some r := nH; have Ny142 := aM hy_; clear hy_; revert H; refine bdR fun t145 A2 => ?_; refine adR fun H' => ?_; go_enter Try.func62, Try.ntmps62
 go_wp2_with (first | ((with_reducible refine gD 1 ?_); refine bE 1 #[.int .i64 a0_0, .int .i64 a0_1, .int .i64 a0_2, .int .i64 a0_3, .slice A0_4 l0_4.length c0_4] 29 ?_; intro gb141 hg w3 hbox hb; have BK141 := aM hbox; have GW141 := aM (sZ hg); have GE141 := GW141; replace HB := hS hb; clear hb hbox hg) | ((with_reducible refine gD 16 ?_); refine Kd.S_lit k29 _ 29 ?hg (N := 16) ?hd (xs := ([] : List (S29))) (inner := []) (ok := fun _ => True) (okp := fun _ => True) ?hr ?hp (fun _ hk => hk) trivial (Below.refl _ _) (Nat.le_refl _) (by simp) ?_; (case hd => rfl); (case hg => rfl); (case hr => first | (go_simp; done) | (go_simp; rfl)); (case hp => exact (Reps.none _ _)); intro v143 w4 ho5 hb hg_ hnew_; clear hg_ hnew_; (first | rw [← Ny142.out] at ho5 | (simp only [Int.reduceToNat] at ho5; rw [← Ny142.out] at ho5)); have HO144 := aM (Kd.S_lower (Kd.S_newB ho5 (g := gb141) (o := .cells #[.int .i64 a0_0, .int .i64 a0_1, .int .i64 a0_2, .int .i64 a0_3, .slice A0_4 l0_4.length c0_4] 29 (0, 0)) (bI BK141.out)) (below_size hB)); replace BK141 := bW BK141 hb; replace HB := hS hb; clear hb ho5; have hz6 := bz5 BK141) | ((with_reducible refine gC 88 ?_); refine gL (some 19) Try.func88 #[.int .i64 a0_2] ?_; (with_reducible refine (spec_ChannelsOf.calls k a0_2 t145 _ A2.out).mono ?_); rintro e w' ⟨rfl, ⟨nd, rfl⟩⟩; refine ⟨_, rfl, ?_⟩))
 go_loopg [3, 5] k (fun kq v3 v5 w' => ∃ (x3_1 : List (S29)) (x5_1 : Int), v5 = .int .i64 x5_1 ∧ Aside0 (spec_l14Passes.l0 kq x3_1 t145 x5_1 a0_0 a0_1 a0_2 a0_3 l0_4 = some r) ∧ Aside0 (kq ≤ k) ∧ Aside0 (Kd.S k29 29 w' w.heap.size (fun k_ => k_ ≠ gb141) v3 x3_1) ∧ Aside0 (w'.heap[gb141]? = some (.cells #[.int .i64 a0_0, .int .i64 a0_1, .int .i64 a0_2, .int .i64 a0_3, (.slice A0_4 l0_4.length c0_4)] 29 (0, 0))) ∧ Aside0 (Below w.heap.size w w'))
 case atStart => exact ⟨(y142), (0), eQ, H', ⟨Nat.le_refl _⟩, ⟨Kd.S_i (Kd.S_mono HO144.out (fun _ hk => hk.2))⟩, ⟨bI BK141.out⟩, ⟨hB⟩⟩
 case round =>
  clear H'; (try clear p2); (try clear c5); (try clear c6); (try clear hz6); obtain ⟨x3_1, x5_1, rfl, HA, HK1, HO_3, BK141, HB⟩ := hrel; rcases gk with _ | k1
  · exact absurd HA.out (by simp [spec_l14Passes.l0])
  revert HA; refine aoR ?_; intro H; simp only [spec_l14Passes.l0] at H; revert H
  refine ifB (fun c7 => ?_) (fun c7 => ?_)
  · intro H; have c7b0 := decide_eq_true c7; clear c7; revert H; refine bdR fun ⟨t146, t147⟩ A8 => ?_; intro H
    try dsimp only at H
    revert H; refine bdR fun ⟨t148, t149, t150, t151⟩ A9 => ?_; intro H
    try dsimp only at H
    revert H; refine adR fun H' => ?_; have hz10 := bz5 BK141
    go_wp2_with (first | ((with_reducible refine gC 89 ?_); refine gL (some 30) Try.func89 #[.int .i64 a0_0, .int .i64 a0_1, .int .i64 x5_1] ?_; (with_reducible refine (spec_PassSize.calls k1 a0_0 a0_1 x5_1 t146 t147 _ A8.out).mono ?_); rintro e w' ⟨rfl, ⟨nd, rfl⟩⟩; refine ⟨_, rfl, ?_⟩; (try (rw [drewN_self wr]; generalize hq_ : World.drewN wr _ = wr; have n0_ : Aside0 (Kd.S k29 29 wr w.heap.size (fun k_ => k_ ≠ gb141) u3 x3_1) := ⟨by rw [← hq_]; exact (Kd.S_i HO_3.out)⟩; have n1_ : Aside0 (wr.heap[gb141]? = some (.cells #[.int .i64 a0_0, .int .i64 a0_1, .int .i64 a0_2, .int .i64 a0_3, .slice A0_4 l0_4.length c0_4] 29 (0, 0))) := ⟨by rw [← hq_]; exact (bI BK141.out)⟩; have n2_ : Aside0 (Below w.heap.size w wr) := ⟨by rw [← hq_]; exact hB⟩; clear HO_3 BK141 HB hq_; have HO_3 := n0_; have BK141 := n1_; have HB := n2_; clear n0_ n1_ n2_; have hy141 := bz5 BK141))) | ((with_reducible refine gC 90 ?_); refine gL (some 35) Try.func90 #[.int .i64 x5_1] ?_; (with_reducible refine (spec_PassStep.calls x5_1 t148 t149 t150 t151 _ A9.out).mono ?_); rintro e w' ⟨rfl, ⟨nd, rfl⟩⟩; refine ⟨_, rfl, ?_⟩; (try (rw [drewN_self wr]; generalize hq_ : World.drewN wr _ = wr; have n0_ : Aside0 (Kd.S k29 29 wr w.heap.size (fun k_ => k_ ≠ gb141) u3 x3_1) := ⟨by rw [← hq_]; exact (Kd.S_i HO_3.out)⟩; have n1_ : Aside0 (wr.heap[gb141]? = some (.cells #[.int .i64 a0_0, .int .i64 a0_1, .int .i64 a0_2, .int .i64 a0_3, .slice A0_4 l0_4.length c0_4] 29 (0, 0))) := ⟨by rw [← hq_]; exact (bI BK141.out)⟩; have n2_ : Aside0 (Below w.heap.size w wr) := ⟨by rw [← hq_]; exact hB⟩; clear HO_3 BK141 HB hq_; have HO_3 := n0_; have BK141 := n1_; have HB := n2_; clear n0_ n1_ n2_; have hy141 := bz5 BK141))) | ((with_reducible refine gD 12 ?_); refine bE 12 #[.int .i64 0, .int .i64 0, .int .i64 0, .int .i64 0, .slice none 0 0] 29 ?_; intro gb152 hg w11 hbox hb; replace HO_3 := aM (Kd.S_below (Kd.S_elderB (Kd.S_i HO_3.out) gb152 (Nat.le_of_eq hg.symm)) hb); have BK152 := aM hbox; have GW152 := aM (sZ hg); have GE152 := GW152; replace HB := hS hb; have NB141_152 := aM (nL BK141 hg); have NB152_141 := aM (nG BK141 hg); replace BK141 := bW BK141 hb; clear hb hbox hg; have hnb12 := NB152_141.out; have hnc12 := NB141_152.out; have hz13 := bz5 BK152))
    go_loopg [13] k1 (fun kq v13 w' => ∃ (x13_2 : Int) (x153004_2 : List Int) (u153004 : Value), v13 = .int .i64 x13_2 ∧ Aside0 (spec_l14Passes.l1 kq x3_1 t145 x5_1 t146 t147 t148 t149 t150 t151 x13_2 a0_0 a0_1 a0_2 a0_3 l0_4 t146 t147 a0_2 a0_3 x153004_2 = some r) ∧ Aside0 (kq ≤ k1) ∧ Aside0 (Kd.S k29 29 w' w.heap.size (fun k_ => some k_ ≠ (u153004 : Value).ownBlock ∧ k_ ≠ gb141 ∧ k_ ≠ gb152) u3 x3_1) ∧ Aside0 (Kd.R (Kd.int .i64) 3 w' w.heap.size (fun _ => True) u153004 x153004_2) ∧ Aside0 (w'.heap[gb141]? = some (.cells #[.int .i64 a0_0, .int .i64 a0_1, .int .i64 a0_2, .int .i64 a0_3, (.slice A0_4 l0_4.length c0_4)] 29 (0, 0))) ∧ Aside0 (w'.heap[gb152]? = some (.cells #[.int .i64 t146, .int .i64 t147, .int .i64 a0_2, .int .i64 a0_3, u153004] 29 (0, 0))) ∧ Aside0 (Below w.heap.size w w'))
    case atStart => exact ⟨(0), (([] : List Int)), (.slice none 0 0), eQ, H', ⟨Nat.le_refl _⟩, ⟨Kd.S_i (Kd.S_mono (Kd.S_far (p := ⟨gb152, 4, none⟩) (Kd.S_far (p := ⟨gb152, 3, none⟩) (Kd.S_far (p := ⟨gb152, 2, none⟩) (Kd.S_far (p := ⟨gb152, 1, none⟩) (Kd.S_far (p := ⟨gb152, 0, none⟩) (Kd.S_mono HO_3.out (fun k_ hk => (⟨hk, hk.2⟩ : _ ∧ k_ ≠ gb152))) (fun _ hk => hk.2) (.int .i64 t146)) (fun _ hk => hk.2) (.int .i64 t147)) (fun _ hk => hk.2) (.int .i64 a0_2)) (fun _ hk => hk.2) (.int .i64 a0_3)) (fun _ hk => hk.2) (.slice none 0 0)) (fun _ hk => ⟨(by simp [Value.ownBlock]), ⟨hk.1.1, hk.1.2⟩⟩))⟩, ⟨by first | exact Kd.R_nil _ _ _ _ _ | exact Kd.N_nil _ _ _ _ _ | exact Kd.V_nil _ _ _ _ _ | exact Kd.Q_nil _ _ _ _ _ | exact Kd.S_nil _ _ _ _ _⟩, ⟨kB⟩, ⟨kB⟩, ⟨hB⟩⟩
    case round =>
     clear H'; (try clear c1); (try clear p2); (try clear c5); (try clear c6); (try clear c7); (try clear c7b0); (try clear c8); (try clear c9); (try clear c12); (try clear hz10); (try clear hz13); (try clear hz6); obtain ⟨x13_2, x153004_2, u153004, rfl, HA, HK2, HO_3, HO_153004, BK141, BK152, HB⟩ := hrel; rcases gk with _ | k2
     · exact absurd HA.out (by simp [spec_l14Passes.l1])
     revert HA; refine aoR ?_; intro H; simp only [spec_l14Passes.l1] at H; revert H
     refine ifB (fun c14 => ?_) (fun c14 => ?_)
     · intro H; have c14b0 := decide_eq_true c14; clear c14; revert H; refine adR fun H' => ?_; go_wp2
       go_loopg [14] k2 (fun kq v14 w' => ∃ (x14_3 : Int) (x153004_3 : List Int) (u153004 : Value), v14 = .int .i64 x14_3 ∧ Aside0 (spec_l14Passes.l2 kq x3_1 t145 x5_1 t146 t147 t148 t149 t150 t151 x13_2 x14_3 a0_0 a0_1 a0_2 a0_3 l0_4 t146 t147 a0_2 a0_3 x153004_3 = some r) ∧ Aside0 (kq ≤ k2) ∧ Aside0 (Kd.S k29 29 w' w.heap.size (fun k_ => some k_ ≠ (u153004 : Value).ownBlock ∧ k_ ≠ gb141 ∧ k_ ≠ gb152) u3 x3_1) ∧ Aside0 (Kd.R (Kd.int .i64) 3 w' w.heap.size (fun _ => True) u153004 x153004_3) ∧ Aside0 (w'.heap[gb141]? = some (.cells #[.int .i64 a0_0, .int .i64 a0_1, .int .i64 a0_2, .int .i64 a0_3, (.slice A0_4 l0_4.length c0_4)] 29 (0, 0))) ∧ Aside0 (w'.heap[gb152]? = some (.cells #[.int .i64 t146, .int .i64 t147, .int .i64 a0_2, .int .i64 a0_3, u153004] 29 (0, 0))) ∧ Aside0 (Below w.heap.size w w'))
       case atStart => exact ⟨(0), (x153004_2), (u153004), eQ, H', ⟨Nat.le_refl _⟩, ⟨Kd.S_i HO_3.out⟩, ⟨Kd.R_i HO_153004.out⟩, ⟨bI BK141.out⟩, ⟨bI BK152.out⟩, ⟨hB⟩⟩
       case round =>
        clear H'; (try clear c1); (try clear p2); (try clear c5); (try clear c6); (try clear c7); (try clear c7b0); (try clear c8); (try clear c9); (try clear c12); (try clear c14); (try clear c14b0); (try clear hz10); (try clear hz13); (try clear hz6); obtain ⟨x14_3, x153004_3, u153004, rfl, HA, HK3, HO_3, HO_153004, BK141, BK152, HB⟩ := hrel; rcases gk with _ | k3
        · exact absurd HA.out (by simp [spec_l14Passes.l2])
        revert HA; refine aoR ?_; intro H; simp only [spec_l14Passes.l2] at H; revert H
        refine ifB (fun c15 => ?_) (fun c15 => ?_)
        · intro H; have c15b0 := decide_eq_true c15; clear c15; obtain ⟨ji16, hji16⟩ : ∃ j_ : Int, (wrap64 ((wrap64 ((wrap64 ((wrap64 ((wrap64 (t149 + (wrap64 (x13_2 * t151)))) * a0_0)) + t148)) + (wrap64 (x14_3 * t150)))) * t145)) = j_ := ⟨_, rfl⟩; replace H : (if 0 ≤ (ji16) then (if (ji16) ≤ (wrap64 ((ji16) + t145)) then (if (wrap64 ((ji16) + t145)) ≤ (l0_4.length : Int) then (if x153004_3.length + ((l0_4.take ((wrap64 ((ji16) + t145)) : Int).toNat).drop ((ji16) : Int).toNat).length < 17592186044416 then (spec_l14Passes.l2 k3 x3_1 t145 x5_1 t146 t147 t148 t149 t150 t151 x13_2 (wrap64 (x14_3 + 1)) a0_0 a0_1 a0_2 a0_3 l0_4 t146 t147 a0_2 a0_3 (x153004_3 ++ ((l0_4.take ((wrap64 ((ji16) + t145)) : Int).toNat).drop ((ji16) : Int).toNat))) else (none)) else (none)) else (none)) else (none)) = some r := by first | (rw [hji16] at H; exact H) | (simp only [hji16] at H ⊢; exact H)
          have hji16w : (IntKind.i64.wrap ((wrap64 ((wrap64 ((wrap64 ((wrap64 (t149 + (wrap64 (x13_2 * t151)))) * a0_0)) + t148)) + (wrap64 (x14_3 * t150)))) * t145)) = ji16 := (i64_w _).trans hji16; revert H; refine ifR fun c17 => ?_; intro H; have c17b0 := eq_true c17; have c17b1 := decide_eq_true c17; clear c17; revert H; refine ifR fun c18 => ?_; intro H; have c18b0 := eq_true c18; have c18b1 := decide_eq_true c18; revert H; refine ifR fun c19 => ?_; intro H; have c19b0 := eq_true c19; have c19b1 := decide_eq_true c19; revert H; refine ifR fun c20 => ?_; intro H; have LMc20 := aM c20; clear c20; obtain ⟨y157, hy_⟩ : ∃ y_ : List Int, y_ = (x153004_3 ++ ((l0_4.take ((wrap64 ((ji16) + t145)) : Int).toNat).drop ((ji16) : Int).toNat)) := ⟨_, rfl⟩; replace H : (spec_l14Passes.l2 k3 x3_1 t145 x5_1 t146 t147 t148 t149 t150 t151 x13_2 (wrap64 (x14_3 + 1)) a0_0 a0_1 a0_2 a0_3 l0_4 t146 t147 a0_2 a0_3 y157) = some r := nH; have Ny157 := aM hy_; clear hy_; revert H; refine adR fun H' => ?_; have hnb21 := NB141_152.out; have hnc21 := NB152_141.out; have hz22 := bz5 BK141
          try go_wp2
          replace HO_3 := aM (Kd.S_drew HO_3.out); replace HO_153004 := aM (Kd.R_drew HO_153004.out); replace BK141 := aM (blk_drew BK141.out); replace BK152 := aM (blk_drew BK152.out); replace HB := aM (below_drew1 HB.out); obtain ⟨i024, hi024, _, hsz24, _⟩ := info_parts info3; obtain ⟨A24, hcut24, hA24, hC24⟩ := print_mid_of (P := Try.prog) (Value.int .i64) 0 22 3 .i64 .i64 Try.underlying22 hi024 hsz24 A0_4 c0_4 l0_4 (ji16) (wrap64 ((ji16) + t145)) (bD) (by first | omega | exact bD) (bD) HC0_4.out; have HR156 := aM (Kd.C_of_reads (h1 := fun _ => rfl) (hA24 _ (Kd.reads_of_C HR0_4.out))); have HC156 := aM hC24; clear hA24 hC24 hi024 hsz24
          refine start_ (n := 12) (S := fun w' => w'.cell? ⟨gb152, 0, none⟩ = some (.int .i64 t146) ∧ w'.cell? ⟨gb152, 1, none⟩ = some (.int .i64 t147) ∧ w'.cell? ⟨gb152, 2, none⟩ = some (.int .i64 a0_2) ∧ w'.cell? ⟨gb152, 3, none⟩ = some (.int .i64 a0_3) ∧ w'.cell? ⟨gb152, 4, none⟩ = some (u153004) ∧ w'.cell? ⟨gb141, 0, none⟩ = some (.int .i64 a0_0) ∧ w'.cell? ⟨gb141, 1, none⟩ = some (.int .i64 a0_1) ∧ w'.cell? ⟨gb141, 2, none⟩ = some (.int .i64 a0_2) ∧ w'.cell? ⟨gb141, 3, none⟩ = some (.int .i64 a0_3) ∧ w'.cell? ⟨gb141, 4, none⟩ = some (.slice A0_4 l0_4.length c0_4)) (ds := [11]) (bAr 12 0) (by kernel_rfl) rfl rfl ⟨bC BK152 0, bC BK152 1, bC BK152 2, bC BK152 3, bC BK152 4, bC BK141 0, bC BK141 1, bC BK141 2, bC BK141 3, bC BK141 4⟩ (fun hHeld => ?_); refine with_tabW spec_l14Passes.tab16 spec_l14Passes.bits16 (fun HT_ HW_ => ?_)
          generalize wr.drew = w23 at HO_3 HO_153004 BK141 BK152 HB HR156 hHeld ⊢; refine pU 0 73 (bAr 12 1) ?_; refine pU 2 75 (bAr 12 5) ?_; refine pU 4 77 (bAr 12 21) ?_; refine pU 5 78 (bAr 12 53) ?_; refine pU 6 79 (bAr 12 117) ?_; refine pU 7 80 (bAr 12 245) ?_
          refine tK 1 74 (bAr 12 247) ?_
          refine tK 3 76 (bAr 12 255) ?_; refine pU 8 81 (bAr 12 511) ?_
          refine one_ (i := 9) (N := some 82) (bAr 12 1023) rfl rfl (one_of HT_.out (by kernel_rfl)) (by decide) (fun K hK => ?_)
          refine Kd.R_append_rows_step (Kd.int .i64) (w0 := w) w.heap.size (by rfl) (.tmp 74) (.tmp 81) 22 3 (.int .i64 0) 8 rfl Try.underlying22 info3 rfl (by decide) (by omega) u153004 x153004_3 ((l0_4.take ((wrap64 ((ji16) + t145)) : Int).toNat).drop ((ji16) : Int).toNat) _ _ _ (fun _ => True) (fun _ => False) rfl rfl ?aO ?aR (fun _ _ h => h) (fun _ h => h.elim) ?aF ?aB ?aS ?aL ?_
          (case aR => first | (rw [← show ((l0_4.take ((wrap64 ((ji16) + t145)) : Int).toNat).drop ((ji16) : Int).toNat).length = ((wrap64 ((ji16) + t145)).toNat - (ji16).toNat) from (by rw [List.length_drop, List.length_take]; have h_ : ((wrap64 ((ji16) + t145)) : Int) ≤ (l0_4.length : Int) := bD; omega)]; repeat (first | exact (Kd.C_below HR156.out HB.out) | (with_reducible refine Kd.C_alloc ?_ _) | (with_reducible refine Kd.C_drewN ?_ _) | (with_reducible refine Kd.C_drew ?_))) | (repeat (first | exact (Kd.C_below HR156.out HB.out) | (with_reducible refine Kd.C_alloc ?_ _) | (with_reducible refine Kd.C_drewN ?_ _) | (with_reducible refine Kd.C_drew ?_))))
          (case aB => exact hB)
          (case aF => exact (fun _ _ => trivial))
          (case aO => exact (Kd.R_i HO_153004.out))
          (case aS => exact (below_size hB))
          (case aL => have := LMc20.out; have hlx_ := (show ((l0_4.take ((wrap64 ((ji16) + t145)) : Int).toNat).drop ((ji16) : Int).toNat).length = ((wrap64 ((ji16) + t145)).toNat - (ji16).toNat) from (by rw [List.length_drop, List.length_take]; have h_ : ((wrap64 ((ji16) + t145)) : Int) ≤ (l0_4.length : Int) := bD; omega)); omega); intro v158 w25 ho hb hg hat
          rw [← Ny157.out] at ho; replace HO_3 := aM (Kd.S_after (ok := (fun k_ => k_ ≠ gb141 ∧ k_ ≠ gb152)) (Kd.S_i (Kd.S_mono HO_3.out (fun _ hk => ⟨⟨hk.2.1, hk.2.2⟩, hk.1⟩))) hg hat); replace BK141 := aM (blk_grown (g := gb141) (o := .cells #[.int .i64 a0_0, .int .i64 a0_1, .int .i64 a0_2, .int .i64 a0_3, .slice A0_4 l0_4.length c0_4] 29 (0, 0)) (bI BK141.out) hg (Kd.R_ne HO_153004.out BK141.out (by decide))); replace BK152 := aM (blk_grown (g := gb152) (o := .cells #[.int .i64 t146, .int .i64 t147, .int .i64 a0_2, .int .i64 a0_3, u153004] 29 (0, 0)) (bI BK152.out) hg (Kd.R_ne HO_153004.out BK152.out (by decide))); replace HB := aM hb; have HO159 := aM ho; clear HO_153004; clear ho hb hg hat; obtain ⟨Ao26, co26, eo26⟩ := Kd.R_slice HO159.out
          (first | subst eo26 | (injection eo26 with f1_ f2_ f3_; have f4_ := f1_.symm; have f5_ := f3_.symm; clear f1_ f2_ f3_; subst f4_; subst f5_))
          refine hK.out _ _ ⟨bC BK152 0, bC BK152 1, bC BK152 2, bC BK152 3, bC BK152 4, bC BK141 0, bC BK141 1, bC BK141 2, bC BK141 3, bC BK141 4⟩ (fun hHeld => ?_); clear hK K
          refine norm_ (a' := ?_) ?_ ?_; rotate_left
          · show Act.put _ (some 82) _ = _
            simp only [Act.put, List.setIfInBounds_toArray, List.set_cons_zero, List.set_cons_succ, i64_w, i32_w]
            rfl
          refine pU 10 83 (bAr 12 2047) ?_
          refine last_ (i := 11) (N := none) (bAr 12 4095) rfl rfl (one_of HT_.out (by kernel_rfl)) (by decide) (fun K hK => ?_); have hs27 : w25.cell? ⟨gb152, 4, none⟩ = some (u153004) := bC BK152 4; have hfs27 := blk_frozen BK152.out 4; have hns27_0 := NB141_152.out; have hms27_0 := NB152_141.out
          refine skip_ (w1 := ?_) (by rfl) rfl ?_ ?_; rotate_left
          · go_simp
            rfl
          refine hK.out _ _ ?_; clear hK K
          refine done_ (done_of HT_.out (by kernel_rfl)) ?_
          try go_wp2
          go_roundg k3
          case measure => have := HK1.out; have := HK2.out; have := HK3.out; omega
          case rel => exact ⟨(wrap64 (x14_3 + 1)), (y157), (.slice Ao26 y157.length co26), eQ, H', ⟨by have := HK1.out; have := HK2.out; have := HK3.out; omega⟩, ⟨Kd.S_i (Kd.S_mono (Kd.S_far (p := ⟨gb152, 4, none⟩) (Kd.S_mono HO_3.out (fun k_ hk => (⟨hk, hk.1.2⟩ : _ ∧ k_ ≠ gb152))) (fun _ hk => hk.2) (.slice Ao26 y157.length co26)) (fun _ hk => ⟨hk.1.2, ⟨hk.1.1.1, hk.1.1.2⟩⟩))⟩, ⟨Kd.R_i (Kd.R_mono (Kd.R_far (p := ⟨gb152, 4, none⟩) (Kd.R_types HO159.out BK152.out (by decide)) (fun _ hk => hk.2) (.slice Ao26 y157.length co26)) (fun _ hk => trivial))⟩, ⟨kB⟩, ⟨kB⟩, ⟨hB⟩⟩
        · intro H; have c15b0 := decide_eq_false c15; clear c15; revert H; refine adR fun H' => ?_; go_wp2; go_roundg k3
          case measure => have := HK1.out; have := HK2.out; have := HK3.out; omega
          case rel => exact ⟨(wrap64 (x13_2 + 1)), (x153004_3), (u153004), eQ, H', ⟨by have := HK1.out; have := HK2.out; have := HK3.out; omega⟩, ⟨Kd.S_i HO_3.out⟩, ⟨Kd.R_i HO_153004.out⟩, ⟨bI BK141.out⟩, ⟨bI BK152.out⟩, ⟨hB⟩⟩
     · intro H; have c14b0 := decide_eq_false c14; clear c14; revert H; refine ifR fun c28 => ?_; intro H; have LMc28 := aM c28; clear c28; obtain ⟨y153, hy_⟩ : ∃ y_ : List (S29), y_ = (x3_1 ++ [(⟨t146, t147, a0_2, a0_3, x153004_2⟩ : S29)]) := ⟨_, rfl⟩; replace H : (spec_l14Passes.l0 k2 y153 t145 (wrap64 (x5_1 + 1)) a0_0 a0_1 a0_2 a0_3 l0_4) = some r := nH; have Ny153 := aM hy_; clear hy_; revert H; refine adR fun H' => ?_; have hnb29 := NB152_141.out; have hnc29 := NB141_152.out; have hz30 := bz5 BK152; obtain ⟨Ao32, co32, eo32⟩ := Kd.R_slice HO_153004.out; subst eo32
       go_wp2_with (first | ((with_reducible refine gate_builtin (b := .append) (xs := #[.tmp 84, .tmp 86]) rfl ?_); at_builtin; refine Kd.S_append k29 (w0 := w) w.heap.size rfl (.tmp 84) (.tmp 86) 26 29 (.agg #[(.int .i64 0), (.int .i64 0), (.int .i64 0), (.int .i64 0), (.slice none 0 0)]) 56 rfl Try.underlying26 info29 rfl (by decide) (by omega) u3 x3_1 (⟨t146, t147, a0_2, a0_3, x153004_2⟩ : S29) [.int .i64 t146, .int .i64 t147, .int .i64 a0_2, .int .i64 a0_3, .slice Ao32 x153004_2.length co32] (fun k_ => k_ ≠ gb141 ∧ k_ ≠ gb152) (fun k_ => some k_ = (.slice Ao32 x153004_2.length co32 : Value).ownBlock) rfl rfl ?aP (fun k_ hk_ => ((Kd.R_mono (ok' := fun k_ => ((fun k_ => k_ ≠ gb141 ∧ k_ ≠ gb152)) k_ ∧ some k_ ≠ (u3 : Value).ownBlock) (Kd.R_types (Kd.R_types (Kd.R_apart' (HO_153004.out) (Kd.S_typed HO_3.out) (by decide)) BK141.out (by decide)) BK152.out (by decide)) (fun k_ hk => ⟨⟨hk.1.2, hk.2⟩, hk.1.1.2⟩))).1 k_ hk_.symm) ?aF ?aO ?aB ?aS ?aL ?_; (case aP => exact k29_mkM _ _ _ (⟨t146, t147, a0_2, a0_3, x153004_2⟩ : S29) (Kd.R_mono (Kd.R_tight rfl (Kd.R_mono (ok' := fun k_ => ((fun k_ => k_ ≠ gb141 ∧ k_ ≠ gb152)) k_ ∧ some k_ ≠ (u3 : Value).ownBlock) (Kd.R_types (Kd.R_types (Kd.R_apart' (HO_153004.out) (Kd.S_typed HO_3.out) (by decide)) BK141.out (by decide)) BK152.out (by decide)) (fun k_ hk => ⟨⟨hk.1.2, hk.2⟩, hk.1.1.2⟩))) (fun _ h_ => h_))); (case aB => exact hB); (case aF => exact (fun k_ hk => ⟨Kd.freshB (g := gb141) (o := .cells #[.int .i64 a0_0, .int .i64 a0_1, .int .i64 a0_2, .int .i64 a0_3, .slice A0_4 l0_4.length c0_4] 29 (0, 0)) (bI BK141.out) k_ hk, Kd.freshB (g := gb152) (o := .cells #[.int .i64 t146, .int .i64 t147, .int .i64 a0_2, .int .i64 a0_3, .slice Ao32 x153004_2.length co32] 29 (0, 0)) (bI BK152.out) k_ hk⟩)); (case aO => exact (Kd.S_i (Kd.S_mono HO_3.out (fun k_ hk => ⟨⟨hk.2.1, hk.2.2⟩, fun e_ => hk.1 e_⟩)))); (case aS => exact (below_size hB)); (case aL => have := LMc28.out; omega); intro v154 w31 ho hb hg hat; rw [← Ny153.out] at ho; replace BK141 := aM (blk_grown (g := gb141) (o := .cells #[.int .i64 a0_0, .int .i64 a0_1, .int .i64 a0_2, .int .i64 a0_3, .slice A0_4 l0_4.length c0_4] 29 (0, 0)) (bI BK141.out) hg (Kd.S_away HO_3.out (fun _ hk => hk.2.1))); replace BK152 := aM (blk_grown (g := gb152) (o := .cells #[.int .i64 t146, .int .i64 t147, .int .i64 a0_2, .int .i64 a0_3, .slice Ao32 x153004_2.length co32] 29 (0, 0)) (bI BK152.out) hg (Kd.S_away HO_3.out (fun _ hk => hk.2.2))); replace HB := aM hb; have HO155 := aM ho; clear HO_3 HO_153004; clear ho hb hg hat)); go_roundg k2
       case measure => have := HK1.out; have := HK2.out; omega
       case rel => exact ⟨(y153), (wrap64 (x5_1 + 1)), eQ, H', ⟨by have := HK1.out; have := HK2.out; omega⟩, ⟨Kd.S_i (Kd.S_mono HO155.out (fun _ hk => hk.1))⟩, ⟨bI BK141.out⟩, ⟨hB⟩⟩
  · intro H; have c7b0 := decide_eq_false c7; clear c7; obtain rfl := Option.some.inj H; go_wp2; go_ret; exact ⟨_, eE, Kd.S_i (Kd.S_mono HO_3.out (fun _ hk => trivial)), hB⟩

end Go.Proofs.Ytajnobmnkbkkgaa.PFnExactFromPasses
