/- Walks of functions that the law FnExactMeaningOf reaches: each call comes to what the Lean function of its name tells. Written by p2.py, a program of this session, by way of the kit's print. -/
import Derived.Test.YtajnobmnkbkkgaaVFnExactMeaningOf
import Derived.Test.YtajnobmnkbkkgaaPFnExactMeaningOfx0
import Derived.Test.YtajnobmnkbkkgaaPFnExactMeaningOfx11
import Derived.Test.YtajnobmnkbkkgaaPFnExactMeaningOfx12
namespace Go.Proofs.Ytajnobmnkbkkgaa.PFnExactMeaningOf
open Go.RowKit Go.Proofs.YtajnobmnkbkkgaaW.PrintWords Go.Proofs.YtajnobmnkbkkgaaW.PrintLast Go.Proofs.YtajnobmnkbkkgaaW.PrintMore
attribute [local go_sem] max2_int min2_int max_two min_two max_three min_three max_four min_four   -- for this text's walks alone
set_option linter.unusedVariables false
set_option linter.unusedSimpArgs false

/-! ### impl_ClearOk: function 84 -/
def impl_ClearOk.j0 : Nat → Int → List Int → Int → Int → Int → Int → Int → Bool → Option (Bool)
  | 0, _, _, _, _, _, _, _, _ => none
  | k + 1, x1, x2, x7, x336000, x336001, x336002, x336003, x336004 => if x336003 = 0 then (if (x2.length : Int) = 1 then ((impl_samplesOk.f k x2 x7).bind fun t337 => (some t337)) else (some false)) else (if x336003 = 2 then (if (x2.length : Int) = 3 then ((impl_samplesOk.f k x2 x7).bind fun t338 => (some t338)) else (some false)) else (if x336003 = 3 then (if (x2.length : Int) ≤ x1 then ((impl_samplesOk.f k x2 8).bind fun t339 => (some t339)) else (some false)) else (some false)))
def impl_ClearOk.f (k : Nat) (a0_0 : Int) (a0_1 : Int) (a0_2 : Int) (a0_3 : Int) (a0_4 : Bool) (a1 : Int) (l2 : List Int) : Option (Bool) := if (l2.length : Int) = 0 then (if a0_3 = 3 then (some (decide (a1 ≥ 0))) else (some true)) else ((impl_within.f a0_2 0 16).bind fun t336 => (if t336 = true then (impl_ClearOk.j0 k a1 l2 a0_2 a0_0 a0_1 a0_2 a0_3 a0_4) else (impl_ClearOk.j0 k a1 l2 0 a0_0 a0_1 a0_2 a0_3 a0_4)))
set_option maxHeartbeats 8000000 in
set_option maxRecDepth 100000 in
theorem impl_ClearOk.calls (k : Nat) (a0_0 : Int) (a0_1 : Int) (a0_2 : Int) (a0_3 : Int) (a0_4 : Bool) (a1 : Int) (A2 : Option Addr) (c2 : Nat) (l2 : List Int) (r : Bool) (w : World) (hr2 : Kd.C (Kd.int .i64) w A2 l2.length l2) (hc2 : l2.length ≤ c2) (h : impl_ClearOk.f k a0_0 a0_1 a0_2 a0_3 a0_4 a1 l2 = some r) :
 Calls Try.prog 84 #[.agg #[.int .i64 a0_0, .int .i64 a0_1, .int .i64 a0_2, .int .i64 a0_3, .bool a0_4], .int .i64 a1, .slice A2 l2.length c2] w fun e w' => e = .returned (.bool r) ∧ Below w.heap.size w w' := by
 have hu39 := Try.underlying39; have HR2 := aM hr2; have HC2 := aM hc2; clear hr2 hc2; have HB := aM (Below.refl w.heap.size w); unfold impl_ClearOk.f at h; have H := h; clear h; revert H
 refine ifB (fun c4 => ?_) (fun c4 => ?_)
 · intro H; have c4b0 := beq_iff_eq.mpr c4; have c4b1 := bne_eq_false_iff_eq.mpr c4; clear c4; revert H
   refine ifB (fun c5 => ?_) (fun c5 => ?_)
   · intro H; have c5b0 := beq_iff_eq.mpr c5; have c5b1 := bne_eq_false_iff_eq.mpr c5; clear c5; obtain rfl := Option.some.inj H; go_enter Try.func84, Try.ntmps84
     go_wp2_with (first | ((with_reducible refine gD 3 ?_); refine bE 3 #[.int .i64 a0_0, .int .i64 a0_1, .int .i64 a0_2, .int .i64 a0_3, .bool a0_4] 39 ?_; intro gb335 hg w6 hbox hb; have BK335 := aM hbox; have GW335 := aM (sZ hg); have GE335 := GW335; replace HB := hS hb; clear hb hbox hg; have hz7 := bz5 BK335)); go_ret; exact ⟨eE, hB⟩
   · intro H; have c5b0 := beq_eq_false_iff_ne.mpr c5; have c5b1 := bne_iff_ne.mpr c5; obtain rfl := Option.some.inj H; go_enter Try.func84, Try.ntmps84
     go_wp2_with (first | ((with_reducible refine gD 3 ?_); refine bE 3 #[.int .i64 a0_0, .int .i64 a0_1, .int .i64 a0_2, .int .i64 a0_3, .bool a0_4] 39 ?_; intro gb335 hg w8 hbox hb; have BK335 := aM hbox; have GW335 := aM (sZ hg); have GE335 := GW335; replace HB := hS hb; clear hb hbox hg; have hz9 := bz5 BK335)); go_ret; exact ⟨eE, hB⟩
 · intro H; have c4b0 := beq_eq_false_iff_ne.mpr c4; have c4b1 := bne_iff_ne.mpr c4; have c4b2 : ¬ (l2 = []) := fun h_ => c4 (by rw [h_]; rfl)
   revert H; refine bdR fun t336 A10 => ?_; refine adR fun HC11 => ?_; go_enter Try.func84, Try.ntmps84
   go_upto_if 20 with (first | ((with_reducible refine gD 3 ?_); refine bE 3 #[.int .i64 a0_0, .int .i64 a0_1, .int .i64 a0_2, .int .i64 a0_3, .bool a0_4] 39 ?_; intro gb335 hg w12 hbox hb; have BK335 := aM hbox; have GW335 := aM (sZ hg); have GE335 := GW335; replace HB := hS hb; clear hb hbox hg; have hz13 := bz5 BK335) | ((with_reducible refine gC 82 ?_); refine gL (some 20) Try.func82 #[.int .i64 a0_2, .int .i64 0, .int .i64 16] ?_; (with_reducible refine (impl_within.calls a0_2 0 16 t336 _ A10.out).mono ?_); rintro e w' ⟨rfl, ⟨nd, rfl⟩⟩; refine ⟨_, rfl, ?_⟩))
   (try simp only [Act.put, List.setIfInBounds_toArray, List.set_cons_zero, List.set_cons_succ])
   go_cut [7] (fun v7 wc => ∃ (kq : Nat) (x7_10 : Int), v7 = .int .i64 x7_10 ∧ Aside0 (impl_ClearOk.j0 kq a1 l2 x7_10 a0_0 a0_1 a0_2 a0_3 a0_4 = some r) ∧ Aside0 (kq ≤ k) ∧ Aside0 (wc.heap[gb335]? = some (.cells #[.int .i64 a0_0, .int .i64 a0_1, .int .i64 a0_2, .int .i64 a0_3, .bool a0_4] 39 (0, 0))) ∧ Aside0 (Below w.heap.size w wc))
   case first =>
    revert HC11; refine aoR ?_
    refine ifB (fun c14 => ?_) (fun c14 => ?_)
    · intro H; subst c14; revert H; refine adR fun H' => ?_; have hz15 := bz5 BK335; go_wp2; go_meet
      case rel => exact ⟨_, (a0_2), eQ, H', ⟨lE⟩, ⟨bI BK335.out⟩, ⟨hB⟩⟩
    · intro H; replace c14 := Bool.eq_false_iff.mpr c14; subst c14; revert H; refine adR fun H' => ?_; go_wp2; go_meet
      case rel => exact ⟨_, (0), eQ, H', ⟨lE⟩, ⟨bI BK335.out⟩, ⟨hB⟩⟩
   case rest =>
    clear HC11; (try clear c1); (try clear c2); (try clear p2); (try clear c4); (try clear c4b0); (try clear c4b1); (try clear c4b2); (try clear c5); (try clear c5b0); (try clear c5b1); (try clear c8); (try clear c14); (try clear hz13); (try clear hz15); (try clear hz7); (try clear hz9); obtain ⟨kq, x7_10, rfl, HA, HJ10, BK335, HB⟩ := hcut; rcases kq with _ | kj10
    · exact absurd HA.out (by simp [impl_ClearOk.j0])
    revert HA; refine aoR ?_; intro H; simp only [impl_ClearOk.j0] at H; revert H
    refine ifB (fun c16 => ?_) (fun c16 => ?_)
    · intro H; have c16b0 := beq_iff_eq.mpr c16; have c16b1 := bne_eq_false_iff_eq.mpr c16; clear c16; revert H
      refine ifB (fun c17 => ?_) (fun c17 => ?_)
      · intro H; have c17b0 := beq_iff_eq.mpr c17; have c17b1 := bne_eq_false_iff_eq.mpr c17; clear c17; revert H; refine bdR fun t337 A18 => ?_; intro H; obtain rfl := Option.some.inj H; have hz19 := bz5 BK335
        go_wp2_with (first | (go_at_call 139; (with_reducible refine (impl_samplesOk.calls kj10 _ _ l2 x7_10 t337 _ (Kd.C_i (Kd.C_below HR2.out HB.out)) HC2.out A18.out).mono ?_); rintro e w' ⟨rfl, ⟨nd, rfl⟩⟩)); go_ret; exact ⟨eE, hB⟩
      · intro H; have c17b0 := beq_eq_false_iff_ne.mpr c17; have c17b1 := bne_iff_ne.mpr c17; obtain rfl := Option.some.inj H; have hz20 := bz5 BK335; go_wp2; go_ret; exact ⟨eE, hB⟩
    · intro H; have c16b0 := beq_eq_false_iff_ne.mpr c16; have c16b1 := bne_iff_ne.mpr c16; revert H
      refine ifB (fun c21 => ?_) (fun c21 => ?_)
      · intro H; have c21b0 := beq_iff_eq.mpr c21; have c21b1 := bne_eq_false_iff_eq.mpr c21; clear c21; revert H
        refine ifB (fun c22 => ?_) (fun c22 => ?_)
        · intro H; have c22b0 := beq_iff_eq.mpr c22; have c22b1 := bne_eq_false_iff_eq.mpr c22; clear c22; revert H; refine bdR fun t338 A23 => ?_; intro H; obtain rfl := Option.some.inj H; have hz24 := bz5 BK335
          go_wp2_with (first | (go_at_call 139; (with_reducible refine (impl_samplesOk.calls kj10 _ _ l2 x7_10 t338 _ (Kd.C_i (Kd.C_below HR2.out HB.out)) HC2.out A23.out).mono ?_); rintro e w' ⟨rfl, ⟨nd, rfl⟩⟩)); go_ret; exact ⟨eE, hB⟩
        · intro H; have c22b0 := beq_eq_false_iff_ne.mpr c22; have c22b1 := bne_iff_ne.mpr c22; obtain rfl := Option.some.inj H; have hz25 := bz5 BK335; go_wp2; go_ret; exact ⟨eE, hB⟩
      · intro H; have c21b0 := beq_eq_false_iff_ne.mpr c21; have c21b1 := bne_iff_ne.mpr c21; revert H
        refine ifB (fun c26 => ?_) (fun c26 => ?_)
        · intro H; have c26b0 := beq_iff_eq.mpr c26; have c26b1 := bne_eq_false_iff_eq.mpr c26; clear c26; revert H
          refine ifB (fun c27 => ?_) (fun c27 => ?_)
          · intro H; have c27b0 := decide_eq_true c27; clear c27; revert H; refine bdR fun t339 A28 => ?_; intro H; obtain rfl := Option.some.inj H; have hz29 := bz5 BK335
            go_wp2_with (first | (go_at_call 139; (with_reducible refine (impl_samplesOk.calls kj10 _ _ l2 8 t339 _ (Kd.C_i (Kd.C_below HR2.out HB.out)) HC2.out A28.out).mono ?_); rintro e w' ⟨rfl, ⟨nd, rfl⟩⟩)); go_ret; exact ⟨eE, hB⟩
          · intro H; have c27b0 := decide_eq_false c27; clear c27; obtain rfl := Option.some.inj H; have hz30 := bz5 BK335; go_wp2; go_ret; exact ⟨eE, hB⟩
        · intro H; have c26b0 := beq_eq_false_iff_ne.mpr c26; have c26b1 := bne_iff_ne.mpr c26; obtain rfl := Option.some.inj H; have hz31 := bz5 BK335; go_wp2; go_ret; exact ⟨eE, hB⟩

/-! ### impl_colorOk: function 81 -/
def impl_colorOk.f (a0_0 : Int) (a0_1 : Int) (a0_2 : Int) : Option (Bool) := (impl_within.f a0_0 0 255).bind fun t341 => (if t341 = true then ((impl_within.f a0_1 0 255).bind fun t342 => (if t342 = true then ((impl_within.f a0_2 0 255).bind fun t343 => (some t343)) else (some false))) else (some false))
set_option maxHeartbeats 8000000 in
set_option maxRecDepth 100000 in
theorem impl_colorOk.calls (a0_0 : Int) (a0_1 : Int) (a0_2 : Int) (r : Bool) (w : World) (h : impl_colorOk.f a0_0 a0_1 a0_2 = some r) :
 Calls Try.prog 81 #[.agg #[.int .i64 a0_0, .int .i64 a0_1, .int .i64 a0_2]] w fun e w' => e = .returned (.bool r) ∧ Below w.heap.size w w' := by
 have hu52 := Try.underlying52; have HB := aM (Below.refl w.heap.size w); unfold impl_colorOk.f at h; have H := h; clear h; revert H; refine bdR fun t341 A2 => ?_
 refine ifB (fun c3 => ?_) (fun c3 => ?_)
 · intro H; subst c3; revert H; refine bdR fun t342 A4 => ?_
   refine ifB (fun c5 => ?_) (fun c5 => ?_)
   · intro H; subst c5; revert H; refine bdR fun t343 A6 => ?_; intro H; obtain rfl := Option.some.inj H; go_enter Try.func81, Try.ntmps81
     go_wp2_with (first | ((with_reducible refine gD 1 ?_); refine bE 1 #[.int .i64 a0_0, .int .i64 a0_1, .int .i64 a0_2] 52 ?_; intro gb340 hg w7 hbox hb; have BK340 := aM hbox; have GW340 := aM (sZ hg); have GE340 := GW340; replace HB := hS hb; clear hb hbox hg; have hz8 := bz3 BK340) | ((with_reducible refine gC 82 ?_); refine gL (some 5) Try.func82 #[.int .i64 a0_0, .int .i64 0, .int .i64 255] ?_; (with_reducible refine (impl_within.calls a0_0 0 255 true _ A2.out).mono ?_); rintro e w' ⟨rfl, ⟨nd, rfl⟩⟩; refine ⟨_, rfl, ?_⟩) | (go_at_call 82; (with_reducible refine (impl_within.calls a0_1 0 255 true _ A4.out).mono ?_); rintro e w' ⟨rfl, ⟨nd, rfl⟩⟩) | (go_at_call 82; (with_reducible refine (impl_within.calls a0_2 0 255 t343 _ A6.out).mono ?_); rintro e w' ⟨rfl, ⟨nd, rfl⟩⟩)); go_ret; exact ⟨eE, hB⟩
   · intro H; replace c5 := Bool.eq_false_iff.mpr c5; subst c5; obtain rfl := Option.some.inj H; go_enter Try.func81, Try.ntmps81
     go_wp2_with (first | ((with_reducible refine gD 1 ?_); refine bE 1 #[.int .i64 a0_0, .int .i64 a0_1, .int .i64 a0_2] 52 ?_; intro gb340 hg w9 hbox hb; have BK340 := aM hbox; have GW340 := aM (sZ hg); have GE340 := GW340; replace HB := hS hb; clear hb hbox hg; have hz10 := bz3 BK340) | ((with_reducible refine gC 82 ?_); refine gL (some 5) Try.func82 #[.int .i64 a0_0, .int .i64 0, .int .i64 255] ?_; (with_reducible refine (impl_within.calls a0_0 0 255 true _ A2.out).mono ?_); rintro e w' ⟨rfl, ⟨nd, rfl⟩⟩; refine ⟨_, rfl, ?_⟩) | (go_at_call 82; (with_reducible refine (impl_within.calls a0_1 0 255 false _ A4.out).mono ?_); rintro e w' ⟨rfl, ⟨nd, rfl⟩⟩)); go_ret; exact ⟨eE, hB⟩
 · intro H; replace c3 := Bool.eq_false_iff.mpr c3; subst c3; obtain rfl := Option.some.inj H; go_enter Try.func81, Try.ntmps81
   go_wp2_with (first | ((with_reducible refine gD 1 ?_); refine bE 1 #[.int .i64 a0_0, .int .i64 a0_1, .int .i64 a0_2] 52 ?_; intro gb340 hg w11 hbox hb; have BK340 := aM hbox; have GW340 := aM (sZ hg); have GE340 := GW340; replace HB := hS hb; clear hb hbox hg; have hz12 := bz3 BK340) | ((with_reducible refine gC 82 ?_); refine gL (some 5) Try.func82 #[.int .i64 a0_0, .int .i64 0, .int .i64 255] ?_; (with_reducible refine (impl_within.calls a0_0 0 255 false _ A2.out).mono ?_); rintro e w' ⟨rfl, ⟨nd, rfl⟩⟩; refine ⟨_, rfl, ?_⟩)); go_ret; exact ⟨eE, hB⟩

/-! ### impl_tableOk: function 103 -/
def impl_tableOk.l0 : Nat → List (S52) → List (S52) → Int → Int → Int → Int → Int → Int → Bool → Option (Bool)
  | 0, _, _, _, _, _, _, _, _, _ => none
  | k + 1, x1, x13, x14, x15, x345000, x345001, x345002, x345003, x345004 => if x15 < x14 then (if 0 ≤ x15 then (if x15 < (x13.length : Int) then ((impl_colorOk.f ((rd_T52 x13 x15).f0) ((rd_T52 x13 x15).f1) ((rd_T52 x13 x15).f2)).bind fun t347 => (if t347 = true then (impl_tableOk.l0 k x1 x13 x14 (wrap64 (x15 + 1)) x345000 x345001 x345002 x345003 x345004) else (some false))) else (none)) else (none)) else ((impl_powerOf.f x345002).bind fun t348 => ((impl_within.f (x1.length : Int) 1 t348).bind fun t349 => (some t349)))
def impl_tableOk.f (k : Nat) (a0_0 : Int) (a0_1 : Int) (a0_2 : Int) (a0_3 : Int) (a0_4 : Bool) (l1 : List (S52)) : Option (Bool) := if a0_3 = 3 then (impl_tableOk.l0 k l1 l1 (l1.length : Int) 0 a0_0 a0_1 a0_2 a0_3 a0_4) else (some ((l1.length : Int) == 0))
set_option maxHeartbeats 8000000 in
set_option maxRecDepth 100000 in
theorem impl_tableOk.calls (k : Nat) (a0_0 : Int) (a0_1 : Int) (a0_2 : Int) (a0_3 : Int) (a0_4 : Bool) (A1 : Option Addr) (c1 : Nat) (l1 : List (S52)) (r : Bool) (w : World) (hr1 : Kd.C k52 w A1 l1.length l1) (hc1 : l1.length ≤ c1) (h : impl_tableOk.f k a0_0 a0_1 a0_2 a0_3 a0_4 l1 = some r) :
 Calls Try.prog 103 #[.agg #[.int .i64 a0_0, .int .i64 a0_1, .int .i64 a0_2, .int .i64 a0_3, .bool a0_4], .slice A1 l1.length c1] w fun e w' => e = .returned (.bool r) ∧ Below w.heap.size w w' := by
 have hu39 := Try.underlying39; have hu52 := Try.underlying52; have HR1 := aM hr1; have HC1 := aM hc1; clear hr1 hc1; have HB := aM (Below.refl w.heap.size w); have H : (if a0_3 = 3 then (impl_tableOk.l0 k l1 l1 (l1.length : Int) 0 a0_0 a0_1 a0_2 a0_3 a0_4) else (some ((l1.length : Int) == 0))) = some r := h; clear h; revert H
 refine ifB (fun c3 => ?_) (fun c3 => ?_)
 · intro H; have c3b0 := beq_iff_eq.mpr c3; have c3b1 := bne_eq_false_iff_eq.mpr c3; clear c3; revert H; refine adR fun H' => ?_; go_enter Try.func103, Try.ntmps103
   go_wp2_with (first | ((with_reducible refine gD 2 ?_); refine bE 2 #[.int .i64 a0_0, .int .i64 a0_1, .int .i64 a0_2, .int .i64 a0_3, .bool a0_4] 39 ?_; intro gb344 hg w4 hbox hb; have BK344 := aM hbox; have GW344 := aM (sZ hg); have GE344 := GW344; replace HB := hS hb; clear hb hbox hg; have hz5 := bz5 BK344))
   go_loopg [15] k (fun kq v15 w' => ∃ (x15_1 : Int), v15 = .int .i64 x15_1 ∧ Aside0 (impl_tableOk.l0 kq l1 l1 (l1.length : Int) x15_1 a0_0 a0_1 a0_2 a0_3 a0_4 = some r) ∧ Aside0 (kq ≤ k) ∧ Aside0 (w'.heap[gb344]? = some (.cells #[.int .i64 a0_0, .int .i64 a0_1, .int .i64 a0_2, .int .i64 a0_3, .bool a0_4] 39 (0, 0))) ∧ Aside0 (Below w.heap.size w w'))
   case atStart => exact ⟨(0), eQ, H', ⟨Nat.le_refl _⟩, ⟨bI BK344.out⟩, ⟨hB⟩⟩
   case round =>
    clear H'; (try clear c1); (try clear p2); (try clear c3); (try clear c3b0); (try clear c3b1); (try clear c5); (try clear hz5); obtain ⟨x15_1, rfl, HA, HK1, BK344, HB⟩ := hrel; rcases gk with _ | k1
    · exact absurd HA.out (by simp [impl_tableOk.l0])
    revert HA; refine aoR ?_; intro H; simp only [impl_tableOk.l0] at H; revert H
    refine ifB (fun c6 => ?_) (fun c6 => ?_)
    · intro H; have c6b0 := decide_eq_true c6; clear c6; revert H; refine ifR fun c7 => ?_; intro H; have c7b0 := decide_eq_true c7; clear c7; revert H; refine ifR fun c8 => ?_; intro H; have c8b0 := decide_eq_true c8; clear c8; revert H; refine bdR fun t347 A9 => ?_
      refine ifB (fun c10 => ?_) (fun c10 => ?_)
      · intro H; subst c10; revert H; refine adR fun H' => ?_; have p345 : 0 ≤ (x15_1 : Int) := bD; have q345 : x15_1 < (l1.length : Int) := bD; obtain ⟨ad345, e345, hx345_0, hx345_1, hx345_2⟩ := at_T52 HR1.out x15_1 p345 q345; cases e345; replace hx345_0 := cB0 HB hx345_0; replace hx345_1 := cB0 HB hx345_1; replace hx345_2 := cB0 HB hx345_2; replace p345 := eq_true p345; replace q345 := eq_true q345
        go_wp2_with (first | ((with_reducible refine gD 6 ?_); refine bE 6 #[.int .i64 0, .int .i64 0, .int .i64 0] 52 ?_; intro gb346 hg w11 hbox hb; have BK346 := aM hbox; have GW346 := aM (sZ hg); have GE346 := GW346; replace HB := hS hb; have NB344_346 := aM (nL BK344 hg); have NB346_344 := aM (nG BK344 hg); replace BK344 := bW BK344 hb; clear hb hbox hg; have hnb12 := NB346_344.out; have hnc12 := NB344_346.out; have hz13 := bz3 BK346) | ((with_reducible refine gC 81 ?_); refine gL (some 20) Try.func81 #[.agg #[.int .i64 ((rd_T52 l1 x15_1).f0), .int .i64 ((rd_T52 l1 x15_1).f1), .int .i64 ((rd_T52 l1 x15_1).f2)]] ?_; (with_reducible refine (impl_colorOk.calls ((rd_T52 l1 x15_1).f0) ((rd_T52 l1 x15_1).f1) ((rd_T52 l1 x15_1).f2) true _ A9.out).mono ?_); rintro e w14 ⟨rfl, hb⟩; refine ⟨_, rfl, ?_⟩; have n0_ := aM (blk_below (g := gb344) (o := .cells #[.int .i64 a0_0, .int .i64 a0_1, .int .i64 a0_2, .int .i64 a0_3, .bool a0_4] 39 (0, 0)) kB hb); have n1_ := aM (blk_below (g := gb346) (o := .cells #[.int .i64 ((rd_T52 l1 x15_1).f0), .int .i64 ((rd_T52 l1 x15_1).f1), .int .i64 ((rd_T52 l1 x15_1).f2)] 52 (0, 0)) kB hb); have n2_ := hS hb; clear BK344; clear BK346; clear HB; have BK344 := n0_; have BK346 := n1_; have HB := n2_; clear n0_ n1_ n2_; clear hb)); go_roundg k1
        case measure => have := HK1.out; omega
        case rel => exact ⟨(wrap64 (x15_1 + 1)), eQ, H', ⟨by have := HK1.out; omega⟩, ⟨bI BK344.out⟩, ⟨hB⟩⟩
      · intro H; replace c10 := Bool.eq_false_iff.mpr c10; subst c10; obtain rfl := Option.some.inj H; have p345 : 0 ≤ (x15_1 : Int) := bD; have q345 : x15_1 < (l1.length : Int) := bD; obtain ⟨ad345, e345, hx345_0, hx345_1, hx345_2⟩ := at_T52 HR1.out x15_1 p345 q345; cases e345; replace hx345_0 := cB0 HB hx345_0; replace hx345_1 := cB0 HB hx345_1; replace hx345_2 := cB0 HB hx345_2; replace p345 := eq_true p345; replace q345 := eq_true q345
        go_wp2_with (first | ((with_reducible refine gD 6 ?_); refine bE 6 #[.int .i64 0, .int .i64 0, .int .i64 0] 52 ?_; intro gb346 hg w15 hbox hb; have BK346 := aM hbox; have GW346 := aM (sZ hg); have GE346 := GW346; replace HB := hS hb; have NB344_346 := aM (nL BK344 hg); have NB346_344 := aM (nG BK344 hg); replace BK344 := bW BK344 hb; clear hb hbox hg; have hnb16 := NB346_344.out; have hnc16 := NB344_346.out; have hz17 := bz3 BK346) | ((with_reducible refine gC 81 ?_); refine gL (some 20) Try.func81 #[.agg #[.int .i64 ((rd_T52 l1 x15_1).f0), .int .i64 ((rd_T52 l1 x15_1).f1), .int .i64 ((rd_T52 l1 x15_1).f2)]] ?_; (with_reducible refine (impl_colorOk.calls ((rd_T52 l1 x15_1).f0) ((rd_T52 l1 x15_1).f1) ((rd_T52 l1 x15_1).f2) false _ A9.out).mono ?_); rintro e w18 ⟨rfl, hb⟩; refine ⟨_, rfl, ?_⟩; have n0_ := aM (blk_below (g := gb344) (o := .cells #[.int .i64 a0_0, .int .i64 a0_1, .int .i64 a0_2, .int .i64 a0_3, .bool a0_4] 39 (0, 0)) kB hb); have n1_ := aM (blk_below (g := gb346) (o := .cells #[.int .i64 ((rd_T52 l1 x15_1).f0), .int .i64 ((rd_T52 l1 x15_1).f1), .int .i64 ((rd_T52 l1 x15_1).f2)] 52 (0, 0)) kB hb); have n2_ := hS hb; clear BK344; clear BK346; clear HB; have BK344 := n0_; have BK346 := n1_; have HB := n2_; clear n0_ n1_ n2_; clear hb)); go_ret; exact ⟨eE, hB⟩
    · intro H; have c6b0 := decide_eq_false c6; clear c6; revert H; refine bdR fun t348 A19 => ?_; refine bdR fun t349 A20 => ?_; intro H; obtain rfl := Option.some.inj H; have hz21 := bz5 BK344
      go_wp2_with (first | ((with_reducible refine gC 126 ?_); refine gL (some 27) Try.func126 #[.int .i64 a0_2] ?_; (with_reducible refine (impl_powerOf.calls a0_2 t348 _ A19.out).mono ?_); rintro e w' ⟨rfl, ⟨nd, rfl⟩⟩; refine ⟨_, rfl, ?_⟩) | ((with_reducible refine gC 82 ?_); refine gL (some 28) Try.func82 #[.int .i64 (l1.length : Int), .int .i64 1, .int .i64 t348] ?_; (with_reducible refine (impl_within.calls (l1.length : Int) 1 t348 t349 _ A20.out).mono ?_); rintro e w' ⟨rfl, ⟨nd, rfl⟩⟩; refine ⟨_, rfl, ?_⟩)); go_ret; exact ⟨eE, hB⟩
 · intro H; have c3b0 := beq_eq_false_iff_ne.mpr c3; have c3b1 := bne_iff_ne.mpr c3; obtain rfl := Option.some.inj H; go_enter Try.func103, Try.ntmps103
   go_wp2_with (first | ((with_reducible refine gD 2 ?_); refine bE 2 #[.int .i64 a0_0, .int .i64 a0_1, .int .i64 a0_2, .int .i64 a0_3, .bool a0_4] 39 ?_; intro gb344 hg w22 hbox hb; have BK344 := aM hbox; have GW344 := aM (sZ hg); have GE344 := GW344; replace HB := hS hb; clear hb hbox hg; have hz23 := bz5 BK344)); go_ret; exact ⟨eE, hB⟩

/-! ### impl_isSmall: function 180 -/
def impl_isSmall.f (a0 : Int) : Option (Bool) := (impl_within.f (wrap64 (a0)) 97 122).bind fun t350 => (some t350)
set_option maxHeartbeats 8000000 in
set_option maxRecDepth 100000 in
theorem impl_isSmall.calls (a0 : Int) (r : Bool) (w : World) (h : impl_isSmall.f a0 = some r) :
 Calls Try.prog 180 #[.int .u8 a0] w fun e w' => e = .returned (.bool r) ∧ Drawn0 w w' := by
 have H : ((impl_within.f (wrap64 (a0)) 97 122).bind fun t350 => (some t350)) = some r := h; clear h; revert H; refine bdR fun t350 A2 => ?_; intro H; obtain rfl := Option.some.inj H; go_enter Try.func180, Try.ntmps180
 go_wp2_with (first | ((with_reducible refine gC 82 ?_); refine gL (some 5) Try.func82 #[.int .i64 (wrap64 (a0)), .int .i64 97, .int .i64 122] ?_; (with_reducible refine (impl_within.calls (wrap64 (a0)) 97 122 t350 _ A2.out).mono ?_); rintro e w' ⟨rfl, ⟨nd, rfl⟩⟩; refine ⟨_, rfl, ?_⟩)); go_ret; exact ⟨eQ, dQ⟩

/-! ### impl_isGreat: function 193 -/
def impl_isGreat.f (a0 : Int) : Option (Bool) := (impl_within.f (wrap64 (a0)) 65 90).bind fun t351 => (some t351)
set_option maxHeartbeats 8000000 in
set_option maxRecDepth 100000 in
theorem impl_isGreat.calls (a0 : Int) (r : Bool) (w : World) (h : impl_isGreat.f a0 = some r) :
 Calls Try.prog 193 #[.int .u8 a0] w fun e w' => e = .returned (.bool r) ∧ Drawn0 w w' := by
 have H : ((impl_within.f (wrap64 (a0)) 65 90).bind fun t351 => (some t351)) = some r := h; clear h; revert H; refine bdR fun t351 A2 => ?_; intro H; obtain rfl := Option.some.inj H; go_enter Try.func193, Try.ntmps193
 go_wp2_with (first | ((with_reducible refine gC 82 ?_); refine gL (some 5) Try.func82 #[.int .i64 (wrap64 (a0)), .int .i64 65, .int .i64 90] ?_; (with_reducible refine (impl_within.calls (wrap64 (a0)) 65 90 t351 _ A2.out).mono ?_); rintro e w' ⟨rfl, ⟨nd, rfl⟩⟩; refine ⟨_, rfl, ?_⟩)); go_ret; exact ⟨eQ, dQ⟩

/-! ### impl_NameOk: function 179 -/
def impl_NameOk.l0 : Nat → ByteArray → Int → Int → Option (Bool)
  | 0, _, _, _ => none
  | k + 1, x0, x5, x6 => if x6 < x5 then (if 0 ≤ x6 then (if x6 < (x0.size : Int) then ((impl_isGreat.f (bt x0 x6)).bind fun t352 => (if t352 = true then (impl_NameOk.l0 k x0 x5 (wrap64 (x6 + 1))) else ((impl_isSmall.f (bt x0 x6)).bind fun t353 => (if t353 = true then (if x6 = 2 then (some false) else (impl_NameOk.l0 k x0 x5 (wrap64 (x6 + 1)))) else (some false))))) else (none)) else (none)) else (some ((x0.size : Int) == 4))
def impl_NameOk.f (k : Nat) (a0 : ByteArray) : Option (Bool) := impl_NameOk.l0 k a0 (a0.size : Int) 0
set_option maxHeartbeats 8000000 in
set_option maxRecDepth 100000 in
theorem impl_NameOk.calls (k : Nat) (a0 : ByteArray) (r : Bool) (w : World) (h : impl_NameOk.f k a0 = some r) :
 Calls Try.prog 179 #[.string a0] w fun e w' => e = .returned (.bool r) ∧ Drawn0 w w' := by
 have H : (impl_NameOk.l0 k a0 (a0.size : Int) 0) = some r := h; clear h; revert H; refine adR fun H' => ?_; go_enter Try.func179, Try.ntmps179; go_wp2
 go_loopg [6] k (fun kq v6 w' => ∃ (x6_1 : Int), v6 = .int .i64 x6_1 ∧ Aside0 (impl_NameOk.l0 kq a0 (a0.size : Int) x6_1 = some r) ∧ Aside0 (kq ≤ k) ∧ Drawn0 w w')
 case atStart => exact ⟨(0), eQ, H', ⟨Nat.le_refl _⟩, dQ⟩
 case round =>
  clear H'; (try clear c1); obtain ⟨x6_1, rfl, HA, HK1, ⟨m1, rfl⟩⟩ := hrel; rcases gk with _ | k1
  · exact absurd HA.out (by simp [impl_NameOk.l0])
  revert HA; refine aoR ?_; intro H; simp only [impl_NameOk.l0] at H; revert H
  refine ifB (fun c2 => ?_) (fun c2 => ?_)
  · intro H; have c2b0 := decide_eq_true c2; clear c2; revert H; refine ifR fun c3 => ?_; intro H; have c3b0 := decide_eq_true c3; clear c3; revert H; refine ifR fun c4 => ?_; intro H; have c4b0 := decide_eq_true c4; clear c4; revert H; refine bdR fun t352 A6 => ?_
    refine ifB (fun c7 => ?_) (fun c7 => ?_)
    · intro H; subst c7; revert H; refine adR fun H' => ?_; have p5 : 0 ≤ (x6_1 : Int) := bD; have q5 : x6_1 < (a0.size : Int) := bD; have hx5 := bt_at a0 x6_1; replace p5 := eq_true p5; replace q5 := eq_true q5
      go_wp2_with (first | ((with_reducible refine gC 193 ?_); refine gL (some 12) Try.func193 #[.int .u8 (bt a0 x6_1)] ?_; (with_reducible refine (impl_isGreat.calls (bt a0 x6_1) true _ A6.out).mono ?_); rintro e w' ⟨rfl, ⟨nd, rfl⟩⟩; refine ⟨_, rfl, ?_⟩)); go_roundg k1
      case measure => have := HK1.out; omega
      case rel => exact ⟨(wrap64 (x6_1 + 1)), eQ, H', ⟨by have := HK1.out; omega⟩, dQ⟩
    · intro H; replace c7 := Bool.eq_false_iff.mpr c7; subst c7; revert H; refine bdR fun t353 A9 => ?_
      refine ifB (fun c10 => ?_) (fun c10 => ?_)
      · intro H; subst c10; revert H
        refine ifB (fun c11 => ?_) (fun c11 => ?_)
        · intro H; have c11b0 := beq_iff_eq.mpr c11; have c11b1 := bne_eq_false_iff_eq.mpr c11; clear c11; obtain rfl := Option.some.inj H; have p5 : 0 ≤ (x6_1 : Int) := bD; have q5 : x6_1 < (a0.size : Int) := bD; have hx5 := bt_at a0 x6_1; replace p5 := eq_true p5; replace q5 := eq_true q5
          go_wp2_with (first | ((with_reducible refine gC 193 ?_); refine gL (some 12) Try.func193 #[.int .u8 (bt a0 x6_1)] ?_; (with_reducible refine (impl_isGreat.calls (bt a0 x6_1) false _ A6.out).mono ?_); rintro e w' ⟨rfl, ⟨nd, rfl⟩⟩; refine ⟨_, rfl, ?_⟩; have p8 : 0 ≤ (x6_1 : Int) := bD; have q8 : x6_1 < (a0.size : Int) := bD; have hx8 := bt_at a0 x6_1; replace p8 := eq_true p8; replace q8 := eq_true q8) | (go_at_call 180; (with_reducible refine (impl_isSmall.calls (bt a0 x6_1) true _ A9.out).mono ?_); rintro e w' ⟨rfl, ⟨nd, rfl⟩⟩)); go_ret; exact ⟨eQ, dQ⟩
        · intro H; have c11b0 := beq_eq_false_iff_ne.mpr c11; have c11b1 := bne_iff_ne.mpr c11; revert H; refine adR fun H' => ?_; have p5 : 0 ≤ (x6_1 : Int) := bD; have q5 : x6_1 < (a0.size : Int) := bD; have hx5 := bt_at a0 x6_1; replace p5 := eq_true p5; replace q5 := eq_true q5
          go_wp2_with (first | ((with_reducible refine gC 193 ?_); refine gL (some 12) Try.func193 #[.int .u8 (bt a0 x6_1)] ?_; (with_reducible refine (impl_isGreat.calls (bt a0 x6_1) false _ A6.out).mono ?_); rintro e w' ⟨rfl, ⟨nd, rfl⟩⟩; refine ⟨_, rfl, ?_⟩; have p8 : 0 ≤ (x6_1 : Int) := bD; have q8 : x6_1 < (a0.size : Int) := bD; have hx8 := bt_at a0 x6_1; replace p8 := eq_true p8; replace q8 := eq_true q8) | (go_at_call 180; (with_reducible refine (impl_isSmall.calls (bt a0 x6_1) true _ A9.out).mono ?_); rintro e w' ⟨rfl, ⟨nd, rfl⟩⟩)); go_roundg k1
          case measure => have := HK1.out; omega
          case rel => exact ⟨(wrap64 (x6_1 + 1)), eQ, H', ⟨by have := HK1.out; omega⟩, dQ⟩
      · intro H; replace c10 := Bool.eq_false_iff.mpr c10; subst c10; obtain rfl := Option.some.inj H; have p5 : 0 ≤ (x6_1 : Int) := bD; have q5 : x6_1 < (a0.size : Int) := bD; have hx5 := bt_at a0 x6_1; replace p5 := eq_true p5; replace q5 := eq_true q5
        go_wp2_with (first | ((with_reducible refine gC 193 ?_); refine gL (some 12) Try.func193 #[.int .u8 (bt a0 x6_1)] ?_; (with_reducible refine (impl_isGreat.calls (bt a0 x6_1) false _ A6.out).mono ?_); rintro e w' ⟨rfl, ⟨nd, rfl⟩⟩; refine ⟨_, rfl, ?_⟩; have p8 : 0 ≤ (x6_1 : Int) := bD; have q8 : x6_1 < (a0.size : Int) := bD; have hx8 := bt_at a0 x6_1; replace p8 := eq_true p8; replace q8 := eq_true q8) | (go_at_call 180; (with_reducible refine (impl_isSmall.calls (bt a0 x6_1) false _ A9.out).mono ?_); rintro e w' ⟨rfl, ⟨nd, rfl⟩⟩)); go_ret; exact ⟨eQ, dQ⟩
  · intro H; have c2b0 := decide_eq_false c2; clear c2; obtain rfl := Option.some.inj H; go_wp2; go_ret; exact ⟨eQ, dQ⟩

/-! ### impl_Needless: function 154 -/
def impl_Needless.f (k : Nat) (a0 : ByteArray) : Option (Bool) := (impl_NameOk.f k a0).bind fun t354 => (if t354 = true then (if 0 < (a0.size : Int) then ((impl_isSmall.f (bt a0 0)).bind fun t355 => (some t355)) else (none)) else (some false))
set_option maxHeartbeats 8000000 in
set_option maxRecDepth 100000 in
theorem impl_Needless.calls (k : Nat) (a0 : ByteArray) (r : Bool) (w : World) (h : impl_Needless.f k a0 = some r) :
 Calls Try.prog 154 #[.string a0] w fun e w' => e = .returned (.bool r) ∧ Drawn0 w w' := by
 have H : ((impl_NameOk.f k a0).bind fun t354 => (if t354 = true then (if 0 < (a0.size : Int) then ((impl_isSmall.f (bt a0 0)).bind fun t355 => (some t355)) else (none)) else (some false))) = some r := h; clear h; revert H; refine bdR fun t354 A2 => ?_
 refine ifB (fun c3 => ?_) (fun c3 => ?_)
 · intro H; subst c3; revert H; refine ifR fun c4 => ?_; intro H; have c4b0 := decide_eq_true c4; have c4b1 : decide (0 < a0.size) = true := decide_eq_true (by omega); clear c4; revert H; refine bdR fun t355 A6 => ?_; intro H; obtain rfl := Option.some.inj H; go_enter Try.func154, Try.ntmps154
   go_wp2_with (first | ((with_reducible refine gC 179 ?_); refine gL (some 4) Try.func179 #[.string a0] ?_; (with_reducible refine (impl_NameOk.calls k a0 true _ A2.out).mono ?_); rintro e w' ⟨rfl, ⟨nd, rfl⟩⟩; refine ⟨_, rfl, ?_⟩; have p5 : 0 ≤ (0 : Int) := (by omega); have q5 : 0 < a0.size := (by have : (0 : Int) < (a0.size : Int) := bD; omega); have hx5 : ∀ h : 0 < a0.size, ((a0[0]'h).toNat : Int) = bt a0 0 := bt_at a0 0; clear p5; have qi5 : (0 < (a0.size : Int)) = True := eq_true (bD); replace q5 := eq_true q5) | (go_at_call 180; (with_reducible refine (impl_isSmall.calls (bt a0 0) t355 _ A6.out).mono ?_); rintro e w' ⟨rfl, ⟨nd, rfl⟩⟩)); go_ret; exact ⟨eQ, dQ⟩
 · intro H; replace c3 := Bool.eq_false_iff.mpr c3; subst c3; obtain rfl := Option.some.inj H; go_enter Try.func154, Try.ntmps154
   go_wp2_with (first | ((with_reducible refine gC 179 ?_); refine gL (some 4) Try.func179 #[.string a0] ?_; (with_reducible refine (impl_NameOk.calls k a0 false _ A2.out).mono ?_); rintro e w' ⟨rfl, ⟨nd, rfl⟩⟩; refine ⟨_, rfl, ?_⟩)); go_ret; exact ⟨eQ, dQ⟩

end Go.Proofs.Ytajnobmnkbkkgaa.PFnExactMeaningOf
