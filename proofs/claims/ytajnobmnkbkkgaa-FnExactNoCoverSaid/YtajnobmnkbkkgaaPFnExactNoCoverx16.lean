/- Walks of functions that the law FnExactNoCover reaches: each call comes to what the Lean function of its name tells. Written by p2.py, a program of this session, by way of the kit's print. -/
import Derived.Test.YtajnobmnkbkkgaaVFnExactNoCover
import Derived.Test.YtajnobmnkbkkgaaPFnExactNoCoverx0
import Derived.Test.YtajnobmnkbkkgaaPFnExactNoCoverx4
namespace Go.Proofs.Ytajnobmnkbkkgaa.PFnExactNoCover
open Go.RowKit Go.Proofs.YtajnobmnkbkkgaaW.PrintWords Go.Proofs.YtajnobmnkbkkgaaW.PrintLast Go.Proofs.YtajnobmnkbkkgaaW.PrintMore
attribute [local go_sem] max2_int min2_int max_two min_two max_three min_three max_four min_four   -- for this text's walks alone
set_option linter.unusedVariables false
set_option linter.unusedSimpArgs false

/-! ### laws_heldIntS: function 70 -/
def laws_heldIntS.l0 : Nat → List Int → Int → Int → Option (Int)
  | 0, _, _, _ => none
  | k + 1, x0, x1, x5 => if x5 < (x0.length : Int) then (if 0 ≤ x5 then (if (rd x0 x5) = x1 then (laws_heldIntS.l0 k x0 (wrap64 (x1 + 1)) (wrap64 (x5 + 1))) else (some (-1))) else (none)) else (some x1)
def laws_heldIntS.f (k : Nat) (l0 : List Int) (a1 : Int) : Option (Int) := laws_heldIntS.l0 k l0 a1 0
set_option maxHeartbeats 8000000 in
set_option maxRecDepth 100000 in
theorem laws_heldIntS.calls (k : Nat) (A0 : Option Addr) (c0 : Nat) (l0 : List Int) (a1 : Int) (r : Int) (w : World) (hr0 : Kd.C (Kd.int .i64) w A0 l0.length l0) (hc0 : l0.length ≤ c0) (h : laws_heldIntS.f k l0 a1 = some r) :
 Calls Try.prog 70 #[.slice A0 l0.length c0, .int .i64 a1] w fun e w' => e = .returned (.int .i64 r) ∧ Drawn0 w w' := by
 have HR0 := aM hr0; have HC0 := aM hc0; clear hr0 hc0; have H : (laws_heldIntS.l0 k l0 a1 0) = some r := h; clear h; revert H; refine adR fun H' => ?_; go_enter Try.func70, Try.ntmps70; go_wp2
 go_loopg [1, 5] k (fun kq v1 v5 w' => ∃ (x1_1 : Int) (x5_1 : Int), v1 = .int .i64 x1_1 ∧ v5 = .int .i64 x5_1 ∧ Aside0 (laws_heldIntS.l0 kq l0 x1_1 x5_1 = some r) ∧ Aside0 (kq ≤ k) ∧ Drawn0 w w')
 case atStart => exact ⟨(a1), (0), eQ, eQ, H', ⟨Nat.le_refl _⟩, dQ⟩
 case round =>
  clear H'; (try clear p2); obtain ⟨x1_1, x5_1, rfl, rfl, HA, HK1, ⟨m1, rfl⟩⟩ := hrel; rcases gk with _ | k1
  · exact absurd HA.out (by simp [laws_heldIntS.l0])
  revert HA; refine aoR ?_; intro H; simp only [laws_heldIntS.l0] at H; revert H
  refine ifB (fun c3 => ?_) (fun c3 => ?_)
  · intro H; have c3b0 := decide_eq_true c3; clear c3; revert H; refine ifR fun c4 => ?_; intro H; have c4b0 := decide_eq_true c4; clear c4; revert H
    refine ifB (fun c5 => ?_) (fun c5 => ?_)
    · intro H; have c5b0 := beq_iff_eq.mpr c5; have c5b1 := bne_eq_false_iff_eq.mpr c5; clear c5; revert H; refine adR fun H' => ?_; have p490 : 0 ≤ (x5_1 : Int) := bD; have q490 : x5_1 < (l0.length : Int) := bD; obtain ⟨ad490, e490, hx490_0⟩ := Kd.at_int HR0.out x5_1 p490 q490; cases e490; replace p490 := eq_true p490; replace q490 := eq_true q490; go_wp2; go_roundg k1
      case measure => have := HK1.out; omega
      case rel => exact ⟨(wrap64 (x1_1 + 1)), (wrap64 (x5_1 + 1)), eQ, eQ, H', ⟨by have := HK1.out; omega⟩, dQ⟩
    · intro H; have c5b0 := beq_eq_false_iff_ne.mpr c5; have c5b1 := bne_iff_ne.mpr c5; obtain rfl := Option.some.inj H; have p490 : 0 ≤ (x5_1 : Int) := bD; have q490 : x5_1 < (l0.length : Int) := bD; obtain ⟨ad490, e490, hx490_0⟩ := Kd.at_int HR0.out x5_1 p490 q490; cases e490; replace p490 := eq_true p490; replace q490 := eq_true q490; go_wp2; go_ret; exact ⟨eQ, dQ⟩
  · intro H; have c3b0 := decide_eq_false c3; clear c3; obtain rfl := Option.some.inj H; go_wp2; go_ret; exact ⟨eQ, dQ⟩

/-! ### laws_heldRaster: function 38 -/
def laws_heldRaster.f (k : Nat) (a0_0 : Int) (a0_1 : Int) (a0_2 : Int) (a0_3 : Int) (l0_4 : List Int) (a1 : Int) : Option (Int) := (laws_heldIntS.f k l0_4 a1).bind fun t492 => (if t492 < 0 then (some (-1)) else (some t492))
set_option maxHeartbeats 8000000 in
set_option maxRecDepth 100000 in
theorem laws_heldRaster.calls (k : Nat) (a0_0 : Int) (a0_1 : Int) (a0_2 : Int) (a0_3 : Int) (A0_4 : Option Addr) (c0_4 : Nat) (l0_4 : List Int) (a1 : Int) (r : Int) (w : World) (hr0_4 : Kd.C (Kd.int .i64) w A0_4 l0_4.length l0_4) (hc0_4 : l0_4.length ≤ c0_4) (h : laws_heldRaster.f k a0_0 a0_1 a0_2 a0_3 l0_4 a1 = some r) :
 Calls Try.prog 38 #[.agg #[.int .i64 a0_0, .int .i64 a0_1, .int .i64 a0_2, .int .i64 a0_3, .slice A0_4 l0_4.length c0_4], .int .i64 a1] w fun e w' => e = .returned (.int .i64 r) ∧ Below w.heap.size w w' := by
 have hu29 := Try.underlying29; have HR0_4 := aM hr0_4; have HC0_4 := aM hc0_4; clear hr0_4 hc0_4; have HB := aM (Below.refl w.heap.size w); have H : ((laws_heldIntS.f k l0_4 a1).bind fun t492 => (if t492 < 0 then (some (-1)) else (some t492))) = some r := h; clear h; revert H; refine bdR fun t492 A3 => ?_
 refine ifB (fun c4 => ?_) (fun c4 => ?_)
 · intro H; have c4b0 := decide_eq_true c4; clear c4; obtain rfl := Option.some.inj H; go_enter Try.func38, Try.ntmps38
   go_wp2_with (first | ((with_reducible refine gD 2 ?_); refine bE 2 #[.int .i64 a0_0, .int .i64 a0_1, .int .i64 a0_2, .int .i64 a0_3, .slice A0_4 l0_4.length c0_4] 29 ?_; intro gb491 hg w5 hbox hb; have BK491 := aM hbox; have GW491 := aM (sZ hg); have GE491 := GW491; replace HB := hS hb; clear hb hbox hg; have hz6 := bz5 BK491) | ((with_reducible refine gC 70 ?_); refine gL (some 8) Try.func70 #[.slice A0_4 l0_4.length c0_4, .int .i64 a1] ?_; (with_reducible refine (laws_heldIntS.calls k _ _ l0_4 a1 t492 _ (Kd.C_i (Kd.C_below HR0_4.out HB.out)) HC0_4.out A3.out).mono ?_); rintro e w' ⟨rfl, ⟨nd, rfl⟩⟩; refine ⟨_, rfl, ?_⟩)); go_ret; exact ⟨eE, hB⟩
 · intro H; have c4b0 := decide_eq_false c4; clear c4; obtain rfl := Option.some.inj H; go_enter Try.func38, Try.ntmps38
   go_wp2_with (first | ((with_reducible refine gD 2 ?_); refine bE 2 #[.int .i64 a0_0, .int .i64 a0_1, .int .i64 a0_2, .int .i64 a0_3, .slice A0_4 l0_4.length c0_4] 29 ?_; intro gb491 hg w7 hbox hb; have BK491 := aM hbox; have GW491 := aM (sZ hg); have GE491 := GW491; replace HB := hS hb; clear hb hbox hg; have hz8 := bz5 BK491) | ((with_reducible refine gC 70 ?_); refine gL (some 8) Try.func70 #[.slice A0_4 l0_4.length c0_4, .int .i64 a1] ?_; (with_reducible refine (laws_heldIntS.calls k _ _ l0_4 a1 t492 _ (Kd.C_i (Kd.C_below HR0_4.out HB.out)) HC0_4.out A3.out).mono ?_); rintro e w' ⟨rfl, ⟨nd, rfl⟩⟩; refine ⟨_, rfl, ?_⟩)); go_ret; exact ⟨eE, hB⟩

/-! ### laws_heldChunkS: function 122 -/
def laws_heldChunkS.l0 : Nat → List (S168) → Int → Int → Option (Int)
  | 0, _, _, _ => none
  | k + 1, x0, x1, x5 => if x5 < (x0.length : Int) then (if 0 ≤ x5 then ((laws_markText.f k x1).bind fun t494 => (if ((rd_T168 x0 x5).f0).toList = t494.toList then ((laws_markText.f k (wrap64 (x1 + 1))).bind fun t496 => (if ((rd_T168 x0 x5).f1).toList = t496.toList then (laws_heldChunkS.l0 k x0 (wrap64 ((wrap64 (x1 + 1)) + 1)) (wrap64 (x5 + 1))) else (some (-1)))) else (some (-1)))) else (none)) else (some x1)
def laws_heldChunkS.f (k : Nat) (l0 : List (S168)) (a1 : Int) : Option (Int) := laws_heldChunkS.l0 k l0 a1 0
def laws_heldChunkS.T4 : Bool × List (List Nat × List Nat) := (true, [([], []), ([], []), ([0, 1], [0, 1]), ([2], [2]), ([3], [3]), ([], []), ([5], [5]), ([4, 6], [4, 6])])
def laws_heldChunkS.B4 : List Nat := [0, 0, 3, 7, 15, 0, 32, 127]
theorem laws_heldChunkS.tab4 : rtab .any (opsOf Try.f122 4) = laws_heldChunkS.T4 := by kernel_rfl
theorem laws_heldChunkS.bits4 : waitsOk laws_heldChunkS.T4.2 laws_heldChunkS.B4 = true := by kernel_rfl
def laws_heldChunkS.T7 : Bool × List (List Nat × List Nat) := (true, [([], []), ([], []), ([0, 1], [0, 1]), ([2], [2]), ([3], [3]), ([], []), ([5], [5]), ([4, 6], [4, 6])])
def laws_heldChunkS.B7 : List Nat := [0, 0, 3, 7, 15, 0, 32, 127]
theorem laws_heldChunkS.tab7 : rtab .any (opsOf Try.f122 7) = laws_heldChunkS.T7 := by kernel_rfl
theorem laws_heldChunkS.bits7 : waitsOk laws_heldChunkS.T7.2 laws_heldChunkS.B7 = true := by kernel_rfl
set_option maxHeartbeats 8000000 in
set_option maxRecDepth 100000 in
theorem laws_heldChunkS.calls (k : Nat) (A0 : Option Addr) (c0 : Nat) (l0 : List (S168)) (a1 : Int) (r : Int) (w : World) (hr0 : Kd.C k168 w A0 l0.length l0) (hc0 : l0.length ≤ c0) (h : laws_heldChunkS.f k l0 a1 = some r) :
 Calls Try.prog 122 #[.slice A0 l0.length c0, .int .i64 a1] w fun e w' => e = .returned (.int .i64 r) ∧ Below w.heap.size w w' := by
 have HR0 := aM hr0; have HC0 := aM hc0; clear hr0 hc0; have HB := aM (Below.refl w.heap.size w); have H : (laws_heldChunkS.l0 k l0 a1 0) = some r := h; clear h; revert H; refine adR fun H' => ?_; go_enter Try.func122, Try.ntmps122; go_wp2
 go_loopg [1, 5] k (fun kq v1 v5 w' => ∃ (x1_1 : Int) (x5_1 : Int), v1 = .int .i64 x1_1 ∧ v5 = .int .i64 x5_1 ∧ Aside0 (laws_heldChunkS.l0 kq l0 x1_1 x5_1 = some r) ∧ Aside0 (kq ≤ k) ∧ Aside0 (Below w.heap.size w w'))
 case atStart => exact ⟨(a1), (0), eQ, eQ, H', ⟨Nat.le_refl _⟩, ⟨hB⟩⟩
 case round =>
  clear H'; (try clear c1); (try clear p2); obtain ⟨x1_1, x5_1, rfl, rfl, HA, HK1, HB⟩ := hrel; rcases gk with _ | k1
  · exact absurd HA.out (by simp [laws_heldChunkS.l0])
  revert HA; refine aoR ?_; intro H; simp only [laws_heldChunkS.l0] at H; revert H
  refine ifB (fun c3 => ?_) (fun c3 => ?_)
  · intro H; have c3b0 := decide_eq_true c3; clear c3; revert H; refine ifR fun c4 => ?_; intro H; have c4b0 := decide_eq_true c4; clear c4; revert H; refine bdR fun t494 A5 => ?_
    refine ifB (fun c6 => ?_) (fun c6 => ?_)
    · intro H; have c6b0 := beq_iff_eq.mpr c6; have c6b1 := bne_eq_false_iff_eq.mpr c6; clear c6; revert H; refine bdR fun t496 A7 => ?_
      refine ifB (fun c8 => ?_) (fun c8 => ?_)
      · intro H; have c8b0 := beq_iff_eq.mpr c8; have c8b1 := bne_eq_false_iff_eq.mpr c8; clear c8; revert H; refine adR fun H' => ?_
        try go_wp2
        replace HB := aM (below_drew1 HB.out); have p493 : 0 ≤ (x5_1 : Int) := bD; have q493 : x5_1 < (l0.length : Int) := bD; obtain ⟨ad493, e493, hx493_0, hx493_1⟩ := at_T168 HR0.out x5_1 p493 q493; have hw493_1 := hx493_1; have hw493_0 := hx493_0; cases e493; replace hx493_0 := cB0 HB hx493_0; replace hx493_1 := cB0 HB hx493_1; replace p493 := eq_true p493; replace q493 := eq_true q493
        refine start_ (n := 8) (S := fun w' => w'.cell? (ad493.add ((x5_1).toNat * 2)) = some (.string ((rd_T168 l0 x5_1).f0)) ∧ w'.cell? ⟨(ad493.add ((x5_1).toNat * 2)).block, (ad493.add ((x5_1).toNat * 2)).off + 1, none⟩ = some (.string ((rd_T168 l0 x5_1).f1))) (ds := []) (bAr 8 0) (by kernel_rfl) rfl rfl ⟨(cB HB hw493_0), (cB HB hw493_1)⟩ (fun hHeld => ?_); refine with_tabW laws_heldChunkS.tab4 laws_heldChunkS.bits4 (fun HT_ HW_ => ?_)
        generalize wr.drew = w9 at HB hx493_0 hx493_1 hHeld ⊢; refine pU 0 12 (bAr 8 1) ?_; refine pU 1 13 (bAr 8 3) ?_; refine pU 2 14 (bAr 8 7) ?_; refine pU 3 15 (bAr 8 15) ?_; refine pU 5 17 (bAr 8 47) ?_
        refine tK 4 16 (bAr 8 63) ?_
        refine one_ (i := 6) (N := some 18) (bAr 8 127) rfl rfl (one_of HT_.out (by kernel_rfl)) (by decide) (fun K hK => ?_)
        refine goes_ Try.func167 (by kernel_rfl) rfl #[.int .i64 x1_1] (by rfl) rfl rfl (by (try simp only [List.map_toArray, List.map_cons, List.map_nil]); first | done | rfl | (simp only [List.length_drop, List.length_take]; rfl)) ?_
        with_reducible refine (laws_markText.calls k1 x1_1 t494 _ A5.out).mono ?_
        rintro e w10 ⟨rfl, hb⟩
        refine ⟨_, rfl, ?_⟩; replace HB := hS hb
        refine hK.out _ _ ⟨(cB HB hw493_0), (cB HB hw493_1)⟩ (fun hHeld => ?_); clear hK K
        refine norm_ (a' := ?_) ?_ ?_; rotate_left
        · show Act.put _ (some 18) _ = _
          simp only [Act.put, List.setIfInBounds_toArray, List.set_cons_zero, List.set_cons_succ, i64_w, i32_w]
          rfl
        refine pU 7 19 (bAr 8 255) ?_
        refine done_ (done_of HT_.out (by kernel_rfl)) ?_
        try go_wp2
        replace HB := aM (below_drew1 HB.out); have p495 : 0 ≤ (x5_1 : Int) := bD; have q495 : x5_1 < (l0.length : Int) := bD; obtain ⟨ad495, e495, hx495_0, hx495_1⟩ := at_T168 HR0.out x5_1 p495 q495; have hw495_1 := hx495_1; have hw495_0 := hx495_0; obtain rfl : ad493 = ad495 := (by injection e495); replace hx495_0 := cB0 HB hx495_0; replace hx495_1 := cB0 HB hx495_1; replace p495 := eq_true p495; replace q495 := eq_true q495
        refine start_ (n := 8) (S := fun w' => w'.cell? (ad493.add ((x5_1).toNat * 2)) = some (.string ((rd_T168 l0 x5_1).f0)) ∧ w'.cell? ⟨(ad493.add ((x5_1).toNat * 2)).block, (ad493.add ((x5_1).toNat * 2)).off + 1, none⟩ = some (.string ((rd_T168 l0 x5_1).f1))) (ds := []) (bAr 8 0) (by kernel_rfl) rfl rfl ⟨(cB HB hw495_0), (cB HB hw495_1)⟩ (fun hHeld => ?_); refine with_tabW laws_heldChunkS.tab7 laws_heldChunkS.bits7 (fun HT_ HW_ => ?_)
        generalize w10.drew = w11 at HB hx495_0 hx495_1 hHeld ⊢; refine pU 0 22 (bAr 8 1) ?_; refine pU 1 23 (bAr 8 3) ?_; refine pU 2 24 (bAr 8 7) ?_; refine pU 3 25 (bAr 8 15) ?_; refine pU 5 27 (bAr 8 47) ?_
        refine tK 4 26 (bAr 8 63) ?_
        refine one_ (i := 6) (N := some 28) (bAr 8 127) rfl rfl (one_of HT_.out (by kernel_rfl)) (by decide) (fun K hK => ?_)
        refine goes_ Try.func167 (by kernel_rfl) rfl #[.int .i64 (wrap64 (x1_1 + 1))] (by rfl) rfl rfl (by (try simp only [List.map_toArray, List.map_cons, List.map_nil]); first | done | rfl | (simp only [List.length_drop, List.length_take]; rfl)) ?_
        with_reducible refine (laws_markText.calls k1 (wrap64 (x1_1 + 1)) t496 _ A7.out).mono ?_
        rintro e w12 ⟨rfl, hb⟩
        refine ⟨_, rfl, ?_⟩; replace HB := hS hb
        refine hK.out _ _ ⟨(cB HB hw495_0), (cB HB hw495_1)⟩ (fun hHeld => ?_); clear hK K
        refine norm_ (a' := ?_) ?_ ?_; rotate_left
        · show Act.put _ (some 28) _ = _
          simp only [Act.put, List.setIfInBounds_toArray, List.set_cons_zero, List.set_cons_succ, i64_w, i32_w]
          rfl
        refine pU 7 29 (bAr 8 255) ?_
        refine done_ (done_of HT_.out (by kernel_rfl)) ?_
        try go_wp2
        go_roundg k1
        case measure => have := HK1.out; omega
        case rel => exact ⟨(wrap64 ((wrap64 (x1_1 + 1)) + 1)), (wrap64 (x5_1 + 1)), eQ, eQ, H', ⟨by have := HK1.out; omega⟩, ⟨hB⟩⟩
      · intro H; have c8b0 := beq_eq_false_iff_ne.mpr c8; have c8b1 := bne_iff_ne.mpr c8; obtain rfl := Option.some.inj H
        try go_wp2
        replace HB := aM (below_drew1 HB.out); have p493 : 0 ≤ (x5_1 : Int) := bD; have q493 : x5_1 < (l0.length : Int) := bD; obtain ⟨ad493, e493, hx493_0, hx493_1⟩ := at_T168 HR0.out x5_1 p493 q493; have hw493_1 := hx493_1; have hw493_0 := hx493_0; cases e493; replace hx493_0 := cB0 HB hx493_0; replace hx493_1 := cB0 HB hx493_1; replace p493 := eq_true p493; replace q493 := eq_true q493
        refine start_ (n := 8) (S := fun w' => w'.cell? (ad493.add ((x5_1).toNat * 2)) = some (.string ((rd_T168 l0 x5_1).f0)) ∧ w'.cell? ⟨(ad493.add ((x5_1).toNat * 2)).block, (ad493.add ((x5_1).toNat * 2)).off + 1, none⟩ = some (.string ((rd_T168 l0 x5_1).f1))) (ds := []) (bAr 8 0) (by kernel_rfl) rfl rfl ⟨(cB HB hw493_0), (cB HB hw493_1)⟩ (fun hHeld => ?_); refine with_tabW laws_heldChunkS.tab4 laws_heldChunkS.bits4 (fun HT_ HW_ => ?_)
        generalize wr.drew = w13 at HB hx493_0 hx493_1 hHeld ⊢; refine pU 0 12 (bAr 8 1) ?_; refine pU 1 13 (bAr 8 3) ?_; refine pU 2 14 (bAr 8 7) ?_; refine pU 3 15 (bAr 8 15) ?_; refine pU 5 17 (bAr 8 47) ?_
        refine tK 4 16 (bAr 8 63) ?_
        refine one_ (i := 6) (N := some 18) (bAr 8 127) rfl rfl (one_of HT_.out (by kernel_rfl)) (by decide) (fun K hK => ?_)
        refine goes_ Try.func167 (by kernel_rfl) rfl #[.int .i64 x1_1] (by rfl) rfl rfl (by (try simp only [List.map_toArray, List.map_cons, List.map_nil]); first | done | rfl | (simp only [List.length_drop, List.length_take]; rfl)) ?_
        with_reducible refine (laws_markText.calls k1 x1_1 t494 _ A5.out).mono ?_
        rintro e w14 ⟨rfl, hb⟩
        refine ⟨_, rfl, ?_⟩; replace HB := hS hb
        refine hK.out _ _ ⟨(cB HB hw493_0), (cB HB hw493_1)⟩ (fun hHeld => ?_); clear hK K
        refine norm_ (a' := ?_) ?_ ?_; rotate_left
        · show Act.put _ (some 18) _ = _
          simp only [Act.put, List.setIfInBounds_toArray, List.set_cons_zero, List.set_cons_succ, i64_w, i32_w]
          rfl
        refine pU 7 19 (bAr 8 255) ?_
        refine done_ (done_of HT_.out (by kernel_rfl)) ?_
        try go_wp2
        replace HB := aM (below_drew1 HB.out); have p495 : 0 ≤ (x5_1 : Int) := bD; have q495 : x5_1 < (l0.length : Int) := bD; obtain ⟨ad495, e495, hx495_0, hx495_1⟩ := at_T168 HR0.out x5_1 p495 q495; have hw495_1 := hx495_1; have hw495_0 := hx495_0; obtain rfl : ad493 = ad495 := (by injection e495); replace hx495_0 := cB0 HB hx495_0; replace hx495_1 := cB0 HB hx495_1; replace p495 := eq_true p495; replace q495 := eq_true q495
        refine start_ (n := 8) (S := fun w' => w'.cell? (ad493.add ((x5_1).toNat * 2)) = some (.string ((rd_T168 l0 x5_1).f0)) ∧ w'.cell? ⟨(ad493.add ((x5_1).toNat * 2)).block, (ad493.add ((x5_1).toNat * 2)).off + 1, none⟩ = some (.string ((rd_T168 l0 x5_1).f1))) (ds := []) (bAr 8 0) (by kernel_rfl) rfl rfl ⟨(cB HB hw495_0), (cB HB hw495_1)⟩ (fun hHeld => ?_); refine with_tabW laws_heldChunkS.tab7 laws_heldChunkS.bits7 (fun HT_ HW_ => ?_)
        generalize w14.drew = w15 at HB hx495_0 hx495_1 hHeld ⊢; refine pU 0 22 (bAr 8 1) ?_; refine pU 1 23 (bAr 8 3) ?_; refine pU 2 24 (bAr 8 7) ?_; refine pU 3 25 (bAr 8 15) ?_; refine pU 5 27 (bAr 8 47) ?_
        refine tK 4 26 (bAr 8 63) ?_
        refine one_ (i := 6) (N := some 28) (bAr 8 127) rfl rfl (one_of HT_.out (by kernel_rfl)) (by decide) (fun K hK => ?_)
        refine goes_ Try.func167 (by kernel_rfl) rfl #[.int .i64 (wrap64 (x1_1 + 1))] (by rfl) rfl rfl (by (try simp only [List.map_toArray, List.map_cons, List.map_nil]); first | done | rfl | (simp only [List.length_drop, List.length_take]; rfl)) ?_
        with_reducible refine (laws_markText.calls k1 (wrap64 (x1_1 + 1)) t496 _ A7.out).mono ?_
        rintro e w16 ⟨rfl, hb⟩
        refine ⟨_, rfl, ?_⟩; replace HB := hS hb
        refine hK.out _ _ ⟨(cB HB hw495_0), (cB HB hw495_1)⟩ (fun hHeld => ?_); clear hK K
        refine norm_ (a' := ?_) ?_ ?_; rotate_left
        · show Act.put _ (some 28) _ = _
          simp only [Act.put, List.setIfInBounds_toArray, List.set_cons_zero, List.set_cons_succ, i64_w, i32_w]
          rfl
        refine pU 7 29 (bAr 8 255) ?_
        refine done_ (done_of HT_.out (by kernel_rfl)) ?_
        try go_wp2
        go_ret; exact ⟨eE, hB⟩
    · intro H; have c6b0 := beq_eq_false_iff_ne.mpr c6; have c6b1 := bne_iff_ne.mpr c6; obtain rfl := Option.some.inj H
      try go_wp2
      replace HB := aM (below_drew1 HB.out); have p493 : 0 ≤ (x5_1 : Int) := bD; have q493 : x5_1 < (l0.length : Int) := bD; obtain ⟨ad493, e493, hx493_0, hx493_1⟩ := at_T168 HR0.out x5_1 p493 q493; have hw493_1 := hx493_1; have hw493_0 := hx493_0; cases e493; replace hx493_0 := cB0 HB hx493_0; replace hx493_1 := cB0 HB hx493_1; replace p493 := eq_true p493; replace q493 := eq_true q493
      refine start_ (n := 8) (S := fun w' => w'.cell? (ad493.add ((x5_1).toNat * 2)) = some (.string ((rd_T168 l0 x5_1).f0)) ∧ w'.cell? ⟨(ad493.add ((x5_1).toNat * 2)).block, (ad493.add ((x5_1).toNat * 2)).off + 1, none⟩ = some (.string ((rd_T168 l0 x5_1).f1))) (ds := []) (bAr 8 0) (by kernel_rfl) rfl rfl ⟨(cB HB hw493_0), (cB HB hw493_1)⟩ (fun hHeld => ?_); refine with_tabW laws_heldChunkS.tab4 laws_heldChunkS.bits4 (fun HT_ HW_ => ?_)
      generalize wr.drew = w17 at HB hx493_0 hx493_1 hHeld ⊢; refine pU 0 12 (bAr 8 1) ?_; refine pU 1 13 (bAr 8 3) ?_; refine pU 2 14 (bAr 8 7) ?_; refine pU 3 15 (bAr 8 15) ?_; refine pU 5 17 (bAr 8 47) ?_
      refine tK 4 16 (bAr 8 63) ?_
      refine one_ (i := 6) (N := some 18) (bAr 8 127) rfl rfl (one_of HT_.out (by kernel_rfl)) (by decide) (fun K hK => ?_)
      refine goes_ Try.func167 (by kernel_rfl) rfl #[.int .i64 x1_1] (by rfl) rfl rfl (by (try simp only [List.map_toArray, List.map_cons, List.map_nil]); first | done | rfl | (simp only [List.length_drop, List.length_take]; rfl)) ?_
      with_reducible refine (laws_markText.calls k1 x1_1 t494 _ A5.out).mono ?_
      rintro e w18 ⟨rfl, hb⟩
      refine ⟨_, rfl, ?_⟩; replace HB := hS hb
      refine hK.out _ _ ⟨(cB HB hw493_0), (cB HB hw493_1)⟩ (fun hHeld => ?_); clear hK K
      refine norm_ (a' := ?_) ?_ ?_; rotate_left
      · show Act.put _ (some 18) _ = _
        simp only [Act.put, List.setIfInBounds_toArray, List.set_cons_zero, List.set_cons_succ, i64_w, i32_w]
        rfl
      refine pU 7 19 (bAr 8 255) ?_
      refine done_ (done_of HT_.out (by kernel_rfl)) ?_
      try go_wp2
      go_ret; exact ⟨eE, hB⟩
  · intro H; have c3b0 := decide_eq_false c3; clear c3; obtain rfl := Option.some.inj H; go_wp2; go_ret; exact ⟨eE, hB⟩

end Go.Proofs.Ytajnobmnkbkkgaa.PFnExactNoCover
