/- Walks of functions that the law FnExactFromPasses reaches: each call comes to what the Lean function of its name tells. Written by p2.py, a program of this session, by way of the kit's print. -/
import Derived.Test.YtajnobmnkbkkgaaVFnExactFromPasses
import Derived.Test.YtajnobmnkbkkgaaPFnExactFromPassesx0
import Derived.Test.YtajnobmnkbkkgaaPFnExactFromPassesx3
import Derived.Test.YtajnobmnkbkkgaaPFnExactFromPassesx4
namespace Go.Proofs.Ytajnobmnkbkkgaa.PFnExactFromPasses
open Go.RowKit Go.Proofs.YtajnobmnkbkkgaaW.PrintWords Go.Proofs.YtajnobmnkbkkgaaW.PrintLast Go.Proofs.YtajnobmnkbkkgaaW.PrintMore
attribute [local go_sem] max2_int min2_int max_two min_two max_three min_three max_four min_four   -- for this text's walks alone
set_option linter.unusedVariables false
set_option linter.unusedSimpArgs false

/-! ### spec_PassesOf: function 13 -/
def spec_PassesOf.f (k : Nat) (a0_0 : Int) (a0_1 : Int) (a0_2 : Int) (a0_3 : Int) (l0_4 : List Int) : Option ((List (S29)) × Bool) := (spec_RasterOk.f k a0_0 a0_1 a0_2 a0_3 l0_4).bind fun t161 => (if t161 = true then ((spec_l14Passes.f k a0_0 a0_1 a0_2 a0_3 l0_4).bind fun t162 => (some (t162, true))) else (some ((([] : List (S29))), false)))
set_option maxHeartbeats 8000000 in
set_option maxRecDepth 100000 in
theorem spec_PassesOf.calls (k : Nat) (a0_0 : Int) (a0_1 : Int) (a0_2 : Int) (a0_3 : Int) (A0_4 : Option Addr) (c0_4 : Nat) (l0_4 : List Int) (r1 : List (S29)) (r2 : Bool) (w : World) (hr0_4 : Kd.C (Kd.int .i64) w A0_4 l0_4.length l0_4) (hc0_4 : l0_4.length ≤ c0_4) (h : spec_PassesOf.f k a0_0 a0_1 a0_2 a0_3 l0_4 = some (r1, r2)) :
 Calls Try.prog 13 #[.agg #[.int .i64 a0_0, .int .i64 a0_1, .int .i64 a0_2, .int .i64 a0_3, .slice A0_4 l0_4.length c0_4]] w fun e w' => ∃ v0_ : Value, e = .returned (.tuple #[v0_, .bool r2]) ∧ Kd.S k29 29 w' w.heap.size (fun _ => True) v0_ r1 ∧ Below w.heap.size w w' := by
 have hu29 := Try.underlying29; have HR0_4 := aM hr0_4; have HC0_4 := aM hc0_4; clear hr0_4 hc0_4; have HB := aM (Below.refl w.heap.size w); unfold spec_PassesOf.f at h; have H := h; clear h; revert H; refine bdR fun t161 A2 => ?_
 refine ifB (fun c3 => ?_) (fun c3 => ?_)
 · intro H; subst c3; revert H; refine bdR fun t162 A4 => ?_; intro H; simp only [Option.some.injEq, Prod.mk.injEq] at H; obtain ⟨rfl, rfl⟩ := H; go_enter Try.func13, Try.ntmps13
   go_wp2_with (first | ((with_reducible refine gD 1 ?_); refine bE 1 #[.int .i64 a0_0, .int .i64 a0_1, .int .i64 a0_2, .int .i64 a0_3, .slice A0_4 l0_4.length c0_4] 29 ?_; intro gb160 hg w5 hbox hb; have BK160 := aM hbox; have GW160 := aM (sZ hg); have GE160 := GW160; replace HB := hS hb; clear hb hbox hg; have hz6 := bz5 BK160) | ((with_reducible refine gC 61 ?_); refine gL (some 5) Try.func61 #[.agg #[.int .i64 a0_0, .int .i64 a0_1, .int .i64 a0_2, .int .i64 a0_3, .slice A0_4 l0_4.length c0_4]] ?_; (with_reducible refine (spec_RasterOk.calls k a0_0 a0_1 a0_2 a0_3 _ _ l0_4 true _ (Kd.C_i (Kd.C_below HR0_4.out HB.out)) HC0_4.out A2.out).mono ?_); rintro e w7 ⟨rfl, hb⟩; refine ⟨_, rfl, ?_⟩; replace BK160 := bW BK160 hb; replace HB := hS hb; clear hb; have hz8 := bz5 BK160) | ((with_reducible refine gC 62 ?_); refine gL (some 9) Try.func62 #[.agg #[.int .i64 a0_0, .int .i64 a0_1, .int .i64 a0_2, .int .i64 a0_3, .slice A0_4 l0_4.length c0_4]] ?_; (with_reducible refine (spec_l14Passes.calls k a0_0 a0_1 a0_2 a0_3 _ _ l0_4 t162 _ (Kd.C_i (Kd.C_below HR0_4.out HB.out)) HC0_4.out A4.out).mono ?_); rintro e w9 ⟨v163, rfl, ho0, hb⟩; refine ⟨_, rfl, ?_⟩; have HO164 := aM (Kd.S_lower (Kd.S_newB ho0 (g := gb160) (o := .cells #[.int .i64 a0_0, .int .i64 a0_1, .int .i64 a0_2, .int .i64 a0_3, .slice A0_4 l0_4.length c0_4] 29 (0, 0)) (bI BK160.out)) (below_size hB)); replace BK160 := bW BK160 hb; replace HB := hS hb; clear hb ho0))
   go_ret2; exact ⟨_, eE, Kd.S_i (Kd.S_mono HO164.out (fun _ hk => trivial)), hB⟩
 · intro H; replace c3 := Bool.eq_false_iff.mpr c3; subst c3; obtain ⟨y165, hy_⟩ : ∃ y_ : List (S29), y_ = (([] : List (S29))) := ⟨_, rfl⟩; replace H : (some (y165, false)) = some (r1, r2) := nH; have Ny165 := aM hy_; clear hy_; simp only [Option.some.injEq, Prod.mk.injEq] at H; obtain ⟨rfl, rfl⟩ := H; go_enter Try.func13, Try.ntmps13
   go_wp2_with (first | ((with_reducible refine gD 1 ?_); refine bE 1 #[.int .i64 a0_0, .int .i64 a0_1, .int .i64 a0_2, .int .i64 a0_3, .slice A0_4 l0_4.length c0_4] 29 ?_; intro gb160 hg w10 hbox hb; have BK160 := aM hbox; have GW160 := aM (sZ hg); have GE160 := GW160; replace HB := hS hb; clear hb hbox hg; have hz11 := bz5 BK160) | ((with_reducible refine gC 61 ?_); refine gL (some 5) Try.func61 #[.agg #[.int .i64 a0_0, .int .i64 a0_1, .int .i64 a0_2, .int .i64 a0_3, .slice A0_4 l0_4.length c0_4]] ?_; (with_reducible refine (spec_RasterOk.calls k a0_0 a0_1 a0_2 a0_3 _ _ l0_4 false _ (Kd.C_i (Kd.C_below HR0_4.out HB.out)) HC0_4.out A2.out).mono ?_); rintro e w12 ⟨rfl, hb⟩; refine ⟨_, rfl, ?_⟩; replace BK160 := bW BK160 hb; replace HB := hS hb; clear hb) | ((with_reducible refine gD 7 ?_); refine Kd.S_lit k29 _ 29 ?hg (N := 7) ?hd (xs := ([] : List (S29))) (inner := []) (ok := fun _ => True) (okp := fun _ => True) ?hr ?hp (fun _ hk => hk) trivial (Below.refl _ _) (Nat.le_refl _) (by simp) ?_; (case hd => rfl); (case hg => rfl); (case hr => first | (go_simp; done) | (go_simp; rfl)); (case hp => exact (Reps.none _ _)); intro v166 w13 ho14 hb hg_ hnew_; clear hg_ hnew_; (first | rw [← Ny165.out] at ho14 | (simp only [Int.reduceToNat] at ho14; rw [← Ny165.out] at ho14)); have HO167 := aM (Kd.S_lower (Kd.S_newB ho14 (g := gb160) (o := .cells #[.int .i64 a0_0, .int .i64 a0_1, .int .i64 a0_2, .int .i64 a0_3, .slice A0_4 l0_4.length c0_4] 29 (0, 0)) (bI BK160.out)) (below_size hB)); replace BK160 := bW BK160 hb; replace HB := hS hb; clear hb ho14))
   go_ret2; exact ⟨_, eE, Kd.S_i (Kd.S_mono HO167.out (fun _ hk => trivial)), hB⟩

/-! ### spec_l14Same: function 91 -/
mutual
def spec_l14Same.j0 : Nat → Bool → Int → Int → Int → Int → List Int → Int → Int → Int → Int → List Int → Option (Bool)
  | 0, _, _, _, _, _, _, _, _, _, _, _ => none
  | k + 1, x40, x169000, x169001, x169002, x169003, x169004, x170000, x170001, x170002, x170003, x170004 => if x40 = true then (some false) else (spec_l14Same.l0 k 0 x169000 x169001 x169002 x169003 x169004 x170000 x170001 x170002 x170003 x170004)
def spec_l14Same.l0 : Nat → Int → Int → Int → Int → Int → List Int → Int → Int → Int → Int → List Int → Option (Bool)
  | 0, _, _, _, _, _, _, _, _, _, _, _ => none
  | k + 1, x5, x169000, x169001, x169002, x169003, x169004, x170000, x170001, x170002, x170003, x170004 => if x5 < (x169004.length : Int) then (if 0 ≤ x5 then (if x5 < (x170004.length : Int) then (if (rd x169004 x5) = (rd x170004 x5) then (spec_l14Same.l0 k (wrap64 (x5 + 1)) x169000 x169001 x169002 x169003 x169004 x170000 x170001 x170002 x170003 x170004) else (some false)) else (none)) else (none)) else (some true)
end
def spec_l14Same.f (k : Nat) (a0_0 : Int) (a0_1 : Int) (a0_2 : Int) (a0_3 : Int) (l0_4 : List Int) (a1_0 : Int) (a1_1 : Int) (a1_2 : Int) (a1_3 : Int) (l1_4 : List Int) : Option (Bool) := if a0_0 = a1_0 then (if a0_1 = a1_1 then (if a0_2 = a1_2 then (if a0_3 = a1_3 then (spec_l14Same.j0 k ((l0_4.length : Int) != (l1_4.length : Int)) a0_0 a0_1 a0_2 a0_3 l0_4 a1_0 a1_1 a1_2 a1_3 l1_4) else (spec_l14Same.j0 k true a0_0 a0_1 a0_2 a0_3 l0_4 a1_0 a1_1 a1_2 a1_3 l1_4)) else (spec_l14Same.j0 k true a0_0 a0_1 a0_2 a0_3 l0_4 a1_0 a1_1 a1_2 a1_3 l1_4)) else (spec_l14Same.j0 k true a0_0 a0_1 a0_2 a0_3 l0_4 a1_0 a1_1 a1_2 a1_3 l1_4)) else (spec_l14Same.j0 k true a0_0 a0_1 a0_2 a0_3 l0_4 a1_0 a1_1 a1_2 a1_3 l1_4)
set_option maxHeartbeats 8000000 in
set_option maxRecDepth 100000 in
theorem spec_l14Same.calls (k : Nat) (a0_0 : Int) (a0_1 : Int) (a0_2 : Int) (a0_3 : Int) (A0_4 : Option Addr) (c0_4 : Nat) (l0_4 : List Int) (a1_0 : Int) (a1_1 : Int) (a1_2 : Int) (a1_3 : Int) (A1_4 : Option Addr) (c1_4 : Nat) (l1_4 : List Int) (r : Bool) (w : World) (hr0_4 : Kd.C (Kd.int .i64) w A0_4 l0_4.length l0_4) (hc0_4 : l0_4.length ≤ c0_4) (hr1_4 : Kd.C (Kd.int .i64) w A1_4 l1_4.length l1_4) (hc1_4 : l1_4.length ≤ c1_4) (h : spec_l14Same.f k a0_0 a0_1 a0_2 a0_3 l0_4 a1_0 a1_1 a1_2 a1_3 l1_4 = some r) :
 Calls Try.prog 91 #[.agg #[.int .i64 a0_0, .int .i64 a0_1, .int .i64 a0_2, .int .i64 a0_3, .slice A0_4 l0_4.length c0_4], .agg #[.int .i64 a1_0, .int .i64 a1_1, .int .i64 a1_2, .int .i64 a1_3, .slice A1_4 l1_4.length c1_4]] w fun e w' => e = .returned (.bool r) ∧ Below w.heap.size w w' := by
 have hu29 := Try.underlying29; have HR0_4 := aM hr0_4; have HC0_4 := aM hc0_4; clear hr0_4 hc0_4; have HR1_4 := aM hr1_4; have HC1_4 := aM hc1_4; clear hr1_4 hc1_4; have HB := aM (Below.refl w.heap.size w); unfold spec_l14Same.f at h; have H := h; clear h; revert H; refine adR fun HC3 => ?_; go_enter Try.func91, Try.ntmps91
 go_upto_region 1 with (first | ((with_reducible refine gD 2 ?_); (try (refine gate_guard (by rfl) ?_; dsimp only)); refine bE 2 #[.int .i64 a0_0, .int .i64 a0_1, .int .i64 a0_2, .int .i64 a0_3, .slice A0_4 l0_4.length c0_4] 29 ?_; intro gb168 hg w4 hbox hb; have BK168 := aM hbox; have GW168 := aM (sZ hg); have GE168 := GW168; replace HB := hS hb; clear hb hbox hg) | ((with_reducible refine gD 3 ?_); (try (refine gate_guard (by rfl) ?_; dsimp only)); refine bE 3 #[.int .i64 a1_0, .int .i64 a1_1, .int .i64 a1_2, .int .i64 a1_3, .slice A1_4 l1_4.length c1_4] 29 ?_; intro gb169 hg w5 hbox hb; have BK169 := aM hbox; have GW169 := aM (sZ hg); have GE169 := GW169; replace HB := hS hb; have NB168_169 := aM (nL BK168 hg); have NB169_168 := aM (nG BK168 hg); replace BK168 := bW BK168 hb; clear hb hbox hg))
 repeat (go_quiet (first | ((with_reducible refine gD 2 ?_); (try (refine gate_guard (by rfl) ?_; dsimp only)); refine bE 2 #[.int .i64 a0_0, .int .i64 a0_1, .int .i64 a0_2, .int .i64 a0_3, .slice A0_4 l0_4.length c0_4] 29 ?_; intro gb168 hg w4 hbox hb; have n0_ := hS hb; have n1_ := aM hbox; have n2_ := aM (sZ hg); have n3_ := aM (sZ hg); clear HB; have HB := n0_; have BK168 := n1_; have GW168 := n2_; have GE168 := n3_; clear n0_ n1_ n2_ n3_; clear hb hbox hg) | ((with_reducible refine gD 3 ?_); (try (refine gate_guard (by rfl) ?_; dsimp only)); refine bE 3 #[.int .i64 a1_0, .int .i64 a1_1, .int .i64 a1_2, .int .i64 a1_3, .slice A1_4 l1_4.length c1_4] 29 ?_; intro gb169 hg w5 hbox hb; have n0_ := bW BK168 hb; have n1_ := hS hb; have n2_ := aM hbox; have n3_ := aM (sZ hg); have n4_ := aM (sZ hg); have n5_ := aM (nL BK168 hg); have n6_ := aM (nG BK168 hg); clear BK168; clear HB; have BK168 := n0_; have HB := n1_; have BK169 := n2_; have GW169 := n3_; have GE169 := n4_; have NB168_169 := n5_; have NB169_168 := n6_; clear n0_ n1_ n2_ n3_ n4_ n5_ n6_; clear hb hbox hg)); go_upto_region 1 with (first | ((with_reducible refine gD 2 ?_); (try (refine gate_guard (by rfl) ?_; dsimp only)); refine bE 2 #[.int .i64 a0_0, .int .i64 a0_1, .int .i64 a0_2, .int .i64 a0_3, .slice A0_4 l0_4.length c0_4] 29 ?_; intro gb168 hg w4 hbox hb; have n0_ := hS hb; have n1_ := aM hbox; have n2_ := aM (sZ hg); have n3_ := aM (sZ hg); clear HB; have HB := n0_; have BK168 := n1_; have GW168 := n2_; have GE168 := n3_; clear n0_ n1_ n2_ n3_; clear hb hbox hg) | ((with_reducible refine gD 3 ?_); (try (refine gate_guard (by rfl) ?_; dsimp only)); refine bE 3 #[.int .i64 a1_0, .int .i64 a1_1, .int .i64 a1_2, .int .i64 a1_3, .slice A1_4 l1_4.length c1_4] 29 ?_; intro gb169 hg w5 hbox hb; have n0_ := bW BK168 hb; have n1_ := hS hb; have n2_ := aM hbox; have n3_ := aM (sZ hg); have n4_ := aM (sZ hg); have n5_ := aM (nL BK168 hg); have n6_ := aM (nG BK168 hg); clear BK168; clear HB; have BK168 := n0_; have HB := n1_; have BK169 := n2_; have GW169 := n3_; have GE169 := n4_; have NB168_169 := n5_; have NB169_168 := n6_; clear n0_ n1_ n2_ n3_ n4_ n5_ n6_; clear hb hbox hg)))
 (try simp only [Act.put, List.setIfInBounds_toArray, List.set_cons_zero, List.set_cons_succ])
 go_cut [40] (fun v40 wc => ∃ (kq : Nat) (x40_2 : Bool), v40 = .bool x40_2 ∧ Aside0 (spec_l14Same.j0 kq x40_2 a0_0 a0_1 a0_2 a0_3 l0_4 a1_0 a1_1 a1_2 a1_3 l1_4 = some r) ∧ Aside0 (kq ≤ k) ∧ Aside0 (wc.heap[gb168]? = some (.cells #[.int .i64 a0_0, .int .i64 a0_1, .int .i64 a0_2, .int .i64 a0_3, (.slice A0_4 l0_4.length c0_4)] 29 (0, 0))) ∧ Aside0 (wc.heap[gb169]? = some (.cells #[.int .i64 a1_0, .int .i64 a1_1, .int .i64 a1_2, .int .i64 a1_3, (.slice A1_4 l1_4.length c1_4)] 29 (0, 0))) ∧ Aside0 (Below w.heap.size w wc))
 case first =>
  revert HC3; refine aoR ?_
  refine ifB (fun c6 => ?_) (fun c6 => ?_)
  · intro H; have c6b0 := beq_iff_eq.mpr c6; have c6b1 := bne_eq_false_iff_eq.mpr c6; clear c6
    (first | rw [c6b0] | (simp only [i64_w, i32_w]; rw [c6b0]) | skip); revert H
    refine ifB (fun c7 => ?_) (fun c7 => ?_)
    · intro H; have c7b0 := beq_iff_eq.mpr c7; have c7b1 := bne_eq_false_iff_eq.mpr c7; clear c7; revert H
      refine ifB (fun c8 => ?_) (fun c8 => ?_)
      · intro H; have c8b0 := beq_iff_eq.mpr c8; have c8b1 := bne_eq_false_iff_eq.mpr c8; clear c8; revert H
        refine ifB (fun c9 => ?_) (fun c9 => ?_)
        · intro H; have c9b0 := beq_iff_eq.mpr c9; have c9b1 := bne_eq_false_iff_eq.mpr c9; clear c9; revert H; refine adR fun H' => ?_; have hnb10 := NB168_169.out; have hnc10 := NB169_168.out; have hz11 := bz5 BK168; have hz12 := bz5 BK169; go_wp2
          repeat (go_quiet (fail); try go_wp2)
          go_meet
          case rel => exact ⟨_, (((l0_4.length : Int) != (l1_4.length : Int))), eQ, H', ⟨lE⟩, ⟨bI BK168.out⟩, ⟨bI BK169.out⟩, ⟨hB⟩⟩
        · intro H; have c9b0 := beq_eq_false_iff_ne.mpr c9; have c9b1 := bne_iff_ne.mpr c9; revert H; refine adR fun H' => ?_; have hnb13 := NB168_169.out; have hnc13 := NB169_168.out; have hz14 := bz5 BK168; have hz15 := bz5 BK169; go_wp2
          repeat (go_quiet (fail); try go_wp2)
          go_meet
          case rel => exact ⟨_, (true), eQ, H', ⟨lE⟩, ⟨bI BK168.out⟩, ⟨bI BK169.out⟩, ⟨hB⟩⟩
      · intro H; have c8b0 := beq_eq_false_iff_ne.mpr c8; have c8b1 := bne_iff_ne.mpr c8; revert H; refine adR fun H' => ?_; have hnb16 := NB168_169.out; have hnc16 := NB169_168.out; have hz17 := bz5 BK168; have hz18 := bz5 BK169; go_wp2
        repeat (go_quiet (fail); try go_wp2)
        go_meet
        case rel => exact ⟨_, (true), eQ, H', ⟨lE⟩, ⟨bI BK168.out⟩, ⟨bI BK169.out⟩, ⟨hB⟩⟩
    · intro H; have c7b0 := beq_eq_false_iff_ne.mpr c7; have c7b1 := bne_iff_ne.mpr c7; revert H; refine adR fun H' => ?_; have hnb19 := NB168_169.out; have hnc19 := NB169_168.out; have hz20 := bz5 BK168; have hz21 := bz5 BK169; go_wp2
      repeat (go_quiet (fail); try go_wp2)
      go_meet
      case rel => exact ⟨_, (true), eQ, H', ⟨lE⟩, ⟨bI BK168.out⟩, ⟨bI BK169.out⟩, ⟨hB⟩⟩
  · intro H; have c6b0 := beq_eq_false_iff_ne.mpr c6; have c6b1 := bne_iff_ne.mpr c6
    (first | rw [c6b0] | (simp only [i64_w, i32_w]; rw [c6b0]) | skip); revert H; refine adR fun H' => ?_; have hnb22 := NB168_169.out; have hnc22 := NB169_168.out; have hz23 := bz5 BK168; have hz24 := bz5 BK169; go_wp2
    repeat (go_quiet (fail); try go_wp2)
    go_meet
    case rel => exact ⟨_, (true), eQ, H', ⟨lE⟩, ⟨bI BK168.out⟩, ⟨bI BK169.out⟩, ⟨hB⟩⟩
 case rest =>
  clear HC3; (try clear c1); (try clear c2); (try clear p2); (try clear c5); (try clear c6); (try clear c6b0); (try clear c6b1); (try clear c7); (try clear c7b0); (try clear c7b1); (try clear c8); (try clear c8b0); (try clear c8b1); (try clear c9); (try clear c9b0); (try clear c9b1); (try clear c10); (try clear c13); (try clear c16); (try clear c19); (try clear c22); (try clear hz11); (try clear hz12); (try clear hz14); (try clear hz15); (try clear hz17); (try clear hz18); (try clear hz20); (try clear hz21); (try clear hz23); (try clear hz24); obtain ⟨kq, x40_2, rfl, HA, HJ2, BK168, BK169, HB⟩ := hcut; rcases kq with _ | kj2
  · exact absurd HA.out (by simp [spec_l14Same.j0])
  revert HA; refine aoR ?_; intro H; simp only [spec_l14Same.j0] at H; revert H
  refine ifB (fun c25 => ?_) (fun c25 => ?_)
  · intro H; subst c25; obtain rfl := Option.some.inj H; go_wp2
    repeat (go_quiet (fail); try go_wp2)
    go_ret; exact ⟨eE, hB⟩
  · intro H; replace c25 := Bool.eq_false_iff.mpr c25; subst c25; revert H; refine adR fun H' => ?_; go_wp2
    repeat (go_quiet (fail); try go_wp2)
    go_loopg [5] kj2 (fun kq v5 w' => ∃ (x5_2 : Int), v5 = .int .i64 x5_2 ∧ Aside0 (spec_l14Same.l0 kq x5_2 a0_0 a0_1 a0_2 a0_3 l0_4 a1_0 a1_1 a1_2 a1_3 l1_4 = some r) ∧ Aside0 (kq ≤ kj2) ∧ Aside0 (w'.heap[gb168]? = some (.cells #[.int .i64 a0_0, .int .i64 a0_1, .int .i64 a0_2, .int .i64 a0_3, (.slice A0_4 l0_4.length c0_4)] 29 (0, 0))) ∧ Aside0 (w'.heap[gb169]? = some (.cells #[.int .i64 a1_0, .int .i64 a1_1, .int .i64 a1_2, .int .i64 a1_3, (.slice A1_4 l1_4.length c1_4)] 29 (0, 0))) ∧ Aside0 (Below w.heap.size w w'))
    case atStart => exact ⟨(0), eQ, H', ⟨Nat.le_refl _⟩, ⟨bI BK168.out⟩, ⟨bI BK169.out⟩, ⟨hB⟩⟩
    case round =>
     clear H'; (try clear c1); (try clear c2); (try clear p2); (try clear c5); (try clear c6); (try clear c6b0); (try clear c6b1); (try clear c7); (try clear c7b0); (try clear c7b1); (try clear c8); (try clear c8b0); (try clear c8b1); (try clear c9); (try clear c9b0); (try clear c9b1); (try clear c10); (try clear c13); (try clear c16); (try clear c19); (try clear c22); (try clear c25); (try clear hz11); (try clear hz12); (try clear hz14); (try clear hz15); (try clear hz17); (try clear hz18); (try clear hz20); (try clear hz21); (try clear hz23); (try clear hz24); obtain ⟨x5_2, rfl, HA, HK2, BK168, BK169, HB⟩ := hrel; rcases gk with _ | k2
     · exact absurd HA.out (by simp [spec_l14Same.l0])
     revert HA; refine aoR ?_; intro H; simp only [spec_l14Same.l0] at H; revert H
     refine ifB (fun c26 => ?_) (fun c26 => ?_)
     · intro H; have c26b0 := decide_eq_true c26; clear c26; revert H; refine ifR fun c27 => ?_; intro H; have c27b0 := decide_eq_true c27; clear c27; revert H; refine ifR fun c28 => ?_; intro H; have c28b0 := decide_eq_true c28; clear c28; revert H
       refine ifB (fun c29 => ?_) (fun c29 => ?_)
       · intro H; have c29b0 := beq_iff_eq.mpr c29; have c29b1 := bne_eq_false_iff_eq.mpr c29; clear c29; revert H; refine adR fun H' => ?_; have hnb30 := NB168_169.out; have hnc30 := NB169_168.out; have hz31 := bz5 BK168; have p170 : 0 ≤ (x5_2 : Int) := bD; have q170 : x5_2 < (l0_4.length : Int) := bD; obtain ⟨ad170, e170, hx170_0⟩ := Kd.at_int HR0_4.out x5_2 p170 q170; cases e170; replace hx170_0 := cB0 HB hx170_0; replace p170 := eq_true p170; replace q170 := eq_true q170; have hz32 := bz5 BK169; have p171 : 0 ≤ (x5_2 : Int) := bD; have q171 : x5_2 < (l1_4.length : Int) := bD; obtain ⟨ad171, e171, hx171_0⟩ := Kd.at_int HR1_4.out x5_2 p171 q171; cases e171; replace hx171_0 := cB0 HB hx171_0; replace p171 := eq_true p171; replace q171 := eq_true q171; go_wp2
         repeat (go_quiet (fail); try go_wp2)
         go_roundg k2
         case measure => have := HJ2.out; have := HK2.out; omega
         case rel => exact ⟨(wrap64 (x5_2 + 1)), eQ, H', ⟨by have := HJ2.out; have := HK2.out; omega⟩, ⟨bI BK168.out⟩, ⟨bI BK169.out⟩, ⟨hB⟩⟩
       · intro H; have c29b0 := beq_eq_false_iff_ne.mpr c29; have c29b1 := bne_iff_ne.mpr c29; obtain rfl := Option.some.inj H; have hnb33 := NB168_169.out; have hnc33 := NB169_168.out; have hz34 := bz5 BK168; have p170 : 0 ≤ (x5_2 : Int) := bD; have q170 : x5_2 < (l0_4.length : Int) := bD; obtain ⟨ad170, e170, hx170_0⟩ := Kd.at_int HR0_4.out x5_2 p170 q170; cases e170; replace hx170_0 := cB0 HB hx170_0; replace p170 := eq_true p170; replace q170 := eq_true q170; have hz35 := bz5 BK169; have p171 : 0 ≤ (x5_2 : Int) := bD; have q171 : x5_2 < (l1_4.length : Int) := bD; obtain ⟨ad171, e171, hx171_0⟩ := Kd.at_int HR1_4.out x5_2 p171 q171; cases e171; replace hx171_0 := cB0 HB hx171_0; replace p171 := eq_true p171; replace q171 := eq_true q171; go_wp2
         repeat (go_quiet (fail); try go_wp2)
         go_ret; exact ⟨eE, hB⟩
     · intro H; have c26b0 := decide_eq_false c26; clear c26; obtain rfl := Option.some.inj H; have hnb36 := NB168_169.out; have hnc36 := NB169_168.out; have hz37 := bz5 BK168; go_wp2
       repeat (go_quiet (fail); try go_wp2)
       go_ret; exact ⟨eE, hB⟩

end Go.Proofs.Ytajnobmnkbkkgaa.PFnExactFromPasses
