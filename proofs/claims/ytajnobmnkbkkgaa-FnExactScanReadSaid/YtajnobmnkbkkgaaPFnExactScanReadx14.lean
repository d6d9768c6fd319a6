/- Walks of functions that the law FnExactScanRead reaches: each call comes to what the Lean function of its name tells. Written by p2.py, a program of this session, by way of the kit's print. -/
import Derived.Test.YtajnobmnkbkkgaaVFnExactScanRead
import Derived.Test.YtajnobmnkbkkgaaPFnExactScanReadx0
import Derived.Test.YtajnobmnkbkkgaaPFnExactScanReadx10
import Derived.Test.YtajnobmnkbkkgaaPFnExactScanReadx12
import Derived.Test.YtajnobmnkbkkgaaPFnExactScanReadx13
namespace Go.Proofs.Ytajnobmnkbkkgaa.PFnExactScanRead
open Go.RowKit Go.Proofs.YtajnobmnkbkkgaaW.PrintWords Go.Proofs.YtajnobmnkbkkgaaW.PrintLast Go.Proofs.YtajnobmnkbkkgaaW.PrintMore
attribute [local go_sem] max2_int min2_int max_two min_two max_three min_three max_four min_four   -- for this text's walks alone
set_option linter.unusedVariables false
set_option linter.unusedSimpArgs false

/-! ### spec_FromPasses: function 35 -/
mutual
def spec_FromPasses.j0 : Nat → Int → Int → List (S29) → Bool → Option (Int × Int × Int × Int × List Int × Bool)
  | 0, _, _, _, _ => none
  | k + 1, x0, x1, x2, x47 => if x47 = true then (some (0, 0, 0, 0, ([] : List Int), false)) else (if 0 < (x2.length : Int) then ((spec_ChannelsOf.f k ((rd_T29 x2 0).f2)).bind fun t368 => (if 0 ≤ (wrap64 ((wrap64 (x0 * x1)) * t368)) then (if (wrap64 ((wrap64 (x0 * x1)) * t368) : Int).toNat ≤ 35184372088832 then (spec_FromPasses.l0 k x0 x1 x2 t368 0 x0 x1 ((rd_T29 x2 0).f2) ((rd_T29 x2 0).f3) (List.replicate (wrap64 ((wrap64 (x0 * x1)) * t368) : Int).toNat 0)) else (none)) else (none))) else (none))
def spec_FromPasses.l0 : Nat → Int → Int → List (S29) → Int → Int → Int → Int → Int → Int → List Int → Option (Int × Int × Int × Int × List Int × Bool)
  | 0, _, _, _, _, _, _, _, _, _, _ => none
  | k + 1, x0, x1, x2, x8, x10, x375000, x375001, x375002, x375003, x375004 => if x10 < 7 then ((spec_PassSize.f k x0 x1 x10).bind fun bt375 => ((spec_PassStep.f x10).bind fun bt377 => (if 0 ≤ x10 then (if x10 < (x2.length : Int) then (if (((rd_T29 x2 x10).f4).length : Int) = (wrap64 ((wrap64 (bt375.1 * bt375.2)) * x8)) then (spec_FromPasses.l1 k x0 x1 x2 x8 x10 bt375.1 bt375.2 bt377.1 bt377.2.1 bt377.2.2.1 bt377.2.2.2 0 x375000 x375001 x375002 x375003 x375004) else (some (0, 0, 0, 0, ([] : List Int), false))) else (none)) else (none)))) else ((spec_PassesOf.f k x375000 x375001 x375002 x375003 x375004).bind fun bt385 => (spec_FromPasses.l2 k x2 bt385.1 bt385.2 0 x375000 x375001 x375002 x375003 x375004))
def spec_FromPasses.l1 : Nat → Int → Int → List (S29) → Int → Int → Int → Int → Int → Int → Int → Int → Int → Int → Int → Int → Int → List Int → Option (Int × Int × Int × Int × List Int × Bool)
  | 0, _, _, _, _, _, _, _, _, _, _, _, _, _, _, _, _, _ => none
  | k + 1, x0, x1, x2, x8, x10, x11, x12, x13, x14, x15, x16, x17, x375000, x375001, x375002, x375003, x375004 => if x17 < (wrap64 ((wrap64 (x11 * x12)) * x8)) then (if x8 = 0 then (none) else (if x11 = 0 then (none) else (if 0 ≤ x10 then (if x10 < (x2.length : Int) then (if 0 ≤ x17 then (if x17 < (((rd_T29 x2 x10).f4).length : Int) then (if 0 ≤ (wrap64 ((wrap64 ((wrap64 ((wrap64 ((wrap64 ((wrap64 (x14 + (wrap64 ((wrap64 (Int.tdiv (wrap64 (Int.tdiv x17 x8)) x11)) * x16)))) * x0)) + x13)) + (wrap64 ((Int.tmod (wrap64 (Int.tdiv x17 x8)) x11) * x15)))) * x8)) + (Int.tmod x17 x8))) then (if (wrap64 ((wrap64 ((wrap64 ((wrap64 ((wrap64 ((wrap64 (x14 + (wrap64 ((wrap64 (Int.tdiv (wrap64 (Int.tdiv x17 x8)) x11)) * x16)))) * x0)) + x13)) + (wrap64 ((Int.tmod (wrap64 (Int.tdiv x17 x8)) x11) * x15)))) * x8)) + (Int.tmod x17 x8))) < (x375004.length : Int) then (spec_FromPasses.l1 k x0 x1 x2 x8 x10 x11 x12 x13 x14 x15 x16 (wrap64 (x17 + 1)) x375000 x375001 x375002 x375003 (x375004.set ((wrap64 ((wrap64 ((wrap64 ((wrap64 ((wrap64 ((wrap64 (x14 + (wrap64 ((wrap64 (Int.tdiv (wrap64 (Int.tdiv x17 x8)) x11)) * x16)))) * x0)) + x13)) + (wrap64 ((Int.tmod (wrap64 (Int.tdiv x17 x8)) x11) * x15)))) * x8)) + (Int.tmod x17 x8))) : Int).toNat (rd ((rd_T29 x2 x10).f4) x17))) else (none)) else (none)) else (none)) else (none)) else (none)) else (none)))) else (spec_FromPasses.l0 k x0 x1 x2 x8 (wrap64 (x10 + 1)) x375000 x375001 x375002 x375003 x375004)
def spec_FromPasses.l2 : Nat → List (S29) → List (S29) → Bool → Int → Int → Int → Int → Int → List Int → Option (Int × Int × Int × Int × List Int × Bool)
  | 0, _, _, _, _, _, _, _, _, _ => none
  | k + 1, x2, x20, x21, x22, x375000, x375001, x375002, x375003, x375004 => if x22 < 7 then (if x21 = true then (if 0 ≤ x22 then (if x22 < (x20.length : Int) then (if x22 < (x2.length : Int) then ((spec_l14Same.f k ((rd_T29 x20 x22).f0) ((rd_T29 x20 x22).f1) ((rd_T29 x20 x22).f2) ((rd_T29 x20 x22).f3) ((rd_T29 x20 x22).f4) ((rd_T29 x2 x22).f0) ((rd_T29 x2 x22).f1) ((rd_T29 x2 x22).f2) ((rd_T29 x2 x22).f3) ((rd_T29 x2 x22).f4)).bind fun t391 => (spec_FromPasses.l2 k x2 x20 t391 (wrap64 (x22 + 1)) x375000 x375001 x375002 x375003 x375004)) else (none)) else (none)) else (none)) else (some (0, 0, 0, 0, ([] : List Int), false))) else (if x21 = true then (some (x375000, x375001, x375002, x375003, x375004, true)) else (some (0, 0, 0, 0, ([] : List Int), false)))
end
def spec_FromPasses.f (k : Nat) (a0 : Int) (a1 : Int) (l2 : List (S29)) : Option (Int × Int × Int × Int × List Int × Bool) := (spec_l12Side.f a0).bind fun t362 => (if t362 = true then ((spec_l12Side.f a1).bind fun t363 => (if t363 = true then (if (l2.length : Int) = 7 then (if 0 < (l2.length : Int) then ((spec_DepthOk.f k ((rd_T29 l2 0).f2) ((rd_T29 l2 0).f3)).bind fun t366 => (spec_FromPasses.j0 k a0 a1 l2 (!t366))) else (none)) else (spec_FromPasses.j0 k a0 a1 l2 true)) else (spec_FromPasses.j0 k a0 a1 l2 true))) else (spec_FromPasses.j0 k a0 a1 l2 true))
def spec_FromPasses.T1 : Bool × List (List Nat × List Nat) := (true, [([], []), ([0], [0]), ([1], [1]), ([2, 1], [2]), ([3], [3]), ([4, 3, 3], [3, 4]), ([5, 3], [3, 5]), ([3, 6], [3, 6]), ([7, 5], [7]), ([8], [8]), ([9, 8], [8, 9]), ([10, 8], [8, 10]), ([8, 11], [8, 11]), ([12, 8], [12]), ([13], [13]), ([14, 13], [13, 14]), ([15, 13], [13, 15]), ([16, 13], [13, 16]), ([13], [13]), ([18, 13], [13, 18]), ([19, 13], [13, 19]), ([20, 13], [13, 20]), ([17, 21, 13, 13], [13, 17, 21]), ([22, 13], [13, 22]), ([13, 23], [13, 23])])
def spec_FromPasses.B1 : List Nat := [0, 1, 3, 7, 15, 31, 63, 127, 255, 511, 1023, 2047, 4095, 8191, 16383, 32767, 65535, 131071, 16383, 278527, 802815, 1851391, 4194303, 8388607, 16777215]
theorem spec_FromPasses.tab1 : rtab .any (opsOf Try.f35 1) = spec_FromPasses.T1 := by kernel_rfl
theorem spec_FromPasses.bits1 : waitsOk spec_FromPasses.T1.2 spec_FromPasses.B1 = true := by kernel_rfl
def spec_FromPasses.T4 : Bool × List (List Nat × List Nat) := (true, [([], []), ([], []), ([], []), ([2], [2]), ([3], [3]), ([4], [4]), ([], []), ([6], [6]), ([7], [7]), ([8], [8]), ([], []), ([], []), ([10, 11], [10, 11]), ([], []), ([12, 13], [12, 13]), ([14, 14], [14]), ([0, 1, 5, 9, 15], [0, 1, 5, 9, 15]), ([], []), ([17, 16, 0, 1, 2, 3, 4, 5, 6, 7, 8, 9, 10, 11, 12, 13, 14, 15, 16, 17], [16, 17])])
def spec_FromPasses.B4 : List Nat := [0, 0, 0, 4, 12, 28, 0, 64, 192, 448, 0, 0, 3072, 0, 15360, 31744, 65535, 0, 262143]
theorem spec_FromPasses.tab4 : rtab .any (opsOf Try.f35 4) = spec_FromPasses.T4 := by kernel_rfl
theorem spec_FromPasses.bits4 : waitsOk spec_FromPasses.T4.2 spec_FromPasses.B4 = true := by kernel_rfl
def spec_FromPasses.T17 : Bool × List (List Nat × List Nat) := (true, [([], []), ([0], [0]), ([], []), ([], []), ([], []), ([3, 4], [3, 4]), ([2, 5], [2, 5]), ([], []), ([6, 7], [6, 7]), ([], []), ([8, 9], [8, 9]), ([], []), ([], []), ([11, 12], [11, 12]), ([10, 13], [10, 13]), ([], []), ([14, 15], [14, 15]), ([], []), ([], []), ([17, 18], [17, 18]), ([16, 19], [16, 19]), ([], []), ([], []), ([21, 22], [21, 22]), ([23], [23]), ([24], [24]), ([], []), ([25, 26], [25, 26]), ([27], [27]), ([1, 20, 0, 1, 2, 3, 4, 5, 6, 7, 8, 9, 10, 11, 12, 13, 14, 15, 16, 17, 18, 19, 20, 21, 22, 23, 24, 25, 26, 27, 28], [1, 20]), ([29, 28, 0, 1, 2, 3, 4, 5, 6, 7, 8, 9, 10, 11, 12, 13, 14, 15, 16, 17, 18, 19, 20, 21, 22, 23, 24, 25, 26, 27, 28], [28, 29])])
def spec_FromPasses.B17 : List Nat := [0, 1, 0, 0, 0, 24, 60, 0, 252, 0, 1020, 0, 0, 6144, 16380, 0, 65532, 0, 0, 393216, 1048572, 0, 0, 6291456, 14680064, 31457280, 0, 132120576, 266338304, 536870911, 1073741823]
theorem spec_FromPasses.tab17 : rtab .any (opsOf Try.f35 17) = spec_FromPasses.T17 := by kernel_rfl
theorem spec_FromPasses.bits17 : waitsOk spec_FromPasses.T17.2 spec_FromPasses.B17 = true := by kernel_rfl
def spec_FromPasses.T22 : Bool × List (List Nat × List Nat) := (true, [([], []), ([], []), ([0, 1], [0, 1]), ([2], [2]), ([], []), ([], []), ([4, 5], [4, 5]), ([6], [6]), ([3, 7], [3, 7]), ([8, 8, 0, 1, 2, 3, 4, 5, 6, 7, 8], [8])])
def spec_FromPasses.B22 : List Nat := [0, 0, 3, 7, 0, 0, 48, 112, 255, 511]
theorem spec_FromPasses.tab22 : rtab .any (opsOf Try.f35 22) = spec_FromPasses.T22 := by kernel_rfl
theorem spec_FromPasses.bits22 : waitsOk spec_FromPasses.T22.2 spec_FromPasses.B22 = true := by kernel_rfl
set_option maxHeartbeats 8000000 in
set_option maxRecDepth 100000 in
theorem spec_FromPasses.calls (k : Nat) (a0 : Int) (a1 : Int) (A2 : Option Addr) (c2 : Nat) (l2 : List (S29)) (r1 : Int) (r2 : Int) (r3 : Int) (r4 : Int) (r5 : List Int) (r6 : Bool) (w : World) (hr2 : Kd.C k29 w A2 l2.length l2) (hc2 : l2.length ≤ c2) (h : spec_FromPasses.f k a0 a1 l2 = some (r1, r2, r3, r4, r5, r6)) :
 Calls Try.prog 35 #[.int .i64 a0, .int .i64 a1, .slice A2 l2.length c2] w fun e w' => ∃ v4_ : Value, e = .returned (.tuple #[.agg #[.int .i64 r1, .int .i64 r2, .int .i64 r3, .int .i64 r4, v4_], .bool r6]) ∧ Kd.R (Kd.int .i64) 3 w' w.heap.size (fun _ => True) v4_ r5 ∧ Below w.heap.size w w' := by
 have hu29 := Try.underlying29; have HR2 := aM hr2; have HC2 := aM hc2; clear hr2 hc2; have HB := aM (Below.refl w.heap.size w); unfold spec_FromPasses.f at h; have H := h; clear h; revert H; refine adR fun HC4 => ?_; go_enter Try.func35, Try.ntmps35
 go_upto_region 1 with (first | ((with_reducible refine gD 6 ?_); (try (refine gate_guard (by rfl) ?_; dsimp only)); refine bE 6 #[.int .i64 0, .int .i64 0, .int .i64 0, .int .i64 0, .slice none 0 0] 29 ?_; intro gb361 hg w5 hbox hb; have BK361 := aM (hbox); have GW361 := aM ((sZ hg : w.heap.size ≤ gb361)); have GE361 := aM ((sZ hg : w.heap.size ≤ gb361)); replace HB := aM (below_step hB hb); clear hb hbox hg))
 (try simp only [Act.put, List.setIfInBounds_toArray, List.set_cons_zero, List.set_cons_succ])
 go_cut [47] (fun v47 wc => ∃ (kq : Nat) (x47_3 : Bool), v47 = .bool x47_3 ∧ Aside0 (spec_FromPasses.j0 kq a0 a1 l2 x47_3 = some (r1, r2, r3, r4, r5, r6)) ∧ Aside0 (kq ≤ k) ∧ Aside0 (wc.heap[gb361]? = some (.cells #[.int .i64 0, .int .i64 0, .int .i64 0, .int .i64 0, (.slice none 0 0)] 29 (0, 0))) ∧ Aside0 (Below w.heap.size w wc))
 case first =>
  revert HC4; refine aoR ?_; refine bdR fun t362 A6 => ?_
  refine ifB (fun c7 => ?_) (fun c7 => ?_)
  · intro H; subst c7; revert H; refine bdR fun t363 A8 => ?_
    refine ifB (fun c9 => ?_) (fun c9 => ?_)
    · intro H; subst c9; revert H
      refine ifB (fun c10 => ?_) (fun c10 => ?_)
      · intro H; have c10b0 := beq_iff_eq.mpr c10; have c10b1 := bne_eq_false_iff_eq.mpr c10; clear c10
        (first | rw [c10b0] | (simp only [i64_w, i32_w]; rw [c10b0]) | skip); revert H; refine ifR fun c11 => ?_; intro H; have c11b0 := decide_eq_true c11; have c11b1 : decide (0 < l2.length) = true := decide_eq_true (by omega); clear c11; revert H; refine bdR fun t366 A12 => ?_; refine adR fun H' => ?_
        try go_wp2
        replace BK361 := aM (blk_drew BK361.out); replace HB := aM (below_drew1 HB.out); have p364 : 0 ≤ (0 : Int) := (by omega); have q364 : 0 < (l2.length : Int) := bD; obtain ⟨ad364, A364_4, c364_4, e364, hx364_0, hx364_1, hx364_2, hx364_3, hx364_4, hl364_4, hi364_4⟩ := at_T29 HR2.out 0 p364 q364; have hw364_4 := hx364_4
        (try rw [show ((0 : Int)).toNat = 0 from rfl] at hw364_4)
        (try rw [show 0 * 5 = 0 from rfl] at hw364_4)
        (try rw [Addr.add_zero'] at hw364_4); have hw364_3 := hx364_3
        (try rw [show ((0 : Int)).toNat = 0 from rfl] at hw364_3)
        (try rw [show 0 * 5 = 0 from rfl] at hw364_3)
        (try rw [Addr.add_zero'] at hw364_3); have hw364_2 := hx364_2
        (try rw [show ((0 : Int)).toNat = 0 from rfl] at hw364_2)
        (try rw [show 0 * 5 = 0 from rfl] at hw364_2)
        (try rw [Addr.add_zero'] at hw364_2); have hw364_1 := hx364_1
        (try rw [show ((0 : Int)).toNat = 0 from rfl] at hw364_1)
        (try rw [show 0 * 5 = 0 from rfl] at hw364_1)
        (try rw [Addr.add_zero'] at hw364_1); have hw364_0 := hx364_0
        (try rw [show ((0 : Int)).toNat = 0 from rfl] at hw364_0)
        (try rw [show 0 * 5 = 0 from rfl] at hw364_0)
        (try rw [Addr.add_zero'] at hw364_0); cases e364; have qi364 : (0 < l2.length) = True := eq_true (by omega)
        (try rw [show ((0 : Int)).toNat = 0 from rfl] at hx364_0)
        (try rw [show 0 * 5 = 0 from rfl] at hx364_0)
        (try rw [Addr.add_zero'] at hx364_0)
        (try rw [show ((0 : Int)).toNat = 0 from rfl] at hx364_1)
        (try rw [show 0 * 5 = 0 from rfl] at hx364_1)
        (try rw [Addr.add_zero'] at hx364_1)
        (try rw [show ((0 : Int)).toNat = 0 from rfl] at hx364_2)
        (try rw [show 0 * 5 = 0 from rfl] at hx364_2)
        (try rw [Addr.add_zero'] at hx364_2)
        (try rw [show ((0 : Int)).toNat = 0 from rfl] at hx364_3)
        (try rw [show 0 * 5 = 0 from rfl] at hx364_3)
        (try rw [Addr.add_zero'] at hx364_3)
        (try rw [show ((0 : Int)).toNat = 0 from rfl] at hx364_4)
        (try rw [show 0 * 5 = 0 from rfl] at hx364_4)
        (try rw [Addr.add_zero'] at hx364_4); replace hx364_0 := (HB.out.cell (World.block_lt_of_cell? w _ hx364_0)).trans hx364_0; replace hx364_1 := (HB.out.cell (World.block_lt_of_cell? w _ hx364_1)).trans hx364_1; replace hx364_2 := (HB.out.cell (World.block_lt_of_cell? w _ hx364_2)).trans hx364_2; replace hx364_3 := (HB.out.cell (World.block_lt_of_cell? w _ hx364_3)).trans hx364_3; replace hx364_4 := (HB.out.cell (World.block_lt_of_cell? w _ hx364_4)).trans hx364_4; have HR364_4 := aM hi364_4; have HC364_4 := aM hl364_4; clear hi364_4 hl364_4; replace p364 := eq_true p364; replace q364 := eq_true q364; have p365 : 0 ≤ (0 : Int) := (by omega); have q365 : 0 < (l2.length : Int) := bD; obtain ⟨ad365, A365_4, c365_4, e365, hx365_0, hx365_1, hx365_2, hx365_3, hx365_4, hl365_4, hi365_4⟩ := at_T29 HR2.out 0 p365 q365; have hw365_4 := hx365_4
        (try rw [show ((0 : Int)).toNat = 0 from rfl] at hw365_4)
        (try rw [show 0 * 5 = 0 from rfl] at hw365_4)
        (try rw [Addr.add_zero'] at hw365_4); have hw365_3 := hx365_3
        (try rw [show ((0 : Int)).toNat = 0 from rfl] at hw365_3)
        (try rw [show 0 * 5 = 0 from rfl] at hw365_3)
        (try rw [Addr.add_zero'] at hw365_3); have hw365_2 := hx365_2
        (try rw [show ((0 : Int)).toNat = 0 from rfl] at hw365_2)
        (try rw [show 0 * 5 = 0 from rfl] at hw365_2)
        (try rw [Addr.add_zero'] at hw365_2); have hw365_1 := hx365_1
        (try rw [show ((0 : Int)).toNat = 0 from rfl] at hw365_1)
        (try rw [show 0 * 5 = 0 from rfl] at hw365_1)
        (try rw [Addr.add_zero'] at hw365_1); have hw365_0 := hx365_0
        (try rw [show ((0 : Int)).toNat = 0 from rfl] at hw365_0)
        (try rw [show 0 * 5 = 0 from rfl] at hw365_0)
        (try rw [Addr.add_zero'] at hw365_0); obtain rfl : ad364 = ad365 := (by injection e365); have qi365 : (0 < l2.length) = True := eq_true (by omega)
        (try rw [show ((0 : Int)).toNat = 0 from rfl] at hx365_0)
        (try rw [show 0 * 5 = 0 from rfl] at hx365_0)
        (try rw [Addr.add_zero'] at hx365_0)
        (try rw [show ((0 : Int)).toNat = 0 from rfl] at hx365_1)
        (try rw [show 0 * 5 = 0 from rfl] at hx365_1)
        (try rw [Addr.add_zero'] at hx365_1)
        (try rw [show ((0 : Int)).toNat = 0 from rfl] at hx365_2)
        (try rw [show 0 * 5 = 0 from rfl] at hx365_2)
        (try rw [Addr.add_zero'] at hx365_2)
        (try rw [show ((0 : Int)).toNat = 0 from rfl] at hx365_3)
        (try rw [show 0 * 5 = 0 from rfl] at hx365_3)
        (try rw [Addr.add_zero'] at hx365_3)
        (try rw [show ((0 : Int)).toNat = 0 from rfl] at hx365_4)
        (try rw [show 0 * 5 = 0 from rfl] at hx365_4)
        (try rw [Addr.add_zero'] at hx365_4); replace hx365_0 := (HB.out.cell (World.block_lt_of_cell? w _ hx365_0)).trans hx365_0; replace hx365_1 := (HB.out.cell (World.block_lt_of_cell? w _ hx365_1)).trans hx365_1; replace hx365_2 := (HB.out.cell (World.block_lt_of_cell? w _ hx365_2)).trans hx365_2; replace hx365_3 := (HB.out.cell (World.block_lt_of_cell? w _ hx365_3)).trans hx365_3; replace hx365_4 := (HB.out.cell (World.block_lt_of_cell? w _ hx365_4)).trans hx365_4; have HR365_4 := aM hi365_4; have HC365_4 := aM hl365_4; clear hi365_4 hl365_4; replace p365 := eq_true p365; replace q365 := eq_true q365; have ea_ := Option.some.inj (hx364_4.symm.trans hx365_4)
        injection ea_ with ea_ en_ ec_; subst ea_; subst ec_; clear en_
        refine start_ (n := 25) (S := fun w' => w'.cell? ad364 = some (.int .i64 ((rd_T29 l2 0).f0)) ∧ w'.cell? ⟨ad364.block, ad364.off + 1, none⟩ = some (.int .i64 ((rd_T29 l2 0).f1)) ∧ w'.cell? ⟨ad364.block, ad364.off + 2, none⟩ = some (.int .i64 ((rd_T29 l2 0).f2)) ∧ w'.cell? ⟨ad364.block, ad364.off + 3, none⟩ = some (.int .i64 ((rd_T29 l2 0).f3)) ∧ w'.cell? ⟨ad364.block, ad364.off + 4, none⟩ = some (.slice A364_4 ((rd_T29 l2 0).f4).length c364_4) ∧ w'.cell? ad364 = some (.int .i64 ((rd_T29 l2 0).f0)) ∧ w'.cell? ⟨ad364.block, ad364.off + 1, none⟩ = some (.int .i64 ((rd_T29 l2 0).f1)) ∧ w'.cell? ⟨ad364.block, ad364.off + 2, none⟩ = some (.int .i64 ((rd_T29 l2 0).f2)) ∧ w'.cell? ⟨ad364.block, ad364.off + 3, none⟩ = some (.int .i64 ((rd_T29 l2 0).f3)) ∧ w'.cell? ⟨ad364.block, ad364.off + 4, none⟩ = some (.slice A364_4 ((rd_T29 l2 0).f4).length c364_4)) (ds := []) #[false, false, false, false, false, false, false, false, false, false, false, false, false, false, false, false, false, false, false, false, false, false, false, false, false] (by kernel_rfl) rfl rfl ⟨((HB.out.cell (World.block_lt_of_cell? w _ hw364_0)).trans hw364_0), ((HB.out.cell (World.block_lt_of_cell? w _ hw364_1)).trans hw364_1), ((HB.out.cell (World.block_lt_of_cell? w _ hw364_2)).trans hw364_2), ((HB.out.cell (World.block_lt_of_cell? w _ hw364_3)).trans hw364_3), ((HB.out.cell (World.block_lt_of_cell? w _ hw364_4)).trans hw364_4), ((HB.out.cell (World.block_lt_of_cell? w _ hw365_0)).trans hw365_0), ((HB.out.cell (World.block_lt_of_cell? w _ hw365_1)).trans hw365_1), ((HB.out.cell (World.block_lt_of_cell? w _ hw365_2)).trans hw365_2), ((HB.out.cell (World.block_lt_of_cell? w _ hw365_3)).trans hw365_3), ((HB.out.cell (World.block_lt_of_cell? w _ hw365_4)).trans hw365_4)⟩ (fun hHeld => ?_); refine with_tabW spec_FromPasses.tab1 spec_FromPasses.bits1 (fun HT_ HW_ => ?_)
        generalize w5.drew = w13 at BK361 HB HR364_4 HR365_4 hx364_0 hx364_1 hx364_2 hx364_3 hx364_4 hx365_0 hx365_1 hx365_2 hx365_3 hx365_4 hHeld ⊢; refine pU 0 23 (bAr 25 1) ?_
        refine one_ (i := 1) (N := some 24) #[true, true, false, false, false, false, false, false, false, false, false, false, false, false, false, false, false, false, false, false, false, false, false, false, false] rfl rfl (one_of HT_.out (by kernel_rfl)) (by decide) (fun K hK => ?_)
        refine goes_ Try.func77 (by kernel_rfl) rfl #[.int .i64 a0] (by rfl) rfl rfl (by (try simp only [List.map_toArray, List.map_cons, List.map_nil]); first | done | rfl | (simp only [List.length_drop, List.length_take]; rfl)) ?_
        with_reducible refine (spec_l12Side.calls a0 true _ A6.out).mono ?_
        rintro e w' ⟨rfl, ⟨nd, rfl⟩⟩
        refine ⟨_, rfl, ?_⟩
        refine hK.out _ _ ⟨((HB.out.cell (World.block_lt_of_cell? w _ hw364_0)).trans hw364_0), ((HB.out.cell (World.block_lt_of_cell? w _ hw364_1)).trans hw364_1), ((HB.out.cell (World.block_lt_of_cell? w _ hw364_2)).trans hw364_2), ((HB.out.cell (World.block_lt_of_cell? w _ hw364_3)).trans hw364_3), ((HB.out.cell (World.block_lt_of_cell? w _ hw364_4)).trans hw364_4), ((HB.out.cell (World.block_lt_of_cell? w _ hw365_0)).trans hw365_0), ((HB.out.cell (World.block_lt_of_cell? w _ hw365_1)).trans hw365_1), ((HB.out.cell (World.block_lt_of_cell? w _ hw365_2)).trans hw365_2), ((HB.out.cell (World.block_lt_of_cell? w _ hw365_3)).trans hw365_3), ((HB.out.cell (World.block_lt_of_cell? w _ hw365_4)).trans hw365_4)⟩ (fun hHeld => ?_); clear hK K
        refine norm_ (a' := ?_) ?_ ?_; rotate_left
        · show Act.put _ (some 24) _ = _
          simp only [Act.put, List.setIfInBounds_toArray, List.set_cons_zero, List.set_cons_succ, i64_w, i32_w]
          rfl
        refine pU 2 25 (bAr 25 7) ?_; refine pU 3 26 (bAr 25 15) ?_; refine pU 4 27 (bAr 25 31) ?_
        refine one_ (i := 5) (N := some 28) #[true, true, true, true, true, true, false, false, false, false, false, false, false, false, false, false, false, false, false, false, false, false, false, false, false] rfl rfl (one_of HT_.out (by kernel_rfl)) (by decide) (fun K hK => ?_)
        refine goes_ Try.func77 (by kernel_rfl) rfl #[.int .i64 a1] (by rfl) rfl rfl (by (try simp only [List.map_toArray, List.map_cons, List.map_nil]); first | done | rfl | (simp only [List.length_drop, List.length_take]; rfl)) ?_
        with_reducible refine (spec_l12Side.calls a1 true _ A8.out).mono ?_
        rintro e w' ⟨rfl, ⟨nd, rfl⟩⟩
        refine ⟨_, rfl, ?_⟩
        refine hK.out _ _ ⟨((HB.out.cell (World.block_lt_of_cell? w _ hw364_0)).trans hw364_0), ((HB.out.cell (World.block_lt_of_cell? w _ hw364_1)).trans hw364_1), ((HB.out.cell (World.block_lt_of_cell? w _ hw364_2)).trans hw364_2), ((HB.out.cell (World.block_lt_of_cell? w _ hw364_3)).trans hw364_3), ((HB.out.cell (World.block_lt_of_cell? w _ hw364_4)).trans hw364_4), ((HB.out.cell (World.block_lt_of_cell? w _ hw365_0)).trans hw365_0), ((HB.out.cell (World.block_lt_of_cell? w _ hw365_1)).trans hw365_1), ((HB.out.cell (World.block_lt_of_cell? w _ hw365_2)).trans hw365_2), ((HB.out.cell (World.block_lt_of_cell? w _ hw365_3)).trans hw365_3), ((HB.out.cell (World.block_lt_of_cell? w _ hw365_4)).trans hw365_4)⟩ (fun hHeld => ?_); clear hK K
        refine norm_ (a' := ?_) ?_ ?_; rotate_left
        · show Act.put _ (some 28) _ = _
          simp only [Act.put, List.setIfInBounds_toArray, List.set_cons_zero, List.set_cons_succ, i64_w, i32_w]
          rfl
        refine pU 6 29 (bAr 25 127) ?_; refine pU 7 30 (bAr 25 255) ?_; refine pU 8 31 (bAr 25 511) ?_; refine pU 9 32 (bAr 25 1023) ?_; refine pU 10 33 (bAr 25 2047) ?_; refine pU 11 34 (bAr 25 4095) ?_; refine pU 12 35 (bAr 25 8191) ?_; refine pU 13 36 (bAr 25 16383) ?_; refine pU 14 37 (bAr 25 32767) ?_; refine pU 15 38 (bAr 25 65535) ?_; refine pU 16 39 (bAr 25 131071) ?_; refine pU 18 41 (bAr 25 393215) ?_; refine pU 19 42 (bAr 25 917503) ?_; refine pU 20 43 (bAr 25 1966079) ?_
        refine take_ (i := 17) (N := some 40) (v := ?_) (a' := ?_) #[true, true, true, true, true, true, true, true, true, true, true, true, true, true, true, true, true, true, true, true, true, false, false, false, false] rfl rfl (take_ofW HT_.out HW_.out (by kernel_rfl)) (fun _ _ _ h => h) (Or.inl ⟨by rfl, ?_⟩) hHeld ?_ ?_; rotate_left
        · rintro w' ⟨s0, s1, s2, s3, s4, s5, s6, s7, s8, s9⟩
          go_simp; with_reducible rfl
        rotate_left
        · simp only [Act.put, List.setIfInBounds_toArray, List.set_cons_zero, List.set_cons_succ, i64_w, i32_w]
          rfl
        refine take_ (i := 21) (N := some 44) (v := ?_) (a' := ?_) #[true, true, true, true, true, true, true, true, true, true, true, true, true, true, true, true, true, true, true, true, true, true, false, false, false] rfl rfl (take_ofW HT_.out HW_.out (by kernel_rfl)) (fun _ _ _ h => h) (Or.inl ⟨by rfl, ?_⟩) hHeld ?_ ?_; rotate_left
        · rintro w' ⟨s0, s1, s2, s3, s4, s5, s6, s7, s8, s9⟩
          go_simp; with_reducible rfl
        rotate_left
        · simp only [Act.put, List.setIfInBounds_toArray, List.set_cons_zero, List.set_cons_succ, i64_w, i32_w]
          rfl
        refine one_ (i := 22) (N := some 45) #[true, true, true, true, true, true, true, true, true, true, true, true, true, true, true, true, true, true, true, true, true, true, true, false, false] rfl rfl (one_of HT_.out (by kernel_rfl)) (by decide) (fun K hK => ?_)
        refine goes_ Try.func78 (by kernel_rfl) rfl #[.int .i64 ((rd_T29 l2 0).f2), .int .i64 ((rd_T29 l2 0).f3)] (by rfl) rfl rfl (by (try simp only [List.map_toArray, List.map_cons, List.map_nil]); first | done | rfl | (simp only [List.length_drop, List.length_take]; rfl)) ?_
        with_reducible refine (spec_DepthOk.calls k ((rd_T29 l2 0).f2) ((rd_T29 l2 0).f3) t366 _ A12.out).mono ?_
        rintro e w' ⟨rfl, ⟨nd, rfl⟩⟩
        refine ⟨_, rfl, ?_⟩
        refine hK.out _ _ ⟨((HB.out.cell (World.block_lt_of_cell? w _ hw364_0)).trans hw364_0), ((HB.out.cell (World.block_lt_of_cell? w _ hw364_1)).trans hw364_1), ((HB.out.cell (World.block_lt_of_cell? w _ hw364_2)).trans hw364_2), ((HB.out.cell (World.block_lt_of_cell? w _ hw364_3)).trans hw364_3), ((HB.out.cell (World.block_lt_of_cell? w _ hw364_4)).trans hw364_4), ((HB.out.cell (World.block_lt_of_cell? w _ hw365_0)).trans hw365_0), ((HB.out.cell (World.block_lt_of_cell? w _ hw365_1)).trans hw365_1), ((HB.out.cell (World.block_lt_of_cell? w _ hw365_2)).trans hw365_2), ((HB.out.cell (World.block_lt_of_cell? w _ hw365_3)).trans hw365_3), ((HB.out.cell (World.block_lt_of_cell? w _ hw365_4)).trans hw365_4)⟩ (fun hHeld => ?_); clear hK K
        refine norm_ (a' := ?_) ?_ ?_; rotate_left
        · show Act.put _ (some 45) _ = _
          simp only [Act.put, List.setIfInBounds_toArray, List.set_cons_zero, List.set_cons_succ, i64_w, i32_w]
          rfl
        refine pU 23 46 (bAr 25 16777215) ?_; refine pU 24 47 (bAr 25 33554431) ?_
        refine done_ (done_of HT_.out (by kernel_rfl)) ?_
        try go_wp2
        go_meet
        case rel => exact ⟨_, (!t366), eQ, H', ⟨lE⟩, ⟨bI BK361.out⟩, ⟨hB⟩⟩
      · intro H; have c10b0 := beq_eq_false_iff_ne.mpr c10; have c10b1 := bne_iff_ne.mpr c10
        (first | rw [c10b0] | (simp only [i64_w, i32_w]; rw [c10b0]) | skip); revert H; refine adR fun H' => ?_
        try go_wp2
        replace BK361 := aM (blk_drew BK361.out); replace HB := aM (below_drew1 HB.out)
        refine start_ (n := 25) (S := fun w' => True) (ds := []) #[false, false, false, false, false, false, false, false, false, false, false, false, false, false, false, false, false, false, false, false, false, false, false, false, false] (by kernel_rfl) rfl rfl trivial (fun hHeld => ?_); refine with_tabW spec_FromPasses.tab1 spec_FromPasses.bits1 (fun HT_ HW_ => ?_)
        generalize w5.drew = w14 at BK361 HB hHeld ⊢; refine pU 0 23 (bAr 25 1) ?_
        refine one_ (i := 1) (N := some 24) #[true, true, false, false, false, false, false, false, false, false, false, false, false, false, false, false, false, false, false, false, false, false, false, false, false] rfl rfl (one_of HT_.out (by kernel_rfl)) (by decide) (fun K hK => ?_)
        refine goes_ Try.func77 (by kernel_rfl) rfl #[.int .i64 a0] (by rfl) rfl rfl (by (try simp only [List.map_toArray, List.map_cons, List.map_nil]); first | done | rfl | (simp only [List.length_drop, List.length_take]; rfl)) ?_
        with_reducible refine (spec_l12Side.calls a0 true _ A6.out).mono ?_
        rintro e w' ⟨rfl, ⟨nd, rfl⟩⟩
        refine ⟨_, rfl, ?_⟩
        refine hK.out _ _ trivial (fun hHeld => ?_); clear hK K
        refine norm_ (a' := ?_) ?_ ?_; rotate_left
        · show Act.put _ (some 24) _ = _
          simp only [Act.put, List.setIfInBounds_toArray, List.set_cons_zero, List.set_cons_succ, i64_w, i32_w]
          rfl
        refine pU 2 25 (bAr 25 7) ?_; refine pU 3 26 (bAr 25 15) ?_; refine pU 4 27 (bAr 25 31) ?_
        refine one_ (i := 5) (N := some 28) #[true, true, true, true, true, true, false, false, false, false, false, false, false, false, false, false, false, false, false, false, false, false, false, false, false] rfl rfl (one_of HT_.out (by kernel_rfl)) (by decide) (fun K hK => ?_)
        refine goes_ Try.func77 (by kernel_rfl) rfl #[.int .i64 a1] (by rfl) rfl rfl (by (try simp only [List.map_toArray, List.map_cons, List.map_nil]); first | done | rfl | (simp only [List.length_drop, List.length_take]; rfl)) ?_
        with_reducible refine (spec_l12Side.calls a1 true _ A8.out).mono ?_
        rintro e w' ⟨rfl, ⟨nd, rfl⟩⟩
        refine ⟨_, rfl, ?_⟩
        refine hK.out _ _ trivial (fun hHeld => ?_); clear hK K
        refine norm_ (a' := ?_) ?_ ?_; rotate_left
        · show Act.put _ (some 28) _ = _
          simp only [Act.put, List.setIfInBounds_toArray, List.set_cons_zero, List.set_cons_succ, i64_w, i32_w]
          rfl
        refine pU 6 29 (bAr 25 127) ?_; refine pU 7 30 (bAr 25 255) ?_; refine pU 8 31 (bAr 25 511) ?_; refine pU 9 32 (bAr 25 1023) ?_; refine pU 10 33 (bAr 25 2047) ?_; refine pU 11 34 (bAr 25 4095) ?_; refine pU 12 35 (bAr 25 8191) ?_; refine pU 13 36 (bAr 25 16383) ?_
        refine pure_ (i := 14) (N := some 37) (v := undef) (a' := ?_) #[true, true, true, true, true, true, true, true, true, true, true, true, true, true, true, false, false, false, false, false, false, false, false, false, false] rfl rfl (any_of HT_.out (by kernel_rfl)) (fun _ _ _ h => h) (Or.inr ⟨by rfl, rfl⟩) ?_ ?_; rotate_left
        · simp only [Act.put, List.setIfInBounds_toArray, List.set_cons_zero, List.set_cons_succ, i64_w, i32_w]
          rfl
        refine pure_ (i := 15) (N := some 38) (v := undef) (a' := ?_) #[true, true, true, true, true, true, true, true, true, true, true, true, true, true, true, true, false, false, false, false, false, false, false, false, false] rfl rfl (any_of HT_.out (by kernel_rfl)) (fun _ _ _ h => h) (Or.inr ⟨by rfl, rfl⟩) ?_ ?_; rotate_left
        · simp only [Act.put, List.setIfInBounds_toArray, List.set_cons_zero, List.set_cons_succ, i64_w, i32_w]
          rfl
        refine pure_ (i := 16) (N := some 39) (v := undef) (a' := ?_) #[true, true, true, true, true, true, true, true, true, true, true, true, true, true, true, true, true, false, false, false, false, false, false, false, false] rfl rfl (any_of HT_.out (by kernel_rfl)) (fun _ _ _ h => h) (Or.inr ⟨by rfl, rfl⟩) ?_ ?_; rotate_left
        · simp only [Act.put, List.setIfInBounds_toArray, List.set_cons_zero, List.set_cons_succ, i64_w, i32_w]
          rfl
        refine pure_ (i := 17) (N := some 40) (v := undef) (a' := ?_) #[true, true, true, true, true, true, true, true, true, true, true, true, true, true, true, true, true, true, false, false, false, false, false, false, false] rfl rfl (any_of HT_.out (by kernel_rfl)) (fun _ _ _ h => h) (Or.inr ⟨by rfl, rfl⟩) ?_ ?_; rotate_left
        · simp only [Act.put, List.setIfInBounds_toArray, List.set_cons_zero, List.set_cons_succ, i64_w, i32_w]
          rfl
        refine pure_ (i := 18) (N := some 41) (v := undef) (a' := ?_) #[true, true, true, true, true, true, true, true, true, true, true, true, true, true, true, true, true, true, true, false, false, false, false, false, false] rfl rfl (any_of HT_.out (by kernel_rfl)) (fun _ _ _ h => h) (Or.inr ⟨by rfl, rfl⟩) ?_ ?_; rotate_left
        · simp only [Act.put, List.setIfInBounds_toArray, List.set_cons_zero, List.set_cons_succ, i64_w, i32_w]
          rfl
        refine pure_ (i := 19) (N := some 42) (v := undef) (a' := ?_) #[true, true, true, true, true, true, true, true, true, true, true, true, true, true, true, true, true, true, true, true, false, false, false, false, false] rfl rfl (any_of HT_.out (by kernel_rfl)) (fun _ _ _ h => h) (Or.inr ⟨by rfl, rfl⟩) ?_ ?_; rotate_left
        · simp only [Act.put, List.setIfInBounds_toArray, List.set_cons_zero, List.set_cons_succ, i64_w, i32_w]
          rfl
        refine pure_ (i := 20) (N := some 43) (v := undef) (a' := ?_) #[true, true, true, true, true, true, true, true, true, true, true, true, true, true, true, true, true, true, true, true, true, false, false, false, false] rfl rfl (any_of HT_.out (by kernel_rfl)) (fun _ _ _ h => h) (Or.inr ⟨by rfl, rfl⟩) ?_ ?_; rotate_left
        · simp only [Act.put, List.setIfInBounds_toArray, List.set_cons_zero, List.set_cons_succ, i64_w, i32_w]
          rfl
        refine pure_ (i := 21) (N := some 44) (v := undef) (a' := ?_) #[true, true, true, true, true, true, true, true, true, true, true, true, true, true, true, true, true, true, true, true, true, true, false, false, false] rfl rfl (any_of HT_.out (by kernel_rfl)) (fun _ _ _ h => h) (Or.inr ⟨by rfl, rfl⟩) ?_ ?_; rotate_left
        · simp only [Act.put, List.setIfInBounds_toArray, List.set_cons_zero, List.set_cons_succ, i64_w, i32_w]
          rfl
        refine pure_ (i := 22) (N := some 45) (v := undef) (a' := ?_) #[true, true, true, true, true, true, true, true, true, true, true, true, true, true, true, true, true, true, true, true, true, true, true, false, false] rfl rfl (any_of HT_.out (by kernel_rfl)) (fun _ _ _ h => h) (Or.inr ⟨by rfl, rfl⟩) ?_ ?_; rotate_left
        · simp only [Act.put, List.setIfInBounds_toArray, List.set_cons_zero, List.set_cons_succ, i64_w, i32_w]
          rfl
        refine pure_ (i := 23) (N := some 46) (v := undef) (a' := ?_) #[true, true, true, true, true, true, true, true, true, true, true, true, true, true, true, true, true, true, true, true, true, true, true, true, false] rfl rfl (any_of HT_.out (by kernel_rfl)) (fun _ _ _ h => h) (Or.inr ⟨by rfl, rfl⟩) ?_ ?_; rotate_left
        · simp only [Act.put, List.setIfInBounds_toArray, List.set_cons_zero, List.set_cons_succ, i64_w, i32_w]
          rfl
        refine pU 24 47 (bAr 25 33554431) ?_
        refine done_ (done_of HT_.out (by kernel_rfl)) ?_
        try go_wp2
        go_meet
        case rel => exact ⟨_, (true), eQ, H', ⟨lE⟩, ⟨bI BK361.out⟩, ⟨hB⟩⟩
    · intro H; replace c9 := Bool.eq_false_iff.mpr c9; subst c9; revert H; refine adR fun H' => ?_
      try go_wp2
      replace BK361 := aM (blk_drew BK361.out); replace HB := aM (below_drew1 HB.out)
      refine start_ (n := 25) (S := fun w' => True) (ds := []) #[false, false, false, false, false, false, false, false, false, false, false, false, false, false, false, false, false, false, false, false, false, false, false, false, false] (by kernel_rfl) rfl rfl trivial (fun hHeld => ?_); refine with_tabW spec_FromPasses.tab1 spec_FromPasses.bits1 (fun HT_ HW_ => ?_)
      generalize w5.drew = w15 at BK361 HB hHeld ⊢; refine pU 0 23 (bAr 25 1) ?_
      refine one_ (i := 1) (N := some 24) #[true, true, false, false, false, false, false, false, false, false, false, false, false, false, false, false, false, false, false, false, false, false, false, false, false] rfl rfl (one_of HT_.out (by kernel_rfl)) (by decide) (fun K hK => ?_)
      refine goes_ Try.func77 (by kernel_rfl) rfl #[.int .i64 a0] (by rfl) rfl rfl (by (try simp only [List.map_toArray, List.map_cons, List.map_nil]); first | done | rfl | (simp only [List.length_drop, List.length_take]; rfl)) ?_
      with_reducible refine (spec_l12Side.calls a0 true _ A6.out).mono ?_
      rintro e w' ⟨rfl, ⟨nd, rfl⟩⟩
      refine ⟨_, rfl, ?_⟩
      refine hK.out _ _ trivial (fun hHeld => ?_); clear hK K
      refine norm_ (a' := ?_) ?_ ?_; rotate_left
      · show Act.put _ (some 24) _ = _
        simp only [Act.put, List.setIfInBounds_toArray, List.set_cons_zero, List.set_cons_succ, i64_w, i32_w]
        rfl
      refine pU 2 25 (bAr 25 7) ?_; refine pU 3 26 (bAr 25 15) ?_; refine pU 4 27 (bAr 25 31) ?_
      refine one_ (i := 5) (N := some 28) #[true, true, true, true, true, true, false, false, false, false, false, false, false, false, false, false, false, false, false, false, false, false, false, false, false] rfl rfl (one_of HT_.out (by kernel_rfl)) (by decide) (fun K hK => ?_)
      refine goes_ Try.func77 (by kernel_rfl) rfl #[.int .i64 a1] (by rfl) rfl rfl (by (try simp only [List.map_toArray, List.map_cons, List.map_nil]); first | done | rfl | (simp only [List.length_drop, List.length_take]; rfl)) ?_
      with_reducible refine (spec_l12Side.calls a1 false _ A8.out).mono ?_
      rintro e w' ⟨rfl, ⟨nd, rfl⟩⟩
      refine ⟨_, rfl, ?_⟩
      refine hK.out _ _ trivial (fun hHeld => ?_); clear hK K
      refine norm_ (a' := ?_) ?_ ?_; rotate_left
      · show Act.put _ (some 28) _ = _
        simp only [Act.put, List.setIfInBounds_toArray, List.set_cons_zero, List.set_cons_succ, i64_w, i32_w]
        rfl
      refine pU 6 29 (bAr 25 127) ?_; refine pU 7 30 (bAr 25 255) ?_; refine pU 8 31 (bAr 25 511) ?_
      refine pure_ (i := 9) (N := some 32) (v := undef) (a' := ?_) #[true, true, true, true, true, true, true, true, true, true, false, false, false, false, false, false, false, false, false, false, false, false, false, false, false] rfl rfl (any_of HT_.out (by kernel_rfl)) (fun _ _ _ h => h) (Or.inr ⟨by rfl, rfl⟩) ?_ ?_; rotate_left
      · simp only [Act.put, List.setIfInBounds_toArray, List.set_cons_zero, List.set_cons_succ, i64_w, i32_w]
        rfl
      refine pure_ (i := 10) (N := some 33) (v := undef) (a' := ?_) #[true, true, true, true, true, true, true, true, true, true, true, false, false, false, false, false, false, false, false, false, false, false, false, false, false] rfl rfl (any_of HT_.out (by kernel_rfl)) (fun _ _ _ h => h) (Or.inr ⟨by rfl, rfl⟩) ?_ ?_; rotate_left
      · simp only [Act.put, List.setIfInBounds_toArray, List.set_cons_zero, List.set_cons_succ, i64_w, i32_w]
        rfl
      refine pure_ (i := 11) (N := some 34) (v := undef) (a' := ?_) #[true, true, true, true, true, true, true, true, true, true, true, true, false, false, false, false, false, false, false, false, false, false, false, false, false] rfl rfl (any_of HT_.out (by kernel_rfl)) (fun _ _ _ h => h) (Or.inr ⟨by rfl, rfl⟩) ?_ ?_; rotate_left
      · simp only [Act.put, List.setIfInBounds_toArray, List.set_cons_zero, List.set_cons_succ, i64_w, i32_w]
        rfl
      refine pU 12 35 (bAr 25 8191) ?_; refine pU 13 36 (bAr 25 16383) ?_
      refine pure_ (i := 14) (N := some 37) (v := undef) (a' := ?_) #[true, true, true, true, true, true, true, true, true, true, true, true, true, true, true, false, false, false, false, false, false, false, false, false, false] rfl rfl (any_of HT_.out (by kernel_rfl)) (fun _ _ _ h => h) (Or.inr ⟨by rfl, rfl⟩) ?_ ?_; rotate_left
      · simp only [Act.put, List.setIfInBounds_toArray, List.set_cons_zero, List.set_cons_succ, i64_w, i32_w]
        rfl
      refine pure_ (i := 15) (N := some 38) (v := undef) (a' := ?_) #[true, true, true, true, true, true, true, true, true, true, true, true, true, true, true, true, false, false, false, false, false, false, false, false, false] rfl rfl (any_of HT_.out (by kernel_rfl)) (fun _ _ _ h => h) (Or.inr ⟨by rfl, rfl⟩) ?_ ?_; rotate_left
      · simp only [Act.put, List.setIfInBounds_toArray, List.set_cons_zero, List.set_cons_succ, i64_w, i32_w]
        rfl
      refine pure_ (i := 16) (N := some 39) (v := undef) (a' := ?_) #[true, true, true, true, true, true, true, true, true, true, true, true, true, true, true, true, true, false, false, false, false, false, false, false, false] rfl rfl (any_of HT_.out (by kernel_rfl)) (fun _ _ _ h => h) (Or.inr ⟨by rfl, rfl⟩) ?_ ?_; rotate_left
      · simp only [Act.put, List.setIfInBounds_toArray, List.set_cons_zero, List.set_cons_succ, i64_w, i32_w]
        rfl
      refine pure_ (i := 17) (N := some 40) (v := undef) (a' := ?_) #[true, true, true, true, true, true, true, true, true, true, true, true, true, true, true, true, true, true, false, false, false, false, false, false, false] rfl rfl (any_of HT_.out (by kernel_rfl)) (fun _ _ _ h => h) (Or.inr ⟨by rfl, rfl⟩) ?_ ?_; rotate_left
      · simp only [Act.put, List.setIfInBounds_toArray, List.set_cons_zero, List.set_cons_succ, i64_w, i32_w]
        rfl
      refine pure_ (i := 18) (N := some 41) (v := undef) (a' := ?_) #[true, true, true, true, true, true, true, true, true, true, true, true, true, true, true, true, true, true, true, false, false, false, false, false, false] rfl rfl (any_of HT_.out (by kernel_rfl)) (fun _ _ _ h => h) (Or.inr ⟨by rfl, rfl⟩) ?_ ?_; rotate_left
      · simp only [Act.put, List.setIfInBounds_toArray, List.set_cons_zero, List.set_cons_succ, i64_w, i32_w]
        rfl
      refine pure_ (i := 19) (N := some 42) (v := undef) (a' := ?_) #[true, true, true, true, true, true, true, true, true, true, true, true, true, true, true, true, true, true, true, true, false, false, false, false, false] rfl rfl (any_of HT_.out (by kernel_rfl)) (fun _ _ _ h => h) (Or.inr ⟨by rfl, rfl⟩) ?_ ?_; rotate_left
      · simp only [Act.put, List.setIfInBounds_toArray, List.set_cons_zero, List.set_cons_succ, i64_w, i32_w]
        rfl
      refine pure_ (i := 20) (N := some 43) (v := undef) (a' := ?_) #[true, true, true, true, true, true, true, true, true, true, true, true, true, true, true, true, true, true, true, true, true, false, false, false, false] rfl rfl (any_of HT_.out (by kernel_rfl)) (fun _ _ _ h => h) (Or.inr ⟨by rfl, rfl⟩) ?_ ?_; rotate_left
      · simp only [Act.put, List.setIfInBounds_toArray, List.set_cons_zero, List.set_cons_succ, i64_w, i32_w]
        rfl
      refine pure_ (i := 21) (N := some 44) (v := undef) (a' := ?_) #[true, true, true, true, true, true, true, true, true, true, true, true, true, true, true, true, true, true, true, true, true, true, false, false, false] rfl rfl (any_of HT_.out (by kernel_rfl)) (fun _ _ _ h => h) (Or.inr ⟨by rfl, rfl⟩) ?_ ?_; rotate_left
      · simp only [Act.put, List.setIfInBounds_toArray, List.set_cons_zero, List.set_cons_succ, i64_w, i32_w]
        rfl
      refine pure_ (i := 22) (N := some 45) (v := undef) (a' := ?_) #[true, true, true, true, true, true, true, true, true, true, true, true, true, true, true, true, true, true, true, true, true, true, true, false, false] rfl rfl (any_of HT_.out (by kernel_rfl)) (fun _ _ _ h => h) (Or.inr ⟨by rfl, rfl⟩) ?_ ?_; rotate_left
      · simp only [Act.put, List.setIfInBounds_toArray, List.set_cons_zero, List.set_cons_succ, i64_w, i32_w]
        rfl
      refine pure_ (i := 23) (N := some 46) (v := undef) (a' := ?_) #[true, true, true, true, true, true, true, true, true, true, true, true, true, true, true, true, true, true, true, true, true, true, true, true, false] rfl rfl (any_of HT_.out (by kernel_rfl)) (fun _ _ _ h => h) (Or.inr ⟨by rfl, rfl⟩) ?_ ?_; rotate_left
      · simp only [Act.put, List.setIfInBounds_toArray, List.set_cons_zero, List.set_cons_succ, i64_w, i32_w]
        rfl
      refine pU 24 47 (bAr 25 33554431) ?_
      refine done_ (done_of HT_.out (by kernel_rfl)) ?_
      try go_wp2
      go_meet
      case rel => exact ⟨_, (true), eQ, H', ⟨lE⟩, ⟨bI BK361.out⟩, ⟨hB⟩⟩
  · intro H; replace c7 := Bool.eq_false_iff.mpr c7; subst c7; revert H; refine adR fun H' => ?_
    try go_wp2
    replace BK361 := aM (blk_drew BK361.out); replace HB := aM (below_drew1 HB.out)
    refine start_ (n := 25) (S := fun w' => True) (ds := []) #[false, false, false, false, false, false, false, false, false, false, false, false, false, false, false, false, false, false, false, false, false, false, false, false, false] (by kernel_rfl) rfl rfl trivial (fun hHeld => ?_); refine with_tabW spec_FromPasses.tab1 spec_FromPasses.bits1 (fun HT_ HW_ => ?_)
    generalize w5.drew = w16 at BK361 HB hHeld ⊢; refine pU 0 23 (bAr 25 1) ?_
    refine one_ (i := 1) (N := some 24) #[true, true, false, false, false, false, false, false, false, false, false, false, false, false, false, false, false, false, false, false, false, false, false, false, false] rfl rfl (one_of HT_.out (by kernel_rfl)) (by decide) (fun K hK => ?_)
    refine goes_ Try.func77 (by kernel_rfl) rfl #[.int .i64 a0] (by rfl) rfl rfl (by (try simp only [List.map_toArray, List.map_cons, List.map_nil]); first | done | rfl | (simp only [List.length_drop, List.length_take]; rfl)) ?_
    with_reducible refine (spec_l12Side.calls a0 false _ A6.out).mono ?_
    rintro e w' ⟨rfl, ⟨nd, rfl⟩⟩
    refine ⟨_, rfl, ?_⟩
    refine hK.out _ _ trivial (fun hHeld => ?_); clear hK K
    refine norm_ (a' := ?_) ?_ ?_; rotate_left
    · show Act.put _ (some 24) _ = _
      simp only [Act.put, List.setIfInBounds_toArray, List.set_cons_zero, List.set_cons_succ, i64_w, i32_w]
      rfl
    refine pU 2 25 (bAr 25 7) ?_; refine pU 3 26 (bAr 25 15) ?_
    refine pure_ (i := 4) (N := some 27) (v := undef) (a' := ?_) #[true, true, true, true, true, false, false, false, false, false, false, false, false, false, false, false, false, false, false, false, false, false, false, false, false] rfl rfl (any_of HT_.out (by kernel_rfl)) (fun _ _ _ h => h) (Or.inr ⟨by rfl, rfl⟩) ?_ ?_; rotate_left
    · simp only [Act.put, List.setIfInBounds_toArray, List.set_cons_zero, List.set_cons_succ, i64_w, i32_w]
      rfl
    refine pure_ (i := 5) (N := some 28) (v := undef) (a' := ?_) #[true, true, true, true, true, true, false, false, false, false, false, false, false, false, false, false, false, false, false, false, false, false, false, false, false] rfl rfl (any_of HT_.out (by kernel_rfl)) (fun _ _ _ h => h) (Or.inr ⟨by rfl, rfl⟩) ?_ ?_; rotate_left
    · simp only [Act.put, List.setIfInBounds_toArray, List.set_cons_zero, List.set_cons_succ, i64_w, i32_w]
      rfl
    refine pure_ (i := 6) (N := some 29) (v := undef) (a' := ?_) #[true, true, true, true, true, true, true, false, false, false, false, false, false, false, false, false, false, false, false, false, false, false, false, false, false] rfl rfl (any_of HT_.out (by kernel_rfl)) (fun _ _ _ h => h) (Or.inr ⟨by rfl, rfl⟩) ?_ ?_; rotate_left
    · simp only [Act.put, List.setIfInBounds_toArray, List.set_cons_zero, List.set_cons_succ, i64_w, i32_w]
      rfl
    refine pU 7 30 (bAr 25 255) ?_; refine pU 8 31 (bAr 25 511) ?_
    refine pure_ (i := 9) (N := some 32) (v := undef) (a' := ?_) #[true, true, true, true, true, true, true, true, true, true, false, false, false, false, false, false, false, false, false, false, false, false, false, false, false] rfl rfl (any_of HT_.out (by kernel_rfl)) (fun _ _ _ h => h) (Or.inr ⟨by rfl, rfl⟩) ?_ ?_; rotate_left
    · simp only [Act.put, List.setIfInBounds_toArray, List.set_cons_zero, List.set_cons_succ, i64_w, i32_w]
      rfl
    refine pure_ (i := 10) (N := some 33) (v := undef) (a' := ?_) #[true, true, true, true, true, true, true, true, true, true, true, false, false, false, false, false, false, false, false, false, false, false, false, false, false] rfl rfl (any_of HT_.out (by kernel_rfl)) (fun _ _ _ h => h) (Or.inr ⟨by rfl, rfl⟩) ?_ ?_; rotate_left
    · simp only [Act.put, List.setIfInBounds_toArray, List.set_cons_zero, List.set_cons_succ, i64_w, i32_w]
      rfl
    refine pure_ (i := 11) (N := some 34) (v := undef) (a' := ?_) #[true, true, true, true, true, true, true, true, true, true, true, true, false, false, false, false, false, false, false, false, false, false, false, false, false] rfl rfl (any_of HT_.out (by kernel_rfl)) (fun _ _ _ h => h) (Or.inr ⟨by rfl, rfl⟩) ?_ ?_; rotate_left
    · simp only [Act.put, List.setIfInBounds_toArray, List.set_cons_zero, List.set_cons_succ, i64_w, i32_w]
      rfl
    refine pU 12 35 (bAr 25 8191) ?_; refine pU 13 36 (bAr 25 16383) ?_
    refine pure_ (i := 14) (N := some 37) (v := undef) (a' := ?_) #[true, true, true, true, true, true, true, true, true, true, true, true, true, true, true, false, false, false, false, false, false, false, false, false, false] rfl rfl (any_of HT_.out (by kernel_rfl)) (fun _ _ _ h => h) (Or.inr ⟨by rfl, rfl⟩) ?_ ?_; rotate_left
    · simp only [Act.put, List.setIfInBounds_toArray, List.set_cons_zero, List.set_cons_succ, i64_w, i32_w]
      rfl
    refine pure_ (i := 15) (N := some 38) (v := undef) (a' := ?_) #[true, true, true, true, true, true, true, true, true, true, true, true, true, true, true, true, false, false, false, false, false, false, false, false, false] rfl rfl (any_of HT_.out (by kernel_rfl)) (fun _ _ _ h => h) (Or.inr ⟨by rfl, rfl⟩) ?_ ?_; rotate_left
    · simp only [Act.put, List.setIfInBounds_toArray, List.set_cons_zero, List.set_cons_succ, i64_w, i32_w]
      rfl
    refine pure_ (i := 16) (N := some 39) (v := undef) (a' := ?_) #[true, true, true, true, true, true, true, true, true, true, true, true, true, true, true, true, true, false, false, false, false, false, false, false, false] rfl rfl (any_of HT_.out (by kernel_rfl)) (fun _ _ _ h => h) (Or.inr ⟨by rfl, rfl⟩) ?_ ?_; rotate_left
    · simp only [Act.put, List.setIfInBounds_toArray, List.set_cons_zero, List.set_cons_succ, i64_w, i32_w]
      rfl
    refine pure_ (i := 17) (N := some 40) (v := undef) (a' := ?_) #[true, true, true, true, true, true, true, true, true, true, true, true, true, true, true, true, true, true, false, false, false, false, false, false, false] rfl rfl (any_of HT_.out (by kernel_rfl)) (fun _ _ _ h => h) (Or.inr ⟨by rfl, rfl⟩) ?_ ?_; rotate_left
    · simp only [Act.put, List.setIfInBounds_toArray, List.set_cons_zero, List.set_cons_succ, i64_w, i32_w]
      rfl
    refine pure_ (i := 18) (N := some 41) (v := undef) (a' := ?_) #[true, true, true, true, true, true, true, true, true, true, true, true, true, true, true, true, true, true, true, false, false, false, false, false, false] rfl rfl (any_of HT_.out (by kernel_rfl)) (fun _ _ _ h => h) (Or.inr ⟨by rfl, rfl⟩) ?_ ?_; rotate_left
    · simp only [Act.put, List.setIfInBounds_toArray, List.set_cons_zero, List.set_cons_succ, i64_w, i32_w]
      rfl
    refine pure_ (i := 19) (N := some 42) (v := undef) (a' := ?_) #[true, true, true, true, true, true, true, true, true, true, true, true, true, true, true, true, true, true, true, true, false, false, false, false, false] rfl rfl (any_of HT_.out (by kernel_rfl)) (fun _ _ _ h => h) (Or.inr ⟨by rfl, rfl⟩) ?_ ?_; rotate_left
    · simp only [Act.put, List.setIfInBounds_toArray, List.set_cons_zero, List.set_cons_succ, i64_w, i32_w]
      rfl
    refine pure_ (i := 20) (N := some 43) (v := undef) (a' := ?_) #[true, true, true, true, true, true, true, true, true, true, true, true, true, true, true, true, true, true, true, true, true, false, false, false, false] rfl rfl (any_of HT_.out (by kernel_rfl)) (fun _ _ _ h => h) (Or.inr ⟨by rfl, rfl⟩) ?_ ?_; rotate_left
    · simp only [Act.put, List.setIfInBounds_toArray, List.set_cons_zero, List.set_cons_succ, i64_w, i32_w]
      rfl
    refine pure_ (i := 21) (N := some 44) (v := undef) (a' := ?_) #[true, true, true, true, true, true, true, true, true, true, true, true, true, true, true, true, true, true, true, true, true, true, false, false, false] rfl rfl (any_of HT_.out (by kernel_rfl)) (fun _ _ _ h => h) (Or.inr ⟨by rfl, rfl⟩) ?_ ?_; rotate_left
    · simp only [Act.put, List.setIfInBounds_toArray, List.set_cons_zero, List.set_cons_succ, i64_w, i32_w]
      rfl
    refine pure_ (i := 22) (N := some 45) (v := undef) (a' := ?_) #[true, true, true, true, true, true, true, true, true, true, true, true, true, true, true, true, true, true, true, true, true, true, true, false, false] rfl rfl (any_of HT_.out (by kernel_rfl)) (fun _ _ _ h => h) (Or.inr ⟨by rfl, rfl⟩) ?_ ?_; rotate_left
    · simp only [Act.put, List.setIfInBounds_toArray, List.set_cons_zero, List.set_cons_succ, i64_w, i32_w]
      rfl
    refine pure_ (i := 23) (N := some 46) (v := undef) (a' := ?_) #[true, true, true, true, true, true, true, true, true, true, true, true, true, true, true, true, true, true, true, true, true, true, true, true, false] rfl rfl (any_of HT_.out (by kernel_rfl)) (fun _ _ _ h => h) (Or.inr ⟨by rfl, rfl⟩) ?_ ?_; rotate_left
    · simp only [Act.put, List.setIfInBounds_toArray, List.set_cons_zero, List.set_cons_succ, i64_w, i32_w]
      rfl
    refine pU 24 47 (bAr 25 33554431) ?_
    refine done_ (done_of HT_.out (by kernel_rfl)) ?_
    try go_wp2
    go_meet
    case rel => exact ⟨_, (true), eQ, H', ⟨lE⟩, ⟨bI BK361.out⟩, ⟨hB⟩⟩
 case rest =>
  clear HC4; (try clear c1); (try clear p2); (try clear c7); (try clear c9); (try clear c10); (try clear c10b0); (try clear c10b1); (try clear c11); obtain ⟨kq, x47_3, rfl, HA, HJ3, BK361, HB⟩ := hcut; rcases kq with _ | kj3
  · exact absurd HA.out (by simp [spec_FromPasses.j0])
  revert HA; refine aoR ?_; intro H; simp only [spec_FromPasses.j0] at H; revert H
  refine ifB (fun c17 => ?_) (fun c17 => ?_)
  · intro H; subst c17; simp only [Option.some.injEq, Prod.mk.injEq] at H; obtain ⟨rfl, rfl, rfl, rfl, rfl, rfl⟩ := H; obtain ⟨hcz18_0, hcz18_1, hcz18_2, hcz18_3, hcz18_4⟩ := blk_c5 BK361.out; obtain ⟨hfz18_0, hfz18_1, hfz18_2, hfz18_3, hfz18_4⟩ := blk_f5 BK361.out; go_wp2
    refine bodyPost_ret (results_ct rfl _ _ gb361 29 #[.int .i64 0, .int .i64 0, .int .i64 0, .int .i64 0, .slice none 0 0] (0, 0) _ rfl kB Try.underlying29 rfl (by kernel_rfl)) rfl ?_; exact ⟨_, eE, by first | exact Kd.R_nil _ _ _ _ _ | exact Kd.N_nil _ _ _ _ _ | exact Kd.V_nil _ _ _ _ _ | exact Kd.Q_nil _ _ _ _ _ | exact Kd.S_nil _ _ _ _ _, hB⟩
  · intro H; replace c17 := Bool.eq_false_iff.mpr c17; subst c17; revert H; refine ifR fun c19 => ?_; intro H; have c19b0 := decide_eq_true c19; have c19b1 : decide (0 < l2.length) = true := decide_eq_true (by omega); clear c19; revert H; refine bdR fun t368 A20 => ?_; intro H; obtain ⟨ji21, hji21⟩ : ∃ j_ : Int, (wrap64 ((wrap64 (a0 * a1)) * t368)) = j_ := ⟨_, rfl⟩; replace H : (if 0 ≤ (ji21) then (if (ji21 : Int).toNat ≤ 35184372088832 then (spec_FromPasses.l0 kj3 a0 a1 l2 t368 0 a0 a1 ((rd_T29 l2 0).f2) ((rd_T29 l2 0).f3) (List.replicate (ji21 : Int).toNat 0)) else (none)) else (none)) = some (r1, r2, r3, r4, r5, r6) := by first | (rw [hji21] at H; exact H) | (simp only [hji21] at H ⊢; exact H)
    (try rw [hji21] at A20); have hji21w : (IntKind.i64.wrap ((wrap64 (a0 * a1)) * t368)) = ji21 := (i64_w _).trans hji21; revert H; refine ifR fun c22 => ?_; intro H; have c22b0 := eq_true c22; have c22b1 := decide_eq_true c22; clear c22; revert H; refine ifR fun c23 => ?_; intro H; have c23b0 := eq_true c23; have c23b1 := decide_eq_true c23; clear c23; obtain ⟨y371, hy371⟩ : ∃ y_ : List Int, y_ = (List.replicate (ji21 : Int).toNat 0) := ⟨_, rfl⟩; replace H : (spec_FromPasses.l0 kj3 a0 a1 l2 t368 0 a0 a1 ((rd_T29 l2 0).f2) ((rd_T29 l2 0).f3) y371) = some (r1, r2, r3, r4, r5, r6) := by first | (rw [hy371]; with_reducible exact H) | (have H2_ := (Option.bind_some _ _).symm.trans H; rw [hy371]; with_reducible exact H2_) | (have H2_ := (Option.bind_some _ _).symm.trans H; with_reducible exact H2_) | with_reducible exact H | (rw [hy371]; exact H) | exact H
    have Ny371 := aM hy371; clear hy371; revert H; refine adR fun H' => ?_; have p367 : 0 ≤ (0 : Int) := (by omega); have q367 : 0 < (l2.length : Int) := bD; obtain ⟨ad367, A367_4, c367_4, e367, hx367_0, hx367_1, hx367_2, hx367_3, hx367_4, hl367_4, hi367_4⟩ := at_T29 HR2.out 0 p367 q367; cases e367; have qi367 : (0 < l2.length) = True := eq_true (by omega)
    (try rw [show ((0 : Int)).toNat = 0 from rfl] at hx367_0)
    (try rw [show 0 * 5 = 0 from rfl] at hx367_0)
    (try rw [Addr.add_zero'] at hx367_0)
    (try rw [show ((0 : Int)).toNat = 0 from rfl] at hx367_1)
    (try rw [show 0 * 5 = 0 from rfl] at hx367_1)
    (try rw [Addr.add_zero'] at hx367_1)
    (try rw [show ((0 : Int)).toNat = 0 from rfl] at hx367_2)
    (try rw [show 0 * 5 = 0 from rfl] at hx367_2)
    (try rw [Addr.add_zero'] at hx367_2)
    (try rw [show ((0 : Int)).toNat = 0 from rfl] at hx367_3)
    (try rw [show 0 * 5 = 0 from rfl] at hx367_3)
    (try rw [Addr.add_zero'] at hx367_3)
    (try rw [show ((0 : Int)).toNat = 0 from rfl] at hx367_4)
    (try rw [show 0 * 5 = 0 from rfl] at hx367_4)
    (try rw [Addr.add_zero'] at hx367_4); replace hx367_0 := (HB.out.cell (World.block_lt_of_cell? w _ hx367_0)).trans hx367_0; replace hx367_1 := (HB.out.cell (World.block_lt_of_cell? w _ hx367_1)).trans hx367_1; replace hx367_2 := (HB.out.cell (World.block_lt_of_cell? w _ hx367_2)).trans hx367_2; replace hx367_3 := (HB.out.cell (World.block_lt_of_cell? w _ hx367_3)).trans hx367_3; replace hx367_4 := (HB.out.cell (World.block_lt_of_cell? w _ hx367_4)).trans hx367_4; have HR367_4 := aM hi367_4; have HC367_4 := aM hl367_4; clear hi367_4 hl367_4; replace p367 := eq_true p367; replace q367 := eq_true q367
    try go_wp2_with (first | ((with_reducible refine gC 88 ?_); refine gL (some 53) Try.func88 #[.int .i64 ((rd_T29 l2 0).f2)] ?_; (with_reducible refine (spec_ChannelsOf.calls kj3 ((rd_T29 l2 0).f2) t368 _ A20.out).mono ?_); rintro e w' ⟨rfl, ⟨nd, rfl⟩⟩; refine ⟨_, rfl, ?_⟩; (try (rw [drewN_self wc]; generalize hq_ : World.drewN wc _ = wc; have n0_ : Aside0 (wc.heap[gb361]? = some (.cells #[.int .i64 0, .int .i64 0, .int .i64 0, .int .i64 0, .slice none 0 0] 29 (0, 0))) := ⟨by rw [← hq_]; exact (bI BK361.out)⟩; have n1_ : Aside0 (Below w.heap.size w wc) := ⟨by rw [← hq_]; exact hB⟩; clear BK361 HB hq_; have BK361 := n0_; have HB := n1_; clear n0_ n1_))))
    replace BK361 := aM (blk_drew BK361.out); replace HB := aM (below_drew1 HB.out); have p369 : 0 ≤ (0 : Int) := (by omega); have q369 : 0 < (l2.length : Int) := bD; obtain ⟨ad369, A369_4, c369_4, e369, hx369_0, hx369_1, hx369_2, hx369_3, hx369_4, hl369_4, hi369_4⟩ := at_T29 HR2.out 0 p369 q369; have hw369_4 := hx369_4
    (try rw [show ((0 : Int)).toNat = 0 from rfl] at hw369_4)
    (try rw [show 0 * 5 = 0 from rfl] at hw369_4)
    (try rw [Addr.add_zero'] at hw369_4); have hw369_3 := hx369_3
    (try rw [show ((0 : Int)).toNat = 0 from rfl] at hw369_3)
    (try rw [show 0 * 5 = 0 from rfl] at hw369_3)
    (try rw [Addr.add_zero'] at hw369_3); have hw369_2 := hx369_2
    (try rw [show ((0 : Int)).toNat = 0 from rfl] at hw369_2)
    (try rw [show 0 * 5 = 0 from rfl] at hw369_2)
    (try rw [Addr.add_zero'] at hw369_2); have hw369_1 := hx369_1
    (try rw [show ((0 : Int)).toNat = 0 from rfl] at hw369_1)
    (try rw [show 0 * 5 = 0 from rfl] at hw369_1)
    (try rw [Addr.add_zero'] at hw369_1); have hw369_0 := hx369_0
    (try rw [show ((0 : Int)).toNat = 0 from rfl] at hw369_0)
    (try rw [show 0 * 5 = 0 from rfl] at hw369_0)
    (try rw [Addr.add_zero'] at hw369_0); obtain rfl : ad367 = ad369 := (by injection e369); have qi369 : (0 < l2.length) = True := eq_true (by omega)
    (try rw [show ((0 : Int)).toNat = 0 from rfl] at hx369_0)
    (try rw [show 0 * 5 = 0 from rfl] at hx369_0)
    (try rw [Addr.add_zero'] at hx369_0)
    (try rw [show ((0 : Int)).toNat = 0 from rfl] at hx369_1)
    (try rw [show 0 * 5 = 0 from rfl] at hx369_1)
    (try rw [Addr.add_zero'] at hx369_1)
    (try rw [show ((0 : Int)).toNat = 0 from rfl] at hx369_2)
    (try rw [show 0 * 5 = 0 from rfl] at hx369_2)
    (try rw [Addr.add_zero'] at hx369_2)
    (try rw [show ((0 : Int)).toNat = 0 from rfl] at hx369_3)
    (try rw [show 0 * 5 = 0 from rfl] at hx369_3)
    (try rw [Addr.add_zero'] at hx369_3)
    (try rw [show ((0 : Int)).toNat = 0 from rfl] at hx369_4)
    (try rw [show 0 * 5 = 0 from rfl] at hx369_4)
    (try rw [Addr.add_zero'] at hx369_4); replace hx369_0 := (HB.out.cell (World.block_lt_of_cell? w _ hx369_0)).trans hx369_0; replace hx369_1 := (HB.out.cell (World.block_lt_of_cell? w _ hx369_1)).trans hx369_1; replace hx369_2 := (HB.out.cell (World.block_lt_of_cell? w _ hx369_2)).trans hx369_2; replace hx369_3 := (HB.out.cell (World.block_lt_of_cell? w _ hx369_3)).trans hx369_3; replace hx369_4 := (HB.out.cell (World.block_lt_of_cell? w _ hx369_4)).trans hx369_4; have HR369_4 := aM hi369_4; have HC369_4 := aM hl369_4; clear hi369_4 hl369_4; replace p369 := eq_true p369; replace q369 := eq_true q369; have p370 : 0 ≤ (0 : Int) := (by omega); have q370 : 0 < (l2.length : Int) := bD; obtain ⟨ad370, A370_4, c370_4, e370, hx370_0, hx370_1, hx370_2, hx370_3, hx370_4, hl370_4, hi370_4⟩ := at_T29 HR2.out 0 p370 q370; have hw370_4 := hx370_4
    (try rw [show ((0 : Int)).toNat = 0 from rfl] at hw370_4)
    (try rw [show 0 * 5 = 0 from rfl] at hw370_4)
    (try rw [Addr.add_zero'] at hw370_4); have hw370_3 := hx370_3
    (try rw [show ((0 : Int)).toNat = 0 from rfl] at hw370_3)
    (try rw [show 0 * 5 = 0 from rfl] at hw370_3)
    (try rw [Addr.add_zero'] at hw370_3); have hw370_2 := hx370_2
    (try rw [show ((0 : Int)).toNat = 0 from rfl] at hw370_2)
    (try rw [show 0 * 5 = 0 from rfl] at hw370_2)
    (try rw [Addr.add_zero'] at hw370_2); have hw370_1 := hx370_1
    (try rw [show ((0 : Int)).toNat = 0 from rfl] at hw370_1)
    (try rw [show 0 * 5 = 0 from rfl] at hw370_1)
    (try rw [Addr.add_zero'] at hw370_1); have hw370_0 := hx370_0
    (try rw [show ((0 : Int)).toNat = 0 from rfl] at hw370_0)
    (try rw [show 0 * 5 = 0 from rfl] at hw370_0)
    (try rw [Addr.add_zero'] at hw370_0); obtain rfl : ad367 = ad370 := (by injection e370); have qi370 : (0 < l2.length) = True := eq_true (by omega)
    (try rw [show ((0 : Int)).toNat = 0 from rfl] at hx370_0)
    (try rw [show 0 * 5 = 0 from rfl] at hx370_0)
    (try rw [Addr.add_zero'] at hx370_0)
    (try rw [show ((0 : Int)).toNat = 0 from rfl] at hx370_1)
    (try rw [show 0 * 5 = 0 from rfl] at hx370_1)
    (try rw [Addr.add_zero'] at hx370_1)
    (try rw [show ((0 : Int)).toNat = 0 from rfl] at hx370_2)
    (try rw [show 0 * 5 = 0 from rfl] at hx370_2)
    (try rw [Addr.add_zero'] at hx370_2)
    (try rw [show ((0 : Int)).toNat = 0 from rfl] at hx370_3)
    (try rw [show 0 * 5 = 0 from rfl] at hx370_3)
    (try rw [Addr.add_zero'] at hx370_3)
    (try rw [show ((0 : Int)).toNat = 0 from rfl] at hx370_4)
    (try rw [show 0 * 5 = 0 from rfl] at hx370_4)
    (try rw [Addr.add_zero'] at hx370_4); replace hx370_0 := (HB.out.cell (World.block_lt_of_cell? w _ hx370_0)).trans hx370_0; replace hx370_1 := (HB.out.cell (World.block_lt_of_cell? w _ hx370_1)).trans hx370_1; replace hx370_2 := (HB.out.cell (World.block_lt_of_cell? w _ hx370_2)).trans hx370_2; replace hx370_3 := (HB.out.cell (World.block_lt_of_cell? w _ hx370_3)).trans hx370_3; replace hx370_4 := (HB.out.cell (World.block_lt_of_cell? w _ hx370_4)).trans hx370_4; have HR370_4 := aM hi370_4; have HC370_4 := aM hl370_4; clear hi370_4 hl370_4; replace p370 := eq_true p370; replace q370 := eq_true q370; have ea_ := Option.some.inj (hx369_4.symm.trans hx370_4)
    injection ea_ with ea_ en_ ec_; subst ea_; subst ec_; clear en_
    refine start_ (n := 19) (S := fun w' => w'.cell? ad367 = some (.int .i64 ((rd_T29 l2 0).f0)) ∧ w'.cell? ⟨ad367.block, ad367.off + 1, none⟩ = some (.int .i64 ((rd_T29 l2 0).f1)) ∧ w'.cell? ⟨ad367.block, ad367.off + 2, none⟩ = some (.int .i64 ((rd_T29 l2 0).f2)) ∧ w'.cell? ⟨ad367.block, ad367.off + 3, none⟩ = some (.int .i64 ((rd_T29 l2 0).f3)) ∧ w'.cell? ⟨ad367.block, ad367.off + 4, none⟩ = some (.slice A369_4 ((rd_T29 l2 0).f4).length c369_4) ∧ w'.cell? ad367 = some (.int .i64 ((rd_T29 l2 0).f0)) ∧ w'.cell? ⟨ad367.block, ad367.off + 1, none⟩ = some (.int .i64 ((rd_T29 l2 0).f1)) ∧ w'.cell? ⟨ad367.block, ad367.off + 2, none⟩ = some (.int .i64 ((rd_T29 l2 0).f2)) ∧ w'.cell? ⟨ad367.block, ad367.off + 3, none⟩ = some (.int .i64 ((rd_T29 l2 0).f3)) ∧ w'.cell? ⟨ad367.block, ad367.off + 4, none⟩ = some (.slice A369_4 ((rd_T29 l2 0).f4).length c369_4)) (ds := []) #[false, false, false, false, false, false, false, false, false, false, false, false, false, false, false, false, false, false, false] (by kernel_rfl) rfl rfl ⟨((HB.out.cell (World.block_lt_of_cell? w _ hw369_0)).trans hw369_0), ((HB.out.cell (World.block_lt_of_cell? w _ hw369_1)).trans hw369_1), ((HB.out.cell (World.block_lt_of_cell? w _ hw369_2)).trans hw369_2), ((HB.out.cell (World.block_lt_of_cell? w _ hw369_3)).trans hw369_3), ((HB.out.cell (World.block_lt_of_cell? w _ hw369_4)).trans hw369_4), ((HB.out.cell (World.block_lt_of_cell? w _ hw370_0)).trans hw370_0), ((HB.out.cell (World.block_lt_of_cell? w _ hw370_1)).trans hw370_1), ((HB.out.cell (World.block_lt_of_cell? w _ hw370_2)).trans hw370_2), ((HB.out.cell (World.block_lt_of_cell? w _ hw370_3)).trans hw370_3), ((HB.out.cell (World.block_lt_of_cell? w _ hw370_4)).trans hw370_4)⟩ (fun hHeld => ?_); refine with_tabW spec_FromPasses.tab4 spec_FromPasses.bits4 (fun HT_ HW_ => ?_)
    generalize wc.drew = w24 at BK361 HB HR369_4 HR370_4 hx369_0 hx369_1 hx369_2 hx369_3 hx369_4 hx370_0 hx370_1 hx370_2 hx370_3 hx370_4 hHeld ⊢; refine pU 0 54 (bAr 19 1) ?_; refine pU 1 55 (bAr 19 3) ?_; refine pU 2 56 (bAr 19 7) ?_; refine pU 3 57 (bAr 19 15) ?_; refine pU 4 58 (bAr 19 31) ?_; refine pU 6 60 (bAr 19 95) ?_; refine pU 7 61 (bAr 19 223) ?_; refine pU 8 62 (bAr 19 479) ?_; refine pU 10 64 (bAr 19 1503) ?_; refine pU 11 65 (bAr 19 3551) ?_; refine pU 12 66 (bAr 19 7647) ?_; refine pU 13 67 (bAr 19 15839) ?_; refine pU 14 68 (bAr 19 32223) ?_
    refine take_ (i := 5) (N := some 59) (v := ?_) (a' := ?_) #[true, true, true, true, true, true, true, true, true, false, true, true, true, true, true, false, false, false, false] rfl rfl (take_ofW HT_.out HW_.out (by kernel_rfl)) (fun _ _ _ h => h) (Or.inl ⟨by rfl, ?_⟩) hHeld ?_ ?_; rotate_left
    · rintro w' ⟨s0, s1, s2, s3, s4, s5, s6, s7, s8, s9⟩
      go_simp; with_reducible rfl
    rotate_left
    · simp only [Act.put, List.setIfInBounds_toArray, List.set_cons_zero, List.set_cons_succ, i64_w, i32_w]
      rfl
    refine take_ (i := 9) (N := some 63) (v := ?_) (a' := ?_) #[true, true, true, true, true, true, true, true, true, true, true, true, true, true, true, false, false, false, false] rfl rfl (take_ofW HT_.out HW_.out (by kernel_rfl)) (fun _ _ _ h => h) (Or.inl ⟨by rfl, ?_⟩) hHeld ?_ ?_; rotate_left
    · rintro w' ⟨s0, s1, s2, s3, s4, s5, s6, s7, s8, s9⟩
      go_simp; with_reducible rfl
    rotate_left
    · simp only [Act.put, List.setIfInBounds_toArray, List.set_cons_zero, List.set_cons_succ, i64_w, i32_w]
      rfl
    refine join_ (σ := Value × Nat) 1 #[true, true, true, true, true, true, true, true, true, true, true, true, true, true, true, true, true, true, false] (fun s_ => [(69, s_.1), (9, .pointer (some ⟨s_.2, 0, none⟩)), (70, .agg #[.int .i64 a0, .int .i64 a1, .int .i64 ((rd_T29 l2 0).f2), .int .i64 ((rd_T29 l2 0).f3), s_.1])]) (fun s_ w' => (w'.cell? ad367 = some (.int .i64 ((rd_T29 l2 0).f0)) ∧ w'.cell? ⟨ad367.block, ad367.off + 1, none⟩ = some (.int .i64 ((rd_T29 l2 0).f1)) ∧ w'.cell? ⟨ad367.block, ad367.off + 2, none⟩ = some (.int .i64 ((rd_T29 l2 0).f2)) ∧ w'.cell? ⟨ad367.block, ad367.off + 3, none⟩ = some (.int .i64 ((rd_T29 l2 0).f3)) ∧ w'.cell? ⟨ad367.block, ad367.off + 4, none⟩ = some (.slice A369_4 ((rd_T29 l2 0).f4).length c369_4) ∧ w'.cell? ad367 = some (.int .i64 ((rd_T29 l2 0).f0)) ∧ w'.cell? ⟨ad367.block, ad367.off + 1, none⟩ = some (.int .i64 ((rd_T29 l2 0).f1)) ∧ w'.cell? ⟨ad367.block, ad367.off + 2, none⟩ = some (.int .i64 ((rd_T29 l2 0).f2)) ∧ w'.cell? ⟨ad367.block, ad367.off + 3, none⟩ = some (.int .i64 ((rd_T29 l2 0).f3)) ∧ w'.cell? ⟨ad367.block, ad367.off + 4, none⟩ = some (.slice A369_4 ((rd_T29 l2 0).f4).length c369_4)) ∧ (Kd.R (Kd.int .i64) 3 w' w.heap.size (fun _ => True) s_.1 y371) ∧ (w'.heap[gb361]? = some (.cells #[.int .i64 0, .int .i64 0, .int .i64 0, .int .i64 0, .slice none 0 0] 29 (0, 0))) ∧ (w'.heap[s_.2]? = some (.cells #[.int .i64 0, .int .i64 0, .int .i64 0, .int .i64 0, .slice none 0 0] 29 (0, 0))) ∧ (w.heap.size ≤ s_.2) ∧ (w.heap.size ≤ s_.2) ∧ (gb361 ≠ s_.2) ∧ (s_.2 ≠ gb361) ∧ (Below w.heap.size w w')) ?_ ?_; rotate_left
    · intro hCont
      refine two_ (i := 15) (j := 17) (Ni := some 69) (Nj := some 9) #[true, true, true, true, true, true, true, true, true, true, true, true, true, true, true, true, false, false, false] #[true, true, true, true, true, true, true, true, true, true, true, true, true, true, true, false, false, true, false] rfl rfl rfl rfl (two_of HT_.out (by kernel_rfl)) (by decide) (by decide) (fun K hK => ?_) (fun K hK => ?_)
      · skip
        refine Kd.R_make_step (Kd.int .i64) _ 3 (by rfl) (N := 69) rfl 22 _ _ rfl ji21 rfl rfl Try.underlying22 (.int .i64 0) 8 info3 rfl (by decide) (by omega) 0 (ok := fun _ => True) (okp := fun _ => True) rfl (fun _ hk => hk) trivial (bD) (Nat.le_trans (Nat.mul_le_mul_right _ (bD : ji21.toNat ≤ 35184372088832)) (by omega)) (Below.refl _ _) (Nat.le_refl _) ?_; intro v372 w25 ho26 hb hg_ hnew_; clear hg_ hnew_
        (first | rw [← Ny371.out] at ho26 | (simp only [Int.reduceToNat] at ho26; rw [← Ny371.out] at ho26)); have HO373 := aM (Kd.R_lower ho26 (below_size hB)); replace BK361 := aM (blk_below (g := gb361) (o := .cells #[.int .i64 0, .int .i64 0, .int .i64 0, .int .i64 0, .slice none 0 0] 29 (0, 0)) (bI BK361.out) hb); replace HB := aM (below_step hB hb); clear hb ho26; obtain ⟨Ao27, co27, eo27⟩ := Kd.R_slice HO373.out
        (first | subst eo27 | (injection eo27 with f1_ f2_ f3_; have f4_ := f1_.symm; have f5_ := f3_.symm; clear f1_ f2_ f3_; subst f4_; subst f5_))
        refine hK.out _ _ ⟨((HB.out.cell (World.block_lt_of_cell? w _ hw369_0)).trans hw369_0), ((HB.out.cell (World.block_lt_of_cell? w _ hw369_1)).trans hw369_1), ((HB.out.cell (World.block_lt_of_cell? w _ hw369_2)).trans hw369_2), ((HB.out.cell (World.block_lt_of_cell? w _ hw369_3)).trans hw369_3), ((HB.out.cell (World.block_lt_of_cell? w _ hw369_4)).trans hw369_4), ((HB.out.cell (World.block_lt_of_cell? w _ hw370_0)).trans hw370_0), ((HB.out.cell (World.block_lt_of_cell? w _ hw370_1)).trans hw370_1), ((HB.out.cell (World.block_lt_of_cell? w _ hw370_2)).trans hw370_2), ((HB.out.cell (World.block_lt_of_cell? w _ hw370_3)).trans hw370_3), ((HB.out.cell (World.block_lt_of_cell? w _ hw370_4)).trans hw370_4)⟩ (fun hHeld => ?_); clear hK K
        refine norm_ (a' := ?_) ?_ ?_; rotate_left
        · show Act.put _ (some 69) _ = _
          simp only [Act.put, List.setIfInBounds_toArray, List.set_cons_zero, List.set_cons_succ, i64_w, i32_w]
          rfl
        refine pU 16 70 (bAr 19 131071) ?_
        refine one_ (i := 17) (N := some 9) #[true, true, true, true, true, true, true, true, true, true, true, true, true, true, true, true, true, true, false] rfl rfl (one_of HT_.out (by kernel_rfl)) (by decide) (fun K hK => ?_)
        refine box_step ?hg (N := 9) ?hd (cs := #[.int .i64 0, .int .i64 0, .int .i64 0, .int .i64 0, .slice none 0 0]) (t := 29) ?hr ?_; (case hd => rfl); (case hg => rfl); (case hr => first | (go_simp; done) | (go_simp; rfl)); intro gb374 hg w28 hbox hb; replace HO373 := aM (Kd.R_below (Kd.R_i HO373.out) hb); have BK374 := aM (hbox); have GW374 := aM ((sZ hg : w.heap.size ≤ gb374)); have GE374 := aM ((sZ hg : w.heap.size ≤ gb374)); replace HB := aM (below_step hB hb); have NB361_374 := aM ((nL BK361 hg : gb361 ≠ gb374)); have NB374_361 := aM ((nG BK361 hg : gb374 ≠ gb361)); replace BK361 := aM (blk_below (g := gb361) (o := .cells #[.int .i64 0, .int .i64 0, .int .i64 0, .int .i64 0, .slice none 0 0] 29 (0, 0)) (bI BK361.out) hb); clear hb hbox hg
        refine hK.out _ _ ⟨((HB.out.cell (World.block_lt_of_cell? w _ hw369_0)).trans hw369_0), ((HB.out.cell (World.block_lt_of_cell? w _ hw369_1)).trans hw369_1), ((HB.out.cell (World.block_lt_of_cell? w _ hw369_2)).trans hw369_2), ((HB.out.cell (World.block_lt_of_cell? w _ hw369_3)).trans hw369_3), ((HB.out.cell (World.block_lt_of_cell? w _ hw369_4)).trans hw369_4), ((HB.out.cell (World.block_lt_of_cell? w _ hw370_0)).trans hw370_0), ((HB.out.cell (World.block_lt_of_cell? w _ hw370_1)).trans hw370_1), ((HB.out.cell (World.block_lt_of_cell? w _ hw370_2)).trans hw370_2), ((HB.out.cell (World.block_lt_of_cell? w _ hw370_3)).trans hw370_3), ((HB.out.cell (World.block_lt_of_cell? w _ hw370_4)).trans hw370_4)⟩ (fun hHeld => ?_); clear hK K
        refine norm_ (a' := ?_) ?_ ?_; rotate_left
        · show Act.put _ (some 9) _ = _
          simp only [Act.put, List.setIfInBounds_toArray, List.set_cons_zero, List.set_cons_succ, i64_w, i32_w]
          rfl
        exact norm_ (by simp only [putAll, Act.put, List.setIfInBounds_toArray, List.set_cons_zero, List.set_cons_succ]) (hCont (.slice Ao27 y371.length co27, gb374) _ ⟨hHeld, (Kd.R_i HO373.out), (bI BK361.out), (bI BK374.out), GW374.out, GE374.out, NB361_374.out, NB374_361.out, hB⟩)
      · skip
        refine box_step ?hg (N := 9) ?hd (cs := #[.int .i64 0, .int .i64 0, .int .i64 0, .int .i64 0, .slice none 0 0]) (t := 29) ?hr ?_; (case hd => rfl); (case hg => rfl); (case hr => first | (go_simp; done) | (go_simp; rfl)); intro gb374 hg w25 hbox hb; have BK374 := aM (hbox); have GW374 := aM ((sZ hg : w.heap.size ≤ gb374)); have GE374 := aM ((sZ hg : w.heap.size ≤ gb374)); replace HB := aM (below_step hB hb); have NB361_374 := aM ((nL BK361 hg : gb361 ≠ gb374)); have NB374_361 := aM ((nG BK361 hg : gb374 ≠ gb361)); replace BK361 := aM (blk_below (g := gb361) (o := .cells #[.int .i64 0, .int .i64 0, .int .i64 0, .int .i64 0, .slice none 0 0] 29 (0, 0)) (bI BK361.out) hb); clear hb hbox hg
        refine hK.out _ _ ⟨((HB.out.cell (World.block_lt_of_cell? w _ hw369_0)).trans hw369_0), ((HB.out.cell (World.block_lt_of_cell? w _ hw369_1)).trans hw369_1), ((HB.out.cell (World.block_lt_of_cell? w _ hw369_2)).trans hw369_2), ((HB.out.cell (World.block_lt_of_cell? w _ hw369_3)).trans hw369_3), ((HB.out.cell (World.block_lt_of_cell? w _ hw369_4)).trans hw369_4), ((HB.out.cell (World.block_lt_of_cell? w _ hw370_0)).trans hw370_0), ((HB.out.cell (World.block_lt_of_cell? w _ hw370_1)).trans hw370_1), ((HB.out.cell (World.block_lt_of_cell? w _ hw370_2)).trans hw370_2), ((HB.out.cell (World.block_lt_of_cell? w _ hw370_3)).trans hw370_3), ((HB.out.cell (World.block_lt_of_cell? w _ hw370_4)).trans hw370_4)⟩ (fun hHeld => ?_); clear hK K
        refine norm_ (a' := ?_) ?_ ?_; rotate_left
        · show Act.put _ (some 9) _ = _
          simp only [Act.put, List.setIfInBounds_toArray, List.set_cons_zero, List.set_cons_succ, i64_w, i32_w]
          rfl
        refine one_ (i := 15) (N := some 69) #[true, true, true, true, true, true, true, true, true, true, true, true, true, true, true, true, false, true, false] rfl rfl (one_of HT_.out (by kernel_rfl)) (by decide) (fun K hK => ?_)
        refine Kd.R_make_step (Kd.int .i64) _ 3 (by rfl) (N := 69) rfl 22 _ _ rfl ji21 rfl rfl Try.underlying22 (.int .i64 0) 8 info3 rfl (by decide) (by omega) 0 (ok := fun _ => True) (okp := fun _ => True) rfl (fun _ hk => hk) trivial (bD) (Nat.le_trans (Nat.mul_le_mul_right _ (bD : ji21.toNat ≤ 35184372088832)) (by omega)) (Below.refl _ _) (Nat.le_refl _) ?_; intro v372 w26 ho27 hb hg_ hnew_; clear hg_ hnew_
        (first | rw [← Ny371.out] at ho27 | (simp only [Int.reduceToNat] at ho27; rw [← Ny371.out] at ho27)); have HO373 := aM (Kd.R_lower ho27 (below_size hB)); replace BK361 := aM (blk_below (g := gb361) (o := .cells #[.int .i64 0, .int .i64 0, .int .i64 0, .int .i64 0, .slice none 0 0] 29 (0, 0)) (bI BK361.out) hb); replace BK374 := aM (blk_below (g := gb374) (o := .cells #[.int .i64 0, .int .i64 0, .int .i64 0, .int .i64 0, .slice none 0 0] 29 (0, 0)) (bI BK374.out) hb); replace HB := aM (below_step hB hb); clear hb ho27; obtain ⟨Ao28, co28, eo28⟩ := Kd.R_slice HO373.out
        (first | subst eo28 | (injection eo28 with f1_ f2_ f3_; have f4_ := f1_.symm; have f5_ := f3_.symm; clear f1_ f2_ f3_; subst f4_; subst f5_))
        refine hK.out _ _ ⟨((HB.out.cell (World.block_lt_of_cell? w _ hw369_0)).trans hw369_0), ((HB.out.cell (World.block_lt_of_cell? w _ hw369_1)).trans hw369_1), ((HB.out.cell (World.block_lt_of_cell? w _ hw369_2)).trans hw369_2), ((HB.out.cell (World.block_lt_of_cell? w _ hw369_3)).trans hw369_3), ((HB.out.cell (World.block_lt_of_cell? w _ hw369_4)).trans hw369_4), ((HB.out.cell (World.block_lt_of_cell? w _ hw370_0)).trans hw370_0), ((HB.out.cell (World.block_lt_of_cell? w _ hw370_1)).trans hw370_1), ((HB.out.cell (World.block_lt_of_cell? w _ hw370_2)).trans hw370_2), ((HB.out.cell (World.block_lt_of_cell? w _ hw370_3)).trans hw370_3), ((HB.out.cell (World.block_lt_of_cell? w _ hw370_4)).trans hw370_4)⟩ (fun hHeld => ?_); clear hK K
        refine norm_ (a' := ?_) ?_ ?_; rotate_left
        · show Act.put _ (some 69) _ = _
          simp only [Act.put, List.setIfInBounds_toArray, List.set_cons_zero, List.set_cons_succ, i64_w, i32_w]
          rfl
        refine pU 16 70 (bAr 19 262143) ?_; exact norm_ (by simp only [putAll, Act.put, List.setIfInBounds_toArray, List.set_cons_zero, List.set_cons_succ]) (hCont (.slice Ao28 y371.length co28, gb374) _ ⟨hHeld, (Kd.R_i HO373.out), (bI BK361.out), (bI BK374.out), GW374.out, GE374.out, NB361_374.out, NB374_361.out, hB⟩)
    rintro ⟨v372, gb374⟩ w29 ⟨hS_, h0_, h1_, h2_, h3_, h4_, h5_, h6_, h7_⟩; have n0_ : Aside0 (Kd.R (Kd.int .i64) 3 w29 w.heap.size (fun _ => True) v372 y371) := ⟨h0_⟩; have n1_ : Aside0 (w29.heap[gb361]? = some (.cells #[.int .i64 0, .int .i64 0, .int .i64 0, .int .i64 0, .slice none 0 0] 29 (0, 0))) := ⟨h1_⟩; have n2_ : Aside0 (w29.heap[gb374]? = some (.cells #[.int .i64 0, .int .i64 0, .int .i64 0, .int .i64 0, .slice none 0 0] 29 (0, 0))) := ⟨h2_⟩; have n3_ : Aside0 (w.heap.size ≤ gb374) := ⟨h3_⟩; have n4_ : Aside0 (w.heap.size ≤ gb374) := ⟨h4_⟩; have n5_ : Aside0 (gb361 ≠ gb374) := ⟨h5_⟩; have n6_ : Aside0 (gb374 ≠ gb361) := ⟨h6_⟩; have n7_ : Aside0 (Below w.heap.size w w29) := ⟨h7_⟩; clear BK361; clear HB; clear h0_ h1_ h2_ h3_ h4_ h5_ h6_ h7_; have HO373 := n0_; have BK361 := n1_; have BK374 := n2_; have GW374 := n3_; have GE374 := n4_; have NB361_374 := n5_; have NB374_361 := n6_; have HB := n7_; clear n0_ n1_ n2_ n3_ n4_ n5_ n6_ n7_; have hHeld : w29.cell? ad367 = some (.int .i64 ((rd_T29 l2 0).f0)) ∧ w29.cell? ⟨ad367.block, ad367.off + 1, none⟩ = some (.int .i64 ((rd_T29 l2 0).f1)) ∧ w29.cell? ⟨ad367.block, ad367.off + 2, none⟩ = some (.int .i64 ((rd_T29 l2 0).f2)) ∧ w29.cell? ⟨ad367.block, ad367.off + 3, none⟩ = some (.int .i64 ((rd_T29 l2 0).f3)) ∧ w29.cell? ⟨ad367.block, ad367.off + 4, none⟩ = some (.slice A369_4 ((rd_T29 l2 0).f4).length c369_4) ∧ w29.cell? ad367 = some (.int .i64 ((rd_T29 l2 0).f0)) ∧ w29.cell? ⟨ad367.block, ad367.off + 1, none⟩ = some (.int .i64 ((rd_T29 l2 0).f1)) ∧ w29.cell? ⟨ad367.block, ad367.off + 2, none⟩ = some (.int .i64 ((rd_T29 l2 0).f2)) ∧ w29.cell? ⟨ad367.block, ad367.off + 3, none⟩ = some (.int .i64 ((rd_T29 l2 0).f3)) ∧ w29.cell? ⟨ad367.block, ad367.off + 4, none⟩ = some (.slice A369_4 ((rd_T29 l2 0).f4).length c369_4) := hS_; obtain ⟨Ao30, co30, eo30⟩ := Kd.R_slice HO373.out
    (first | subst eo30 | (injection eo30 with f1_ f2_ f3_; have f4_ := f1_.symm; have f5_ := f3_.symm; clear f1_ f2_ f3_; subst f4_; subst f5_))
    refine norm_ (a' := ?_) ?_ ?_; rotate_left
    · simp only [putAll, Act.put, List.setIfInBounds_toArray, List.set_cons_zero, List.set_cons_succ]
      rfl
    refine one_ (i := 18) (N := none) #[true, true, true, true, true, true, true, true, true, true, true, true, true, true, true, true, true, true, true] rfl rfl (one_of HT_.out (by kernel_rfl)) (by decide) (fun K hK => ?_); have hs31 : w29.cell? ⟨gb374, 0, none⟩ = some (.int .i64 0) := (blk_cell BK374.out 0).trans rfl; have hfs31 := blk_frozen BK374.out 0; have hns31_0 := NB361_374.out; have hms31_0 := NB374_361.out; have hs32 : w29.cell? ⟨gb374, 1, none⟩ = some (.int .i64 0) := (blk_cell BK374.out 1).trans rfl; have hfs32 := blk_frozen BK374.out 1; have hns32_0 := NB361_374.out; have hms32_0 := NB374_361.out; have hs33 : w29.cell? ⟨gb374, 2, none⟩ = some (.int .i64 0) := (blk_cell BK374.out 2).trans rfl; have hfs33 := blk_frozen BK374.out 2; have hns33_0 := NB361_374.out; have hms33_0 := NB374_361.out; have hs34 : w29.cell? ⟨gb374, 3, none⟩ = some (.int .i64 0) := (blk_cell BK374.out 3).trans rfl; have hfs34 := blk_frozen BK374.out 3; have hns34_0 := NB361_374.out; have hms34_0 := NB374_361.out; have hs35 : w29.cell? ⟨gb374, 4, none⟩ = some (.slice none 0 0) := (blk_cell BK374.out 4).trans rfl; have hfs35 := blk_frozen BK374.out 4; have hns35_0 := NB361_374.out; have hms35_0 := NB374_361.out
    refine skip_ (w1 := ?_) (by rfl) rfl ?_ ?_; rotate_left
    · go_simp
      rfl
    refine hK.out _ _ ⟨((cell_far (p := ⟨gb374, _, none⟩) (nE (Nat.ne_of_lt (bL hw369_0 GW374.out))) _).trans (((cell_far (p := ⟨gb374, _, none⟩) (nE (Nat.ne_of_lt (bL hw369_0 GW374.out))) _).trans (((cell_far (p := ⟨gb374, _, none⟩) (nE (Nat.ne_of_lt (bL hw369_0 GW374.out))) _).trans (((cell_far (p := ⟨gb374, _, none⟩) (nE (Nat.ne_of_lt (bL hw369_0 GW374.out))) _).trans (((cell_far (p := ⟨gb374, _, none⟩) (nE (Nat.ne_of_lt (bL hw369_0 GW374.out))) _).trans (hHeld.1)))))))))), ((cell_far (p := ⟨gb374, _, none⟩) (nE (Nat.ne_of_lt (bL hw369_1 GW374.out))) _).trans (((cell_far (p := ⟨gb374, _, none⟩) (nE (Nat.ne_of_lt (bL hw369_1 GW374.out))) _).trans (((cell_far (p := ⟨gb374, _, none⟩) (nE (Nat.ne_of_lt (bL hw369_1 GW374.out))) _).trans (((cell_far (p := ⟨gb374, _, none⟩) (nE (Nat.ne_of_lt (bL hw369_1 GW374.out))) _).trans (((cell_far (p := ⟨gb374, _, none⟩) (nE (Nat.ne_of_lt (bL hw369_1 GW374.out))) _).trans (hHeld.2.1)))))))))), ((cell_far (p := ⟨gb374, _, none⟩) (nE (Nat.ne_of_lt (bL hw369_2 GW374.out))) _).trans (((cell_far (p := ⟨gb374, _, none⟩) (nE (Nat.ne_of_lt (bL hw369_2 GW374.out))) _).trans (((cell_far (p := ⟨gb374, _, none⟩) (nE (Nat.ne_of_lt (bL hw369_2 GW374.out))) _).trans (((cell_far (p := ⟨gb374, _, none⟩) (nE (Nat.ne_of_lt (bL hw369_2 GW374.out))) _).trans (((cell_far (p := ⟨gb374, _, none⟩) (nE (Nat.ne_of_lt (bL hw369_2 GW374.out))) _).trans (hHeld.2.2.1)))))))))), ((cell_far (p := ⟨gb374, _, none⟩) (nE (Nat.ne_of_lt (bL hw369_3 GW374.out))) _).trans (((cell_far (p := ⟨gb374, _, none⟩) (nE (Nat.ne_of_lt (bL hw369_3 GW374.out))) _).trans (((cell_far (p := ⟨gb374, _, none⟩) (nE (Nat.ne_of_lt (bL hw369_3 GW374.out))) _).trans (((cell_far (p := ⟨gb374, _, none⟩) (nE (Nat.ne_of_lt (bL hw369_3 GW374.out))) _).trans (((cell_far (p := ⟨gb374, _, none⟩) (nE (Nat.ne_of_lt (bL hw369_3 GW374.out))) _).trans (hHeld.2.2.2.1)))))))))), ((cell_far (p := ⟨gb374, _, none⟩) (nE (Nat.ne_of_lt (bL hw369_4 GW374.out))) _).trans (((cell_far (p := ⟨gb374, _, none⟩) (nE (Nat.ne_of_lt (bL hw369_4 GW374.out))) _).trans (((cell_far (p := ⟨gb374, _, none⟩) (nE (Nat.ne_of_lt (bL hw369_4 GW374.out))) _).trans (((cell_far (p := ⟨gb374, _, none⟩) (nE (Nat.ne_of_lt (bL hw369_4 GW374.out))) _).trans (((cell_far (p := ⟨gb374, _, none⟩) (nE (Nat.ne_of_lt (bL hw369_4 GW374.out))) _).trans (hHeld.2.2.2.2.1)))))))))), ((cell_far (p := ⟨gb374, _, none⟩) (nE (Nat.ne_of_lt (bL hw370_0 GW374.out))) _).trans (((cell_far (p := ⟨gb374, _, none⟩) (nE (Nat.ne_of_lt (bL hw370_0 GW374.out))) _).trans (((cell_far (p := ⟨gb374, _, none⟩) (nE (Nat.ne_of_lt (bL hw370_0 GW374.out))) _).trans (((cell_far (p := ⟨gb374, _, none⟩) (nE (Nat.ne_of_lt (bL hw370_0 GW374.out))) _).trans (((cell_far (p := ⟨gb374, _, none⟩) (nE (Nat.ne_of_lt (bL hw370_0 GW374.out))) _).trans (hHeld.2.2.2.2.2.1)))))))))), ((cell_far (p := ⟨gb374, _, none⟩) (nE (Nat.ne_of_lt (bL hw370_1 GW374.out))) _).trans (((cell_far (p := ⟨gb374, _, none⟩) (nE (Nat.ne_of_lt (bL hw370_1 GW374.out))) _).trans (((cell_far (p := ⟨gb374, _, none⟩) (nE (Nat.ne_of_lt (bL hw370_1 GW374.out))) _).trans (((cell_far (p := ⟨gb374, _, none⟩) (nE (Nat.ne_of_lt (bL hw370_1 GW374.out))) _).trans (((cell_far (p := ⟨gb374, _, none⟩) (nE (Nat.ne_of_lt (bL hw370_1 GW374.out))) _).trans (hHeld.2.2.2.2.2.2.1)))))))))), ((cell_far (p := ⟨gb374, _, none⟩) (nE (Nat.ne_of_lt (bL hw370_2 GW374.out))) _).trans (((cell_far (p := ⟨gb374, _, none⟩) (nE (Nat.ne_of_lt (bL hw370_2 GW374.out))) _).trans (((cell_far (p := ⟨gb374, _, none⟩) (nE (Nat.ne_of_lt (bL hw370_2 GW374.out))) _).trans (((cell_far (p := ⟨gb374, _, none⟩) (nE (Nat.ne_of_lt (bL hw370_2 GW374.out))) _).trans (((cell_far (p := ⟨gb374, _, none⟩) (nE (Nat.ne_of_lt (bL hw370_2 GW374.out))) _).trans (hHeld.2.2.2.2.2.2.2.1)))))))))), ((cell_far (p := ⟨gb374, _, none⟩) (nE (Nat.ne_of_lt (bL hw370_3 GW374.out))) _).trans (((cell_far (p := ⟨gb374, _, none⟩) (nE (Nat.ne_of_lt (bL hw370_3 GW374.out))) _).trans (((cell_far (p := ⟨gb374, _, none⟩) (nE (Nat.ne_of_lt (bL hw370_3 GW374.out))) _).trans (((cell_far (p := ⟨gb374, _, none⟩) (nE (Nat.ne_of_lt (bL hw370_3 GW374.out))) _).trans (((cell_far (p := ⟨gb374, _, none⟩) (nE (Nat.ne_of_lt (bL hw370_3 GW374.out))) _).trans (hHeld.2.2.2.2.2.2.2.2.1)))))))))), ((cell_far (p := ⟨gb374, _, none⟩) (nE (Nat.ne_of_lt (bL hw370_4 GW374.out))) _).trans (((cell_far (p := ⟨gb374, _, none⟩) (nE (Nat.ne_of_lt (bL hw370_4 GW374.out))) _).trans (((cell_far (p := ⟨gb374, _, none⟩) (nE (Nat.ne_of_lt (bL hw370_4 GW374.out))) _).trans (((cell_far (p := ⟨gb374, _, none⟩) (nE (Nat.ne_of_lt (bL hw370_4 GW374.out))) _).trans (((cell_far (p := ⟨gb374, _, none⟩) (nE (Nat.ne_of_lt (bL hw370_4 GW374.out))) _).trans (hHeld.2.2.2.2.2.2.2.2.2))))))))))⟩ (fun hHeld => ?_); clear hK K
    refine done_ (done_of HT_.out (by kernel_rfl)) ?_
    try go_wp2
    go_loopg [10] kj3 (fun kq v10 w' => ∃ (x10_2 : Int) (x362000_2 : Int) (x362001_2 : Int) (x362002_2 : Int) (x362003_2 : Int) (x375004_2 : List Int) (u375004 : Value), v10 = .int .i64 x10_2 ∧ Aside0 (spec_FromPasses.l0 kq a0 a1 l2 t368 x10_2 a0 a1 ((rd_T29 l2 0).f2) ((rd_T29 l2 0).f3) x375004_2 = some (r1, r2, r3, r4, r5, r6)) ∧ Aside0 (kq ≤ kj3) ∧ Aside0 (Kd.R (Kd.int .i64) 3 w' w.heap.size (fun _ => True) u375004 x375004_2) ∧ Aside0 (w'.heap[gb361]? = some (.cells #[.int .i64 x362000_2, .int .i64 x362001_2, .int .i64 x362002_2, .int .i64 x362003_2, (.slice none 0 0)] 29 (0, 0))) ∧ Aside0 (w'.heap[gb374]? = some (.cells #[.int .i64 a0, .int .i64 a1, .int .i64 ((rd_T29 l2 0).f2), .int .i64 ((rd_T29 l2 0).f3), u375004] 29 (0, 0))) ∧ Aside0 (Below w.heap.size w w'))
    case atStart => exact ⟨(0), (0), (0), (0), (0), (y371), (.slice Ao30 y371.length co30), eQ, H', ⟨Nat.le_refl _⟩, ⟨Kd.R_i (Kd.R_mono (Kd.R_far (p := ⟨gb374, 4, none⟩) (Kd.R_far (p := ⟨gb374, 3, none⟩) (Kd.R_far (p := ⟨gb374, 2, none⟩) (Kd.R_far (p := ⟨gb374, 1, none⟩) (Kd.R_far (p := ⟨gb374, 0, none⟩) (Kd.R_types HO373.out BK374.out (by decide)) (fun _ hk => hk.2) (.int .i64 a0)) (fun _ hk => hk.2) (.int .i64 a1)) (fun _ hk => hk.2) (.int .i64 ((rd_T29 l2 0).f2))) (fun _ hk => hk.2) (.int .i64 ((rd_T29 l2 0).f3))) (fun _ hk => hk.2) (.slice Ao30 y371.length co30)) (fun _ hk => trivial))⟩, ⟨kB⟩, ⟨kB⟩, ⟨hB⟩⟩
    case round =>
     clear H'; (try clear c1); (try clear c2); (try clear p2); (try clear c3); (try clear p3); (try clear q3); (try clear hx3); (try clear qi3); (try clear c5); (try clear p6); (try clear c7); (try clear c8); (try clear c9); (try clear c10); (try clear c10b0); (try clear c10b1); (try clear c11); (try clear c17); (try clear c19); (try clear c19b0); (try clear c19b1); (try clear c22); (try clear c22b0); (try clear c22b1); (try clear c23); (try clear c23b0); (try clear c23b1); (try clear hcz18_0 hcz18_1 hcz18_2 hcz18_3 hcz18_4); (try clear hfz18_0 hfz18_1 hfz18_2 hfz18_3 hfz18_4); (try clear hx367_0); (try clear hx367_1); (try clear hx367_2); (try clear hx367_3); (try clear hx367_4); (try clear hx369_0); (try clear hx369_1); (try clear hx369_2); (try clear hx369_3); (try clear hx369_4); (try clear hx370_0); (try clear hx370_1); (try clear hx370_2); (try clear hx370_3); (try clear hx370_4); (try clear p367); (try clear p369); (try clear p370); (try clear q367); (try clear q369); (try clear q370); obtain ⟨x10_2, x362000_2, x362001_2, x362002_2, x362003_2, x375004_2, u375004, rfl, HA, HK2, HO_375004, BK361, BK374, HB⟩ := hrel; rcases gk with _ | k2
     · exact absurd HA.out (by simp [spec_FromPasses.l0])
     revert HA; refine aoR ?_; intro H; simp only [spec_FromPasses.l0] at H; revert H
     refine ifB (fun c36 => ?_) (fun c36 => ?_)
     · intro H; have c36b0 := decide_eq_true c36; clear c36; revert H; refine bdR fun ⟨t375, t376⟩ A37 => ?_; intro H
       try dsimp only at H
       revert H; refine bdR fun ⟨t377, t378, t379, t380⟩ A38 => ?_; intro H
       try dsimp only at H
       revert H; refine ifR fun c39 => ?_; intro H; have c39b0 := decide_eq_true c39; clear c39; revert H; refine ifR fun c40 => ?_; intro H; have c40b0 := decide_eq_true c40; clear c40; revert H
       refine ifB (fun c41 => ?_) (fun c41 => ?_)
       · intro H; have c41b0 := beq_iff_eq.mpr c41; have c41b1 := bne_eq_false_iff_eq.mpr c41; clear c41; revert H; refine adR fun H' => ?_
         go_wp2_with (first | ((with_reducible refine gC 89 ?_); refine gL (some 79) Try.func89 #[.int .i64 a0, .int .i64 a1, .int .i64 x10_2] ?_; (with_reducible refine (spec_PassSize.calls k2 a0 a1 x10_2 t375 t376 _ A37.out).mono ?_); rintro e w' ⟨rfl, ⟨nd, rfl⟩⟩; refine ⟨_, rfl, ?_⟩) | ((with_reducible refine gC 90 ?_); refine gL (some 84) Try.func90 #[.int .i64 x10_2] ?_; (with_reducible refine (spec_PassStep.calls x10_2 t377 t378 t379 t380 _ A38.out).mono ?_); rintro e w' ⟨rfl, ⟨nd, rfl⟩⟩; refine ⟨_, rfl, ?_⟩; have p381 : 0 ≤ (x10_2 : Int) := bD; have q381 : x10_2 < (l2.length : Int) := bD; obtain ⟨ad381, A381_4, c381_4, e381, hx381_0, hx381_1, hx381_2, hx381_3, hx381_4, hl381_4, hi381_4⟩ := at_T29 HR2.out x10_2 p381 q381; obtain rfl : ad367 = ad381 := (by injection e381); replace hx381_0 := (HB.out.cell (World.block_lt_of_cell? w _ hx381_0)).trans hx381_0; replace hx381_1 := (HB.out.cell (World.block_lt_of_cell? w _ hx381_1)).trans hx381_1; replace hx381_2 := (HB.out.cell (World.block_lt_of_cell? w _ hx381_2)).trans hx381_2; replace hx381_3 := (HB.out.cell (World.block_lt_of_cell? w _ hx381_3)).trans hx381_3; replace hx381_4 := (HB.out.cell (World.block_lt_of_cell? w _ hx381_4)).trans hx381_4; have HR381_4 := aM hi381_4; have HC381_4 := aM hl381_4; clear hi381_4 hl381_4; replace p381 := eq_true p381; replace q381 := eq_true q381))
         go_loopg [17] k2 (fun kq v17 w' => ∃ (x17_3 : Int) (x375004_3 : List Int) (u375004 : Value), v17 = .int .i64 x17_3 ∧ Aside0 (spec_FromPasses.l1 kq a0 a1 l2 t368 x10_2 t375 t376 t377 t378 t379 t380 x17_3 a0 a1 ((rd_T29 l2 0).f2) ((rd_T29 l2 0).f3) x375004_3 = some (r1, r2, r3, r4, r5, r6)) ∧ Aside0 (kq ≤ k2) ∧ Aside0 (Kd.R (Kd.int .i64) 3 w' w.heap.size (fun _ => True) u375004 x375004_3) ∧ Aside0 (w'.heap[gb361]? = some (.cells #[.int .i64 x362000_2, .int .i64 x362001_2, .int .i64 x362002_2, .int .i64 x362003_2, (.slice none 0 0)] 29 (0, 0))) ∧ Aside0 (w'.heap[gb374]? = some (.cells #[.int .i64 a0, .int .i64 a1, .int .i64 ((rd_T29 l2 0).f2), .int .i64 ((rd_T29 l2 0).f3), u375004] 29 (0, 0))) ∧ Aside0 (Below w.heap.size w w'))
         case atStart => exact ⟨(0), (x375004_2), (u375004), eQ, H', ⟨Nat.le_refl _⟩, ⟨Kd.R_i HO_375004.out⟩, ⟨bI BK361.out⟩, ⟨bI BK374.out⟩, ⟨hB⟩⟩
         case round =>
          clear H'; (try clear c1); (try clear c2); (try clear p2); (try clear c3); (try clear p3); (try clear q3); (try clear hx3); (try clear qi3); (try clear c4); (try clear c5); (try clear p6); (try clear c7); (try clear c8); (try clear c9); (try clear c10); (try clear c10b0); (try clear c10b1); (try clear c11); (try clear c17); (try clear c19); (try clear c19b0); (try clear c19b1); (try clear c22); (try clear c22b0); (try clear c22b1); (try clear c23); (try clear c23b0); (try clear c23b1); (try clear c36); (try clear c36b0); (try clear p36); (try clear q36); (try clear hx36); (try clear qi36); (try clear c37); (try clear p37); (try clear q37); (try clear hx37); (try clear qi37); (try clear c38); (try clear p38); (try clear q38); (try clear hx38); (try clear c39); (try clear c39b0); (try clear c40); (try clear c40b0); (try clear c41); (try clear c41b0); (try clear c41b1); (try clear hcz18_0 hcz18_1 hcz18_2 hcz18_3 hcz18_4); (try clear hfz18_0 hfz18_1 hfz18_2 hfz18_3 hfz18_4); (try clear hx367_0); (try clear hx367_1); (try clear hx367_2); (try clear hx367_3); (try clear hx367_4); (try clear hx369_0); (try clear hx369_1); (try clear hx369_2); (try clear hx369_3); (try clear hx369_4); (try clear hx370_0); (try clear hx370_1); (try clear hx370_2); (try clear hx370_3); (try clear hx370_4); (try clear hx381_0); (try clear hx381_1); (try clear hx381_2); (try clear hx381_3); (try clear hx381_4); (try clear p367); (try clear p369); (try clear p370); (try clear p381); (try clear q367); (try clear q369); (try clear q370); (try clear q381); obtain ⟨x17_3, x375004_3, u375004, rfl, HA, HK3, HO_375004, BK361, BK374, HB⟩ := hrel; rcases gk with _ | k3
          · exact absurd HA.out (by simp [spec_FromPasses.l1])
          revert HA; refine aoR ?_; intro H; simp only [spec_FromPasses.l1] at H; revert H
          refine ifB (fun c42 => ?_) (fun c42 => ?_)
          · intro H; have c42b0 := decide_eq_true c42; clear c42; revert H
            refine ifB (fun c43 => ?_) (fun c43 => ?_)
            · intro H; exact absurd H (by simp)
            · intro H; have c43b0 := beq_eq_false_iff_ne.mpr c43; have c43b1 := bne_iff_ne.mpr c43; revert H
              refine ifB (fun c44 => ?_) (fun c44 => ?_)
              · intro H; exact absurd H (by simp)
              · intro H; have c44b0 := beq_eq_false_iff_ne.mpr c44; have c44b1 := bne_iff_ne.mpr c44; revert H; refine ifR fun c45 => ?_; intro H; have c45b0 := decide_eq_true c45; clear c45; revert H; refine ifR fun c46 => ?_; intro H; have c46b0 := decide_eq_true c46; clear c46; revert H; refine ifR fun c47 => ?_; intro H; have c47b0 := decide_eq_true c47; clear c47; revert H; refine ifR fun c48 => ?_; intro H; have c48b0 := decide_eq_true c48; clear c48; obtain ⟨ji49, hji49⟩ : ∃ j_ : Int, (wrap64 ((wrap64 ((wrap64 ((wrap64 ((wrap64 ((wrap64 (t378 + (wrap64 ((wrap64 (Int.tdiv (wrap64 (Int.tdiv x17_3 t368)) t375)) * t380)))) * a0)) + t377)) + (wrap64 ((Int.tmod (wrap64 (Int.tdiv x17_3 t368)) t375) * t379)))) * t368)) + (Int.tmod x17_3 t368))) = j_ := ⟨_, rfl⟩; replace H : (if 0 ≤ (ji49) then (if (ji49) < (x375004_3.length : Int) then (spec_FromPasses.l1 k3 a0 a1 l2 t368 x10_2 t375 t376 t377 t378 t379 t380 (wrap64 (x17_3 + 1)) a0 a1 ((rd_T29 l2 0).f2) ((rd_T29 l2 0).f3) (x375004_3.set ((ji49) : Int).toNat (rd ((rd_T29 l2 x10_2).f4) x17_3))) else (none)) else (none)) = some (r1, r2, r3, r4, r5, r6) := by first | (rw [hji49] at H; exact H) | (simp only [hji49] at H ⊢; exact H)
                have hji49w : (IntKind.i64.wrap ((wrap64 ((wrap64 ((wrap64 ((wrap64 ((wrap64 (t378 + (wrap64 ((wrap64 (Int.tdiv (wrap64 (Int.tdiv x17_3 t368)) t375)) * t380)))) * a0)) + t377)) + (wrap64 ((Int.tmod (wrap64 (Int.tdiv x17_3 t368)) t375) * t379)))) * t368)) + (Int.tmod x17_3 t368))) = ji49 := (i64_w _).trans hji49; revert H; refine ifR fun c50 => ?_; intro H; have c50b0 := decide_eq_true c50; clear c50; revert H; refine ifR fun c51 => ?_; intro H; have c51b0 := decide_eq_true c51; clear c51; obtain ⟨y384, hy384⟩ : ∃ y_ : List Int, y_ = (x375004_3.set ((ji49) : Int).toNat (rd ((rd_T29 l2 x10_2).f4) x17_3)) := ⟨_, rfl⟩; replace H : (spec_FromPasses.l1 k3 a0 a1 l2 t368 x10_2 t375 t376 t377 t378 t379 t380 (wrap64 (x17_3 + 1)) a0 a1 ((rd_T29 l2 0).f2) ((rd_T29 l2 0).f3) y384) = some (r1, r2, r3, r4, r5, r6) := by first | (rw [hy384]; with_reducible exact H) | (have H2_ := (Option.bind_some _ _).symm.trans H; rw [hy384]; with_reducible exact H2_) | (have H2_ := (Option.bind_some _ _).symm.trans H; with_reducible exact H2_) | with_reducible exact H | (rw [hy384]; exact H) | exact H
                have Ny384 := aM hy384; clear hy384; revert H; refine adR fun H' => ?_
                try go_wp2
                replace HO_375004 := aM (Kd.R_drew HO_375004.out); replace BK361 := aM (blk_drew BK361.out); replace BK374 := aM (blk_drew BK374.out); replace HB := aM (below_drew1 HB.out); have p382 : 0 ≤ (x10_2 : Int) := bD; have q382 : x10_2 < (l2.length : Int) := bD; obtain ⟨ad382, A382_4, c382_4, e382, hx382_0, hx382_1, hx382_2, hx382_3, hx382_4, hl382_4, hi382_4⟩ := at_T29 HR2.out x10_2 p382 q382; have hw382_4 := hx382_4; have hw382_3 := hx382_3; have hw382_2 := hx382_2; have hw382_1 := hx382_1; have hw382_0 := hx382_0; obtain rfl : ad367 = ad382 := (by injection e382); replace hx382_0 := (HB.out.cell (World.block_lt_of_cell? w _ hx382_0)).trans hx382_0; replace hx382_1 := (HB.out.cell (World.block_lt_of_cell? w _ hx382_1)).trans hx382_1; replace hx382_2 := (HB.out.cell (World.block_lt_of_cell? w _ hx382_2)).trans hx382_2; replace hx382_3 := (HB.out.cell (World.block_lt_of_cell? w _ hx382_3)).trans hx382_3; replace hx382_4 := (HB.out.cell (World.block_lt_of_cell? w _ hx382_4)).trans hx382_4; have HR382_4 := aM hi382_4; have HC382_4 := aM hl382_4; clear hi382_4 hl382_4; replace p382 := eq_true p382; replace q382 := eq_true q382; have p383 : 0 ≤ (x17_3 : Int) := bD; have q383 : x17_3 < (((rd_T29 l2 x10_2).f4).length : Int) := bD; obtain ⟨ad383, e383, hx383_0⟩ := Kd.at_int HR382_4.out x17_3 p383 q383; have hw383_0 := hx383_0; cases e383; replace hx383_0 := (HB.out.cell (World.block_lt_of_cell? w _ hx383_0)).trans hx383_0; replace p383 := eq_true p383; replace q383 := eq_true q383; have p52 : 0 ≤ ((ji49) : Int) := bD; have q52 : ((ji49) : Int) < ((x375004_3.length : Int) : Int) := bD; obtain ⟨go52, co52, eo52, gb52, gl52, cl52, HG52⟩ := Kd.R_form HO_375004.out (by omega)
                (first | cases eo52 | (injection eo52 with ea_ en_ ec_; (first | subst ea_ | (injection ea_ with ea_; subst ea_)); subst ec_; clear en_)); have GB52 := aM gb52; have GG52 := aM HG52; clear gb52 gl52 HG52; obtain ⟨hx52_0, hf52_0⟩ := Kd.R_celln 0 HO_375004.out ((ji49) : Int) p52 q52; replace p52 := eq_true p52; replace q52 := eq_true q52; have HP54 := Kd.R_putn HO_375004.out ((ji49) : Int) (rd ((rd_T29 l2 x10_2).f4) x17_3)
                rw [← Ny384.out] at HP54; have HQ54 := aM HP54; clear HP54
                refine start_ (n := 31) (S := fun w' => w'.cell? ⟨gb374, 0, none⟩ = some (.int .i64 a0) ∧ w'.cell? ⟨gb374, 1, none⟩ = some (.int .i64 a1) ∧ w'.cell? ⟨gb374, 2, none⟩ = some (.int .i64 ((rd_T29 l2 0).f2)) ∧ w'.cell? ⟨gb374, 3, none⟩ = some (.int .i64 ((rd_T29 l2 0).f3)) ∧ w'.cell? ⟨gb374, 4, none⟩ = some (.slice (some ⟨go52, 0, none⟩) x375004_3.length co52) ∧ w'.cell? (ad367.add ((x10_2).toNat * 5)) = some (.int .i64 ((rd_T29 l2 x10_2).f0)) ∧ w'.cell? ⟨(ad367.add ((x10_2).toNat * 5)).block, (ad367.add ((x10_2).toNat * 5)).off + 1, none⟩ = some (.int .i64 ((rd_T29 l2 x10_2).f1)) ∧ w'.cell? ⟨(ad367.add ((x10_2).toNat * 5)).block, (ad367.add ((x10_2).toNat * 5)).off + 2, none⟩ = some (.int .i64 ((rd_T29 l2 x10_2).f2)) ∧ w'.cell? ⟨(ad367.add ((x10_2).toNat * 5)).block, (ad367.add ((x10_2).toNat * 5)).off + 3, none⟩ = some (.int .i64 ((rd_T29 l2 x10_2).f3)) ∧ w'.cell? ⟨(ad367.add ((x10_2).toNat * 5)).block, (ad367.add ((x10_2).toNat * 5)).off + 4, none⟩ = some (.slice (some ad383) ((rd_T29 l2 x10_2).f4).length c382_4) ∧ w'.cell? (ad383.add (x17_3).toNat) = some (.int .i64 (rd ((rd_T29 l2 x10_2).f4) x17_3))) (ds := [30]) #[false, false, false, false, false, false, false, false, false, false, false, false, false, false, false, false, false, false, false, false, false, false, false, false, false, false, false, false, false, false, false] (by kernel_rfl) rfl rfl ⟨(blk_cell BK374.out 0).trans rfl, (blk_cell BK374.out 1).trans rfl, (blk_cell BK374.out 2).trans rfl, (blk_cell BK374.out 3).trans rfl, (blk_cell BK374.out 4).trans rfl, ((HB.out.cell (World.block_lt_of_cell? w _ hw382_0)).trans hw382_0), ((HB.out.cell (World.block_lt_of_cell? w _ hw382_1)).trans hw382_1), ((HB.out.cell (World.block_lt_of_cell? w _ hw382_2)).trans hw382_2), ((HB.out.cell (World.block_lt_of_cell? w _ hw382_3)).trans hw382_3), ((HB.out.cell (World.block_lt_of_cell? w _ hw382_4)).trans hw382_4), ((HB.out.cell (World.block_lt_of_cell? w _ hw383_0)).trans hw383_0)⟩ (fun hHeld => ?_); refine with_tabW spec_FromPasses.tab17 spec_FromPasses.bits17 (fun HT_ HW_ => ?_)
                generalize wr.drew = w53 at HO_375004 BK361 BK374 HB GG52 HQ54 HR382_4 hf52_0 hx382_0 hx382_1 hx382_2 hx382_3 hx382_4 hx383_0 hx52_0 hHeld ⊢; refine pU 0 121 (bAr 31 1) ?_; refine pU 2 123 (bAr 31 5) ?_; refine pU 3 124 (bAr 31 13) ?_; refine pU 4 125 (bAr 31 29) ?_; refine pU 5 126 (bAr 31 61) ?_; refine pU 6 127 (bAr 31 125) ?_; refine pU 7 128 (bAr 31 253) ?_; refine pU 8 129 (bAr 31 509) ?_; refine pU 9 130 (bAr 31 1021) ?_; refine pU 10 131 (bAr 31 2045) ?_; refine pU 11 132 (bAr 31 4093) ?_; refine pU 12 133 (bAr 31 8189) ?_; refine pU 13 134 (bAr 31 16381) ?_; refine pU 14 135 (bAr 31 32765) ?_; refine pU 15 136 (bAr 31 65533) ?_; refine pU 16 137 (bAr 31 131069) ?_; refine pU 17 138 (bAr 31 262141) ?_; refine pU 18 139 (bAr 31 524285) ?_; refine pU 19 140 (bAr 31 1048573) ?_; refine pU 20 141 (bAr 31 2097149) ?_; refine pU 21 142 (bAr 31 4194301) ?_; refine pU 22 143 (bAr 31 8388605) ?_; refine pU 23 144 (bAr 31 16777213) ?_; refine pU 24 145 (bAr 31 33554429) ?_; refine pU 26 147 (bAr 31 100663293) ?_
                refine take_ (i := 1) (N := some 122) (v := ?_) (a' := ?_) #[true, true, true, true, true, true, true, true, true, true, true, true, true, true, true, true, true, true, true, true, true, true, true, true, true, false, true, false, false, false, false] rfl rfl (take_ofW HT_.out HW_.out (by kernel_rfl)) (fun _ _ _ h => h) (Or.inl ⟨by rfl, ?_⟩) hHeld ?_ ?_; rotate_left
                · rintro w' ⟨s0, s1, s2, s3, s4, s5, s6, s7, s8, s9, s10⟩
                  go_simp; with_reducible rfl
                rotate_left
                · simp only [Act.put, List.setIfInBounds_toArray, List.set_cons_zero, List.set_cons_succ, i64_w, i32_w]
                  rfl
                refine take_ (i := 25) (N := some 146) (v := ?_) (a' := ?_) #[true, true, true, true, true, true, true, true, true, true, true, true, true, true, true, true, true, true, true, true, true, true, true, true, true, true, true, false, false, false, false] rfl rfl (take_ofW HT_.out HW_.out (by kernel_rfl)) (fun _ _ _ h => h) (Or.inl ⟨by rfl, ?_⟩) hHeld ?_ ?_; rotate_left
                · rintro w' ⟨s0, s1, s2, s3, s4, s5, s6, s7, s8, s9, s10⟩
                  go_simp; with_reducible rfl
                rotate_left
                · simp only [Act.put, List.setIfInBounds_toArray, List.set_cons_zero, List.set_cons_succ, i64_w, i32_w]
                  rfl
                refine pU 27 148 (bAr 31 268435455) ?_
                refine take_ (i := 28) (N := some 149) (v := ?_) (a' := ?_) #[true, true, true, true, true, true, true, true, true, true, true, true, true, true, true, true, true, true, true, true, true, true, true, true, true, true, true, true, true, false, false] rfl rfl (take_ofW HT_.out HW_.out (by kernel_rfl)) (fun _ _ _ h => h) (Or.inl ⟨by rfl, ?_⟩) hHeld ?_ ?_; rotate_left
                · rintro w' ⟨s0, s1, s2, s3, s4, s5, s6, s7, s8, s9, s10⟩
                  go_simp; with_reducible rfl
                rotate_left
                · simp only [Act.put, List.setIfInBounds_toArray, List.set_cons_zero, List.set_cons_succ, i64_w, i32_w]
                  rfl
                refine pU 29 150 (bAr 31 1073741823) ?_
                refine last_ (i := 30) (N := none) #[true, true, true, true, true, true, true, true, true, true, true, true, true, true, true, true, true, true, true, true, true, true, true, true, true, true, true, true, true, true, true] rfl rfl (one_of HT_.out (by kernel_rfl)) (by decide) (fun K hK => ?_)
                refine skip_ (w1 := ?_) (by rfl) rfl ?_ ?_; rotate_left
                · go_simp
                  rfl
                refine hK.out _ _ ?_; clear hK K
                refine done_ (done_of HT_.out (by kernel_rfl)) ?_
                try go_wp2
                go_roundg k3
                case measure => have := HJ3.out; have := HK2.out; have := HK3.out; omega
                case rel => exact ⟨(wrap64 (x17_3 + 1)), (y384), (.slice (some ⟨go52, 0, none⟩) x375004_3.length co52), eQ, H', ⟨by have := HJ3.out; have := HK2.out; have := HK3.out; omega⟩, ⟨Kd.R_i HQ54.out⟩, ⟨by (with_reducible repeat (first | refine blk_drewN ?_ _ | refine blk_drew ?_ | refine blk_alloc ?_ _)); refine blk_far ?_ (by have h_ := Kd.R_ne HO_375004.out BK361.out (by decide); intro e_; exact h_ (by rw [e_]; rfl)) _; (with_reducible repeat (first | refine blk_drewN ?_ _ | refine blk_drew ?_ | refine blk_alloc ?_ _)); exact BK361.out⟩, ⟨by (with_reducible repeat (first | refine blk_drewN ?_ _ | refine blk_drew ?_ | refine blk_alloc ?_ _)); refine blk_far ?_ (by have h_ := Kd.R_ne HO_375004.out BK374.out (by decide); intro e_; exact h_ (by rw [e_]; rfl)) _; (with_reducible repeat (first | refine blk_drewN ?_ _ | refine blk_drew ?_ | refine blk_alloc ?_ _)); exact BK374.out⟩, ⟨by repeat (first | (with_reducible first | exact HB.out | apply below_alloc | apply pw_below_drewN | apply below_drew1 | refine below_set ?_ GB52.out | refine below_set ?_ GE361.out | refine below_set ?_ GE374.out) | exact HB.out)⟩⟩
          · intro H; have c42b0 := decide_eq_false c42; clear c42; revert H; refine adR fun H' => ?_; go_wp2; go_roundg k3
            case measure => have := HJ3.out; have := HK2.out; have := HK3.out; omega
            case rel => exact ⟨(wrap64 (x10_2 + 1)), (x362000_2), (x362001_2), (x362002_2), (x362003_2), (x375004_3), (u375004), eQ, H', ⟨by have := HJ3.out; have := HK2.out; have := HK3.out; omega⟩, ⟨Kd.R_i HO_375004.out⟩, ⟨bI BK361.out⟩, ⟨bI BK374.out⟩, ⟨hB⟩⟩
       · intro H; have c41b0 := beq_eq_false_iff_ne.mpr c41; have c41b1 := bne_iff_ne.mpr c41; simp only [Option.some.injEq, Prod.mk.injEq] at H; obtain ⟨rfl, rfl, rfl, rfl, rfl, rfl⟩ := H
         go_wp2_with (first | ((with_reducible refine gC 89 ?_); refine gL (some 79) Try.func89 #[.int .i64 a0, .int .i64 a1, .int .i64 x10_2] ?_; (with_reducible refine (spec_PassSize.calls k2 a0 a1 x10_2 t375 t376 _ A37.out).mono ?_); rintro e w' ⟨rfl, ⟨nd, rfl⟩⟩; refine ⟨_, rfl, ?_⟩; (try (rw [drewN_self wr]; generalize hq_ : World.drewN wr _ = wr; have n0_ : Aside0 (Kd.R (Kd.int .i64) 3 wr w.heap.size (fun _ => True) u375004 x375004_2) := ⟨by rw [← hq_]; exact (Kd.R_i HO_375004.out)⟩; have n1_ : Aside0 (wr.heap[gb361]? = some (.cells #[.int .i64 x362000_2, .int .i64 x362001_2, .int .i64 x362002_2, .int .i64 x362003_2, .slice none 0 0] 29 (0, 0))) := ⟨by rw [← hq_]; exact (bI BK361.out)⟩; have n2_ : Aside0 (wr.heap[gb374]? = some (.cells #[.int .i64 a0, .int .i64 a1, .int .i64 ((rd_T29 l2 0).f2), .int .i64 ((rd_T29 l2 0).f3), u375004] 29 (0, 0))) := ⟨by rw [← hq_]; exact (bI BK374.out)⟩; have n3_ : Aside0 (Below w.heap.size w wr) := ⟨by rw [← hq_]; exact hB⟩; clear HO_375004 BK361 BK374 HB hq_; have HO_375004 := n0_; have BK361 := n1_; have BK374 := n2_; have HB := n3_; clear n0_ n1_ n2_ n3_))) | ((with_reducible refine gC 90 ?_); refine gL (some 84) Try.func90 #[.int .i64 x10_2] ?_; (with_reducible refine (spec_PassStep.calls x10_2 t377 t378 t379 t380 _ A38.out).mono ?_); rintro e w' ⟨rfl, ⟨nd, rfl⟩⟩; refine ⟨_, rfl, ?_⟩; (try (rw [drewN_self wr]; generalize hq_ : World.drewN wr _ = wr; have n0_ : Aside0 (Kd.R (Kd.int .i64) 3 wr w.heap.size (fun _ => True) u375004 x375004_2) := ⟨by rw [← hq_]; exact (Kd.R_i HO_375004.out)⟩; have n1_ : Aside0 (wr.heap[gb361]? = some (.cells #[.int .i64 x362000_2, .int .i64 x362001_2, .int .i64 x362002_2, .int .i64 x362003_2, .slice none 0 0] 29 (0, 0))) := ⟨by rw [← hq_]; exact (bI BK361.out)⟩; have n2_ : Aside0 (wr.heap[gb374]? = some (.cells #[.int .i64 a0, .int .i64 a1, .int .i64 ((rd_T29 l2 0).f2), .int .i64 ((rd_T29 l2 0).f3), u375004] 29 (0, 0))) := ⟨by rw [← hq_]; exact (bI BK374.out)⟩; have n3_ : Aside0 (Below w.heap.size w wr) := ⟨by rw [← hq_]; exact hB⟩; clear HO_375004 BK361 BK374 HB hq_; have HO_375004 := n0_; have BK361 := n1_; have BK374 := n2_; have HB := n3_; clear n0_ n1_ n2_ n3_)); have p381 : 0 ≤ (x10_2 : Int) := bD; have q381 : x10_2 < (l2.length : Int) := bD; obtain ⟨ad381, A381_4, c381_4, e381, hx381_0, hx381_1, hx381_2, hx381_3, hx381_4, hl381_4, hi381_4⟩ := at_T29 HR2.out x10_2 p381 q381; obtain rfl : ad367 = ad381 := (by injection e381); replace hx381_0 := (HB.out.cell (World.block_lt_of_cell? w _ hx381_0)).trans hx381_0; replace hx381_1 := (HB.out.cell (World.block_lt_of_cell? w _ hx381_1)).trans hx381_1; replace hx381_2 := (HB.out.cell (World.block_lt_of_cell? w _ hx381_2)).trans hx381_2; replace hx381_3 := (HB.out.cell (World.block_lt_of_cell? w _ hx381_3)).trans hx381_3; replace hx381_4 := (HB.out.cell (World.block_lt_of_cell? w _ hx381_4)).trans hx381_4; have HR381_4 := aM hi381_4; have HC381_4 := aM hl381_4; clear hi381_4 hl381_4; replace p381 := eq_true p381; replace q381 := eq_true q381; have hnb55 := NB361_374.out; have hnc55 := NB374_361.out; obtain ⟨hcz56_0, hcz56_1, hcz56_2, hcz56_3, hcz56_4⟩ := blk_c5 BK361.out; obtain ⟨hfz56_0, hfz56_1, hfz56_2, hfz56_3, hfz56_4⟩ := blk_f5 BK361.out))
         refine bodyPost_ret (results_ct rfl _ _ gb361 29 #[.int .i64 0, .int .i64 0, .int .i64 0, .int .i64 0, .slice none 0 0] (0, 0) _ rfl kB Try.underlying29 rfl (by kernel_rfl)) rfl ?_; exact ⟨_, by first | rfl | (simp [errW_none, errW_some] <;> rfl) | (simp only [← hji21]; first | rfl | (simp [errW_none, errW_some] <;> rfl)) | (simp [*, errW_none, errW_some] <;> rfl), by first | exact Kd.R_nil _ _ _ _ _ | exact Kd.N_nil _ _ _ _ _ | exact Kd.V_nil _ _ _ _ _ | exact Kd.Q_nil _ _ _ _ _ | exact Kd.S_nil _ _ _ _ _, hB⟩
     · intro H; have c36b0 := decide_eq_false c36; clear c36; revert H; refine bdR fun ⟨t385, t388⟩ A57 => ?_; intro H
       try dsimp only at H
       revert H; refine adR fun H' => ?_; have hnb58 := NB374_361.out; have hnc58 := NB361_374.out; obtain ⟨hcz59_0, hcz59_1, hcz59_2, hcz59_3, hcz59_4⟩ := blk_c5 BK374.out; obtain ⟨hfz59_0, hfz59_1, hfz59_2, hfz59_3, hfz59_4⟩ := blk_f5 BK374.out; obtain ⟨Ao60, co60, eo60⟩ := Kd.R_slice HO_375004.out; subst eo60
       go_wp2_with (first | ((with_reducible refine gC 13 ?_); refine gL (some 153) Try.func13 #[.agg #[.int .i64 a0, .int .i64 a1, .int .i64 ((rd_T29 l2 0).f2), .int .i64 ((rd_T29 l2 0).f3), .slice Ao60 x375004_2.length co60]] ?_; (with_reducible refine (spec_PassesOf.calls k2 a0 a1 ((rd_T29 l2 0).f2) ((rd_T29 l2 0).f3) _ _ x375004_2 t385 t388 _ ?side1 ?side2 A57.out).mono ?_); (case side1 => repeat (first | exact (Kd.R_reads' HO_375004.out).2.2 | (with_reducible refine Kd.C_alloc ?_ _) | (with_reducible refine Kd.C_drewN ?_ _) | (with_reducible refine Kd.C_drew ?_))); (case side2 => exact (Kd.R_reads' HO_375004.out).2.1); rintro e w61 ⟨v386, rfl, ho0, hb⟩; refine ⟨_, rfl, ?_⟩; have HO387 := aM (Kd.S_lower (Kd.S_newB (Kd.S_newB (Kd.S_new' ho0 (Kd.R_lt (Kd.R_i HO_375004.out))) (g := gb361) (o := .cells #[.int .i64 x362000_2, .int .i64 x362001_2, .int .i64 x362002_2, .int .i64 x362003_2, .slice none 0 0] 29 (0, 0)) (bI BK361.out)) (g := gb374) (o := .cells #[.int .i64 a0, .int .i64 a1, .int .i64 ((rd_T29 l2 0).f2), .int .i64 ((rd_T29 l2 0).f3), .slice Ao60 x375004_2.length co60] 29 (0, 0)) (bI BK374.out)) (below_size hB)); replace HO_375004 := aM (Kd.R_below (Kd.R_i HO_375004.out) hb); replace BK361 := aM (blk_below (g := gb361) (o := .cells #[.int .i64 x362000_2, .int .i64 x362001_2, .int .i64 x362002_2, .int .i64 x362003_2, .slice none 0 0] 29 (0, 0)) (bI BK361.out) hb); replace BK374 := aM (blk_below (g := gb374) (o := .cells #[.int .i64 a0, .int .i64 a1, .int .i64 ((rd_T29 l2 0).f2), .int .i64 ((rd_T29 l2 0).f3), .slice Ao60 x375004_2.length co60] 29 (0, 0)) (bI BK374.out) hb); replace HB := aM (below_step hB hb); (try clear hb); (try clear hb2); (try clear hk); (try clear hi); (try clear ho0)))
       go_loopg [21, 22] k2 (fun kq v21 v22 w' => ∃ (x21_3 : Bool) (x22_3 : Int), v21 = .bool x21_3 ∧ v22 = .int .i64 x22_3 ∧ Aside0 (spec_FromPasses.l2 kq l2 t385 x21_3 x22_3 a0 a1 ((rd_T29 l2 0).f2) ((rd_T29 l2 0).f3) x375004_2 = some (r1, r2, r3, r4, r5, r6)) ∧ Aside0 (kq ≤ k2) ∧ Aside0 (Kd.S k29 29 w' w.heap.size (fun k_ => some k_ ≠ ((.slice Ao60 x375004_2.length co60) : Value).ownBlock ∧ k_ ≠ gb361 ∧ k_ ≠ gb374) v386 t385) ∧ Aside0 (Kd.R (Kd.int .i64) 3 w' w.heap.size (fun _ => True) (.slice Ao60 x375004_2.length co60) x375004_2) ∧ Aside0 (w'.heap[gb361]? = some (.cells #[.int .i64 x362000_2, .int .i64 x362001_2, .int .i64 x362002_2, .int .i64 x362003_2, (.slice none 0 0)] 29 (0, 0))) ∧ Aside0 (w'.heap[gb374]? = some (.cells #[.int .i64 a0, .int .i64 a1, .int .i64 ((rd_T29 l2 0).f2), .int .i64 ((rd_T29 l2 0).f3), (.slice Ao60 x375004_2.length co60)] 29 (0, 0))) ∧ Aside0 (Below w.heap.size w w'))
       case atStart => exact ⟨(t388), (0), eQ, eQ, H', ⟨Nat.le_refl _⟩, ⟨Kd.S_i (Kd.S_mono HO387.out (fun _ hk => ⟨hk.1.1.2, ⟨hk.1.2, hk.2⟩⟩))⟩, ⟨Kd.R_i HO_375004.out⟩, ⟨bI BK361.out⟩, ⟨bI BK374.out⟩, ⟨hB⟩⟩
       case round =>
        clear H'; (try clear c1); (try clear c2); (try clear p2); (try clear c3); (try clear p3); (try clear q3); (try clear hx3); (try clear qi3); (try clear c4); (try clear c5); (try clear p5); (try clear q5); (try clear hx5); (try clear hf5); (try clear p6); (try clear c7); (try clear c8); (try clear c9); (try clear c10); (try clear c10b0); (try clear c10b1); (try clear c11); (try clear c13); (try clear c17); (try clear c19); (try clear c19b0); (try clear c19b1); (try clear c22); (try clear c22b0); (try clear c22b1); (try clear c23); (try clear c23b0); (try clear c23b1); (try clear c36); (try clear c36b0); (try clear p36); (try clear q36); (try clear hx36); (try clear qi36); (try clear c37); (try clear p37); (try clear q37); (try clear hx37); (try clear qi37); (try clear c38); (try clear p38); (try clear q38); (try clear hx38); (try clear c39); (try clear c39b0); (try clear c40); (try clear c40b0); (try clear c41); (try clear c41b0); (try clear c41b1); (try clear c42); (try clear c42b0); (try clear c43); (try clear c43b0); (try clear c43b1); (try clear c44); (try clear c44b0); (try clear c44b1); (try clear c45); (try clear c45b0); (try clear c46); (try clear c46b0); (try clear c47); (try clear c47b0); (try clear c48); (try clear c48b0); (try clear c50); (try clear c50b0); (try clear c51); (try clear c51b0); (try clear p52); (try clear q52); (try clear hx52); (try clear hf52); (try clear c55); (try clear c58); (try clear hcz18_0 hcz18_1 hcz18_2 hcz18_3 hcz18_4); (try clear hcz56_0 hcz56_1 hcz56_2 hcz56_3 hcz56_4); (try clear hcz59_0 hcz59_1 hcz59_2 hcz59_3 hcz59_4); (try clear hfz18_0 hfz18_1 hfz18_2 hfz18_3 hfz18_4); (try clear hfz56_0 hfz56_1 hfz56_2 hfz56_3 hfz56_4); (try clear hfz59_0 hfz59_1 hfz59_2 hfz59_3 hfz59_4); (try clear hx367_0); (try clear hx367_1); (try clear hx367_2); (try clear hx367_3); (try clear hx367_4); (try clear hx369_0); (try clear hx369_1); (try clear hx369_2); (try clear hx369_3); (try clear hx369_4); (try clear hx370_0); (try clear hx370_1); (try clear hx370_2); (try clear hx370_3); (try clear hx370_4); (try clear hx381_0); (try clear hx381_1); (try clear hx381_2); (try clear hx381_3); (try clear hx381_4); (try clear hx382_0); (try clear hx382_1); (try clear hx382_2); (try clear hx382_3); (try clear hx382_4); (try clear hx383_0); (try clear hx52_0); (try clear p367); (try clear p369); (try clear p370); (try clear p381); (try clear p382); (try clear p383); (try clear q367); (try clear q369); (try clear q370); (try clear q381); (try clear q382); (try clear q383); obtain ⟨x21_3, x22_3, rfl, rfl, HA, HK3, HO_20, HO_375004, BK361, BK374, HB⟩ := hrel; rcases gk with _ | k3
        · exact absurd HA.out (by simp [spec_FromPasses.l2])
        revert HA; refine aoR ?_; intro H; simp only [spec_FromPasses.l2] at H; revert H
        refine ifB (fun c62 => ?_) (fun c62 => ?_)
        · intro H; have c62b0 := decide_eq_true c62; clear c62; revert H
          refine ifB (fun c63 => ?_) (fun c63 => ?_)
          · intro H; subst c63; revert H; refine ifR fun c64 => ?_; intro H; have c64b0 := decide_eq_true c64; clear c64; revert H; refine ifR fun c65 => ?_; intro H; have c65b0 := decide_eq_true c65; clear c65; revert H; refine ifR fun c66 => ?_; intro H; have c66b0 := decide_eq_true c66; clear c66; revert H; refine bdR fun t391 A67 => ?_; refine adR fun H' => ?_
            try go_wp2
            replace HO_20 := aM (Kd.S_drew HO_20.out); replace HO_375004 := aM (Kd.R_drew HO_375004.out); replace BK361 := aM (blk_drew BK361.out); replace BK374 := aM (blk_drew BK374.out); replace HB := aM (below_drew1 HB.out); obtain ⟨Ao69, co69, eo69⟩ := Kd.S_slice HO_20.out
            (first | subst eo69 | (injection eo69 with f1_ f2_ f3_; have f4_ := f1_.symm; have f5_ := f3_.symm; clear f1_ f2_ f3_; subst f4_; subst f5_)); have p389 : 0 ≤ (x22_3 : Int) := bD; have q389 : x22_3 < (t385.length : Int) := bD; obtain ⟨ad389, A389_4, c389_4, e389, hx389_0, hx389_1, hx389_2, hx389_3, hx389_4, hl389_4, hi389_4⟩ := at_T29 (Kd.S_reads' HO_20.out).2.2 x22_3 p389 q389; cases e389; obtain ⟨ce389, hce389, hMe389, hcc389⟩ := Kd.S_get HO_20.out z29 x22_3 p389 (by first | exact q389 | exact bD | (have e_ := (Kd.S_reads' HO_20.out).1; omega)); obtain ⟨ve389_4, rfl, ge389_4⟩ := k29_openM hMe389; have hv389_4 := hcc389 4 _ rfl
            rw [add_field _ _ 4 (by omega)] at hv389_4; replace hv389_4 := Option.some.inj (hv389_4.symm.trans hx389_4)
            rw [hv389_4] at ge389_4; have HL389_4 := aM (show Kd.R (Kd.int .i64) 3 _ _ _ _ ((rd_T29 t385 x22_3).f4) from ge389_4); clear hv389_4 ge389_4; clear hcc389 hce389; have HR389_4 := aM hi389_4; have HC389_4 := aM hl389_4; clear hi389_4 hl389_4; replace p389 := eq_true p389; replace q389 := eq_true q389; have p390 : 0 ≤ (x22_3 : Int) := bD; have q390 : x22_3 < (l2.length : Int) := bD; obtain ⟨ad390, A390_4, c390_4, e390, hx390_0, hx390_1, hx390_2, hx390_3, hx390_4, hl390_4, hi390_4⟩ := at_T29 HR2.out x22_3 p390 q390; have hw390_4 := hx390_4; have hw390_3 := hx390_3; have hw390_2 := hx390_2; have hw390_1 := hx390_1; have hw390_0 := hx390_0; obtain rfl : ad367 = ad390 := (by injection e390); replace hx390_0 := (HB.out.cell (World.block_lt_of_cell? w _ hx390_0)).trans hx390_0; replace hx390_1 := (HB.out.cell (World.block_lt_of_cell? w _ hx390_1)).trans hx390_1; replace hx390_2 := (HB.out.cell (World.block_lt_of_cell? w _ hx390_2)).trans hx390_2; replace hx390_3 := (HB.out.cell (World.block_lt_of_cell? w _ hx390_3)).trans hx390_3; replace hx390_4 := (HB.out.cell (World.block_lt_of_cell? w _ hx390_4)).trans hx390_4; have HR390_4 := aM hi390_4; have HC390_4 := aM hl390_4; clear hi390_4 hl390_4; replace p390 := eq_true p390; replace q390 := eq_true q390
            refine start_ (n := 10) (S := fun w' => w'.cell? (ad389.add ((x22_3).toNat * 5)) = some (.int .i64 ((rd_T29 t385 x22_3).f0)) ∧ w'.cell? ⟨(ad389.add ((x22_3).toNat * 5)).block, (ad389.add ((x22_3).toNat * 5)).off + 1, none⟩ = some (.int .i64 ((rd_T29 t385 x22_3).f1)) ∧ w'.cell? ⟨(ad389.add ((x22_3).toNat * 5)).block, (ad389.add ((x22_3).toNat * 5)).off + 2, none⟩ = some (.int .i64 ((rd_T29 t385 x22_3).f2)) ∧ w'.cell? ⟨(ad389.add ((x22_3).toNat * 5)).block, (ad389.add ((x22_3).toNat * 5)).off + 3, none⟩ = some (.int .i64 ((rd_T29 t385 x22_3).f3)) ∧ w'.cell? ⟨(ad389.add ((x22_3).toNat * 5)).block, (ad389.add ((x22_3).toNat * 5)).off + 4, none⟩ = some (.slice A389_4 ((rd_T29 t385 x22_3).f4).length c389_4) ∧ w'.cell? (ad367.add ((x22_3).toNat * 5)) = some (.int .i64 ((rd_T29 l2 x22_3).f0)) ∧ w'.cell? ⟨(ad367.add ((x22_3).toNat * 5)).block, (ad367.add ((x22_3).toNat * 5)).off + 1, none⟩ = some (.int .i64 ((rd_T29 l2 x22_3).f1)) ∧ w'.cell? ⟨(ad367.add ((x22_3).toNat * 5)).block, (ad367.add ((x22_3).toNat * 5)).off + 2, none⟩ = some (.int .i64 ((rd_T29 l2 x22_3).f2)) ∧ w'.cell? ⟨(ad367.add ((x22_3).toNat * 5)).block, (ad367.add ((x22_3).toNat * 5)).off + 3, none⟩ = some (.int .i64 ((rd_T29 l2 x22_3).f3)) ∧ w'.cell? ⟨(ad367.add ((x22_3).toNat * 5)).block, (ad367.add ((x22_3).toNat * 5)).off + 4, none⟩ = some (.slice A390_4 ((rd_T29 l2 x22_3).f4).length c390_4)) (ds := []) #[false, false, false, false, false, false, false, false, false, false] (by kernel_rfl) rfl rfl ⟨hx389_0, hx389_1, hx389_2, hx389_3, hx389_4, ((HB.out.cell (World.block_lt_of_cell? w _ hw390_0)).trans hw390_0), ((HB.out.cell (World.block_lt_of_cell? w _ hw390_1)).trans hw390_1), ((HB.out.cell (World.block_lt_of_cell? w _ hw390_2)).trans hw390_2), ((HB.out.cell (World.block_lt_of_cell? w _ hw390_3)).trans hw390_3), ((HB.out.cell (World.block_lt_of_cell? w _ hw390_4)).trans hw390_4)⟩ (fun hHeld => ?_); refine with_tabW spec_FromPasses.tab22 spec_FromPasses.bits22 (fun HT_ HW_ => ?_)
            generalize wr.drew = w68 at HO_20 HO_375004 BK361 BK374 HB HL389_4 HR389_4 HR390_4 hx389_0 hx389_1 hx389_2 hx389_3 hx389_4 hx390_0 hx390_1 hx390_2 hx390_3 hx390_4 hHeld ⊢; refine pU 0 163 (bAr 10 1) ?_; refine pU 1 164 (bAr 10 3) ?_; refine pU 2 165 (bAr 10 7) ?_; refine pU 4 167 (bAr 10 23) ?_; refine pU 5 168 (bAr 10 55) ?_; refine pU 6 169 (bAr 10 119) ?_
            refine take_ (i := 3) (N := some 166) (v := ?_) (a' := ?_) #[true, true, true, true, true, true, true, false, false, false] rfl rfl (take_ofW HT_.out HW_.out (by kernel_rfl)) (fun _ _ _ h => h) (Or.inl ⟨by rfl, ?_⟩) hHeld ?_ ?_; rotate_left
            · rintro w' ⟨s0, s1, s2, s3, s4, s5, s6, s7, s8, s9⟩
              go_simp; with_reducible rfl
            rotate_left
            · simp only [Act.put, List.setIfInBounds_toArray, List.set_cons_zero, List.set_cons_succ, i64_w, i32_w]
              rfl
            refine take_ (i := 7) (N := some 170) (v := ?_) (a' := ?_) #[true, true, true, true, true, true, true, true, false, false] rfl rfl (take_ofW HT_.out HW_.out (by kernel_rfl)) (fun _ _ _ h => h) (Or.inl ⟨by rfl, ?_⟩) hHeld ?_ ?_; rotate_left
            · rintro w' ⟨s0, s1, s2, s3, s4, s5, s6, s7, s8, s9⟩
              go_simp; with_reducible rfl
            rotate_left
            · simp only [Act.put, List.setIfInBounds_toArray, List.set_cons_zero, List.set_cons_succ, i64_w, i32_w]
              rfl
            refine one_ (i := 8) (N := some 171) #[true, true, true, true, true, true, true, true, true, false] rfl rfl (one_of HT_.out (by kernel_rfl)) (by decide) (fun K hK => ?_)
            refine goes_ Try.func91 (by kernel_rfl) rfl #[.agg #[.int .i64 ((rd_T29 t385 x22_3).f0), .int .i64 ((rd_T29 t385 x22_3).f1), .int .i64 ((rd_T29 t385 x22_3).f2), .int .i64 ((rd_T29 t385 x22_3).f3), .slice A389_4 ((rd_T29 t385 x22_3).f4).length c389_4], .agg #[.int .i64 ((rd_T29 l2 x22_3).f0), .int .i64 ((rd_T29 l2 x22_3).f1), .int .i64 ((rd_T29 l2 x22_3).f2), .int .i64 ((rd_T29 l2 x22_3).f3), .slice A390_4 ((rd_T29 l2 x22_3).f4).length c390_4]] (by rfl) rfl rfl (by (try simp only [List.map_toArray, List.map_cons, List.map_nil]); first | done | rfl | (simp only [List.length_drop, List.length_take]; rfl)) ?_
            with_reducible refine (spec_l14Same.calls k3 ((rd_T29 t385 x22_3).f0) ((rd_T29 t385 x22_3).f1) ((rd_T29 t385 x22_3).f2) ((rd_T29 t385 x22_3).f3) _ _ ((rd_T29 t385 x22_3).f4) ((rd_T29 l2 x22_3).f0) ((rd_T29 l2 x22_3).f1) ((rd_T29 l2 x22_3).f2) ((rd_T29 l2 x22_3).f3) _ _ ((rd_T29 l2 x22_3).f4) t391 _ ?side1 ?side2 ?side3 ?side4 A67.out).mono ?_
            (case side1 => repeat (first | exact (by repeat (first | (with_reducible exact HR389_4.out) | (with_reducible refine Kd.C_alloc ?_ _) | (with_reducible refine Kd.C_drewN ?_ _) | (with_reducible refine Kd.C_drew ?_) | exact HR389_4.out)) | (with_reducible refine Kd.C_alloc ?_ _) | (with_reducible refine Kd.C_drewN ?_ _) | (with_reducible refine Kd.C_drew ?_)))
            (case side2 => exact HC389_4.out)
            (case side3 => repeat (first | exact (Kd.C_below HR390_4.out HB.out) | (with_reducible refine Kd.C_alloc ?_ _) | (with_reducible refine Kd.C_drewN ?_ _) | (with_reducible refine Kd.C_drew ?_)))
            (case side4 => exact HC390_4.out)
            rintro e w70 ⟨rfl, hb⟩; have HS0_ := (hb.cell (World.block_lt_of_cell? _ _ (hHeld.1))).trans (hHeld.1); have HS1_ := (hb.cell (World.block_lt_of_cell? _ _ (hHeld.2.1))).trans (hHeld.2.1); have HS2_ := (hb.cell (World.block_lt_of_cell? _ _ (hHeld.2.2.1))).trans (hHeld.2.2.1); have HS3_ := (hb.cell (World.block_lt_of_cell? _ _ (hHeld.2.2.2.1))).trans (hHeld.2.2.2.1); have HS4_ := (hb.cell (World.block_lt_of_cell? _ _ (hHeld.2.2.2.2.1))).trans (hHeld.2.2.2.2.1)
            refine ⟨_, rfl, ?_⟩; replace HO_20 := aM (Kd.S_below (Kd.S_i HO_20.out) hb); replace HO_375004 := aM (Kd.R_below (Kd.R_i HO_375004.out) hb); replace HL389_4 := aM (Kd.R_below (Kd.R_i HL389_4.out) hb); replace BK361 := aM (blk_below (g := gb361) (o := .cells #[.int .i64 x362000_2, .int .i64 x362001_2, .int .i64 x362002_2, .int .i64 x362003_2, .slice none 0 0] 29 (0, 0)) (bI BK361.out) hb); replace BK374 := aM (blk_below (g := gb374) (o := .cells #[.int .i64 a0, .int .i64 a1, .int .i64 ((rd_T29 l2 0).f2), .int .i64 ((rd_T29 l2 0).f3), .slice Ao60 x375004_2.length co60] 29 (0, 0)) (bI BK374.out) hb); replace HR389_4 := aM (Kd.C_below (by repeat (first | (with_reducible exact HR389_4.out) | (with_reducible refine Kd.C_alloc ?_ _) | (with_reducible refine Kd.C_drewN ?_ _) | (with_reducible refine Kd.C_drew ?_) | exact HR389_4.out)) hb); replace HB := aM (below_step hB hb); (try clear hb); (try clear hb2); (try clear hk); (try clear hi)
            refine hK.out _ _ ⟨HS0_, HS1_, HS2_, HS3_, HS4_, ((HB.out.cell (World.block_lt_of_cell? w _ hw390_0)).trans hw390_0), ((HB.out.cell (World.block_lt_of_cell? w _ hw390_1)).trans hw390_1), ((HB.out.cell (World.block_lt_of_cell? w _ hw390_2)).trans hw390_2), ((HB.out.cell (World.block_lt_of_cell? w _ hw390_3)).trans hw390_3), ((HB.out.cell (World.block_lt_of_cell? w _ hw390_4)).trans hw390_4)⟩ (fun hHeld => ?_); clear hK K
            refine norm_ (a' := ?_) ?_ ?_; rotate_left
            · show Act.put _ (some 171) _ = _
              simp only [Act.put, List.setIfInBounds_toArray, List.set_cons_zero, List.set_cons_succ, i64_w, i32_w]
              rfl
            refine pU 9 21 (bAr 10 1023) ?_
            refine done_ (done_of HT_.out (by kernel_rfl)) ?_
            try go_wp2
            go_roundg k3
            case measure => have := HJ3.out; have := HK2.out; have := HK3.out; omega
            case rel => exact ⟨(t391), (wrap64 (x22_3 + 1)), eQ, eQ, H', ⟨by have := HJ3.out; have := HK2.out; have := HK3.out; omega⟩, ⟨Kd.S_i HO_20.out⟩, ⟨Kd.R_i HO_375004.out⟩, ⟨bI BK361.out⟩, ⟨bI BK374.out⟩, ⟨hB⟩⟩
          · intro H; replace c63 := Bool.eq_false_iff.mpr c63; subst c63; simp only [Option.some.injEq, Prod.mk.injEq] at H; obtain ⟨rfl, rfl, rfl, rfl, rfl, rfl⟩ := H; have hnb71 := NB361_374.out; have hnc71 := NB374_361.out; obtain ⟨hcz72_0, hcz72_1, hcz72_2, hcz72_3, hcz72_4⟩ := blk_c5 BK361.out; obtain ⟨hfz72_0, hfz72_1, hfz72_2, hfz72_3, hfz72_4⟩ := blk_f5 BK361.out; go_wp2
            refine bodyPost_ret (results_ct rfl _ _ gb361 29 #[.int .i64 0, .int .i64 0, .int .i64 0, .int .i64 0, .slice none 0 0] (0, 0) _ rfl kB Try.underlying29 rfl (by kernel_rfl)) rfl ?_; exact ⟨_, by first | rfl | (simp [errW_none, errW_some] <;> rfl) | (simp only [← hji21]; first | rfl | (simp [errW_none, errW_some] <;> rfl)) | (simp [*, errW_none, errW_some] <;> rfl), by first | exact Kd.R_nil _ _ _ _ _ | exact Kd.N_nil _ _ _ _ _ | exact Kd.V_nil _ _ _ _ _ | exact Kd.Q_nil _ _ _ _ _ | exact Kd.S_nil _ _ _ _ _, hB⟩
        · intro H; have c62b0 := decide_eq_false c62; clear c62; revert H
          refine ifB (fun c73 => ?_) (fun c73 => ?_)
          · intro H; subst c73; simp only [Option.some.injEq, Prod.mk.injEq] at H; obtain ⟨rfl, rfl, rfl, rfl, rfl, rfl⟩ := H; have hnb74 := NB374_361.out; have hnc74 := NB361_374.out; obtain ⟨hcz75_0, hcz75_1, hcz75_2, hcz75_3, hcz75_4⟩ := blk_c5 BK374.out; obtain ⟨hfz75_0, hfz75_1, hfz75_2, hfz75_3, hfz75_4⟩ := blk_f5 BK374.out; obtain ⟨hcz76_0, hcz76_1, hcz76_2, hcz76_3, hcz76_4⟩ := blk_c5 BK361.out; obtain ⟨hfz76_0, hfz76_1, hfz76_2, hfz76_3, hfz76_4⟩ := blk_f5 BK361.out; go_wp2
            refine bodyPost_ret (results_ct rfl _ _ gb361 29 #[.int .i64 a0, .int .i64 a1, .int .i64 ((rd_T29 l2 0).f2), .int .i64 ((rd_T29 l2 0).f3), .slice Ao60 x375004_2.length co60] (0, 0) _ rfl kB Try.underlying29 rfl (by kernel_rfl)) rfl ?_; exact ⟨_, by first | rfl | (simp [errW_none, errW_some] <;> rfl) | (simp only [← hji21]; first | rfl | (simp [errW_none, errW_some] <;> rfl)) | (simp [*, errW_none, errW_some] <;> rfl), Kd.R_i (Kd.R_mono (Kd.R_far (p := ⟨gb361, 4, none⟩) (Kd.R_far (p := ⟨gb361, 3, none⟩) (Kd.R_far (p := ⟨gb361, 2, none⟩) (Kd.R_far (p := ⟨gb361, 1, none⟩) (Kd.R_far (p := ⟨gb361, 0, none⟩) (Kd.R_types HO_375004.out BK361.out (by decide)) (fun _ hk => hk.2) (.int .i64 a0)) (fun _ hk => hk.2) (.int .i64 a1)) (fun _ hk => hk.2) (.int .i64 ((rd_T29 l2 0).f2))) (fun _ hk => hk.2) (.int .i64 ((rd_T29 l2 0).f3))) (fun _ hk => hk.2) (.slice Ao60 x375004_2.length co60)) (fun _ hk => trivial)), hB⟩
          · intro H; replace c73 := Bool.eq_false_iff.mpr c73; subst c73; simp only [Option.some.injEq, Prod.mk.injEq] at H; obtain ⟨rfl, rfl, rfl, rfl, rfl, rfl⟩ := H; have hnb77 := NB361_374.out; have hnc77 := NB374_361.out; obtain ⟨hcz78_0, hcz78_1, hcz78_2, hcz78_3, hcz78_4⟩ := blk_c5 BK361.out; obtain ⟨hfz78_0, hfz78_1, hfz78_2, hfz78_3, hfz78_4⟩ := blk_f5 BK361.out; go_wp2
            refine bodyPost_ret (results_ct rfl _ _ gb361 29 #[.int .i64 0, .int .i64 0, .int .i64 0, .int .i64 0, .slice none 0 0] (0, 0) _ rfl kB Try.underlying29 rfl (by kernel_rfl)) rfl ?_; exact ⟨_, by first | rfl | (simp [errW_none, errW_some] <;> rfl) | (simp only [← hji21]; first | rfl | (simp [errW_none, errW_some] <;> rfl)) | (simp [*, errW_none, errW_some] <;> rfl), by first | exact Kd.R_nil _ _ _ _ _ | exact Kd.N_nil _ _ _ _ _ | exact Kd.V_nil _ _ _ _ _ | exact Kd.Q_nil _ _ _ _ _ | exact Kd.S_nil _ _ _ _ _, hB⟩

end Go.Proofs.Ytajnobmnkbkkgaa.PFnExactScanRead
