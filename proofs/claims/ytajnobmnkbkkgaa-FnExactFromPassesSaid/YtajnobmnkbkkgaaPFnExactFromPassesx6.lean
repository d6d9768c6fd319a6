/- Walks of functions that the law FnExactFromPasses reaches: each call comes to what the Lean function of its name tells. Written by p2.py, a program of this session, turned by mendwr.py, by way of the kit's print. -/
import Derived.Test.YtajnobmnkbkkgaaVFnExactFromPasses
import Derived.Test.YtajnobmnkbkkgaaPFnExactFromPassesx0
import Derived.Test.YtajnobmnkbkkgaaPFnExactFromPassesx2
import Derived.Test.YtajnobmnkbkkgaaPFnExactFromPassesx4
import Derived.Test.YtajnobmnkbkkgaaPFnExactFromPassesx5
namespace Go.Proofs.Ytajnobmnkbkkgaa.PFnExactFromPasses
open Go.RowKit Go.Proofs.YtajnobmnkbkkgaaW.PrintWords Go.Proofs.YtajnobmnkbkkgaaW.PrintLast Go.Proofs.YtajnobmnkbkkgaaW.PrintMore
attribute [local go_sem] max2_int min2_int max_two min_two max_three min_three max_four min_four   -- for this text's walks alone
set_option linter.unusedVariables false
set_option linter.unusedSimpArgs false

/-! ### spec_FromPasses: function 35 -/
mutual
def spec_FromPasses.j0 : Nat → Int → Int → List (S29) → Bool → Option (Int × Int × Int × Int × List Int × Bool)
  | 0, _, _, _, _ => none
  | k + 1, x0, x1, x2, x47 => if x47 = true then (some (0, 0, 0, 0, ([] : List Int), false)) else (if 0 < (x2.length : Int) then ((spec_ChannelsOf.f k ((rd_T29 x2 0).f2)).bind fun t179 => (if 0 ≤ (wrap64 ((wrap64 (x0 * x1)) * t179)) then (if (wrap64 ((wrap64 (x0 * x1)) * t179) : Int).toNat ≤ 35184372088832 then (spec_FromPasses.l0 k x0 x1 x2 t179 0 x0 x1 ((rd_T29 x2 0).f2) ((rd_T29 x2 0).f3) (List.replicate (wrap64 ((wrap64 (x0 * x1)) * t179) : Int).toNat 0)) else (none)) else (none))) else (none))
def spec_FromPasses.l0 : Nat → Int → Int → List (S29) → Int → Int → Int → Int → Int → Int → List Int → Option (Int × Int × Int × Int × List Int × Bool)
  | 0, _, _, _, _, _, _, _, _, _, _ => none
  | k + 1, x0, x1, x2, x8, x10, x186000, x186001, x186002, x186003, x186004 => if x10 < 7 then ((spec_PassSize.f k x0 x1 x10).bind fun bt186 => ((spec_PassStep.f x10).bind fun bt188 => (if 0 ≤ x10 then (if x10 < (x2.length : Int) then (if (((rd_T29 x2 x10).f4).length : Int) = (wrap64 ((wrap64 (bt186.1 * bt186.2)) * x8)) then (spec_FromPasses.l1 k x0 x1 x2 x8 x10 bt186.1 bt186.2 bt188.1 bt188.2.1 bt188.2.2.1 bt188.2.2.2 0 x186000 x186001 x186002 x186003 x186004) else (some (0, 0, 0, 0, ([] : List Int), false))) else (none)) else (none)))) else ((spec_PassesOf.f k x186000 x186001 x186002 x186003 x186004).bind fun bt196 => (spec_FromPasses.l2 k x2 bt196.1 bt196.2 0 x186000 x186001 x186002 x186003 x186004))
def spec_FromPasses.l1 : Nat → Int → Int → List (S29) → Int → Int → Int → Int → Int → Int → Int → Int → Int → Int → Int → Int → Int → List Int → Option (Int × Int × Int × Int × List Int × Bool)
  | 0, _, _, _, _, _, _, _, _, _, _, _, _, _, _, _, _, _ => none
  | k + 1, x0, x1, x2, x8, x10, x11, x12, x13, x14, x15, x16, x17, x186000, x186001, x186002, x186003, x186004 => if x17 < (wrap64 ((wrap64 (x11 * x12)) * x8)) then (if x8 = 0 then (none) else (if x11 = 0 then (none) else (if 0 ≤ x10 then (if x10 < (x2.length : Int) then (if 0 ≤ x17 then (if x17 < (((rd_T29 x2 x10).f4).length : Int) then (if 0 ≤ (wrap64 ((wrap64 ((wrap64 ((wrap64 ((wrap64 ((wrap64 (x14 + (wrap64 ((wrap64 (Int.tdiv (wrap64 (Int.tdiv x17 x8)) x11)) * x16)))) * x0)) + x13)) + (wrap64 ((Int.tmod (wrap64 (Int.tdiv x17 x8)) x11) * x15)))) * x8)) + (Int.tmod x17 x8))) then (if (wrap64 ((wrap64 ((wrap64 ((wrap64 ((wrap64 ((wrap64 (x14 + (wrap64 ((wrap64 (Int.tdiv (wrap64 (Int.tdiv x17 x8)) x11)) * x16)))) * x0)) + x13)) + (wrap64 ((Int.tmod (wrap64 (Int.tdiv x17 x8)) x11) * x15)))) * x8)) + (Int.tmod x17 x8))) < (x186004.length : Int) then (spec_FromPasses.l1 k x0 x1 x2 x8 x10 x11 x12 x13 x14 x15 x16 (wrap64 (x17 + 1)) x186000 x186001 x186002 x186003 (x186004.set ((wrap64 ((wrap64 ((wrap64 ((wrap64 ((wrap64 ((wrap64 (x14 + (wrap64 ((wrap64 (Int.tdiv (wrap64 (Int.tdiv x17 x8)) x11)) * x16)))) * x0)) + x13)) + (wrap64 ((Int.tmod (wrap64 (Int.tdiv x17 x8)) x11) * x15)))) * x8)) + (Int.tmod x17 x8))) : Int).toNat (rd ((rd_T29 x2 x10).f4) x17))) else (none)) else (none)) else (none)) else (none)) else (none)) else (none)))) else (spec_FromPasses.l0 k x0 x1 x2 x8 (wrap64 (x10 + 1)) x186000 x186001 x186002 x186003 x186004)
def spec_FromPasses.l2 : Nat → List (S29) → List (S29) → Bool → Int → Int → Int → Int → Int → List Int → Option (Int × Int × Int × Int × List Int × Bool)
  | 0, _, _, _, _, _, _, _, _, _ => none
  | k + 1, x2, x20, x21, x22, x186000, x186001, x186002, x186003, x186004 => if x22 < 7 then (if x21 = true then (if 0 ≤ x22 then (if x22 < (x20.length : Int) then (if x22 < (x2.length : Int) then ((spec_l14Same.f k ((rd_T29 x20 x22).f0) ((rd_T29 x20 x22).f1) ((rd_T29 x20 x22).f2) ((rd_T29 x20 x22).f3) ((rd_T29 x20 x22).f4) ((rd_T29 x2 x22).f0) ((rd_T29 x2 x22).f1) ((rd_T29 x2 x22).f2) ((rd_T29 x2 x22).f3) ((rd_T29 x2 x22).f4)).bind fun t202 => (spec_FromPasses.l2 k x2 x20 t202 (wrap64 (x22 + 1)) x186000 x186001 x186002 x186003 x186004)) else (none)) else (none)) else (none)) else (some (0, 0, 0, 0, ([] : List Int), false))) else (if x21 = true then (some (x186000, x186001, x186002, x186003, x186004, true)) else (some (0, 0, 0, 0, ([] : List Int), false)))
end
def spec_FromPasses.f (k : Nat) (a0 : Int) (a1 : Int) (l2 : List (S29)) : Option (Int × Int × Int × Int × List Int × Bool) := (spec_l12Side.f a0).bind fun t173 => (if t173 = true then ((spec_l12Side.f a1).bind fun t174 => (if t174 = true then (if (l2.length : Int) = 7 then (if 0 < (l2.length : Int) then ((spec_DepthOk.f k ((rd_T29 l2 0).f2) ((rd_T29 l2 0).f3)).bind fun t177 => (spec_FromPasses.j0 k a0 a1 l2 (!t177))) else (none)) else (spec_FromPasses.j0 k a0 a1 l2 true)) else (spec_FromPasses.j0 k a0 a1 l2 true))) else (spec_FromPasses.j0 k a0 a1 l2 true))
def spec_FromPasses.T1 : Bool × List (List Nat × List Nat) := (true, [([], []), ([0], [0]), ([1], [1]), ([2, 1], [2]), ([3], [3]), ([4, 3, 3], [3, 4]), ([5, 3], [3, 5]), ([3, 6], [3, 6]), ([7, 5], [7]), ([8], [8]), ([9, 8], [8, 9]), ([10, 8], [8, 10]), ([8, 11], [8, 11]), ([12, 8], [12]), ([13], [13]), ([14, 13], [13, 14]), ([15, 13], [13, 15]), ([16, 13], [13, 16]), ([13], [13]), ([18, 13], [13, 18]), ([19, 13], [13, 19]), ([20, 13], [13, 20]), ([17, 21, 13, 13], [13, 17, 21]), ([22, 13], [13, 22]), ([13, 23], [13, 23])])
def spec_FromPasses.B1 : List Nat := [0, 1, 3, 7, 15, 31, 63, 127, 255, 511, 1023, 2047, 4095, 8191, 16383, 32767, 65535, 131071, 16383, 278527, 802815, 1851391, 4194303, 8388607, 16777215]
theorem spec_FromPasses.tab1 : rtab .any (opsOf Try.f35 1) = spec_FromPasses.T1 := by kernel_rfl
theorem spec_FromPasses.bits1 : waitsOk spec_FromPasses.T1.2 spec_FromPasses.B1 = true := by kernel_rfl
def spec_FromPasses.T4 : Bool × List (List Nat × List Nat) := (true, [([], []), ([], []), ([], []), ([2], [2]), ([3], [3]), ([4], [4]), ([], []), ([6], [6]), ([7], [7]), ([8], [8]), ([], []), ([], []), ([10, 11], [10, 11]), ([], []), ([12, 13], [12, 13]), ([14, 14], [14]), ([0, 1, 5, 9, 15], [0, 1, 5, 9, 15]), ([], []), ([17, 16, 0, 1, 2, 3, 4, 5, 6, 7, 8, 9, 10, 11, 12, 13, 14, 15, 16, 17], [16, 17])])
def spec_FromPasses.B4 : List Nat := [0, 0, 0, 4, 12, 28, 0, 64, 192, 448, 0, 0, 3072, 0, 15360, 31744, 65535, 0, 262143]
theorem spec_FromPasses.tab4 : rtab .any (opsOf Try.f35 4) = spec_FromPasses.T4 := by kernel_rfl
theorem spec_FromPasses.bits4 : waitsOk spec_FromPasses.T4.2 spec_FromPasses.B4 = true := by kernel_rfl
def spec_FromPasses.T17 : Bool × List (List Nat × List Nat) := (true, [([], []), ([0], [0]), ([], []), ([], []), ([], []), ([3, 4], [3, 4]), ([2, 5], [2, 5]), ([], []), ([6, 7], [6, 7]), ([], []), ([8, 9], [8, 9]), ([], []), ([], []), ([11, 12], [11, 12]), ([10, 13], [10, 13]), ([], []), ([14, 15], [14, 15]), ([], []), ([], []), ([17, 18], [17, 18]), ([16, 19], [16, 19]), ([], []), ([], []), ([21, 22], [21, 22]), ([23], [23]), ([24], [24]), ([], []), ([25, 26], [25, 26]), ([27], [27]), ([1, 20, 0, 1, 2, 3, 4, 5, 6, 7, 8, 9, 10, 11, 12, 13, 14, 15, 16, 17, 18, 19, 20, 21, 22, 23, 24, 25, 26, 27, 28], [1, 20]), ([29, 28, 0, 1, 2, 3, 4, 5, 6, 7, 8, 9, 10, 11, 12, 13, 14, 15, 16, 17, 18, 19, 20, 21, 22, 23, 24, 25, 26, 27, 28], [28, 29])])
def spec_FromPasses.B17 : List Nat := [0, 1, 0, 0, 0, 24, 60, 0, 252, 0, 1020, 0, 0, 6144, 16380, 0, 65532, 0, 0, 393216, 1048572, 0, 0, 6291456, 14680064, 31457280, 0, 132120576, 266338304, 536870911, 1073741823]
theorem spec_FromPasses.tab17 : rtab .any (opsOf Try.f35 17) = spec_FromPasses.T17 := by kernel_rfl
theorem spec_FromPasses.bits17 : waitsOk spec_FromPasses.T17.2 spec_FromPasses.B17 = true := by kernel_rfl
def spec_FromPasses.T22 : Bool × List (List Nat × List Nat) := (true, [([], []), ([], []), ([0, 1], [0, 1]), ([2], [2]), ([], []), ([], []), ([4, 5], [4, 5]), ([6], [6]), ([3, 7], [3, 7]), ([8, 8, 0, 1, 2, 3, 4, 5, 6, 7, 8], [8])])
def spec_FromPasses.B22 : List Nat := [0, 0, 3, 7, 0, 0, 48, 112, 255, 511]
theorem spec_FromPasses.tab22 : rtab .any (opsOf Try.f35 22) = spec_FromPasses.T22 := by kernel_rfl
theorem spec_FromPasses.bits22 : waitsOk spec_FromPasses.T22.2 spec_FromPasses.B22 = true := by kernel_rfl
set_option maxHeartbeats 8000000 in
set_option maxRecDepth 100000 in
theorem spec_FromPasses.calls (k : Nat) (a0 : Int) (a1 : Int) (A2 : Option Addr) (c2 : Nat) (l2 : List (S29)) (r1 : Int) (r2 : Int) (r3 : Int) (r4 : Int) (r5 : List Int) (r6 : Bool) (w : World) (hr2 : Kd.C k29 w A2 l2.length l2) (hc2 : l2.length ≤ c2) (h : spec_FromPasses.f k a0 a1 l2 = some (r1, r2, r3, r4, r5, r6)) :
 Calls Try.prog 35 #[.int .i64 a0, .int .i64 a1, .slice A2 l2.length c2] w fun e w' => ∃ v4_ : Value, e = .returned (.tuple #[.agg #[.int .i64 r1, .int .i64 r2, .int .i64 r3, .int .i64 r4, v4_], .bool r6]) ∧ Kd.R (Kd.int .i64) 3 w' w.heap.size (fun _ => True) v4_ r5 ∧ Below w.heap.size w w' := by
 have hu29 := Try.underlying29; have HR2 := aM hr2; have HC2 := aM hc2; clear hr2 hc2; have HB := aM (Below.refl w.heap.size w); unfold spec_FromPasses.f at h; have H := h; clear h; revert H; refine adR fun HC4 => ?_; go_enter Try.func35, Try.ntmps35
 go_upto_region 1 with (first | ((with_reducible refine gD 6 ?_); (try (refine gate_guard (by rfl) ?_; dsimp only)); refine bE 6 #[.int .i64 0, .int .i64 0, .int .i64 0, .int .i64 0, .slice none 0 0] 29 ?_; intro gb172 hg w5 hbox hb; have BK172 := aM hbox; have GW172 := aM (sZ hg); have GE172 := GW172; replace HB := hS hb; clear hb hbox hg))
 (try simp only [Act.put, List.setIfInBounds_toArray, List.set_cons_zero, List.set_cons_succ])
 go_cut [47] (fun v47 wc => ∃ (kq : Nat) (x47_3 : Bool), v47 = .bool x47_3 ∧ Aside0 (spec_FromPasses.j0 kq a0 a1 l2 x47_3 = some (r1, r2, r3, r4, r5, r6)) ∧ Aside0 (kq ≤ k) ∧ Aside0 (wc.heap[gb172]? = some (.cells #[.int .i64 0, .int .i64 0, .int .i64 0, .int .i64 0, (.slice none 0 0)] 29 (0, 0))) ∧ Aside0 (Below w.heap.size w wc))
 case first =>
  revert HC4; refine aoR ?_; refine bdR fun t173 A6 => ?_
  refine ifB (fun c7 => ?_) (fun c7 => ?_)
  · intro H; subst c7; revert H; refine bdR fun t174 A8 => ?_
    refine ifB (fun c9 => ?_) (fun c9 => ?_)
    · intro H; subst c9; revert H
      refine ifB (fun c10 => ?_) (fun c10 => ?_)
      · intro H; have c10b0 := beq_iff_eq.mpr c10; have c10b1 := bne_eq_false_iff_eq.mpr c10; clear c10
        (first | rw [c10b0] | (simp only [i64_w, i32_w]; rw [c10b0]) | skip); revert H; refine ifR fun c11 => ?_; intro H; have c11b0 := decide_eq_true c11; have c11b1 : decide (0 < l2.length) = true := decide_eq_true (by omega); clear c11; revert H; refine bdR fun t177 A12 => ?_; refine adR fun H' => ?_
        try go_wp2
        replace BK172 := aM (blk_drew BK172.out); replace HB := aM (below_drew1 HB.out); have p175 : 0 ≤ (0 : Int) := (by omega); have q175 : 0 < (l2.length : Int) := bD; obtain ⟨ad175, A175_4, c175_4, e175, hx175_0, hx175_1, hx175_2, hx175_3, hx175_4, hl175_4, hi175_4⟩ := at_T29 HR2.out 0 p175 q175; have hw175_4 := hx175_4
        (try rw [show ((0 : Int)).toNat = 0 from rfl] at hw175_4)
        (try rw [show 0 * 5 = 0 from rfl] at hw175_4)
        (try rw [Addr.add_zero'] at hw175_4); have hw175_3 := hx175_3
        (try rw [show ((0 : Int)).toNat = 0 from rfl] at hw175_3)
        (try rw [show 0 * 5 = 0 from rfl] at hw175_3)
        (try rw [Addr.add_zero'] at hw175_3); have hw175_2 := hx175_2
        (try rw [show ((0 : Int)).toNat = 0 from rfl] at hw175_2)
        (try rw [show 0 * 5 = 0 from rfl] at hw175_2)
        (try rw [Addr.add_zero'] at hw175_2); have hw175_1 := hx175_1
        (try rw [show ((0 : Int)).toNat = 0 from rfl] at hw175_1)
        (try rw [show 0 * 5 = 0 from rfl] at hw175_1)
        (try rw [Addr.add_zero'] at hw175_1); have hw175_0 := hx175_0
        (try rw [show ((0 : Int)).toNat = 0 from rfl] at hw175_0)
        (try rw [show 0 * 5 = 0 from rfl] at hw175_0)
        (try rw [Addr.add_zero'] at hw175_0); cases e175; have qi175 : (0 < l2.length) = True := eq_true (by omega)
        (try rw [show ((0 : Int)).toNat = 0 from rfl] at hx175_0)
        (try rw [show 0 * 5 = 0 from rfl] at hx175_0)
        (try rw [Addr.add_zero'] at hx175_0)
        (try rw [show ((0 : Int)).toNat = 0 from rfl] at hx175_1)
        (try rw [show 0 * 5 = 0 from rfl] at hx175_1)
        (try rw [Addr.add_zero'] at hx175_1)
        (try rw [show ((0 : Int)).toNat = 0 from rfl] at hx175_2)
        (try rw [show 0 * 5 = 0 from rfl] at hx175_2)
        (try rw [Addr.add_zero'] at hx175_2)
        (try rw [show ((0 : Int)).toNat = 0 from rfl] at hx175_3)
        (try rw [show 0 * 5 = 0 from rfl] at hx175_3)
        (try rw [Addr.add_zero'] at hx175_3)
        (try rw [show ((0 : Int)).toNat = 0 from rfl] at hx175_4)
        (try rw [show 0 * 5 = 0 from rfl] at hx175_4)
        (try rw [Addr.add_zero'] at hx175_4); replace hx175_0 := cB0 HB hx175_0; replace hx175_1 := cB0 HB hx175_1; replace hx175_2 := cB0 HB hx175_2; replace hx175_3 := cB0 HB hx175_3; replace hx175_4 := cB0 HB hx175_4; have HR175_4 := aM hi175_4; have HC175_4 := aM hl175_4; clear hi175_4 hl175_4; replace p175 := eq_true p175; replace q175 := eq_true q175; have p176 : 0 ≤ (0 : Int) := (by omega); have q176 : 0 < (l2.length : Int) := bD; obtain ⟨ad176, A176_4, c176_4, e176, hx176_0, hx176_1, hx176_2, hx176_3, hx176_4, hl176_4, hi176_4⟩ := at_T29 HR2.out 0 p176 q176; have hw176_4 := hx176_4
        (try rw [show ((0 : Int)).toNat = 0 from rfl] at hw176_4)
        (try rw [show 0 * 5 = 0 from rfl] at hw176_4)
        (try rw [Addr.add_zero'] at hw176_4); have hw176_3 := hx176_3
        (try rw [show ((0 : Int)).toNat = 0 from rfl] at hw176_3)
        (try rw [show 0 * 5 = 0 from rfl] at hw176_3)
        (try rw [Addr.add_zero'] at hw176_3); have hw176_2 := hx176_2
        (try rw [show ((0 : Int)).toNat = 0 from rfl] at hw176_2)
        (try rw [show 0 * 5 = 0 from rfl] at hw176_2)
        (try rw [Addr.add_zero'] at hw176_2); have hw176_1 := hx176_1
        (try rw [show ((0 : Int)).toNat = 0 from rfl] at hw176_1)
        (try rw [show 0 * 5 = 0 from rfl] at hw176_1)
        (try rw [Addr.add_zero'] at hw176_1); have hw176_0 := hx176_0
        (try rw [show ((0 : Int)).toNat = 0 from rfl] at hw176_0)
        (try rw [show 0 * 5 = 0 from rfl] at hw176_0)
        (try rw [Addr.add_zero'] at hw176_0); obtain rfl : ad175 = ad176 := (by injection e176); have qi176 : (0 < l2.length) = True := eq_true (by omega)
        (try rw [show ((0 : Int)).toNat = 0 from rfl] at hx176_0)
        (try rw [show 0 * 5 = 0 from rfl] at hx176_0)
        (try rw [Addr.add_zero'] at hx176_0)
        (try rw [show ((0 : Int)).toNat = 0 from rfl] at hx176_1)
        (try rw [show 0 * 5 = 0 from rfl] at hx176_1)
        (try rw [Addr.add_zero'] at hx176_1)
        (try rw [show ((0 : Int)).toNat = 0 from rfl] at hx176_2)
        (try rw [show 0 * 5 = 0 from rfl] at hx176_2)
        (try rw [Addr.add_zero'] at hx176_2)
        (try rw [show ((0 : Int)).toNat = 0 from rfl] at hx176_3)
        (try rw [show 0 * 5 = 0 from rfl] at hx176_3)
        (try rw [Addr.add_zero'] at hx176_3)
        (try rw [show ((0 : Int)).toNat = 0 from rfl] at hx176_4)
        (try rw [show 0 * 5 = 0 from rfl] at hx176_4)
        (try rw [Addr.add_zero'] at hx176_4); replace hx176_0 := cB0 HB hx176_0; replace hx176_1 := cB0 HB hx176_1; replace hx176_2 := cB0 HB hx176_2; replace hx176_3 := cB0 HB hx176_3; replace hx176_4 := cB0 HB hx176_4; have HR176_4 := aM hi176_4; have HC176_4 := aM hl176_4; clear hi176_4 hl176_4; replace p176 := eq_true p176; replace q176 := eq_true q176; have ea_ := Option.some.inj (hx175_4.symm.trans hx176_4)
        injection ea_ with ea_ en_ ec_; subst ea_; subst ec_; clear en_
        refine start_ (n := 25) (S := fun w' => w'.cell? ad175 = some (.int .i64 ((rd_T29 l2 0).f0)) ∧ w'.cell? ⟨ad175.block, ad175.off + 1, none⟩ = some (.int .i64 ((rd_T29 l2 0).f1)) ∧ w'.cell? ⟨ad175.block, ad175.off + 2, none⟩ = some (.int .i64 ((rd_T29 l2 0).f2)) ∧ w'.cell? ⟨ad175.block, ad175.off + 3, none⟩ = some (.int .i64 ((rd_T29 l2 0).f3)) ∧ w'.cell? ⟨ad175.block, ad175.off + 4, none⟩ = some (.slice A175_4 ((rd_T29 l2 0).f4).length c175_4) ∧ w'.cell? ad175 = some (.int .i64 ((rd_T29 l2 0).f0)) ∧ w'.cell? ⟨ad175.block, ad175.off + 1, none⟩ = some (.int .i64 ((rd_T29 l2 0).f1)) ∧ w'.cell? ⟨ad175.block, ad175.off + 2, none⟩ = some (.int .i64 ((rd_T29 l2 0).f2)) ∧ w'.cell? ⟨ad175.block, ad175.off + 3, none⟩ = some (.int .i64 ((rd_T29 l2 0).f3)) ∧ w'.cell? ⟨ad175.block, ad175.off + 4, none⟩ = some (.slice A175_4 ((rd_T29 l2 0).f4).length c175_4)) (ds := []) (bAr 25 0) (by kernel_rfl) rfl rfl ⟨(cB HB hw175_0), (cB HB hw175_1), (cB HB hw175_2), (cB HB hw175_3), (cB HB hw175_4), (cB HB hw176_0), (cB HB hw176_1), (cB HB hw176_2), (cB HB hw176_3), (cB HB hw176_4)⟩ (fun hHeld => ?_); refine with_tabW spec_FromPasses.tab1 spec_FromPasses.bits1 (fun HT_ HW_ => ?_)
        generalize w5.drew = w13 at BK172 HB HR175_4 HR176_4 hx175_0 hx175_1 hx175_2 hx175_3 hx175_4 hx176_0 hx176_1 hx176_2 hx176_3 hx176_4 hHeld ⊢; refine pU 0 23 (bAr 25 1) ?_
        refine one_ (i := 1) (N := some 24) (bAr 25 3) rfl rfl (one_of HT_.out (by kernel_rfl)) (by decide) (fun K hK => ?_)
        refine goes_ Try.func77 (by kernel_rfl) rfl #[.int .i64 a0] (by rfl) rfl rfl (by (try simp only [List.map_toArray, List.map_cons, List.map_nil]); first | done | rfl | (simp only [List.length_drop, List.length_take]; rfl)) ?_
        with_reducible refine (spec_l12Side.calls a0 true _ A6.out).mono ?_
        rintro e w' ⟨rfl, ⟨nd, rfl⟩⟩
        refine ⟨_, rfl, ?_⟩
        refine hK.out _ _ ⟨(cB HB hw175_0), (cB HB hw175_1), (cB HB hw175_2), (cB HB hw175_3), (cB HB hw175_4), (cB HB hw176_0), (cB HB hw176_1), (cB HB hw176_2), (cB HB hw176_3), (cB HB hw176_4)⟩ (fun hHeld => ?_); clear hK K
        refine norm_ (a' := ?_) ?_ ?_; rotate_left
        · show Act.put _ (some 24) _ = _
          simp only [Act.put, List.setIfInBounds_toArray, List.set_cons_zero, List.set_cons_succ, i64_w, i32_w]
          rfl
        refine pU 2 25 (bAr 25 7) ?_; refine pU 3 26 (bAr 25 15) ?_; refine pU 4 27 (bAr 25 31) ?_
        refine one_ (i := 5) (N := some 28) (bAr 25 63) rfl rfl (one_of HT_.out (by kernel_rfl)) (by decide) (fun K hK => ?_)
        refine goes_ Try.func77 (by kernel_rfl) rfl #[.int .i64 a1] (by rfl) rfl rfl (by (try simp only [List.map_toArray, List.map_cons, List.map_nil]); first | done | rfl | (simp only [List.length_drop, List.length_take]; rfl)) ?_
        with_reducible refine (spec_l12Side.calls a1 true _ A8.out).mono ?_
        rintro e w' ⟨rfl, ⟨nd, rfl⟩⟩
        refine ⟨_, rfl, ?_⟩
        refine hK.out _ _ ⟨(cB HB hw175_0), (cB HB hw175_1), (cB HB hw175_2), (cB HB hw175_3), (cB HB hw175_4), (cB HB hw176_0), (cB HB hw176_1), (cB HB hw176_2), (cB HB hw176_3), (cB HB hw176_4)⟩ (fun hHeld => ?_); clear hK K
        refine norm_ (a' := ?_) ?_ ?_; rotate_left
        · show Act.put _ (some 28) _ = _
          simp only [Act.put, List.setIfInBounds_toArray, List.set_cons_zero, List.set_cons_succ, i64_w, i32_w]
          rfl
        refine pU 6 29 (bAr 25 127) ?_; refine pU 7 30 (bAr 25 255) ?_; refine pU 8 31 (bAr 25 511) ?_; refine pU 9 32 (bAr 25 1023) ?_; refine pU 10 33 (bAr 25 2047) ?_; refine pU 11 34 (bAr 25 4095) ?_; refine pU 12 35 (bAr 25 8191) ?_; refine pU 13 36 (bAr 25 16383) ?_; refine pU 14 37 (bAr 25 32767) ?_; refine pU 15 38 (bAr 25 65535) ?_; refine pU 16 39 (bAr 25 131071) ?_; refine pU 18 41 (bAr 25 393215) ?_; refine pU 19 42 (bAr 25 917503) ?_; refine pU 20 43 (bAr 25 1966079) ?_
        refine tK 17 40 (bAr 25 2097151) ?_
        refine tK 21 44 (bAr 25 4194303) ?_
        refine one_ (i := 22) (N := some 45) (bAr 25 8388607) rfl rfl (one_of HT_.out (by kernel_rfl)) (by decide) (fun K hK => ?_)
        refine goes_ Try.func78 (by kernel_rfl) rfl #[.int .i64 ((rd_T29 l2 0).f2), .int .i64 ((rd_T29 l2 0).f3)] (by rfl) rfl rfl (by (try simp only [List.map_toArray, List.map_cons, List.map_nil]); first | done | rfl | (simp only [List.length_drop, List.length_take]; rfl)) ?_
        with_reducible refine (spec_DepthOk.calls k ((rd_T29 l2 0).f2) ((rd_T29 l2 0).f3) t177 _ A12.out).mono ?_
        rintro e w' ⟨rfl, ⟨nd, rfl⟩⟩
        refine ⟨_, rfl, ?_⟩
        refine hK.out _ _ ⟨(cB HB hw175_0), (cB HB hw175_1), (cB HB hw175_2), (cB HB hw175_3), (cB HB hw175_4), (cB HB hw176_0), (cB HB hw176_1), (cB HB hw176_2), (cB HB hw176_3), (cB HB hw176_4)⟩ (fun hHeld => ?_); clear hK K
        refine norm_ (a' := ?_) ?_ ?_; rotate_left
        · show Act.put _ (some 45) _ = _
          simp only [Act.put, List.setIfInBounds_toArray, List.set_cons_zero, List.set_cons_succ, i64_w, i32_w]
          rfl
        refine pU 23 46 (bAr 25 16777215) ?_; refine pU 24 47 (bAr 25 33554431) ?_
        refine done_ (done_of HT_.out (by kernel_rfl)) ?_
        try go_wp2
        go_meet
        case rel => exact ⟨_, (!t177), eQ, H', ⟨lE⟩, ⟨bI BK172.out⟩, ⟨hB⟩⟩
      · intro H; have c10b0 := beq_eq_false_iff_ne.mpr c10; have c10b1 := bne_iff_ne.mpr c10
        (first | rw [c10b0] | (simp only [i64_w, i32_w]; rw [c10b0]) | skip); revert H; refine adR fun H' => ?_
        try go_wp2
        replace BK172 := aM (blk_drew BK172.out); replace HB := aM (below_drew1 HB.out)
        refine start_ (n := 25) (S := fun w' => True) (ds := []) (bAr 25 0) (by kernel_rfl) rfl rfl trivial (fun hHeld => ?_); refine with_tabW spec_FromPasses.tab1 spec_FromPasses.bits1 (fun HT_ HW_ => ?_)
        generalize w5.drew = w14 at BK172 HB hHeld ⊢; refine pU 0 23 (bAr 25 1) ?_
        refine one_ (i := 1) (N := some 24) (bAr 25 3) rfl rfl (one_of HT_.out (by kernel_rfl)) (by decide) (fun K hK => ?_)
        refine goes_ Try.func77 (by kernel_rfl) rfl #[.int .i64 a0] (by rfl) rfl rfl (by (try simp only [List.map_toArray, List.map_cons, List.map_nil]); first | done | rfl | (simp only [List.length_drop, List.length_take]; rfl)) ?_
        with_reducible refine (spec_l12Side.calls a0 true _ A6.out).mono ?_
        rintro e w' ⟨rfl, ⟨nd, rfl⟩⟩
        refine ⟨_, rfl, ?_⟩
        refine hK.out _ _ trivial (fun hHeld => ?_); clear hK K
        refine norm_ (a' := ?_) ?_ ?_; rotate_left
        · show Act.put _ (some 24) _ = _
          simp only [Act.put, List.setIfInBounds_toArray, List.set_cons_zero, List.set_cons_succ, i64_w, i32_w]
          rfl
        refine pU 2 25 (bAr 25 7) ?_; refine pU 3 26 (bAr 25 15) ?_; refine pU 4 27 (bAr 25 31) ?_
        refine one_ (i := 5) (N := some 28) (bAr 25 63) rfl rfl (one_of HT_.out (by kernel_rfl)) (by decide) (fun K hK => ?_)
        refine goes_ Try.func77 (by kernel_rfl) rfl #[.int .i64 a1] (by rfl) rfl rfl (by (try simp only [List.map_toArray, List.map_cons, List.map_nil]); first | done | rfl | (simp only [List.length_drop, List.length_take]; rfl)) ?_
        with_reducible refine (spec_l12Side.calls a1 true _ A8.out).mono ?_
        rintro e w' ⟨rfl, ⟨nd, rfl⟩⟩
        refine ⟨_, rfl, ?_⟩
        refine hK.out _ _ trivial (fun hHeld => ?_); clear hK K
        refine norm_ (a' := ?_) ?_ ?_; rotate_left
        · show Act.put _ (some 28) _ = _
          simp only [Act.put, List.setIfInBounds_toArray, List.set_cons_zero, List.set_cons_succ, i64_w, i32_w]
          rfl
        refine pU 6 29 (bAr 25 127) ?_; refine pU 7 30 (bAr 25 255) ?_; refine pU 8 31 (bAr 25 511) ?_; refine pU 9 32 (bAr 25 1023) ?_; refine pU 10 33 (bAr 25 2047) ?_; refine pU 11 34 (bAr 25 4095) ?_; refine pU 12 35 (bAr 25 8191) ?_; refine pU 13 36 (bAr 25 16383) ?_
        refine pV 14 37 (bAr 25 32767) ?_
        refine pV 15 38 (bAr 25 65535) ?_
        refine pV 16 39 (bAr 25 131071) ?_
        refine pV 17 40 (bAr 25 262143) ?_
        refine pV 18 41 (bAr 25 524287) ?_
        refine pV 19 42 (bAr 25 1048575) ?_
        refine pV 20 43 (bAr 25 2097151) ?_
        refine pV 21 44 (bAr 25 4194303) ?_
        refine pV 22 45 (bAr 25 8388607) ?_
        refine pV 23 46 (bAr 25 16777215) ?_; refine pU 24 47 (bAr 25 33554431) ?_
        refine done_ (done_of HT_.out (by kernel_rfl)) ?_
        try go_wp2
        go_meet
        case rel => exact ⟨_, (true), eQ, H', ⟨lE⟩, ⟨bI BK172.out⟩, ⟨hB⟩⟩
    · intro H; replace c9 := Bool.eq_false_iff.mpr c9; subst c9; revert H; refine adR fun H' => ?_
      try go_wp2
      replace BK172 := aM (blk_drew BK172.out); replace HB := aM (below_drew1 HB.out)
      refine start_ (n := 25) (S := fun w' => True) (ds := []) (bAr 25 0) (by kernel_rfl) rfl rfl trivial (fun hHeld => ?_); refine with_tabW spec_FromPasses.tab1 spec_FromPasses.bits1 (fun HT_ HW_ => ?_)
      generalize w5.drew = w15 at BK172 HB hHeld ⊢; refine pU 0 23 (bAr 25 1) ?_
      refine one_ (i := 1) (N := some 24) (bAr 25 3) rfl rfl (one_of HT_.out (by kernel_rfl)) (by decide) (fun K hK => ?_)
      refine goes_ Try.func77 (by kernel_rfl) rfl #[.int .i64 a0] (by rfl) rfl rfl (by (try simp only [List.map_toArray, List.map_cons, List.map_nil]); first | done | rfl | (simp only [List.length_drop, List.length_take]; rfl)) ?_
      with_reducible refine (spec_l12Side.calls a0 true _ A6.out).mono ?_
      rintro e w' ⟨rfl, ⟨nd, rfl⟩⟩
      refine ⟨_, rfl, ?_⟩
      refine hK.out _ _ trivial (fun hHeld => ?_); clear hK K
      refine norm_ (a' := ?_) ?_ ?_; rotate_left
      · show Act.put _ (some 24) _ = _
        simp only [Act.put, List.setIfInBounds_toArray, List.set_cons_zero, List.set_cons_succ, i64_w, i32_w]
        rfl
      refine pU 2 25 (bAr 25 7) ?_; refine pU 3 26 (bAr 25 15) ?_; refine pU 4 27 (bAr 25 31) ?_
      refine one_ (i := 5) (N := some 28) (bAr 25 63) rfl rfl (one_of HT_.out (by kernel_rfl)) (by decide) (fun K hK => ?_)
      refine goes_ Try.func77 (by kernel_rfl) rfl #[.int .i64 a1] (by rfl) rfl rfl (by (try simp only [List.map_toArray, List.map_cons, List.map_nil]); first | done | rfl | (simp only [List.length_drop, List.length_take]; rfl)) ?_
      with_reducible refine (spec_l12Side.calls a1 false _ A8.out).mono ?_
      rintro e w' ⟨rfl, ⟨nd, rfl⟩⟩
      refine ⟨_, rfl, ?_⟩
      refine hK.out _ _ trivial (fun hHeld => ?_); clear hK K
      refine norm_ (a' := ?_) ?_ ?_; rotate_left
      · show Act.put _ (some 28) _ = _
        simp only [Act.put, List.setIfInBounds_toArray, List.set_cons_zero, List.set_cons_succ, i64_w, i32_w]
        rfl
      refine pU 6 29 (bAr 25 127) ?_; refine pU 7 30 (bAr 25 255) ?_; refine pU 8 31 (bAr 25 511) ?_
      refine pV 9 32 (bAr 25 1023) ?_
      refine pV 10 33 (bAr 25 2047) ?_
      refine pV 11 34 (bAr 25 4095) ?_; refine pU 12 35 (bAr 25 8191) ?_; refine pU 13 36 (bAr 25 16383) ?_
      refine pV 14 37 (bAr 25 32767) ?_
      refine pV 15 38 (bAr 25 65535) ?_
      refine pV 16 39 (bAr 25 131071) ?_
      refine pV 17 40 (bAr 25 262143) ?_
      refine pV 18 41 (bAr 25 524287) ?_
      refine pV 19 42 (bAr 25 1048575) ?_
      refine pV 20 43 (bAr 25 2097151) ?_
      refine pV 21 44 (bAr 25 4194303) ?_
      refine pV 22 45 (bAr 25 8388607) ?_
      refine pV 23 46 (bAr 25 16777215) ?_; refine pU 24 47 (bAr 25 33554431) ?_
      refine done_ (done_of HT_.out (by kernel_rfl)) ?_
      try go_wp2
      go_meet
      case rel => exact ⟨_, (true), eQ, H', ⟨lE⟩, ⟨bI BK172.out⟩, ⟨hB⟩⟩
  · intro H; replace c7 := Bool.eq_false_iff.mpr c7; subst c7; revert H; refine adR fun H' => ?_
    try go_wp2
    replace BK172 := aM (blk_drew BK172.out); replace HB := aM (below_drew1 HB.out)
    refine start_ (n := 25) (S := fun w' => True) (ds := []) (bAr 25 0) (by kernel_rfl) rfl rfl trivial (fun hHeld => ?_); refine with_tabW spec_FromPasses.tab1 spec_FromPasses.bits1 (fun HT_ HW_ => ?_)
    generalize w5.drew = w16 at BK172 HB hHeld ⊢; refine pU 0 23 (bAr 25 1) ?_
    refine one_ (i := 1) (N := some 24) (bAr 25 3) rfl rfl (one_of HT_.out (by kernel_rfl)) (by decide) (fun K hK => ?_)
    refine goes_ Try.func77 (by kernel_rfl) rfl #[.int .i64 a0] (by rfl) rfl rfl (by (try simp only [List.map_toArray, List.map_cons, List.map_nil]); first | done | rfl | (simp only [List.length_drop, List.length_take]; rfl)) ?_
    with_reducible refine (spec_l12Side.calls a0 false _ A6.out).mono ?_
    rintro e w' ⟨rfl, ⟨nd, rfl⟩⟩
    refine ⟨_, rfl, ?_⟩
    refine hK.out _ _ trivial (fun hHeld => ?_); clear hK K
    refine norm_ (a' := ?_) ?_ ?_; rotate_left
    · show Act.put _ (some 24) _ = _
      simp only [Act.put, List.setIfInBounds_toArray, List.set_cons_zero, List.set_cons_succ, i64_w, i32_w]
      rfl
    refine pU 2 25 (bAr 25 7) ?_; refine pU 3 26 (bAr 25 15) ?_
    refine pV 4 27 (bAr 25 31) ?_
    refine pV 5 28 (bAr 25 63) ?_
    refine pV 6 29 (bAr 25 127) ?_; refine pU 7 30 (bAr 25 255) ?_; refine pU 8 31 (bAr 25 511) ?_
    refine pV 9 32 (bAr 25 1023) ?_
    refine pV 10 33 (bAr 25 2047) ?_
    refine pV 11 34 (bAr 25 4095) ?_; refine pU 12 35 (bAr 25 8191) ?_; refine pU 13 36 (bAr 25 16383) ?_
    refine pV 14 37 (bAr 25 32767) ?_
    refine pV 15 38 (bAr 25 65535) ?_
    refine pV 16 39 (bAr 25 131071) ?_
    refine pV 17 40 (bAr 25 262143) ?_
    refine pV 18 41 (bAr 25 524287) ?_
    refine pV 19 42 (bAr 25 1048575) ?_
    refine pV 20 43 (bAr 25 2097151) ?_
    refine pV 21 44 (bAr 25 4194303) ?_
    refine pV 22 45 (bAr 25 8388607) ?_
    refine pV 23 46 (bAr 25 16777215) ?_; refine pU 24 47 (bAr 25 33554431) ?_
    refine done_ (done_of HT_.out (by kernel_rfl)) ?_
    try go_wp2
    go_meet
    case rel => exact ⟨_, (true), eQ, H', ⟨lE⟩, ⟨bI BK172.out⟩, ⟨hB⟩⟩
 case rest =>
  clear HC4; (try clear c1); (try clear p2); (try clear c7); (try clear c9); (try clear c10); (try clear c10b0); (try clear c10b1); (try clear c11); obtain ⟨kq, x47_3, rfl, HA, HJ3, BK172, HB⟩ := hcut; rcases kq with _ | kj3
  · exact absurd HA.out (by simp [spec_FromPasses.j0])
  revert HA; refine aoR ?_; intro H; simp only [spec_FromPasses.j0] at H; revert H
  refine ifB (fun c17 => ?_) (fun c17 => ?_)
  · intro H; subst c17; simp only [Option.some.injEq, Prod.mk.injEq] at H; obtain ⟨rfl, rfl, rfl, rfl, rfl, rfl⟩ := H; have hz18 := bz5 BK172; go_wp2
    refine bodyPost_ret (results_ct rfl _ _ gb172 29 #[.int .i64 0, .int .i64 0, .int .i64 0, .int .i64 0, .slice none 0 0] (0, 0) _ rfl kB Try.underlying29 rfl (by kernel_rfl)) rfl ?_; exact ⟨_, eE, by first | exact Kd.R_nil _ _ _ _ _ | exact Kd.N_nil _ _ _ _ _ | exact Kd.V_nil _ _ _ _ _ | exact Kd.Q_nil _ _ _ _ _ | exact Kd.S_nil _ _ _ _ _, hB⟩
  · intro H; replace c17 := Bool.eq_false_iff.mpr c17; subst c17; revert H; refine ifR fun c19 => ?_; intro H; have c19b0 := decide_eq_true c19; have c19b1 : decide (0 < l2.length) = true := decide_eq_true (by omega); clear c19; revert H; refine bdR fun t179 A20 => ?_; intro H; obtain ⟨ji21, hji21⟩ : ∃ j_ : Int, (wrap64 ((wrap64 (a0 * a1)) * t179)) = j_ := ⟨_, rfl⟩; replace H : (if 0 ≤ (ji21) then (if (ji21 : Int).toNat ≤ 35184372088832 then (spec_FromPasses.l0 kj3 a0 a1 l2 t179 0 a0 a1 ((rd_T29 l2 0).f2) ((rd_T29 l2 0).f3) (List.replicate (ji21 : Int).toNat 0)) else (none)) else (none)) = some (r1, r2, r3, r4, r5, r6) := by first | (rw [hji21] at H; exact H) | (simp only [hji21] at H ⊢; exact H)
    (try rw [hji21] at A20); have hji21w : (IntKind.i64.wrap ((wrap64 (a0 * a1)) * t179)) = ji21 := (i64_w _).trans hji21; revert H; refine ifR fun c22 => ?_; intro H; have c22b0 := eq_true c22; have c22b1 := decide_eq_true c22; clear c22; revert H; refine ifR fun c23 => ?_; intro H; have c23b0 := eq_true c23; have c23b1 := decide_eq_true c23; clear c23; obtain ⟨y182, hy_⟩ : ∃ y_ : List Int, y_ = (List.replicate (ji21 : Int).toNat 0) := ⟨_, rfl⟩; replace H : (spec_FromPasses.l0 kj3 a0 a1 l2 t179 0 a0 a1 ((rd_T29 l2 0).f2) ((rd_T29 l2 0).f3) y182) = some (r1, r2, r3, r4, r5, r6) := nH; have Ny182 := aM hy_; clear hy_; revert H; refine adR fun H' => ?_; have p178 : 0 ≤ (0 : Int) := (by omega); have q178 : 0 < (l2.length : Int) := bD; obtain ⟨ad178, A178_4, c178_4, e178, hx178_0, hx178_1, hx178_2, hx178_3, hx178_4, hl178_4, hi178_4⟩ := at_T29 HR2.out 0 p178 q178; cases e178; have qi178 : (0 < l2.length) = True := eq_true (by omega)
    (try rw [show ((0 : Int)).toNat = 0 from rfl] at hx178_0)
    (try rw [show 0 * 5 = 0 from rfl] at hx178_0)
    (try rw [Addr.add_zero'] at hx178_0)
    (try rw [show ((0 : Int)).toNat = 0 from rfl] at hx178_1)
    (try rw [show 0 * 5 = 0 from rfl] at hx178_1)
    (try rw [Addr.add_zero'] at hx178_1)
    (try rw [show ((0 : Int)).toNat = 0 from rfl] at hx178_2)
    (try rw [show 0 * 5 = 0 from rfl] at hx178_2)
    (try rw [Addr.add_zero'] at hx178_2)
    (try rw [show ((0 : Int)).toNat = 0 from rfl] at hx178_3)
    (try rw [show 0 * 5 = 0 from rfl] at hx178_3)
    (try rw [Addr.add_zero'] at hx178_3)
    (try rw [show ((0 : Int)).toNat = 0 from rfl] at hx178_4)
    (try rw [show 0 * 5 = 0 from rfl] at hx178_4)
    (try rw [Addr.add_zero'] at hx178_4); replace hx178_0 := cB0 HB hx178_0; replace hx178_1 := cB0 HB hx178_1; replace hx178_2 := cB0 HB hx178_2; replace hx178_3 := cB0 HB hx178_3; replace hx178_4 := cB0 HB hx178_4; have HR178_4 := aM hi178_4; have HC178_4 := aM hl178_4; clear hi178_4 hl178_4; replace p178 := eq_true p178; replace q178 := eq_true q178
    try go_wp2_with (first | ((with_reducible refine gC 88 ?_); refine gL (some 53) Try.func88 #[.int .i64 ((rd_T29 l2 0).f2)] ?_; (with_reducible refine (spec_ChannelsOf.calls kj3 ((rd_T29 l2 0).f2) t179 _ A20.out).mono ?_); rintro e w' ⟨rfl, ⟨nd, rfl⟩⟩; refine ⟨_, rfl, ?_⟩; (try (rw [drewN_self wc]; generalize hq_ : World.drewN wc _ = wc; have n0_ : Aside0 (wc.heap[gb172]? = some (.cells #[.int .i64 0, .int .i64 0, .int .i64 0, .int .i64 0, .slice none 0 0] 29 (0, 0))) := ⟨by rw [← hq_]; exact (bI BK172.out)⟩; have n1_ : Aside0 (Below w.heap.size w wc) := ⟨by rw [← hq_]; exact hB⟩; clear BK172 HB hq_; have BK172 := n0_; have HB := n1_; clear n0_ n1_))))
    replace BK172 := aM (blk_drew BK172.out); replace HB := aM (below_drew1 HB.out); have p180 : 0 ≤ (0 : Int) := (by omega); have q180 : 0 < (l2.length : Int) := bD; obtain ⟨ad180, A180_4, c180_4, e180, hx180_0, hx180_1, hx180_2, hx180_3, hx180_4, hl180_4, hi180_4⟩ := at_T29 HR2.out 0 p180 q180; have hw180_4 := hx180_4
    (try rw [show ((0 : Int)).toNat = 0 from rfl] at hw180_4)
    (try rw [show 0 * 5 = 0 from rfl] at hw180_4)
    (try rw [Addr.add_zero'] at hw180_4); have hw180_3 := hx180_3
    (try rw [show ((0 : Int)).toNat = 0 from rfl] at hw180_3)
    (try rw [show 0 * 5 = 0 from rfl] at hw180_3)
    (try rw [Addr.add_zero'] at hw180_3); have hw180_2 := hx180_2
    (try rw [show ((0 : Int)).toNat = 0 from rfl] at hw180_2)
    (try rw [show 0 * 5 = 0 from rfl] at hw180_2)
    (try rw [Addr.add_zero'] at hw180_2); have hw180_1 := hx180_1
    (try rw [show ((0 : Int)).toNat = 0 from rfl] at hw180_1)
    (try rw [show 0 * 5 = 0 from rfl] at hw180_1)
    (try rw [Addr.add_zero'] at hw180_1); have hw180_0 := hx180_0
    (try rw [show ((0 : Int)).toNat = 0 from rfl] at hw180_0)
    (try rw [show 0 * 5 = 0 from rfl] at hw180_0)
    (try rw [Addr.add_zero'] at hw180_0); obtain rfl : ad178 = ad180 := (by injection e180); have qi180 : (0 < l2.length) = True := eq_true (by omega)
    (try rw [show ((0 : Int)).toNat = 0 from rfl] at hx180_0)
    (try rw [show 0 * 5 = 0 from rfl] at hx180_0)
    (try rw [Addr.add_zero'] at hx180_0)
    (try rw [show ((0 : Int)).toNat = 0 from rfl] at hx180_1)
    (try rw [show 0 * 5 = 0 from rfl] at hx180_1)
    (try rw [Addr.add_zero'] at hx180_1)
    (try rw [show ((0 : Int)).toNat = 0 from rfl] at hx180_2)
    (try rw [show 0 * 5 = 0 from rfl] at hx180_2)
    (try rw [Addr.add_zero'] at hx180_2)
    (try rw [show ((0 : Int)).toNat = 0 from rfl] at hx180_3)
    (try rw [show 0 * 5 = 0 from rfl] at hx180_3)
    (try rw [Addr.add_zero'] at hx180_3)
    (try rw [show ((0 : Int)).toNat = 0 from rfl] at hx180_4)
    (try rw [show 0 * 5 = 0 from rfl] at hx180_4)
    (try rw [Addr.add_zero'] at hx180_4); replace hx180_0 := cB0 HB hx180_0; replace hx180_1 := cB0 HB hx180_1; replace hx180_2 := cB0 HB hx180_2; replace hx180_3 := cB0 HB hx180_3; replace hx180_4 := cB0 HB hx180_4; have HR180_4 := aM hi180_4; have HC180_4 := aM hl180_4; clear hi180_4 hl180_4; replace p180 := eq_true p180; replace q180 := eq_true q180; have p181 : 0 ≤ (0 : Int) := (by omega); have q181 : 0 < (l2.length : Int) := bD; obtain ⟨ad181, A181_4, c181_4, e181, hx181_0, hx181_1, hx181_2, hx181_3, hx181_4, hl181_4, hi181_4⟩ := at_T29 HR2.out 0 p181 q181; have hw181_4 := hx181_4
    (try rw [show ((0 : Int)).toNat = 0 from rfl] at hw181_4)
    (try rw [show 0 * 5 = 0 from rfl] at hw181_4)
    (try rw [Addr.add_zero'] at hw181_4); have hw181_3 := hx181_3
    (try rw [show ((0 : Int)).toNat = 0 from rfl] at hw181_3)
    (try rw [show 0 * 5 = 0 from rfl] at hw181_3)
    (try rw [Addr.add_zero'] at hw181_3); have hw181_2 := hx181_2
    (try rw [show ((0 : Int)).toNat = 0 from rfl] at hw181_2)
    (try rw [show 0 * 5 = 0 from rfl] at hw181_2)
    (try rw [Addr.add_zero'] at hw181_2); have hw181_1 := hx181_1
    (try rw [show ((0 : Int)).toNat = 0 from rfl] at hw181_1)
    (try rw [show 0 * 5 = 0 from rfl] at hw181_1)
    (try rw [Addr.add_zero'] at hw181_1); have hw181_0 := hx181_0
    (try rw [show ((0 : Int)).toNat = 0 from rfl] at hw181_0)
    (try rw [show 0 * 5 = 0 from rfl] at hw181_0)
    (try rw [Addr.add_zero'] at hw181_0); obtain rfl : ad178 = ad181 := (by injection e181); have qi181 : (0 < l2.length) = True := eq_true (by omega)
    (try rw [show ((0 : Int)).toNat = 0 from rfl] at hx181_0)
    (try rw [show 0 * 5 = 0 from rfl] at hx181_0)
    (try rw [Addr.add_zero'] at hx181_0)
    (try rw [show ((0 : Int)).toNat = 0 from rfl] at hx181_1)
    (try rw [show 0 * 5 = 0 from rfl] at hx181_1)
    (try rw [Addr.add_zero'] at hx181_1)
    (try rw [show ((0 : Int)).toNat = 0 from rfl] at hx181_2)
    (try rw [show 0 * 5 = 0 from rfl] at hx181_2)
    (try rw [Addr.add_zero'] at hx181_2)
    (try rw [show ((0 : Int)).toNat = 0 from rfl] at hx181_3)
    (try rw [show 0 * 5 = 0 from rfl] at hx181_3)
    (try rw [Addr.add_zero'] at hx181_3)
    (try rw [show ((0 : Int)).toNat = 0 from rfl] at hx181_4)
    (try rw [show 0 * 5 = 0 from rfl] at hx181_4)
    (try rw [Addr.add_zero'] at hx181_4); replace hx181_0 := cB0 HB hx181_0; replace hx181_1 := cB0 HB hx181_1; replace hx181_2 := cB0 HB hx181_2; replace hx181_3 := cB0 HB hx181_3; replace hx181_4 := cB0 HB hx181_4; have HR181_4 := aM hi181_4; have HC181_4 := aM hl181_4; clear hi181_4 hl181_4; replace p181 := eq_true p181; replace q181 := eq_true q181; have ea_ := Option.some.inj (hx180_4.symm.trans hx181_4)
    injection ea_ with ea_ en_ ec_; subst ea_; subst ec_; clear en_
    refine start_ (n := 19) (S := fun w' => w'.cell? ad178 = some (.int .i64 ((rd_T29 l2 0).f0)) ∧ w'.cell? ⟨ad178.block, ad178.off + 1, none⟩ = some (.int .i64 ((rd_T29 l2 0).f1)) ∧ w'.cell? ⟨ad178.block, ad178.off + 2, none⟩ = some (.int .i64 ((rd_T29 l2 0).f2)) ∧ w'.cell? ⟨ad178.block, ad178.off + 3, none⟩ = some (.int .i64 ((rd_T29 l2 0).f3)) ∧ w'.cell? ⟨ad178.block, ad178.off + 4, none⟩ = some (.slice A180_4 ((rd_T29 l2 0).f4).length c180_4) ∧ w'.cell? ad178 = some (.int .i64 ((rd_T29 l2 0).f0)) ∧ w'.cell? ⟨ad178.block, ad178.off + 1, none⟩ = some (.int .i64 ((rd_T29 l2 0).f1)) ∧ w'.cell? ⟨ad178.block, ad178.off + 2, none⟩ = some (.int .i64 ((rd_T29 l2 0).f2)) ∧ w'.cell? ⟨ad178.block, ad178.off + 3, none⟩ = some (.int .i64 ((rd_T29 l2 0).f3)) ∧ w'.cell? ⟨ad178.block, ad178.off + 4, none⟩ = some (.slice A180_4 ((rd_T29 l2 0).f4).length c180_4)) (ds := []) (bAr 19 0) (by kernel_rfl) rfl rfl ⟨(cB HB hw180_0), (cB HB hw180_1), (cB HB hw180_2), (cB HB hw180_3), (cB HB hw180_4), (cB HB hw181_0), (cB HB hw181_1), (cB HB hw181_2), (cB HB hw181_3), (cB HB hw181_4)⟩ (fun hHeld => ?_); refine with_tabW spec_FromPasses.tab4 spec_FromPasses.bits4 (fun HT_ HW_ => ?_)
    generalize wc.drew = w24 at BK172 HB HR180_4 HR181_4 hx180_0 hx180_1 hx180_2 hx180_3 hx180_4 hx181_0 hx181_1 hx181_2 hx181_3 hx181_4 hHeld ⊢; refine pU 0 54 (bAr 19 1) ?_; refine pU 1 55 (bAr 19 3) ?_; refine pU 2 56 (bAr 19 7) ?_; refine pU 3 57 (bAr 19 15) ?_; refine pU 4 58 (bAr 19 31) ?_; refine pU 6 60 (bAr 19 95) ?_; refine pU 7 61 (bAr 19 223) ?_; refine pU 8 62 (bAr 19 479) ?_; refine pU 10 64 (bAr 19 1503) ?_; refine pU 11 65 (bAr 19 3551) ?_; refine pU 12 66 (bAr 19 7647) ?_; refine pU 13 67 (bAr 19 15839) ?_; refine pU 14 68 (bAr 19 32223) ?_
    refine tK 5 59 (bAr 19 32255) ?_
    refine tK 9 63 (bAr 19 32767) ?_
    refine join_ (σ := Value × Nat) 1 #[true, true, true, true, true, true, true, true, true, true, true, true, true, true, true, true, true, true, false] (fun s_ => [(69, s_.1), (9, .pointer (some ⟨s_.2, 0, none⟩)), (70, .agg #[.int .i64 a0, .int .i64 a1, .int .i64 ((rd_T29 l2 0).f2), .int .i64 ((rd_T29 l2 0).f3), s_.1])]) (fun s_ w' => (w'.cell? ad178 = some (.int .i64 ((rd_T29 l2 0).f0)) ∧ w'.cell? ⟨ad178.block, ad178.off + 1, none⟩ = some (.int .i64 ((rd_T29 l2 0).f1)) ∧ w'.cell? ⟨ad178.block, ad178.off + 2, none⟩ = some (.int .i64 ((rd_T29 l2 0).f2)) ∧ w'.cell? ⟨ad178.block, ad178.off + 3, none⟩ = some (.int .i64 ((rd_T29 l2 0).f3)) ∧ w'.cell? ⟨ad178.block, ad178.off + 4, none⟩ = some (.slice A180_4 ((rd_T29 l2 0).f4).length c180_4) ∧ w'.cell? ad178 = some (.int .i64 ((rd_T29 l2 0).f0)) ∧ w'.cell? ⟨ad178.block, ad178.off + 1, none⟩ = some (.int .i64 ((rd_T29 l2 0).f1)) ∧ w'.cell? ⟨ad178.block, ad178.off + 2, none⟩ = some (.int .i64 ((rd_T29 l2 0).f2)) ∧ w'.cell? ⟨ad178.block, ad178.off + 3, none⟩ = some (.int .i64 ((rd_T29 l2 0).f3)) ∧ w'.cell? ⟨ad178.block, ad178.off + 4, none⟩ = some (.slice A180_4 ((rd_T29 l2 0).f4).length c180_4)) ∧ (Kd.R (Kd.int .i64) 3 w' w.heap.size (fun _ => True) s_.1 y182) ∧ (w'.heap[gb172]? = some (.cells #[.int .i64 0, .int .i64 0, .int .i64 0, .int .i64 0, .slice none 0 0] 29 (0, 0))) ∧ (w'.heap[s_.2]? = some (.cells #[.int .i64 0, .int .i64 0, .int .i64 0, .int .i64 0, .slice none 0 0] 29 (0, 0))) ∧ (w.heap.size ≤ s_.2) ∧ (w.heap.size ≤ s_.2) ∧ (gb172 ≠ s_.2) ∧ (s_.2 ≠ gb172) ∧ (Below w.heap.size w w')) ?_ ?_; rotate_left
    · intro hCont
      refine two_ (i := 15) (j := 17) (Ni := some 69) (Nj := some 9) (bAr 19 65535) (bAr 19 163839) rfl rfl rfl rfl (two_of HT_.out (by kernel_rfl)) (by decide) (by decide) (fun K hK => ?_) (fun K hK => ?_)
      · skip
        refine Kd.R_make_step (Kd.int .i64) _ 3 (by rfl) (N := 69) rfl 22 _ _ rfl ji21 rfl rfl Try.underlying22 (.int .i64 0) 8 info3 rfl (by decide) (by omega) 0 (ok := fun _ => True) (okp := fun _ => True) rfl (fun _ hk => hk) trivial (bD) (Nat.le_trans (Nat.mul_le_mul_right _ (bD : ji21.toNat ≤ 35184372088832)) (by omega)) (Below.refl _ _) (Nat.le_refl _) ?_; intro v183 w25 ho26 hb hg_ hnew_; clear hg_ hnew_
        (first | rw [← Ny182.out] at ho26 | (simp only [Int.reduceToNat] at ho26; rw [← Ny182.out] at ho26)); have HO184 := aM (Kd.R_lower ho26 (below_size hB)); replace BK172 := bW BK172 hb; replace HB := hS hb; clear hb ho26; obtain ⟨Ao27, co27, eo27⟩ := Kd.R_slice HO184.out
        (first | subst eo27 | (injection eo27 with f1_ f2_ f3_; have f4_ := f1_.symm; have f5_ := f3_.symm; clear f1_ f2_ f3_; subst f4_; subst f5_))
        refine hK.out _ _ ⟨(cB HB hw180_0), (cB HB hw180_1), (cB HB hw180_2), (cB HB hw180_3), (cB HB hw180_4), (cB HB hw181_0), (cB HB hw181_1), (cB HB hw181_2), (cB HB hw181_3), (cB HB hw181_4)⟩ (fun hHeld => ?_); clear hK K
        refine norm_ (a' := ?_) ?_ ?_; rotate_left
        · show Act.put _ (some 69) _ = _
          simp only [Act.put, List.setIfInBounds_toArray, List.set_cons_zero, List.set_cons_succ, i64_w, i32_w]
          rfl
        refine pU 16 70 (bAr 19 131071) ?_
        refine one_ (i := 17) (N := some 9) (bAr 19 262143) rfl rfl (one_of HT_.out (by kernel_rfl)) (by decide) (fun K hK => ?_)
        refine box_step ?hg (N := 9) ?hd (cs := #[.int .i64 0, .int .i64 0, .int .i64 0, .int .i64 0, .slice none 0 0]) (t := 29) ?hr ?_; (case hd => rfl); (case hg => rfl); (case hr => first | (go_simp; done) | (go_simp; rfl)); intro gb185 hg w28 hbox hb; replace HO184 := Kd.wR HO184 hb; have BK185 := aM hbox; have GW185 := aM (sZ hg); have GE185 := aM (sZ hg); replace HB := hS hb; have NB172_185 := aM (nL BK172 hg); have NB185_172 := aM (nG BK172 hg); replace BK172 := bW BK172 hb; clear hb hbox hg
        refine hK.out _ _ ⟨(cB HB hw180_0), (cB HB hw180_1), (cB HB hw180_2), (cB HB hw180_3), (cB HB hw180_4), (cB HB hw181_0), (cB HB hw181_1), (cB HB hw181_2), (cB HB hw181_3), (cB HB hw181_4)⟩ (fun hHeld => ?_); clear hK K
        refine norm_ (a' := ?_) ?_ ?_; rotate_left
        · show Act.put _ (some 9) _ = _
          simp only [Act.put, List.setIfInBounds_toArray, List.set_cons_zero, List.set_cons_succ, i64_w, i32_w]
          rfl
        exact norm_ (by simp only [putAll, Act.put, List.setIfInBounds_toArray, List.set_cons_zero, List.set_cons_succ]) (hCont (.slice Ao27 y182.length co27, gb185) _ ⟨hHeld, (Kd.R_i HO184.out), (bI BK172.out), (bI BK185.out), GW185.out, GE185.out, NB172_185.out, NB185_172.out, hB⟩)
      · skip
        refine box_step ?hg (N := 9) ?hd (cs := #[.int .i64 0, .int .i64 0, .int .i64 0, .int .i64 0, .slice none 0 0]) (t := 29) ?hr ?_; (case hd => rfl); (case hg => rfl); (case hr => first | (go_simp; done) | (go_simp; rfl)); intro gb185 hg w25 hbox hb; have n0_ := bW BK172 hb; have n1_ := hS hb; have n2_ := aM hbox; have n3_ := aM (sZ hg); have n4_ := aM (sZ hg); have n5_ := aM (nL BK172 hg); have n6_ := aM (nG BK172 hg); clear BK172; clear HB; have BK172 := n0_; have HB := n1_; have BK185 := n2_; have GW185 := n3_; have GE185 := n4_; have NB172_185 := n5_; have NB185_172 := n6_; clear n0_ n1_ n2_ n3_ n4_ n5_ n6_; clear hb hbox hg
        refine hK.out _ _ ⟨(cB HB hw180_0), (cB HB hw180_1), (cB HB hw180_2), (cB HB hw180_3), (cB HB hw180_4), (cB HB hw181_0), (cB HB hw181_1), (cB HB hw181_2), (cB HB hw181_3), (cB HB hw181_4)⟩ (fun hHeld => ?_); clear hK K
        refine norm_ (a' := ?_) ?_ ?_; rotate_left
        · show Act.put _ (some 9) _ = _
          simp only [Act.put, List.setIfInBounds_toArray, List.set_cons_zero, List.set_cons_succ, i64_w, i32_w]
          rfl
        refine one_ (i := 15) (N := some 69) (bAr 19 196607) rfl rfl (one_of HT_.out (by kernel_rfl)) (by decide) (fun K hK => ?_)
        refine Kd.R_make_step (Kd.int .i64) _ 3 (by rfl) (N := 69) rfl 22 _ _ rfl ji21 rfl rfl Try.underlying22 (.int .i64 0) 8 info3 rfl (by decide) (by omega) 0 (ok := fun _ => True) (okp := fun _ => True) rfl (fun _ hk => hk) trivial (bD) (Nat.le_trans (Nat.mul_le_mul_right _ (bD : ji21.toNat ≤ 35184372088832)) (by omega)) (Below.refl _ _) (Nat.le_refl _) ?_; intro v183 w26 ho27 hb hg_ hnew_; clear hg_ hnew_
        (first | rw [← Ny182.out] at ho27 | (simp only [Int.reduceToNat] at ho27; rw [← Ny182.out] at ho27)); have HO184 := aM (Kd.R_lower ho27 (below_size hB)); replace BK172 := bW BK172 hb; replace BK185 := bW BK185 hb; replace HB := hS hb; clear hb ho27; obtain ⟨Ao28, co28, eo28⟩ := Kd.R_slice HO184.out
        (first | subst eo28 | (injection eo28 with f1_ f2_ f3_; have f4_ := f1_.symm; have f5_ := f3_.symm; clear f1_ f2_ f3_; subst f4_; subst f5_))
        refine hK.out _ _ ⟨(cB HB hw180_0), (cB HB hw180_1), (cB HB hw180_2), (cB HB hw180_3), (cB HB hw180_4), (cB HB hw181_0), (cB HB hw181_1), (cB HB hw181_2), (cB HB hw181_3), (cB HB hw181_4)⟩ (fun hHeld => ?_); clear hK K
        refine norm_ (a' := ?_) ?_ ?_; rotate_left
        · show Act.put _ (some 69) _ = _
          simp only [Act.put, List.setIfInBounds_toArray, List.set_cons_zero, List.set_cons_succ, i64_w, i32_w]
          rfl
        refine pU 16 70 (bAr 19 262143) ?_; exact norm_ (by simp only [putAll, Act.put, List.setIfInBounds_toArray, List.set_cons_zero, List.set_cons_succ]) (hCont (.slice Ao28 y182.length co28, gb185) _ ⟨hHeld, (Kd.R_i HO184.out), (bI BK172.out), (bI BK185.out), GW185.out, GE185.out, NB172_185.out, NB185_172.out, hB⟩)
    rintro ⟨v183, gb185⟩ w29 ⟨hS_, h0_, h1_, h2_, h3_, h4_, h5_, h6_, h7_⟩; have n0_ : Aside0 (Kd.R (Kd.int .i64) 3 w29 w.heap.size (fun _ => True) v183 y182) := ⟨h0_⟩; have n1_ : Aside0 (w29.heap[gb172]? = some (.cells #[.int .i64 0, .int .i64 0, .int .i64 0, .int .i64 0, .slice none 0 0] 29 (0, 0))) := ⟨h1_⟩; have n2_ : Aside0 (w29.heap[gb185]? = some (.cells #[.int .i64 0, .int .i64 0, .int .i64 0, .int .i64 0, .slice none 0 0] 29 (0, 0))) := ⟨h2_⟩; have n3_ : Aside0 (w.heap.size ≤ gb185) := ⟨h3_⟩; have n4_ : Aside0 (w.heap.size ≤ gb185) := ⟨h4_⟩; have n5_ : Aside0 (gb172 ≠ gb185) := ⟨h5_⟩; have n6_ : Aside0 (gb185 ≠ gb172) := ⟨h6_⟩; have n7_ : Aside0 (Below w.heap.size w w29) := ⟨h7_⟩; clear BK172; clear HB; clear h0_ h1_ h2_ h3_ h4_ h5_ h6_ h7_; have HO184 := n0_; have BK172 := n1_; have BK185 := n2_; have GW185 := n3_; have GE185 := n4_; have NB172_185 := n5_; have NB185_172 := n6_; have HB := n7_; clear n0_ n1_ n2_ n3_ n4_ n5_ n6_ n7_; have hHeld : w29.cell? ad178 = some (.int .i64 ((rd_T29 l2 0).f0)) ∧ w29.cell? ⟨ad178.block, ad178.off + 1, none⟩ = some (.int .i64 ((rd_T29 l2 0).f1)) ∧ w29.cell? ⟨ad178.block, ad178.off + 2, none⟩ = some (.int .i64 ((rd_T29 l2 0).f2)) ∧ w29.cell? ⟨ad178.block, ad178.off + 3, none⟩ = some (.int .i64 ((rd_T29 l2 0).f3)) ∧ w29.cell? ⟨ad178.block, ad178.off + 4, none⟩ = some (.slice A180_4 ((rd_T29 l2 0).f4).length c180_4) ∧ w29.cell? ad178 = some (.int .i64 ((rd_T29 l2 0).f0)) ∧ w29.cell? ⟨ad178.block, ad178.off + 1, none⟩ = some (.int .i64 ((rd_T29 l2 0).f1)) ∧ w29.cell? ⟨ad178.block, ad178.off + 2, none⟩ = some (.int .i64 ((rd_T29 l2 0).f2)) ∧ w29.cell? ⟨ad178.block, ad178.off + 3, none⟩ = some (.int .i64 ((rd_T29 l2 0).f3)) ∧ w29.cell? ⟨ad178.block, ad178.off + 4, none⟩ = some (.slice A180_4 ((rd_T29 l2 0).f4).length c180_4) := hS_; obtain ⟨Ao30, co30, eo30⟩ := Kd.R_slice HO184.out
    (first | subst eo30 | (injection eo30 with f1_ f2_ f3_; have f4_ := f1_.symm; have f5_ := f3_.symm; clear f1_ f2_ f3_; subst f4_; subst f5_))
    refine norm_ (a' := ?_) ?_ ?_; rotate_left
    · simp only [putAll, Act.put, List.setIfInBounds_toArray, List.set_cons_zero, List.set_cons_succ]
      rfl
    refine one_ (i := 18) (N := none) (bAr 19 524287) rfl rfl (one_of HT_.out (by kernel_rfl)) (by decide) (fun K hK => ?_); have hs31 : w29.cell? ⟨gb185, 0, none⟩ = some (.int .i64 0) := bC BK185 0; have hfs31 := blk_frozen BK185.out 0; have hns31_0 := NB172_185.out; have hms31_0 := NB185_172.out; have hs32 : w29.cell? ⟨gb185, 1, none⟩ = some (.int .i64 0) := bC BK185 1; have hfs32 := blk_frozen BK185.out 1; have hns32_0 := NB172_185.out; have hms32_0 := NB185_172.out; have hs33 : w29.cell? ⟨gb185, 2, none⟩ = some (.int .i64 0) := bC BK185 2; have hfs33 := blk_frozen BK185.out 2; have hns33_0 := NB172_185.out; have hms33_0 := NB185_172.out; have hs34 : w29.cell? ⟨gb185, 3, none⟩ = some (.int .i64 0) := bC BK185 3; have hfs34 := blk_frozen BK185.out 3; have hns34_0 := NB172_185.out; have hms34_0 := NB185_172.out; have hs35 : w29.cell? ⟨gb185, 4, none⟩ = some (.slice none 0 0) := bC BK185 4; have hfs35 := blk_frozen BK185.out 4; have hns35_0 := NB172_185.out; have hms35_0 := NB185_172.out
    refine skip_ (w1 := ?_) (by rfl) rfl ?_ ?_; rotate_left
    · go_simp
      rfl
    refine hK.out _ _ ⟨((cell_far (p := ⟨gb185, _, none⟩) (nE (Nat.ne_of_lt (bL hw180_0 GW185.out))) _).trans (((cell_far (p := ⟨gb185, _, none⟩) (nE (Nat.ne_of_lt (bL hw180_0 GW185.out))) _).trans (((cell_far (p := ⟨gb185, _, none⟩) (nE (Nat.ne_of_lt (bL hw180_0 GW185.out))) _).trans (((cell_far (p := ⟨gb185, _, none⟩) (nE (Nat.ne_of_lt (bL hw180_0 GW185.out))) _).trans (((cell_far (p := ⟨gb185, _, none⟩) (nE (Nat.ne_of_lt (bL hw180_0 GW185.out))) _).trans (hHeld.1)))))))))), ((cell_far (p := ⟨gb185, _, none⟩) (nE (Nat.ne_of_lt (bL hw180_1 GW185.out))) _).trans (((cell_far (p := ⟨gb185, _, none⟩) (nE (Nat.ne_of_lt (bL hw180_1 GW185.out))) _).trans (((cell_far (p := ⟨gb185, _, none⟩) (nE (Nat.ne_of_lt (bL hw180_1 GW185.out))) _).trans (((cell_far (p := ⟨gb185, _, none⟩) (nE (Nat.ne_of_lt (bL hw180_1 GW185.out))) _).trans (((cell_far (p := ⟨gb185, _, none⟩) (nE (Nat.ne_of_lt (bL hw180_1 GW185.out))) _).trans (hHeld.2.1)))))))))), ((cell_far (p := ⟨gb185, _, none⟩) (nE (Nat.ne_of_lt (bL hw180_2 GW185.out))) _).trans (((cell_far (p := ⟨gb185, _, none⟩) (nE (Nat.ne_of_lt (bL hw180_2 GW185.out))) _).trans (((cell_far (p := ⟨gb185, _, none⟩) (nE (Nat.ne_of_lt (bL hw180_2 GW185.out))) _).trans (((cell_far (p := ⟨gb185, _, none⟩) (nE (Nat.ne_of_lt (bL hw180_2 GW185.out))) _).trans (((cell_far (p := ⟨gb185, _, none⟩) (nE (Nat.ne_of_lt (bL hw180_2 GW185.out))) _).trans (hHeld.2.2.1)))))))))), ((cell_far (p := ⟨gb185, _, none⟩) (nE (Nat.ne_of_lt (bL hw180_3 GW185.out))) _).trans (((cell_far (p := ⟨gb185, _, none⟩) (nE (Nat.ne_of_lt (bL hw180_3 GW185.out))) _).trans (((cell_far (p := ⟨gb185, _, none⟩) (nE (Nat.ne_of_lt (bL hw180_3 GW185.out))) _).trans (((cell_far (p := ⟨gb185, _, none⟩) (nE (Nat.ne_of_lt (bL hw180_3 GW185.out))) _).trans (((cell_far (p := ⟨gb185, _, none⟩) (nE (Nat.ne_of_lt (bL hw180_3 GW185.out))) _).trans (hHeld.2.2.2.1)))))))))), ((cell_far (p := ⟨gb185, _, none⟩) (nE (Nat.ne_of_lt (bL hw180_4 GW185.out))) _).trans (((cell_far (p := ⟨gb185, _, none⟩) (nE (Nat.ne_of_lt (bL hw180_4 GW185.out))) _).trans (((cell_far (p := ⟨gb185, _, none⟩) (nE (Nat.ne_of_lt (bL hw180_4 GW185.out))) _).trans (((cell_far (p := ⟨gb185, _, none⟩) (nE (Nat.ne_of_lt (bL hw180_4 GW185.out))) _).trans (((cell_far (p := ⟨gb185, _, none⟩) (nE (Nat.ne_of_lt (bL hw180_4 GW185.out))) _).trans (hHeld.2.2.2.2.1)))))))))), ((cell_far (p := ⟨gb185, _, none⟩) (nE (Nat.ne_of_lt (bL hw181_0 GW185.out))) _).trans (((cell_far (p := ⟨gb185, _, none⟩) (nE (Nat.ne_of_lt (bL hw181_0 GW185.out))) _).trans (((cell_far (p := ⟨gb185, _, none⟩) (nE (Nat.ne_of_lt (bL hw181_0 GW185.out))) _).trans (((cell_far (p := ⟨gb185, _, none⟩) (nE (Nat.ne_of_lt (bL hw181_0 GW185.out))) _).trans (((cell_far (p := ⟨gb185, _, none⟩) (nE (Nat.ne_of_lt (bL hw181_0 GW185.out))) _).trans (hHeld.2.2.2.2.2.1)))))))))), ((cell_far (p := ⟨gb185, _, none⟩) (nE (Nat.ne_of_lt (bL hw181_1 GW185.out))) _).trans (((cell_far (p := ⟨gb185, _, none⟩) (nE (Nat.ne_of_lt (bL hw181_1 GW185.out))) _).trans (((cell_far (p := ⟨gb185, _, none⟩) (nE (Nat.ne_of_lt (bL hw181_1 GW185.out))) _).trans (((cell_far (p := ⟨gb185, _, none⟩) (nE (Nat.ne_of_lt (bL hw181_1 GW185.out))) _).trans (((cell_far (p := ⟨gb185, _, none⟩) (nE (Nat.ne_of_lt (bL hw181_1 GW185.out))) _).trans (hHeld.2.2.2.2.2.2.1)))))))))), ((cell_far (p := ⟨gb185, _, none⟩) (nE (Nat.ne_of_lt (bL hw181_2 GW185.out))) _).trans (((cell_far (p := ⟨gb185, _, none⟩) (nE (Nat.ne_of_lt (bL hw181_2 GW185.out))) _).trans (((cell_far (p := ⟨gb185, _, none⟩) (nE (Nat.ne_of_lt (bL hw181_2 GW185.out))) _).trans (((cell_far (p := ⟨gb185, _, none⟩) (nE (Nat.ne_of_lt (bL hw181_2 GW185.out))) _).trans (((cell_far (p := ⟨gb185, _, none⟩) (nE (Nat.ne_of_lt (bL hw181_2 GW185.out))) _).trans (hHeld.2.2.2.2.2.2.2.1)))))))))), ((cell_far (p := ⟨gb185, _, none⟩) (nE (Nat.ne_of_lt (bL hw181_3 GW185.out))) _).trans (((cell_far (p := ⟨gb185, _, none⟩) (nE (Nat.ne_of_lt (bL hw181_3 GW185.out))) _).trans (((cell_far (p := ⟨gb185, _, none⟩) (nE (Nat.ne_of_lt (bL hw181_3 GW185.out))) _).trans (((cell_far (p := ⟨gb185, _, none⟩) (nE (Nat.ne_of_lt (bL hw181_3 GW185.out))) _).trans (((cell_far (p := ⟨gb185, _, none⟩) (nE (Nat.ne_of_lt (bL hw181_3 GW185.out))) _).trans (hHeld.2.2.2.2.2.2.2.2.1)))))))))), ((cell_far (p := ⟨gb185, _, none⟩) (nE (Nat.ne_of_lt (bL hw181_4 GW185.out))) _).trans (((cell_far (p := ⟨gb185, _, none⟩) (nE (Nat.ne_of_lt (bL hw181_4 GW185.out))) _).trans (((cell_far (p := ⟨gb185, _, none⟩) (nE (Nat.ne_of_lt (bL hw181_4 GW185.out))) _).trans (((cell_far (p := ⟨gb185, _, none⟩) (nE (Nat.ne_of_lt (bL hw181_4 GW185.out))) _).trans (((cell_far (p := ⟨gb185, _, none⟩) (nE (Nat.ne_of_lt (bL hw181_4 GW185.out))) _).trans (hHeld.2.2.2.2.2.2.2.2.2))))))))))⟩ (fun hHeld => ?_); clear hK K
    refine done_ (done_of HT_.out (by kernel_rfl)) ?_
    try go_wp2
    go_loopg [10] kj3 (fun kq v10 w' => ∃ (x10_2 : Int) (x173000_2 : Int) (x173001_2 : Int) (x173002_2 : Int) (x173003_2 : Int) (x186004_2 : List Int) (u186004 : Value), v10 = .int .i64 x10_2 ∧ Aside0 (spec_FromPasses.l0 kq a0 a1 l2 t179 x10_2 a0 a1 ((rd_T29 l2 0).f2) ((rd_T29 l2 0).f3) x186004_2 = some (r1, r2, r3, r4, r5, r6)) ∧ Aside0 (kq ≤ kj3) ∧ Aside0 (Kd.R (Kd.int .i64) 3 w' w.heap.size (fun _ => True) u186004 x186004_2) ∧ Aside0 (w'.heap[gb172]? = some (.cells #[.int .i64 x173000_2, .int .i64 x173001_2, .int .i64 x173002_2, .int .i64 x173003_2, (.slice none 0 0)] 29 (0, 0))) ∧ Aside0 (w'.heap[gb185]? = some (.cells #[.int .i64 a0, .int .i64 a1, .int .i64 ((rd_T29 l2 0).f2), .int .i64 ((rd_T29 l2 0).f3), u186004] 29 (0, 0))) ∧ Aside0 (Below w.heap.size w w'))
    case atStart => exact ⟨(0), (0), (0), (0), (0), (y182), (.slice Ao30 y182.length co30), eQ, H', ⟨Nat.le_refl _⟩, ⟨Kd.R_i (Kd.R_mono (Kd.R_far (p := ⟨gb185, 4, none⟩) (Kd.R_far (p := ⟨gb185, 3, none⟩) (Kd.R_far (p := ⟨gb185, 2, none⟩) (Kd.R_far (p := ⟨gb185, 1, none⟩) (Kd.R_far (p := ⟨gb185, 0, none⟩) (Kd.R_types HO184.out BK185.out (by decide)) (fun _ hk => hk.2) (.int .i64 a0)) (fun _ hk => hk.2) (.int .i64 a1)) (fun _ hk => hk.2) (.int .i64 ((rd_T29 l2 0).f2))) (fun _ hk => hk.2) (.int .i64 ((rd_T29 l2 0).f3))) (fun _ hk => hk.2) (.slice Ao30 y182.length co30)) (fun _ hk => trivial))⟩, ⟨kB⟩, ⟨kB⟩, ⟨hB⟩⟩
    case round =>
     clear H'; (try clear c1); (try clear p1); (try clear q1); (try clear hx1); (try clear qi1); (try clear c2); (try clear p2); (try clear c5); (try clear p6); (try clear c7); (try clear c8); (try clear c9); (try clear c10); (try clear c10b0); (try clear c10b1); (try clear c11); (try clear c17); (try clear p17); (try clear q17); (try clear hx17); (try clear qi17); (try clear c18); (try clear p18); (try clear q18); (try clear hx18); (try clear qi18); (try clear c19); (try clear c19b0); (try clear c19b1); (try clear c22); (try clear c22b0); (try clear c22b1); (try clear c23); (try clear c23b0); (try clear c23b1); (try clear hz18); (try clear hx178_0); (try clear hx178_1); (try clear hx178_2); (try clear hx178_3); (try clear hx178_4); (try clear hx180_0); (try clear hx180_1); (try clear hx180_2); (try clear hx180_3); (try clear hx180_4); (try clear hx181_0); (try clear hx181_1); (try clear hx181_2); (try clear hx181_3); (try clear hx181_4); (try clear p178); (try clear p180); (try clear p181); (try clear q178); (try clear q180); (try clear q181); obtain ⟨x10_2, x173000_2, x173001_2, x173002_2, x173003_2, x186004_2, u186004, rfl, HA, HK2, HO_186004, BK172, BK185, HB⟩ := hrel; rcases gk with _ | k2
     · exact absurd HA.out (by simp [spec_FromPasses.l0])
     revert HA; refine aoR ?_; intro H; simp only [spec_FromPasses.l0] at H; revert H
     refine ifB (fun c36 => ?_) (fun c36 => ?_)
     · intro H; have c36b0 := decide_eq_true c36; clear c36; revert H; refine bdR fun ⟨t186, t187⟩ A37 => ?_; intro H
       try dsimp only at H
       revert H; refine bdR fun ⟨t188, t189, t190, t191⟩ A38 => ?_; intro H
       try dsimp only at H
       revert H; refine ifR fun c39 => ?_; intro H; have c39b0 := decide_eq_true c39; clear c39; revert H; refine ifR fun c40 => ?_; intro H; have c40b0 := decide_eq_true c40; clear c40; revert H
       refine ifB (fun c41 => ?_) (fun c41 => ?_)
       · intro H; have c41b0 := beq_iff_eq.mpr c41; have c41b1 := bne_eq_false_iff_eq.mpr c41; clear c41; revert H; refine adR fun H' => ?_
         go_wp2_with (first | ((with_reducible refine gC 89 ?_); refine gL (some 79) Try.func89 #[.int .i64 a0, .int .i64 a1, .int .i64 x10_2] ?_; (with_reducible refine (spec_PassSize.calls k2 a0 a1 x10_2 t186 t187 _ A37.out).mono ?_); rintro e w' ⟨rfl, ⟨nd, rfl⟩⟩; refine ⟨_, rfl, ?_⟩) | ((with_reducible refine gC 90 ?_); refine gL (some 84) Try.func90 #[.int .i64 x10_2] ?_; (with_reducible refine (spec_PassStep.calls x10_2 t188 t189 t190 t191 _ A38.out).mono ?_); rintro e w' ⟨rfl, ⟨nd, rfl⟩⟩; refine ⟨_, rfl, ?_⟩; have p192 : 0 ≤ (x10_2 : Int) := bD; have q192 : x10_2 < (l2.length : Int) := bD; obtain ⟨ad192, A192_4, c192_4, e192, hx192_0, hx192_1, hx192_2, hx192_3, hx192_4, hl192_4, hi192_4⟩ := at_T29 HR2.out x10_2 p192 q192; obtain rfl : ad178 = ad192 := (by injection e192); replace hx192_0 := cB0 HB hx192_0; replace hx192_1 := cB0 HB hx192_1; replace hx192_2 := cB0 HB hx192_2; replace hx192_3 := cB0 HB hx192_3; replace hx192_4 := cB0 HB hx192_4; have HR192_4 := aM hi192_4; have HC192_4 := aM hl192_4; clear hi192_4 hl192_4; replace p192 := eq_true p192; replace q192 := eq_true q192))
         go_loopg [17] k2 (fun kq v17 w' => ∃ (x17_3 : Int) (x186004_3 : List Int) (u186004 : Value), v17 = .int .i64 x17_3 ∧ Aside0 (spec_FromPasses.l1 kq a0 a1 l2 t179 x10_2 t186 t187 t188 t189 t190 t191 x17_3 a0 a1 ((rd_T29 l2 0).f2) ((rd_T29 l2 0).f3) x186004_3 = some (r1, r2, r3, r4, r5, r6)) ∧ Aside0 (kq ≤ k2) ∧ Aside0 (Kd.R (Kd.int .i64) 3 w' w.heap.size (fun _ => True) u186004 x186004_3) ∧ Aside0 (w'.heap[gb172]? = some (.cells #[.int .i64 x173000_2, .int .i64 x173001_2, .int .i64 x173002_2, .int .i64 x173003_2, (.slice none 0 0)] 29 (0, 0))) ∧ Aside0 (w'.heap[gb185]? = some (.cells #[.int .i64 a0, .int .i64 a1, .int .i64 ((rd_T29 l2 0).f2), .int .i64 ((rd_T29 l2 0).f3), u186004] 29 (0, 0))) ∧ Aside0 (Below w.heap.size w w'))
         case atStart => exact ⟨(0), (x186004_2), (u186004), eQ, H', ⟨Nat.le_refl _⟩, ⟨Kd.R_i HO_186004.out⟩, ⟨bI BK172.out⟩, ⟨bI BK185.out⟩, ⟨hB⟩⟩
         case round =>
          clear H'; (try clear c1); (try clear p1); (try clear q1); (try clear hx1); (try clear qi1); (try clear c2); (try clear p2); (try clear c3); (try clear c4); (try clear c5); (try clear p6); (try clear c7); (try clear c8); (try clear c9); (try clear c10); (try clear c10b0); (try clear c10b1); (try clear c11); (try clear c17); (try clear p17); (try clear q17); (try clear hx17); (try clear qi17); (try clear c18); (try clear p18); (try clear q18); (try clear hx18); (try clear qi18); (try clear c19); (try clear c19b0); (try clear c19b1); (try clear p19); (try clear q19); (try clear hx19); (try clear c22); (try clear c22b0); (try clear c22b1); (try clear c23); (try clear c23b0); (try clear c23b1); (try clear c36); (try clear c36b0); (try clear c39); (try clear c39b0); (try clear c40); (try clear c40b0); (try clear c41); (try clear c41b0); (try clear c41b1); (try clear hz18); (try clear hx178_0); (try clear hx178_1); (try clear hx178_2); (try clear hx178_3); (try clear hx178_4); (try clear hx180_0); (try clear hx180_1); (try clear hx180_2); (try clear hx180_3); (try clear hx180_4); (try clear hx181_0); (try clear hx181_1); (try clear hx181_2); (try clear hx181_3); (try clear hx181_4); (try clear hx192_0); (try clear hx192_1); (try clear hx192_2); (try clear hx192_3); (try clear hx192_4); (try clear p178); (try clear p180); (try clear p181); (try clear p192); (try clear q178); (try clear q180); (try clear q181); (try clear q192); obtain ⟨x17_3, x186004_3, u186004, rfl, HA, HK3, HO_186004, BK172, BK185, HB⟩ := hrel; rcases gk with _ | k3
          · exact absurd HA.out (by simp [spec_FromPasses.l1])
          revert HA; refine aoR ?_; intro H; simp only [spec_FromPasses.l1] at H; revert H
          refine ifB (fun c42 => ?_) (fun c42 => ?_)
          · intro H; have c42b0 := decide_eq_true c42; clear c42; revert H
            refine ifB (fun c43 => ?_) (fun c43 => ?_)
            · intro H; exact absurd H (by simp)
            · intro H; have c43b0 := beq_eq_false_iff_ne.mpr c43; have c43b1 := bne_iff_ne.mpr c43; revert H
              refine ifB (fun c44 => ?_) (fun c44 => ?_)
              · intro H; exact absurd H (by simp)
              · intro H; have c44b0 := beq_eq_false_iff_ne.mpr c44; have c44b1 := bne_iff_ne.mpr c44; revert H; refine ifR fun c45 => ?_; intro H; have c45b0 := decide_eq_true c45; clear c45; revert H; refine ifR fun c46 => ?_; intro H; have c46b0 := decide_eq_true c46; clear c46; revert H; refine ifR fun c47 => ?_; intro H; have c47b0 := decide_eq_true c47; clear c47; revert H; refine ifR fun c48 => ?_; intro H; have c48b0 := decide_eq_true c48; clear c48; obtain ⟨ji49, hji49⟩ : ∃ j_ : Int, (wrap64 ((wrap64 ((wrap64 ((wrap64 ((wrap64 ((wrap64 (t189 + (wrap64 ((wrap64 (Int.tdiv (wrap64 (Int.tdiv x17_3 t179)) t186)) * t191)))) * a0)) + t188)) + (wrap64 ((Int.tmod (wrap64 (Int.tdiv x17_3 t179)) t186) * t190)))) * t179)) + (Int.tmod x17_3 t179))) = j_ := ⟨_, rfl⟩; replace H : (if 0 ≤ (ji49) then (if (ji49) < (x186004_3.length : Int) then (spec_FromPasses.l1 k3 a0 a1 l2 t179 x10_2 t186 t187 t188 t189 t190 t191 (wrap64 (x17_3 + 1)) a0 a1 ((rd_T29 l2 0).f2) ((rd_T29 l2 0).f3) (x186004_3.set ((ji49) : Int).toNat (rd ((rd_T29 l2 x10_2).f4) x17_3))) else (none)) else (none)) = some (r1, r2, r3, r4, r5, r6) := by first | (rw [hji49] at H; exact H) | (simp only [hji49] at H ⊢; exact H)
                have hji49w : (IntKind.i64.wrap ((wrap64 ((wrap64 ((wrap64 ((wrap64 ((wrap64 (t189 + (wrap64 ((wrap64 (Int.tdiv (wrap64 (Int.tdiv x17_3 t179)) t186)) * t191)))) * a0)) + t188)) + (wrap64 ((Int.tmod (wrap64 (Int.tdiv x17_3 t179)) t186) * t190)))) * t179)) + (Int.tmod x17_3 t179))) = ji49 := (i64_w _).trans hji49; revert H; refine ifR fun c50 => ?_; intro H; have c50b0 := decide_eq_true c50; clear c50; revert H; refine ifR fun c51 => ?_; intro H; have c51b0 := decide_eq_true c51; clear c51; obtain ⟨y195, hy_⟩ : ∃ y_ : List Int, y_ = (x186004_3.set ((ji49) : Int).toNat (rd ((rd_T29 l2 x10_2).f4) x17_3)) := ⟨_, rfl⟩; replace H : (spec_FromPasses.l1 k3 a0 a1 l2 t179 x10_2 t186 t187 t188 t189 t190 t191 (wrap64 (x17_3 + 1)) a0 a1 ((rd_T29 l2 0).f2) ((rd_T29 l2 0).f3) y195) = some (r1, r2, r3, r4, r5, r6) := nH; have Ny195 := aM hy_; clear hy_; revert H; refine adR fun H' => ?_
                try go_wp2
                replace HO_186004 := aM (Kd.R_drew HO_186004.out); replace BK172 := aM (blk_drew BK172.out); replace BK185 := aM (blk_drew BK185.out); replace HB := aM (below_drew1 HB.out); have p193 : 0 ≤ (x10_2 : Int) := bD; have q193 : x10_2 < (l2.length : Int) := bD; obtain ⟨ad193, A193_4, c193_4, e193, hx193_0, hx193_1, hx193_2, hx193_3, hx193_4, hl193_4, hi193_4⟩ := at_T29 HR2.out x10_2 p193 q193; have hw193_4 := hx193_4; have hw193_3 := hx193_3; have hw193_2 := hx193_2; have hw193_1 := hx193_1; have hw193_0 := hx193_0; obtain rfl : ad178 = ad193 := (by injection e193); replace hx193_0 := cB0 HB hx193_0; replace hx193_1 := cB0 HB hx193_1; replace hx193_2 := cB0 HB hx193_2; replace hx193_3 := cB0 HB hx193_3; replace hx193_4 := cB0 HB hx193_4; have HR193_4 := aM hi193_4; have HC193_4 := aM hl193_4; clear hi193_4 hl193_4; replace p193 := eq_true p193; replace q193 := eq_true q193; have p194 : 0 ≤ (x17_3 : Int) := bD; have q194 : x17_3 < (((rd_T29 l2 x10_2).f4).length : Int) := bD; obtain ⟨ad194, e194, hx194_0⟩ := Kd.at_int HR193_4.out x17_3 p194 q194; have hw194_0 := hx194_0; cases e194; replace hx194_0 := cB0 HB hx194_0; replace p194 := eq_true p194; replace q194 := eq_true q194; have p52 : 0 ≤ ((ji49) : Int) := bD; have q52 : ((ji49) : Int) < ((x186004_3.length : Int) : Int) := bD; obtain ⟨go52, co52, eo52, gb52, gl52, cl52, HG52⟩ := Kd.R_form HO_186004.out (by omega)
                (first | cases eo52 | (injection eo52 with ea_ en_ ec_; (first | subst ea_ | (injection ea_ with ea_; subst ea_)); subst ec_; clear en_)); have GB52 := aM gb52; have GG52 := aM HG52; clear gb52 gl52 HG52; obtain ⟨hx52_0, hf52_0⟩ := Kd.R_celln 0 HO_186004.out ((ji49) : Int) p52 q52; replace p52 := eq_true p52; replace q52 := eq_true q52; have HP54 := Kd.R_putn HO_186004.out ((ji49) : Int) (rd ((rd_T29 l2 x10_2).f4) x17_3)
                rw [← Ny195.out] at HP54; have HQ54 := aM HP54; clear HP54
                refine start_ (n := 31) (S := fun w' => w'.cell? ⟨gb185, 0, none⟩ = some (.int .i64 a0) ∧ w'.cell? ⟨gb185, 1, none⟩ = some (.int .i64 a1) ∧ w'.cell? ⟨gb185, 2, none⟩ = some (.int .i64 ((rd_T29 l2 0).f2)) ∧ w'.cell? ⟨gb185, 3, none⟩ = some (.int .i64 ((rd_T29 l2 0).f3)) ∧ w'.cell? ⟨gb185, 4, none⟩ = some (.slice (some ⟨go52, 0, none⟩) x186004_3.length co52) ∧ w'.cell? (ad178.add ((x10_2).toNat * 5)) = some (.int .i64 ((rd_T29 l2 x10_2).f0)) ∧ w'.cell? ⟨(ad178.add ((x10_2).toNat * 5)).block, (ad178.add ((x10_2).toNat * 5)).off + 1, none⟩ = some (.int .i64 ((rd_T29 l2 x10_2).f1)) ∧ w'.cell? ⟨(ad178.add ((x10_2).toNat * 5)).block, (ad178.add ((x10_2).toNat * 5)).off + 2, none⟩ = some (.int .i64 ((rd_T29 l2 x10_2).f2)) ∧ w'.cell? ⟨(ad178.add ((x10_2).toNat * 5)).block, (ad178.add ((x10_2).toNat * 5)).off + 3, none⟩ = some (.int .i64 ((rd_T29 l2 x10_2).f3)) ∧ w'.cell? ⟨(ad178.add ((x10_2).toNat * 5)).block, (ad178.add ((x10_2).toNat * 5)).off + 4, none⟩ = some (.slice (some ad194) ((rd_T29 l2 x10_2).f4).length c193_4) ∧ w'.cell? (ad194.add (x17_3).toNat) = some (.int .i64 (rd ((rd_T29 l2 x10_2).f4) x17_3))) (ds := [30]) (bAr 31 0) (by kernel_rfl) rfl rfl ⟨bC BK185 0, bC BK185 1, bC BK185 2, bC BK185 3, bC BK185 4, (cB HB hw193_0), (cB HB hw193_1), (cB HB hw193_2), (cB HB hw193_3), (cB HB hw193_4), (cB HB hw194_0)⟩ (fun hHeld => ?_); refine with_tabW spec_FromPasses.tab17 spec_FromPasses.bits17 (fun HT_ HW_ => ?_)
                generalize wr.drew = w53 at HO_186004 BK172 BK185 HB GG52 HQ54 HR193_4 hf52_0 hx193_0 hx193_1 hx193_2 hx193_3 hx193_4 hx194_0 hx52_0 hHeld ⊢; refine pU 0 121 (bAr 31 1) ?_; refine pU 2 123 (bAr 31 5) ?_; refine pU 3 124 (bAr 31 13) ?_; refine pU 4 125 (bAr 31 29) ?_; refine pU 5 126 (bAr 31 61) ?_; refine pU 6 127 (bAr 31 125) ?_; refine pU 7 128 (bAr 31 253) ?_; refine pU 8 129 (bAr 31 509) ?_; refine pU 9 130 (bAr 31 1021) ?_; refine pU 10 131 (bAr 31 2045) ?_; refine pU 11 132 (bAr 31 4093) ?_; refine pU 12 133 (bAr 31 8189) ?_; refine pU 13 134 (bAr 31 16381) ?_; refine pU 14 135 (bAr 31 32765) ?_; refine pU 15 136 (bAr 31 65533) ?_; refine pU 16 137 (bAr 31 131069) ?_; refine pU 17 138 (bAr 31 262141) ?_; refine pU 18 139 (bAr 31 524285) ?_; refine pU 19 140 (bAr 31 1048573) ?_; refine pU 20 141 (bAr 31 2097149) ?_; refine pU 21 142 (bAr 31 4194301) ?_; refine pU 22 143 (bAr 31 8388605) ?_; refine pU 23 144 (bAr 31 16777213) ?_; refine pU 24 145 (bAr 31 33554429) ?_; refine pU 26 147 (bAr 31 100663293) ?_
                refine tK 1 122 (bAr 31 100663295) ?_
                refine tK 25 146 (bAr 31 134217727) ?_; refine pU 27 148 (bAr 31 268435455) ?_
                refine tK 28 149 (bAr 31 536870911) ?_; refine pU 29 150 (bAr 31 1073741823) ?_
                refine last_ (i := 30) (N := none) (bAr 31 2147483647) rfl rfl (one_of HT_.out (by kernel_rfl)) (by decide) (fun K hK => ?_)
                refine skip_ (w1 := ?_) (by rfl) rfl ?_ ?_; rotate_left
                · go_simp
                  rfl
                refine hK.out _ _ ?_; clear hK K
                refine done_ (done_of HT_.out (by kernel_rfl)) ?_
                try go_wp2
                go_roundg k3
                case measure => have := HJ3.out; have := HK2.out; have := HK3.out; omega
                case rel => exact ⟨(wrap64 (x17_3 + 1)), (y195), (.slice (some ⟨go52, 0, none⟩) x186004_3.length co52), eQ, H', ⟨by have := HJ3.out; have := HK2.out; have := HK3.out; omega⟩, ⟨Kd.R_i HQ54.out⟩, ⟨by (with_reducible repeat (first | refine blk_drewN ?_ _ | refine blk_drew ?_ | refine blk_alloc ?_ _)); refine blk_far ?_ (by have h_ := Kd.R_ne HO_186004.out BK172.out (by decide); intro e_; exact h_ (by rw [e_]; rfl)) _; (with_reducible repeat (first | refine blk_drewN ?_ _ | refine blk_drew ?_ | refine blk_alloc ?_ _)); exact BK172.out⟩, ⟨by (with_reducible repeat (first | refine blk_drewN ?_ _ | refine blk_drew ?_ | refine blk_alloc ?_ _)); refine blk_far ?_ (by have h_ := Kd.R_ne HO_186004.out BK185.out (by decide); intro e_; exact h_ (by rw [e_]; rfl)) _; (with_reducible repeat (first | refine blk_drewN ?_ _ | refine blk_drew ?_ | refine blk_alloc ?_ _)); exact BK185.out⟩, ⟨by repeat (first | (with_reducible first | exact HB.out | apply below_alloc | apply pw_below_drewN | apply below_drew1 | refine below_set ?_ GB52.out | refine below_set ?_ GE172.out | refine below_set ?_ GE185.out) | exact HB.out)⟩⟩
          · intro H; have c42b0 := decide_eq_false c42; clear c42; revert H; refine adR fun H' => ?_; go_wp2; go_roundg k3
            case measure => have := HJ3.out; have := HK2.out; have := HK3.out; omega
            case rel => exact ⟨(wrap64 (x10_2 + 1)), (x173000_2), (x173001_2), (x173002_2), (x173003_2), (x186004_3), (u186004), eQ, H', ⟨by have := HJ3.out; have := HK2.out; have := HK3.out; omega⟩, ⟨Kd.R_i HO_186004.out⟩, ⟨bI BK172.out⟩, ⟨bI BK185.out⟩, ⟨hB⟩⟩
       · intro H; have c41b0 := beq_eq_false_iff_ne.mpr c41; have c41b1 := bne_iff_ne.mpr c41; simp only [Option.some.injEq, Prod.mk.injEq] at H; obtain ⟨rfl, rfl, rfl, rfl, rfl, rfl⟩ := H
         go_wp2_with (first | ((with_reducible refine gC 89 ?_); refine gL (some 79) Try.func89 #[.int .i64 a0, .int .i64 a1, .int .i64 x10_2] ?_; (with_reducible refine (spec_PassSize.calls k2 a0 a1 x10_2 t186 t187 _ A37.out).mono ?_); rintro e w' ⟨rfl, ⟨nd, rfl⟩⟩; refine ⟨_, rfl, ?_⟩; (try (rw [drewN_self wr]; generalize hq_ : World.drewN wr _ = wr; have n0_ : Aside0 (Kd.R (Kd.int .i64) 3 wr w.heap.size (fun _ => True) u186004 x186004_2) := ⟨by rw [← hq_]; exact (Kd.R_i HO_186004.out)⟩; have n1_ : Aside0 (wr.heap[gb172]? = some (.cells #[.int .i64 x173000_2, .int .i64 x173001_2, .int .i64 x173002_2, .int .i64 x173003_2, .slice none 0 0] 29 (0, 0))) := ⟨by rw [← hq_]; exact (bI BK172.out)⟩; have n2_ : Aside0 (wr.heap[gb185]? = some (.cells #[.int .i64 a0, .int .i64 a1, .int .i64 ((rd_T29 l2 0).f2), .int .i64 ((rd_T29 l2 0).f3), u186004] 29 (0, 0))) := ⟨by rw [← hq_]; exact (bI BK185.out)⟩; have n3_ : Aside0 (Below w.heap.size w wr) := ⟨by rw [← hq_]; exact hB⟩; clear HO_186004 BK172 BK185 HB hq_; have HO_186004 := n0_; have BK172 := n1_; have BK185 := n2_; have HB := n3_; clear n0_ n1_ n2_ n3_; have hy172 := bz5 BK172; have hy185 := bz5 BK185))) | ((with_reducible refine gC 90 ?_); refine gL (some 84) Try.func90 #[.int .i64 x10_2] ?_; (with_reducible refine (spec_PassStep.calls x10_2 t188 t189 t190 t191 _ A38.out).mono ?_); rintro e w' ⟨rfl, ⟨nd, rfl⟩⟩; refine ⟨_, rfl, ?_⟩; (try (rw [drewN_self wr]; generalize hq_ : World.drewN wr _ = wr; have n0_ : Aside0 (Kd.R (Kd.int .i64) 3 wr w.heap.size (fun _ => True) u186004 x186004_2) := ⟨by rw [← hq_]; exact (Kd.R_i HO_186004.out)⟩; have n1_ : Aside0 (wr.heap[gb172]? = some (.cells #[.int .i64 x173000_2, .int .i64 x173001_2, .int .i64 x173002_2, .int .i64 x173003_2, .slice none 0 0] 29 (0, 0))) := ⟨by rw [← hq_]; exact (bI BK172.out)⟩; have n2_ : Aside0 (wr.heap[gb185]? = some (.cells #[.int .i64 a0, .int .i64 a1, .int .i64 ((rd_T29 l2 0).f2), .int .i64 ((rd_T29 l2 0).f3), u186004] 29 (0, 0))) := ⟨by rw [← hq_]; exact (bI BK185.out)⟩; have n3_ : Aside0 (Below w.heap.size w wr) := ⟨by rw [← hq_]; exact hB⟩; clear HO_186004 BK172 BK185 HB hq_; have HO_186004 := n0_; have BK172 := n1_; have BK185 := n2_; have HB := n3_; clear n0_ n1_ n2_ n3_; have hy172 := bz5 BK172; have hy185 := bz5 BK185)); have p192 : 0 ≤ (x10_2 : Int) := bD; have q192 : x10_2 < (l2.length : Int) := bD; obtain ⟨ad192, A192_4, c192_4, e192, hx192_0, hx192_1, hx192_2, hx192_3, hx192_4, hl192_4, hi192_4⟩ := at_T29 HR2.out x10_2 p192 q192; obtain rfl : ad178 = ad192 := (by injection e192); replace hx192_0 := cB0 HB hx192_0; replace hx192_1 := cB0 HB hx192_1; replace hx192_2 := cB0 HB hx192_2; replace hx192_3 := cB0 HB hx192_3; replace hx192_4 := cB0 HB hx192_4; have HR192_4 := aM hi192_4; have HC192_4 := aM hl192_4; clear hi192_4 hl192_4; replace p192 := eq_true p192; replace q192 := eq_true q192; have hnb55 := NB172_185.out; have hnc55 := NB185_172.out; have hz56 := bz5 BK172))
         refine bodyPost_ret (results_ct rfl _ _ gb172 29 #[.int .i64 0, .int .i64 0, .int .i64 0, .int .i64 0, .slice none 0 0] (0, 0) _ rfl kB Try.underlying29 rfl (by kernel_rfl)) rfl ?_; exact ⟨_, by first | rfl | (simp [errW_none, errW_some] <;> rfl) | (simp only [← hji21]; first | rfl | (simp [errW_none, errW_some] <;> rfl)) | (simp [*, errW_none, errW_some] <;> rfl), by first | exact Kd.R_nil _ _ _ _ _ | exact Kd.N_nil _ _ _ _ _ | exact Kd.V_nil _ _ _ _ _ | exact Kd.Q_nil _ _ _ _ _ | exact Kd.S_nil _ _ _ _ _, hB⟩
     · intro H; have c36b0 := decide_eq_false c36; clear c36; revert H; refine bdR fun ⟨t196, t199⟩ A57 => ?_; intro H
       try dsimp only at H
       revert H; refine adR fun H' => ?_; have hnb58 := NB185_172.out; have hnc58 := NB172_185.out; have hz59 := bz5 BK185; obtain ⟨Ao60, co60, eo60⟩ := Kd.R_slice HO_186004.out; subst eo60
       go_wp2_with (first | ((with_reducible refine gC 13 ?_); refine gL (some 153) Try.func13 #[.agg #[.int .i64 a0, .int .i64 a1, .int .i64 ((rd_T29 l2 0).f2), .int .i64 ((rd_T29 l2 0).f3), .slice Ao60 x186004_2.length co60]] ?_; (with_reducible refine (spec_PassesOf.calls k2 a0 a1 ((rd_T29 l2 0).f2) ((rd_T29 l2 0).f3) _ _ x186004_2 t196 t199 _ ?side1 ?side2 A57.out).mono ?_); (case side1 => repeat (first | exact (Kd.R_reads' HO_186004.out).2.2 | (with_reducible refine Kd.C_alloc ?_ _) | (with_reducible refine Kd.C_drewN ?_ _) | (with_reducible refine Kd.C_drew ?_))); (case side2 => exact (Kd.R_reads' HO_186004.out).2.1); rintro e w61 ⟨v197, rfl, ho0, hb⟩; refine ⟨_, rfl, ?_⟩; have HO198 := aM (Kd.S_lower (Kd.S_newB (Kd.S_newB (Kd.S_new' ho0 (Kd.R_lt (Kd.R_i HO_186004.out))) (g := gb172) (o := .cells #[.int .i64 x173000_2, .int .i64 x173001_2, .int .i64 x173002_2, .int .i64 x173003_2, .slice none 0 0] 29 (0, 0)) (bI BK172.out)) (g := gb185) (o := .cells #[.int .i64 a0, .int .i64 a1, .int .i64 ((rd_T29 l2 0).f2), .int .i64 ((rd_T29 l2 0).f3), .slice Ao60 x186004_2.length co60] 29 (0, 0)) (bI BK185.out)) (below_size hB)); replace HO_186004 := Kd.wR HO_186004 hb; replace BK172 := bW BK172 hb; replace BK185 := bW BK185 hb; replace HB := hS hb; clear hb ho0))
       go_loopg [21, 22] k2 (fun kq v21 v22 w' => ∃ (x21_3 : Bool) (x22_3 : Int), v21 = .bool x21_3 ∧ v22 = .int .i64 x22_3 ∧ Aside0 (spec_FromPasses.l2 kq l2 t196 x21_3 x22_3 a0 a1 ((rd_T29 l2 0).f2) ((rd_T29 l2 0).f3) x186004_2 = some (r1, r2, r3, r4, r5, r6)) ∧ Aside0 (kq ≤ k2) ∧ Aside0 (Kd.S k29 29 w' w.heap.size (fun k_ => some k_ ≠ ((.slice Ao60 x186004_2.length co60) : Value).ownBlock ∧ k_ ≠ gb172 ∧ k_ ≠ gb185) v197 t196) ∧ Aside0 (Kd.R (Kd.int .i64) 3 w' w.heap.size (fun _ => True) (.slice Ao60 x186004_2.length co60) x186004_2) ∧ Aside0 (w'.heap[gb172]? = some (.cells #[.int .i64 x173000_2, .int .i64 x173001_2, .int .i64 x173002_2, .int .i64 x173003_2, (.slice none 0 0)] 29 (0, 0))) ∧ Aside0 (w'.heap[gb185]? = some (.cells #[.int .i64 a0, .int .i64 a1, .int .i64 ((rd_T29 l2 0).f2), .int .i64 ((rd_T29 l2 0).f3), (.slice Ao60 x186004_2.length co60)] 29 (0, 0))) ∧ Aside0 (Below w.heap.size w w'))
       case atStart => exact ⟨(t199), (0), eQ, eQ, H', ⟨Nat.le_refl _⟩, ⟨Kd.S_i (Kd.S_mono HO198.out (fun _ hk => ⟨hk.1.1.2, ⟨hk.1.2, hk.2⟩⟩))⟩, ⟨Kd.R_i HO_186004.out⟩, ⟨bI BK172.out⟩, ⟨bI BK185.out⟩, ⟨hB⟩⟩
       case round =>
        clear H'; (try clear c1); (try clear p1); (try clear q1); (try clear hx1); (try clear qi1); (try clear c2); (try clear p2); (try clear c3); (try clear c4); (try clear c5); (try clear p5); (try clear q5); (try clear hx5); (try clear hf5); (try clear p6); (try clear c7); (try clear c8); (try clear c9); (try clear c10); (try clear c10b0); (try clear c10b1); (try clear c11); (try clear c13); (try clear c17); (try clear p17); (try clear q17); (try clear hx17); (try clear qi17); (try clear c18); (try clear p18); (try clear q18); (try clear hx18); (try clear qi18); (try clear c19); (try clear c19b0); (try clear c19b1); (try clear p19); (try clear q19); (try clear hx19); (try clear c22); (try clear c22b0); (try clear c22b1); (try clear c23); (try clear c23b0); (try clear c23b1); (try clear c36); (try clear c36b0); (try clear c39); (try clear c39b0); (try clear c40); (try clear c40b0); (try clear c41); (try clear c41b0); (try clear c41b1); (try clear c42); (try clear c42b0); (try clear c43); (try clear c43b0); (try clear c43b1); (try clear c44); (try clear c44b0); (try clear c44b1); (try clear c45); (try clear c45b0); (try clear c46); (try clear c46b0); (try clear c47); (try clear c47b0); (try clear c48); (try clear c48b0); (try clear c50); (try clear c50b0); (try clear c51); (try clear c51b0); (try clear p52); (try clear q52); (try clear hx52); (try clear hf52); (try clear c55); (try clear c58); (try clear hz18); (try clear hz56); (try clear hz59); (try clear hx178_0); (try clear hx178_1); (try clear hx178_2); (try clear hx178_3); (try clear hx178_4); (try clear hx180_0); (try clear hx180_1); (try clear hx180_2); (try clear hx180_3); (try clear hx180_4); (try clear hx181_0); (try clear hx181_1); (try clear hx181_2); (try clear hx181_3); (try clear hx181_4); (try clear hx192_0); (try clear hx192_1); (try clear hx192_2); (try clear hx192_3); (try clear hx192_4); (try clear hx193_0); (try clear hx193_1); (try clear hx193_2); (try clear hx193_3); (try clear hx193_4); (try clear hx194_0); (try clear hx52_0); (try clear p178); (try clear p180); (try clear p181); (try clear p192); (try clear p193); (try clear p194); (try clear q178); (try clear q180); (try clear q181); (try clear q192); (try clear q193); (try clear q194); obtain ⟨x21_3, x22_3, rfl, rfl, HA, HK3, HO_20, HO_186004, BK172, BK185, HB⟩ := hrel; rcases gk with _ | k3
        · exact absurd HA.out (by simp [spec_FromPasses.l2])
        revert HA; refine aoR ?_; intro H; simp only [spec_FromPasses.l2] at H; revert H
        refine ifB (fun c62 => ?_) (fun c62 => ?_)
        · intro H; have c62b0 := decide_eq_true c62; clear c62; revert H
          refine ifB (fun c63 => ?_) (fun c63 => ?_)
          · intro H; subst c63; revert H; refine ifR fun c64 => ?_; intro H; have c64b0 := decide_eq_true c64; clear c64; revert H; refine ifR fun c65 => ?_; intro H; have c65b0 := decide_eq_true c65; clear c65; revert H; refine ifR fun c66 => ?_; intro H; have c66b0 := decide_eq_true c66; clear c66; revert H; refine bdR fun t202 A67 => ?_; refine adR fun H' => ?_
            try go_wp2
            replace HO_20 := aM (Kd.S_drew HO_20.out); replace HO_186004 := aM (Kd.R_drew HO_186004.out); replace BK172 := aM (blk_drew BK172.out); replace BK185 := aM (blk_drew BK185.out); replace HB := aM (below_drew1 HB.out); obtain ⟨Ao69, co69, eo69⟩ := Kd.S_slice HO_20.out
            (first | subst eo69 | (injection eo69 with f1_ f2_ f3_; have f4_ := f1_.symm; have f5_ := f3_.symm; clear f1_ f2_ f3_; subst f4_; subst f5_)); have p200 : 0 ≤ (x22_3 : Int) := bD; have q200 : x22_3 < (t196.length : Int) := bD; obtain ⟨ad200, A200_4, c200_4, e200, hx200_0, hx200_1, hx200_2, hx200_3, hx200_4, hl200_4, hi200_4⟩ := at_T29 (Kd.S_reads' HO_20.out).2.2 x22_3 p200 q200; cases e200; obtain ⟨ce200, hce200, hMe200, hcc200⟩ := Kd.S_get HO_20.out z29 x22_3 p200 (by first | exact q200 | exact bD | (have e_ := (Kd.S_reads' HO_20.out).1; omega)); obtain ⟨ve200_4, rfl, ge200_4⟩ := k29_openM hMe200; have hv200_4 := hcc200 4 _ rfl
            rw [add_field _ _ 4 (by omega)] at hv200_4; replace hv200_4 := Option.some.inj (hv200_4.symm.trans hx200_4)
            rw [hv200_4] at ge200_4; have HL200_4 := aM (show Kd.R (Kd.int .i64) 3 _ _ _ _ ((rd_T29 t196 x22_3).f4) from ge200_4); clear hv200_4 ge200_4; clear hcc200 hce200; have HR200_4 := aM hi200_4; have HC200_4 := aM hl200_4; clear hi200_4 hl200_4; replace p200 := eq_true p200; replace q200 := eq_true q200; have p201 : 0 ≤ (x22_3 : Int) := bD; have q201 : x22_3 < (l2.length : Int) := bD; obtain ⟨ad201, A201_4, c201_4, e201, hx201_0, hx201_1, hx201_2, hx201_3, hx201_4, hl201_4, hi201_4⟩ := at_T29 HR2.out x22_3 p201 q201; have hw201_4 := hx201_4; have hw201_3 := hx201_3; have hw201_2 := hx201_2; have hw201_1 := hx201_1; have hw201_0 := hx201_0; obtain rfl : ad178 = ad201 := (by injection e201); replace hx201_0 := cB0 HB hx201_0; replace hx201_1 := cB0 HB hx201_1; replace hx201_2 := cB0 HB hx201_2; replace hx201_3 := cB0 HB hx201_3; replace hx201_4 := cB0 HB hx201_4; have HR201_4 := aM hi201_4; have HC201_4 := aM hl201_4; clear hi201_4 hl201_4; replace p201 := eq_true p201; replace q201 := eq_true q201
            refine start_ (n := 10) (S := fun w' => w'.cell? (ad200.add ((x22_3).toNat * 5)) = some (.int .i64 ((rd_T29 t196 x22_3).f0)) ∧ w'.cell? ⟨(ad200.add ((x22_3).toNat * 5)).block, (ad200.add ((x22_3).toNat * 5)).off + 1, none⟩ = some (.int .i64 ((rd_T29 t196 x22_3).f1)) ∧ w'.cell? ⟨(ad200.add ((x22_3).toNat * 5)).block, (ad200.add ((x22_3).toNat * 5)).off + 2, none⟩ = some (.int .i64 ((rd_T29 t196 x22_3).f2)) ∧ w'.cell? ⟨(ad200.add ((x22_3).toNat * 5)).block, (ad200.add ((x22_3).toNat * 5)).off + 3, none⟩ = some (.int .i64 ((rd_T29 t196 x22_3).f3)) ∧ w'.cell? ⟨(ad200.add ((x22_3).toNat * 5)).block, (ad200.add ((x22_3).toNat * 5)).off + 4, none⟩ = some (.slice A200_4 ((rd_T29 t196 x22_3).f4).length c200_4) ∧ w'.cell? (ad178.add ((x22_3).toNat * 5)) = some (.int .i64 ((rd_T29 l2 x22_3).f0)) ∧ w'.cell? ⟨(ad178.add ((x22_3).toNat * 5)).block, (ad178.add ((x22_3).toNat * 5)).off + 1, none⟩ = some (.int .i64 ((rd_T29 l2 x22_3).f1)) ∧ w'.cell? ⟨(ad178.add ((x22_3).toNat * 5)).block, (ad178.add ((x22_3).toNat * 5)).off + 2, none⟩ = some (.int .i64 ((rd_T29 l2 x22_3).f2)) ∧ w'.cell? ⟨(ad178.add ((x22_3).toNat * 5)).block, (ad178.add ((x22_3).toNat * 5)).off + 3, none⟩ = some (.int .i64 ((rd_T29 l2 x22_3).f3)) ∧ w'.cell? ⟨(ad178.add ((x22_3).toNat * 5)).block, (ad178.add ((x22_3).toNat * 5)).off + 4, none⟩ = some (.slice A201_4 ((rd_T29 l2 x22_3).f4).length c201_4)) (ds := []) (bAr 10 0) (by kernel_rfl) rfl rfl ⟨hx200_0, hx200_1, hx200_2, hx200_3, hx200_4, (cB HB hw201_0), (cB HB hw201_1), (cB HB hw201_2), (cB HB hw201_3), (cB HB hw201_4)⟩ (fun hHeld => ?_); refine with_tabW spec_FromPasses.tab22 spec_FromPasses.bits22 (fun HT_ HW_ => ?_)
            generalize wr.drew = w68 at HO_20 HO_186004 BK172 BK185 HB HL200_4 HR200_4 HR201_4 hx200_0 hx200_1 hx200_2 hx200_3 hx200_4 hx201_0 hx201_1 hx201_2 hx201_3 hx201_4 hHeld ⊢; refine pU 0 163 (bAr 10 1) ?_; refine pU 1 164 (bAr 10 3) ?_; refine pU 2 165 (bAr 10 7) ?_; refine pU 4 167 (bAr 10 23) ?_; refine pU 5 168 (bAr 10 55) ?_; refine pU 6 169 (bAr 10 119) ?_
            refine tK 3 166 (bAr 10 127) ?_
            refine tK 7 170 (bAr 10 255) ?_
            refine one_ (i := 8) (N := some 171) (bAr 10 511) rfl rfl (one_of HT_.out (by kernel_rfl)) (by decide) (fun K hK => ?_)
            refine goes_ Try.func91 (by kernel_rfl) rfl #[.agg #[.int .i64 ((rd_T29 t196 x22_3).f0), .int .i64 ((rd_T29 t196 x22_3).f1), .int .i64 ((rd_T29 t196 x22_3).f2), .int .i64 ((rd_T29 t196 x22_3).f3), .slice A200_4 ((rd_T29 t196 x22_3).f4).length c200_4], .agg #[.int .i64 ((rd_T29 l2 x22_3).f0), .int .i64 ((rd_T29 l2 x22_3).f1), .int .i64 ((rd_T29 l2 x22_3).f2), .int .i64 ((rd_T29 l2 x22_3).f3), .slice A201_4 ((rd_T29 l2 x22_3).f4).length c201_4]] (by rfl) rfl rfl (by (try simp only [List.map_toArray, List.map_cons, List.map_nil]); first | done | rfl | (simp only [List.length_drop, List.length_take]; rfl)) ?_
            with_reducible refine (spec_l14Same.calls k3 ((rd_T29 t196 x22_3).f0) ((rd_T29 t196 x22_3).f1) ((rd_T29 t196 x22_3).f2) ((rd_T29 t196 x22_3).f3) _ _ ((rd_T29 t196 x22_3).f4) ((rd_T29 l2 x22_3).f0) ((rd_T29 l2 x22_3).f1) ((rd_T29 l2 x22_3).f2) ((rd_T29 l2 x22_3).f3) _ _ ((rd_T29 l2 x22_3).f4) t202 _ ?side1 ?side2 ?side3 ?side4 A67.out).mono ?_
            (case side1 => repeat (first | exact (by repeat (first | (with_reducible exact HR200_4.out) | (with_reducible refine Kd.C_alloc ?_ _) | (with_reducible refine Kd.C_drewN ?_ _) | (with_reducible refine Kd.C_drew ?_) | exact HR200_4.out)) | (with_reducible refine Kd.C_alloc ?_ _) | (with_reducible refine Kd.C_drewN ?_ _) | (with_reducible refine Kd.C_drew ?_)))
            (case side2 => exact HC200_4.out)
            (case side3 => repeat (first | exact (Kd.C_below HR201_4.out HB.out) | (with_reducible refine Kd.C_alloc ?_ _) | (with_reducible refine Kd.C_drewN ?_ _) | (with_reducible refine Kd.C_drew ?_)))
            (case side4 => exact HC201_4.out)
            rintro e w70 ⟨rfl, hb⟩; have HS0_ := (hb.cell (World.block_lt_of_cell? _ _ (hHeld.1))).trans (hHeld.1); have HS1_ := (hb.cell (World.block_lt_of_cell? _ _ (hHeld.2.1))).trans (hHeld.2.1); have HS2_ := (hb.cell (World.block_lt_of_cell? _ _ (hHeld.2.2.1))).trans (hHeld.2.2.1); have HS3_ := (hb.cell (World.block_lt_of_cell? _ _ (hHeld.2.2.2.1))).trans (hHeld.2.2.2.1); have HS4_ := (hb.cell (World.block_lt_of_cell? _ _ (hHeld.2.2.2.2.1))).trans (hHeld.2.2.2.2.1)
            refine ⟨_, rfl, ?_⟩; replace HO_20 := Kd.wS HO_20 hb; replace HO_186004 := Kd.wR HO_186004 hb; replace HL200_4 := aM (Kd.R_below (Kd.R_i HL200_4.out) hb); replace BK172 := bW BK172 hb; replace BK185 := bW BK185 hb; replace HR200_4 := aM (Kd.C_below (by repeat (first | (with_reducible exact HR200_4.out) | (with_reducible refine Kd.C_alloc ?_ _) | (with_reducible refine Kd.C_drewN ?_ _) | (with_reducible refine Kd.C_drew ?_) | exact HR200_4.out)) hb); replace HB := hS hb
            refine hK.out _ _ ⟨HS0_, HS1_, HS2_, HS3_, HS4_, (cB HB hw201_0), (cB HB hw201_1), (cB HB hw201_2), (cB HB hw201_3), (cB HB hw201_4)⟩ (fun hHeld => ?_); clear hK K
            refine norm_ (a' := ?_) ?_ ?_; rotate_left
            · show Act.put _ (some 171) _ = _
              simp only [Act.put, List.setIfInBounds_toArray, List.set_cons_zero, List.set_cons_succ, i64_w, i32_w]
              rfl
            refine pU 9 21 (bAr 10 1023) ?_
            refine done_ (done_of HT_.out (by kernel_rfl)) ?_
            try go_wp2
            go_roundg k3
            case measure => have := HJ3.out; have := HK2.out; have := HK3.out; omega
            case rel => exact ⟨(t202), (wrap64 (x22_3 + 1)), eQ, eQ, H', ⟨by have := HJ3.out; have := HK2.out; have := HK3.out; omega⟩, ⟨Kd.S_i HO_20.out⟩, ⟨Kd.R_i HO_186004.out⟩, ⟨bI BK172.out⟩, ⟨bI BK185.out⟩, ⟨hB⟩⟩
          · intro H; replace c63 := Bool.eq_false_iff.mpr c63; subst c63; simp only [Option.some.injEq, Prod.mk.injEq] at H; obtain ⟨rfl, rfl, rfl, rfl, rfl, rfl⟩ := H; have hnb71 := NB172_185.out; have hnc71 := NB185_172.out; have hz72 := bz5 BK172; go_wp2
            refine bodyPost_ret (results_ct rfl _ _ gb172 29 #[.int .i64 0, .int .i64 0, .int .i64 0, .int .i64 0, .slice none 0 0] (0, 0) _ rfl kB Try.underlying29 rfl (by kernel_rfl)) rfl ?_; exact ⟨_, by first | rfl | (simp [errW_none, errW_some] <;> rfl) | (simp only [← hji21]; first | rfl | (simp [errW_none, errW_some] <;> rfl)) | (simp [*, errW_none, errW_some] <;> rfl), by first | exact Kd.R_nil _ _ _ _ _ | exact Kd.N_nil _ _ _ _ _ | exact Kd.V_nil _ _ _ _ _ | exact Kd.Q_nil _ _ _ _ _ | exact Kd.S_nil _ _ _ _ _, hB⟩
        · intro H; have c62b0 := decide_eq_false c62; clear c62; revert H
          refine ifB (fun c73 => ?_) (fun c73 => ?_)
          · intro H; subst c73; simp only [Option.some.injEq, Prod.mk.injEq] at H; obtain ⟨rfl, rfl, rfl, rfl, rfl, rfl⟩ := H; have hnb74 := NB185_172.out; have hnc74 := NB172_185.out; have hz75 := bz5 BK185; have hz76 := bz5 BK172; go_wp2
            refine bodyPost_ret (results_ct rfl _ _ gb172 29 #[.int .i64 a0, .int .i64 a1, .int .i64 ((rd_T29 l2 0).f2), .int .i64 ((rd_T29 l2 0).f3), .slice Ao60 x186004_2.length co60] (0, 0) _ rfl kB Try.underlying29 rfl (by kernel_rfl)) rfl ?_; exact ⟨_, by first | rfl | (simp [errW_none, errW_some] <;> rfl) | (simp only [← hji21]; first | rfl | (simp [errW_none, errW_some] <;> rfl)) | (simp [*, errW_none, errW_some] <;> rfl), Kd.R_i (Kd.R_mono (Kd.R_far (p := ⟨gb172, 4, none⟩) (Kd.R_far (p := ⟨gb172, 3, none⟩) (Kd.R_far (p := ⟨gb172, 2, none⟩) (Kd.R_far (p := ⟨gb172, 1, none⟩) (Kd.R_far (p := ⟨gb172, 0, none⟩) (Kd.R_types HO_186004.out BK172.out (by decide)) (fun _ hk => hk.2) (.int .i64 a0)) (fun _ hk => hk.2) (.int .i64 a1)) (fun _ hk => hk.2) (.int .i64 ((rd_T29 l2 0).f2))) (fun _ hk => hk.2) (.int .i64 ((rd_T29 l2 0).f3))) (fun _ hk => hk.2) (.slice Ao60 x186004_2.length co60)) (fun _ hk => trivial)), hB⟩
          · intro H; replace c73 := Bool.eq_false_iff.mpr c73; subst c73; simp only [Option.some.injEq, Prod.mk.injEq] at H; obtain ⟨rfl, rfl, rfl, rfl, rfl, rfl⟩ := H; have hnb77 := NB172_185.out; have hnc77 := NB185_172.out; have hz78 := bz5 BK172; go_wp2
            refine bodyPost_ret (results_ct rfl _ _ gb172 29 #[.int .i64 0, .int .i64 0, .int .i64 0, .int .i64 0, .slice none 0 0] (0, 0) _ rfl kB Try.underlying29 rfl (by kernel_rfl)) rfl ?_; exact ⟨_, by first | rfl | (simp [errW_none, errW_some] <;> rfl) | (simp only [← hji21]; first | rfl | (simp [errW_none, errW_some] <;> rfl)) | (simp [*, errW_none, errW_some] <;> rfl), by first | exact Kd.R_nil _ _ _ _ _ | exact Kd.N_nil _ _ _ _ _ | exact Kd.V_nil _ _ _ _ _ | exact Kd.Q_nil _ _ _ _ _ | exact Kd.S_nil _ _ _ _ _, hB⟩

end Go.Proofs.Ytajnobmnkbkkgaa.PFnExactFromPasses
