/- Walks of functions that the law FnExactNoCover reaches: each call comes to what the Lean function of its name tells. Written by p2.py, a program of this session, by way of the kit's print. -/
import Derived.Test.YtajnobmnkbkkgaaVFnExactNoCover
import Derived.Test.YtajnobmnkbkkgaaPFnExactNoCoverx0
import Derived.Test.YtajnobmnkbkkgaaPFnExactNoCoverx4
namespace Go.Proofs.Ytajnobmnkbkkgaa.PFnExactNoCover
open Go.RowKit Go.Proofs.YtajnobmnkbkkgaaW.PrintWords Go.Proofs.YtajnobmnkbkkgaaW.PrintLast Go.Proofs.YtajnobmnkbkkgaaW.PrintMore
attribute [local go_sem] max2_int min2_int max_two min_two max_three min_three max_four min_four   -- for this text's walks alone
set_option linter.unusedVariables false
set_option linter.unusedSimpArgs false

/-! ### spec_RasterOk: function 61 -/
mutual
def spec_RasterOk.j0 : Nat → Bool → Int → Int → Int → Int → List Int → Option (Bool)
  | 0, _, _, _, _, _, _ => none
  | k + 1, x36, x223000, x223001, x223002, x223003, x223004 => if x36 = true then (some false) else (spec_RasterOk.l0 k 0 x223000 x223001 x223002 x223003 x223004)
def spec_RasterOk.l0 : Nat → Int → Int → Int → Int → Int → List Int → Option (Bool)
  | 0, _, _, _, _, _, _ => none
  | k + 1, x3, x223000, x223001, x223002, x223003, x223004 => if x3 < (x223004.length : Int) then (if 0 ≤ x3 then ((spec_l01Pow.f k x223003).bind fun t228 => ((spec_l01In.f (rd x223004 x3) 0 (wrap64 (t228 - 1))).bind fun t229 => (if t229 = true then (spec_RasterOk.l0 k (wrap64 (x3 + 1)) x223000 x223001 x223002 x223003 x223004) else (some false)))) else (none)) else (some true)
end
def spec_RasterOk.f (k : Nat) (a0_0 : Int) (a0_1 : Int) (a0_2 : Int) (a0_3 : Int) (l0_4 : List Int) : Option (Bool) := (spec_l12Side.f a0_0).bind fun t223 => (if t223 = true then ((spec_l12Side.f a0_1).bind fun t224 => (if t224 = true then ((spec_DepthOk.f k a0_2 a0_3).bind fun t225 => (if t225 = true then ((spec_ChannelsOf.f k a0_2).bind fun t226 => (spec_RasterOk.j0 k ((l0_4.length : Int) != (wrap64 ((wrap64 (a0_0 * a0_1)) * t226))) a0_0 a0_1 a0_2 a0_3 l0_4)) else (spec_RasterOk.j0 k true a0_0 a0_1 a0_2 a0_3 l0_4))) else (spec_RasterOk.j0 k true a0_0 a0_1 a0_2 a0_3 l0_4))) else (spec_RasterOk.j0 k true a0_0 a0_1 a0_2 a0_3 l0_4))
def spec_RasterOk.T1 : Bool × List (List Nat × List Nat) := (true, [([], []), ([0], [0]), ([1], [1]), ([2], [2]), ([3, 2], [3]), ([4], [4]), ([5, 4], [4, 5]), ([6, 4, 4], [4, 6]), ([7, 4], [4, 7]), ([4, 8], [4, 8]), ([9, 7], [9]), ([10], [10]), ([11, 10], [10, 11]), ([10], [10]), ([13, 10], [10, 13]), ([12, 14, 10, 10], [10, 12, 14]), ([15, 10], [10, 15]), ([10, 16], [10, 16]), ([17, 15], [17]), ([18], [18]), ([19, 18], [18, 19]), ([20, 18], [18, 20]), ([18], [18]), ([22, 18], [18, 22]), ([18], [18]), ([24, 18], [18, 24]), ([23, 25, 18], [18, 23, 25]), ([18], [18]), ([27, 18], [18, 27]), ([28, 18, 18], [18, 28]), ([26, 29, 18], [18, 26, 29]), ([21, 30, 18], [18, 21, 30]), ([18, 31], [18, 31])])
def spec_RasterOk.B1 : List Nat := [0, 1, 3, 7, 15, 31, 63, 127, 255, 511, 1023, 2047, 4095, 2047, 10239, 32767, 65535, 131071, 262143, 524287, 1048575, 2097151, 524287, 4718591, 524287, 17301503, 63438847, 524287, 134742015, 403177471, 1070071807, 2147483647, 4294967295]
theorem spec_RasterOk.tab1 : rtab .any (opsOf Try.f61 1) = spec_RasterOk.T1 := by kernel_rfl
theorem spec_RasterOk.bits1 : waitsOk spec_RasterOk.T1.2 spec_RasterOk.B1 = true := by kernel_rfl
def spec_RasterOk.T6 : Bool × List (List Nat × List Nat) := (true, [([], []), ([0], [0]), ([], []), ([1, 2], [1, 2]), ([3], [3]), ([], []), ([5], [5]), ([6], [6]), ([7], [7]), ([4, 8, 7], [4, 8]), ([9], [9])])
def spec_RasterOk.B6 : List Nat := [0, 1, 0, 7, 15, 0, 32, 96, 224, 511, 1023]
theorem spec_RasterOk.tab6 : rtab .any (opsOf Try.f61 6) = spec_RasterOk.T6 := by kernel_rfl
theorem spec_RasterOk.bits6 : waitsOk spec_RasterOk.T6.2 spec_RasterOk.B6 = true := by kernel_rfl
set_option maxHeartbeats 8000000 in
set_option maxRecDepth 100000 in
theorem spec_RasterOk.calls (k : Nat) (a0_0 : Int) (a0_1 : Int) (a0_2 : Int) (a0_3 : Int) (A0_4 : Option Addr) (c0_4 : Nat) (l0_4 : List Int) (r : Bool) (w : World) (hr0_4 : Kd.C (Kd.int .i64) w A0_4 l0_4.length l0_4) (hc0_4 : l0_4.length ≤ c0_4) (h : spec_RasterOk.f k a0_0 a0_1 a0_2 a0_3 l0_4 = some r) :
 Calls Try.prog 61 #[.agg #[.int .i64 a0_0, .int .i64 a0_1, .int .i64 a0_2, .int .i64 a0_3, .slice A0_4 l0_4.length c0_4]] w fun e w' => e = .returned (.bool r) ∧ Below w.heap.size w w' := by
 have hu29 := Try.underlying29; have HR0_4 := aM hr0_4; have HC0_4 := aM hc0_4; clear hr0_4 hc0_4; have HB := aM (Below.refl w.heap.size w); unfold spec_RasterOk.f at h; have H := h; clear h; revert H; refine adR fun HC2 => ?_; go_enter Try.func61, Try.ntmps61
 go_upto_region 1 with (first | ((with_reducible refine gD 1 ?_); (try (refine gate_guard (by rfl) ?_; dsimp only)); refine bE 1 #[.int .i64 a0_0, .int .i64 a0_1, .int .i64 a0_2, .int .i64 a0_3, .slice A0_4 l0_4.length c0_4] 29 ?_; intro gb222 hg w3 hbox hb; have BK222 := aM hbox; have GW222 := aM (sZ hg); have GE222 := GW222; replace HB := hS hb; clear hb hbox hg))
 (try simp only [Act.put, List.setIfInBounds_toArray, List.set_cons_zero, List.set_cons_succ])
 go_cut [36] (fun v36 wc => ∃ (kq : Nat) (x36_1 : Bool), v36 = .bool x36_1 ∧ Aside0 (spec_RasterOk.j0 kq x36_1 a0_0 a0_1 a0_2 a0_3 l0_4 = some r) ∧ Aside0 (kq ≤ k) ∧ Aside0 (wc.heap[gb222]? = some (.cells #[.int .i64 a0_0, .int .i64 a0_1, .int .i64 a0_2, .int .i64 a0_3, (.slice A0_4 l0_4.length c0_4)] 29 (0, 0))) ∧ Aside0 (Below w.heap.size w wc))
 case first =>
  revert HC2; refine aoR ?_; refine bdR fun t223 A4 => ?_
  refine ifB (fun c5 => ?_) (fun c5 => ?_)
  · intro H; subst c5; revert H; refine bdR fun t224 A6 => ?_
    refine ifB (fun c7 => ?_) (fun c7 => ?_)
    · intro H; subst c7; revert H; refine bdR fun t225 A8 => ?_
      refine ifB (fun c9 => ?_) (fun c9 => ?_)
      · intro H; subst c9; revert H; refine bdR fun t226 A10 => ?_; refine adR fun H' => ?_
        try go_wp2
        replace BK222 := aM (blk_drew BK222.out); replace HB := aM (below_drew1 HB.out)
        refine start_ (n := 33) (S := fun w' => w'.cell? ⟨gb222, 0, none⟩ = some (.int .i64 a0_0) ∧ w'.cell? ⟨gb222, 1, none⟩ = some (.int .i64 a0_1) ∧ w'.cell? ⟨gb222, 2, none⟩ = some (.int .i64 a0_2) ∧ w'.cell? ⟨gb222, 3, none⟩ = some (.int .i64 a0_3) ∧ w'.cell? ⟨gb222, 4, none⟩ = some (.slice A0_4 l0_4.length c0_4)) (ds := []) (bAr 33 0) (by kernel_rfl) rfl rfl ⟨bC BK222 0, bC BK222 1, bC BK222 2, bC BK222 3, bC BK222 4⟩ (fun hHeld => ?_); refine with_tabW spec_RasterOk.tab1 spec_RasterOk.bits1 (fun HT_ HW_ => ?_)
        generalize w3.drew = w11 at BK222 HB hHeld ⊢; refine pU 0 4 (bAr 33 1) ?_
        refine tK 1 5 (bAr 33 3) ?_
        refine one_ (i := 2) (N := some 6) (bAr 33 7) rfl rfl (one_of HT_.out (by kernel_rfl)) (by decide) (fun K hK => ?_)
        refine goes_ Try.func77 (by kernel_rfl) rfl #[.int .i64 a0_0] (by rfl) rfl rfl (by (try simp only [List.map_toArray, List.map_cons, List.map_nil]); first | done | rfl | (simp only [List.length_drop, List.length_take]; rfl)) ?_
        with_reducible refine (spec_l12Side.calls a0_0 true _ A4.out).mono ?_
        rintro e w' ⟨rfl, ⟨nd, rfl⟩⟩
        refine ⟨_, rfl, ?_⟩
        refine hK.out _ _ ⟨bC BK222 0, bC BK222 1, bC BK222 2, bC BK222 3, bC BK222 4⟩ (fun hHeld => ?_); clear hK K
        refine norm_ (a' := ?_) ?_ ?_; rotate_left
        · show Act.put _ (some 6) _ = _
          simp only [Act.put, List.setIfInBounds_toArray, List.set_cons_zero, List.set_cons_succ, i64_w, i32_w]
          rfl
        refine pU 3 7 (bAr 33 15) ?_; refine pU 4 8 (bAr 33 31) ?_; refine pU 5 9 (bAr 33 63) ?_
        refine tK 6 10 (bAr 33 127) ?_
        refine one_ (i := 7) (N := some 11) (bAr 33 255) rfl rfl (one_of HT_.out (by kernel_rfl)) (by decide) (fun K hK => ?_)
        refine goes_ Try.func77 (by kernel_rfl) rfl #[.int .i64 a0_1] (by rfl) rfl rfl (by (try simp only [List.map_toArray, List.map_cons, List.map_nil]); first | done | rfl | (simp only [List.length_drop, List.length_take]; rfl)) ?_
        with_reducible refine (spec_l12Side.calls a0_1 true _ A6.out).mono ?_
        rintro e w' ⟨rfl, ⟨nd, rfl⟩⟩
        refine ⟨_, rfl, ?_⟩
        refine hK.out _ _ ⟨bC BK222 0, bC BK222 1, bC BK222 2, bC BK222 3, bC BK222 4⟩ (fun hHeld => ?_); clear hK K
        refine norm_ (a' := ?_) ?_ ?_; rotate_left
        · show Act.put _ (some 11) _ = _
          simp only [Act.put, List.setIfInBounds_toArray, List.set_cons_zero, List.set_cons_succ, i64_w, i32_w]
          rfl
        refine pU 8 12 (bAr 33 511) ?_; refine pU 9 13 (bAr 33 1023) ?_; refine pU 10 14 (bAr 33 2047) ?_; refine pU 11 15 (bAr 33 4095) ?_; refine pU 13 17 (bAr 33 12287) ?_
        refine tK 12 16 (bAr 33 16383) ?_
        refine tK 14 18 (bAr 33 32767) ?_
        refine one_ (i := 15) (N := some 19) (bAr 33 65535) rfl rfl (one_of HT_.out (by kernel_rfl)) (by decide) (fun K hK => ?_)
        refine goes_ Try.func78 (by kernel_rfl) rfl #[.int .i64 a0_2, .int .i64 a0_3] (by rfl) rfl rfl (by (try simp only [List.map_toArray, List.map_cons, List.map_nil]); first | done | rfl | (simp only [List.length_drop, List.length_take]; rfl)) ?_
        with_reducible refine (spec_DepthOk.calls k a0_2 a0_3 true _ A8.out).mono ?_
        rintro e w' ⟨rfl, ⟨nd, rfl⟩⟩
        refine ⟨_, rfl, ?_⟩
        refine hK.out _ _ ⟨bC BK222 0, bC BK222 1, bC BK222 2, bC BK222 3, bC BK222 4⟩ (fun hHeld => ?_); clear hK K
        refine norm_ (a' := ?_) ?_ ?_; rotate_left
        · show Act.put _ (some 19) _ = _
          simp only [Act.put, List.setIfInBounds_toArray, List.set_cons_zero, List.set_cons_succ, i64_w, i32_w]
          rfl
        refine pU 16 20 (bAr 33 131071) ?_; refine pU 17 21 (bAr 33 262143) ?_; refine pU 18 22 (bAr 33 524287) ?_; refine pU 19 23 (bAr 33 1048575) ?_; refine pU 22 26 (bAr 33 5242879) ?_; refine pU 24 28 (bAr 33 22020095) ?_; refine pU 27 31 (bAr 33 156237823) ?_
        refine tK 20 24 (bAr 33 157286399) ?_; refine pU 21 25 (bAr 33 159383551) ?_
        refine tK 23 27 (bAr 33 167772159) ?_
        refine tK 25 29 (bAr 33 201326591) ?_; refine pU 26 30 (bAr 33 268435455) ?_
        refine tK 28 32 (bAr 33 536870911) ?_
        refine one_ (i := 29) (N := some 33) (bAr 33 1073741823) rfl rfl (one_of HT_.out (by kernel_rfl)) (by decide) (fun K hK => ?_)
        refine goes_ Try.func88 (by kernel_rfl) rfl #[.int .i64 a0_2] (by rfl) rfl rfl (by (try simp only [List.map_toArray, List.map_cons, List.map_nil]); first | done | rfl | (simp only [List.length_drop, List.length_take]; rfl)) ?_
        with_reducible refine (spec_ChannelsOf.calls k a0_2 t226 _ A10.out).mono ?_
        rintro e w' ⟨rfl, ⟨nd, rfl⟩⟩
        refine ⟨_, rfl, ?_⟩
        refine hK.out _ _ ⟨bC BK222 0, bC BK222 1, bC BK222 2, bC BK222 3, bC BK222 4⟩ (fun hHeld => ?_); clear hK K
        refine norm_ (a' := ?_) ?_ ?_; rotate_left
        · show Act.put _ (some 33) _ = _
          simp only [Act.put, List.setIfInBounds_toArray, List.set_cons_zero, List.set_cons_succ, i64_w, i32_w]
          rfl
        refine pU 30 34 (bAr 33 2147483647) ?_; refine pU 31 35 (bAr 33 4294967295) ?_; refine pU 32 36 (bAr 33 8589934591) ?_
        refine done_ (done_of HT_.out (by kernel_rfl)) ?_
        try go_wp2
        go_meet
        case rel => exact ⟨_, (((l0_4.length : Int) != (wrap64 ((wrap64 (a0_0 * a0_1)) * t226)))), eQ, H', ⟨lE⟩, ⟨bI BK222.out⟩, ⟨hB⟩⟩
      · intro H; replace c9 := Bool.eq_false_iff.mpr c9; subst c9; revert H; refine adR fun H' => ?_
        try go_wp2
        replace BK222 := aM (blk_drew BK222.out); replace HB := aM (below_drew1 HB.out)
        refine start_ (n := 33) (S := fun w' => w'.cell? ⟨gb222, 0, none⟩ = some (.int .i64 a0_0) ∧ w'.cell? ⟨gb222, 1, none⟩ = some (.int .i64 a0_1) ∧ w'.cell? ⟨gb222, 2, none⟩ = some (.int .i64 a0_2) ∧ w'.cell? ⟨gb222, 3, none⟩ = some (.int .i64 a0_3) ∧ w'.cell? ⟨gb222, 4, none⟩ = some (.slice A0_4 l0_4.length c0_4)) (ds := []) (bAr 33 0) (by kernel_rfl) rfl rfl ⟨bC BK222 0, bC BK222 1, bC BK222 2, bC BK222 3, bC BK222 4⟩ (fun hHeld => ?_); refine with_tabW spec_RasterOk.tab1 spec_RasterOk.bits1 (fun HT_ HW_ => ?_)
        generalize w3.drew = w12 at BK222 HB hHeld ⊢; refine pU 0 4 (bAr 33 1) ?_
        refine tK 1 5 (bAr 33 3) ?_
        refine one_ (i := 2) (N := some 6) (bAr 33 7) rfl rfl (one_of HT_.out (by kernel_rfl)) (by decide) (fun K hK => ?_)
        refine goes_ Try.func77 (by kernel_rfl) rfl #[.int .i64 a0_0] (by rfl) rfl rfl (by (try simp only [List.map_toArray, List.map_cons, List.map_nil]); first | done | rfl | (simp only [List.length_drop, List.length_take]; rfl)) ?_
        with_reducible refine (spec_l12Side.calls a0_0 true _ A4.out).mono ?_
        rintro e w' ⟨rfl, ⟨nd, rfl⟩⟩
        refine ⟨_, rfl, ?_⟩
        refine hK.out _ _ ⟨bC BK222 0, bC BK222 1, bC BK222 2, bC BK222 3, bC BK222 4⟩ (fun hHeld => ?_); clear hK K
        refine norm_ (a' := ?_) ?_ ?_; rotate_left
        · show Act.put _ (some 6) _ = _
          simp only [Act.put, List.setIfInBounds_toArray, List.set_cons_zero, List.set_cons_succ, i64_w, i32_w]
          rfl
        refine pU 3 7 (bAr 33 15) ?_; refine pU 4 8 (bAr 33 31) ?_; refine pU 5 9 (bAr 33 63) ?_
        refine tK 6 10 (bAr 33 127) ?_
        refine one_ (i := 7) (N := some 11) (bAr 33 255) rfl rfl (one_of HT_.out (by kernel_rfl)) (by decide) (fun K hK => ?_)
        refine goes_ Try.func77 (by kernel_rfl) rfl #[.int .i64 a0_1] (by rfl) rfl rfl (by (try simp only [List.map_toArray, List.map_cons, List.map_nil]); first | done | rfl | (simp only [List.length_drop, List.length_take]; rfl)) ?_
        with_reducible refine (spec_l12Side.calls a0_1 true _ A6.out).mono ?_
        rintro e w' ⟨rfl, ⟨nd, rfl⟩⟩
        refine ⟨_, rfl, ?_⟩
        refine hK.out _ _ ⟨bC BK222 0, bC BK222 1, bC BK222 2, bC BK222 3, bC BK222 4⟩ (fun hHeld => ?_); clear hK K
        refine norm_ (a' := ?_) ?_ ?_; rotate_left
        · show Act.put _ (some 11) _ = _
          simp only [Act.put, List.setIfInBounds_toArray, List.set_cons_zero, List.set_cons_succ, i64_w, i32_w]
          rfl
        refine pU 8 12 (bAr 33 511) ?_; refine pU 9 13 (bAr 33 1023) ?_; refine pU 10 14 (bAr 33 2047) ?_; refine pU 11 15 (bAr 33 4095) ?_; refine pU 13 17 (bAr 33 12287) ?_
        refine tK 12 16 (bAr 33 16383) ?_
        refine tK 14 18 (bAr 33 32767) ?_
        refine one_ (i := 15) (N := some 19) (bAr 33 65535) rfl rfl (one_of HT_.out (by kernel_rfl)) (by decide) (fun K hK => ?_)
        refine goes_ Try.func78 (by kernel_rfl) rfl #[.int .i64 a0_2, .int .i64 a0_3] (by rfl) rfl rfl (by (try simp only [List.map_toArray, List.map_cons, List.map_nil]); first | done | rfl | (simp only [List.length_drop, List.length_take]; rfl)) ?_
        with_reducible refine (spec_DepthOk.calls k a0_2 a0_3 false _ A8.out).mono ?_
        rintro e w' ⟨rfl, ⟨nd, rfl⟩⟩
        refine ⟨_, rfl, ?_⟩
        refine hK.out _ _ ⟨bC BK222 0, bC BK222 1, bC BK222 2, bC BK222 3, bC BK222 4⟩ (fun hHeld => ?_); clear hK K
        refine norm_ (a' := ?_) ?_ ?_; rotate_left
        · show Act.put _ (some 19) _ = _
          simp only [Act.put, List.setIfInBounds_toArray, List.set_cons_zero, List.set_cons_succ, i64_w, i32_w]
          rfl
        refine pU 16 20 (bAr 33 131071) ?_; refine pU 17 21 (bAr 33 262143) ?_; refine pU 18 22 (bAr 33 524287) ?_
        refine pV 19 23 (bAr 33 1048575) ?_
        refine pV 20 24 (bAr 33 2097151) ?_
        refine pV 21 25 (bAr 33 4194303) ?_
        refine pV 22 26 (bAr 33 8388607) ?_
        refine pV 23 27 (bAr 33 16777215) ?_
        refine pV 24 28 (bAr 33 33554431) ?_
        refine pV 25 29 (bAr 33 67108863) ?_
        refine pV 26 30 (bAr 33 134217727) ?_
        refine pV 27 31 (bAr 33 268435455) ?_
        refine pV 28 32 (bAr 33 536870911) ?_
        refine pV 29 33 (bAr 33 1073741823) ?_
        refine pV 30 34 (bAr 33 2147483647) ?_
        refine pV 31 35 (bAr 33 4294967295) ?_; refine pU 32 36 (bAr 33 8589934591) ?_
        refine done_ (done_of HT_.out (by kernel_rfl)) ?_
        try go_wp2
        go_meet
        case rel => exact ⟨_, (true), eQ, H', ⟨lE⟩, ⟨bI BK222.out⟩, ⟨hB⟩⟩
    · intro H; replace c7 := Bool.eq_false_iff.mpr c7; subst c7; revert H; refine adR fun H' => ?_
      try go_wp2
      replace BK222 := aM (blk_drew BK222.out); replace HB := aM (below_drew1 HB.out)
      refine start_ (n := 33) (S := fun w' => w'.cell? ⟨gb222, 0, none⟩ = some (.int .i64 a0_0) ∧ w'.cell? ⟨gb222, 1, none⟩ = some (.int .i64 a0_1) ∧ w'.cell? ⟨gb222, 2, none⟩ = some (.int .i64 a0_2) ∧ w'.cell? ⟨gb222, 3, none⟩ = some (.int .i64 a0_3) ∧ w'.cell? ⟨gb222, 4, none⟩ = some (.slice A0_4 l0_4.length c0_4)) (ds := []) (bAr 33 0) (by kernel_rfl) rfl rfl ⟨bC BK222 0, bC BK222 1, bC BK222 2, bC BK222 3, bC BK222 4⟩ (fun hHeld => ?_); refine with_tabW spec_RasterOk.tab1 spec_RasterOk.bits1 (fun HT_ HW_ => ?_)
      generalize w3.drew = w13 at BK222 HB hHeld ⊢; refine pU 0 4 (bAr 33 1) ?_
      refine tK 1 5 (bAr 33 3) ?_
      refine one_ (i := 2) (N := some 6) (bAr 33 7) rfl rfl (one_of HT_.out (by kernel_rfl)) (by decide) (fun K hK => ?_)
      refine goes_ Try.func77 (by kernel_rfl) rfl #[.int .i64 a0_0] (by rfl) rfl rfl (by (try simp only [List.map_toArray, List.map_cons, List.map_nil]); first | done | rfl | (simp only [List.length_drop, List.length_take]; rfl)) ?_
      with_reducible refine (spec_l12Side.calls a0_0 true _ A4.out).mono ?_
      rintro e w' ⟨rfl, ⟨nd, rfl⟩⟩
      refine ⟨_, rfl, ?_⟩
      refine hK.out _ _ ⟨bC BK222 0, bC BK222 1, bC BK222 2, bC BK222 3, bC BK222 4⟩ (fun hHeld => ?_); clear hK K
      refine norm_ (a' := ?_) ?_ ?_; rotate_left
      · show Act.put _ (some 6) _ = _
        simp only [Act.put, List.setIfInBounds_toArray, List.set_cons_zero, List.set_cons_succ, i64_w, i32_w]
        rfl
      refine pU 3 7 (bAr 33 15) ?_; refine pU 4 8 (bAr 33 31) ?_; refine pU 5 9 (bAr 33 63) ?_
      refine tK 6 10 (bAr 33 127) ?_
      refine one_ (i := 7) (N := some 11) (bAr 33 255) rfl rfl (one_of HT_.out (by kernel_rfl)) (by decide) (fun K hK => ?_)
      refine goes_ Try.func77 (by kernel_rfl) rfl #[.int .i64 a0_1] (by rfl) rfl rfl (by (try simp only [List.map_toArray, List.map_cons, List.map_nil]); first | done | rfl | (simp only [List.length_drop, List.length_take]; rfl)) ?_
      with_reducible refine (spec_l12Side.calls a0_1 false _ A6.out).mono ?_
      rintro e w' ⟨rfl, ⟨nd, rfl⟩⟩
      refine ⟨_, rfl, ?_⟩
      refine hK.out _ _ ⟨bC BK222 0, bC BK222 1, bC BK222 2, bC BK222 3, bC BK222 4⟩ (fun hHeld => ?_); clear hK K
      refine norm_ (a' := ?_) ?_ ?_; rotate_left
      · show Act.put _ (some 11) _ = _
        simp only [Act.put, List.setIfInBounds_toArray, List.set_cons_zero, List.set_cons_succ, i64_w, i32_w]
        rfl
      refine pU 8 12 (bAr 33 511) ?_; refine pU 9 13 (bAr 33 1023) ?_; refine pU 10 14 (bAr 33 2047) ?_
      refine pV 11 15 (bAr 33 4095) ?_
      refine pV 12 16 (bAr 33 8191) ?_
      refine pV 13 17 (bAr 33 16383) ?_
      refine pV 14 18 (bAr 33 32767) ?_
      refine pV 15 19 (bAr 33 65535) ?_
      refine pV 16 20 (bAr 33 131071) ?_; refine pU 17 21 (bAr 33 262143) ?_; refine pU 18 22 (bAr 33 524287) ?_
      refine pV 19 23 (bAr 33 1048575) ?_
      refine pV 20 24 (bAr 33 2097151) ?_
      refine pV 21 25 (bAr 33 4194303) ?_
      refine pV 22 26 (bAr 33 8388607) ?_
      refine pV 23 27 (bAr 33 16777215) ?_
      refine pV 24 28 (bAr 33 33554431) ?_
      refine pV 25 29 (bAr 33 67108863) ?_
      refine pV 26 30 (bAr 33 134217727) ?_
      refine pV 27 31 (bAr 33 268435455) ?_
      refine pV 28 32 (bAr 33 536870911) ?_
      refine pV 29 33 (bAr 33 1073741823) ?_
      refine pV 30 34 (bAr 33 2147483647) ?_
      refine pV 31 35 (bAr 33 4294967295) ?_; refine pU 32 36 (bAr 33 8589934591) ?_
      refine done_ (done_of HT_.out (by kernel_rfl)) ?_
      try go_wp2
      go_meet
      case rel => exact ⟨_, (true), eQ, H', ⟨lE⟩, ⟨bI BK222.out⟩, ⟨hB⟩⟩
  · intro H; replace c5 := Bool.eq_false_iff.mpr c5; subst c5; revert H; refine adR fun H' => ?_
    try go_wp2
    replace BK222 := aM (blk_drew BK222.out); replace HB := aM (below_drew1 HB.out)
    refine start_ (n := 33) (S := fun w' => w'.cell? ⟨gb222, 0, none⟩ = some (.int .i64 a0_0) ∧ w'.cell? ⟨gb222, 1, none⟩ = some (.int .i64 a0_1) ∧ w'.cell? ⟨gb222, 2, none⟩ = some (.int .i64 a0_2) ∧ w'.cell? ⟨gb222, 3, none⟩ = some (.int .i64 a0_3) ∧ w'.cell? ⟨gb222, 4, none⟩ = some (.slice A0_4 l0_4.length c0_4)) (ds := []) (bAr 33 0) (by kernel_rfl) rfl rfl ⟨bC BK222 0, bC BK222 1, bC BK222 2, bC BK222 3, bC BK222 4⟩ (fun hHeld => ?_); refine with_tabW spec_RasterOk.tab1 spec_RasterOk.bits1 (fun HT_ HW_ => ?_)
    generalize w3.drew = w14 at BK222 HB hHeld ⊢; refine pU 0 4 (bAr 33 1) ?_
    refine tK 1 5 (bAr 33 3) ?_
    refine one_ (i := 2) (N := some 6) (bAr 33 7) rfl rfl (one_of HT_.out (by kernel_rfl)) (by decide) (fun K hK => ?_)
    refine goes_ Try.func77 (by kernel_rfl) rfl #[.int .i64 a0_0] (by rfl) rfl rfl (by (try simp only [List.map_toArray, List.map_cons, List.map_nil]); first | done | rfl | (simp only [List.length_drop, List.length_take]; rfl)) ?_
    with_reducible refine (spec_l12Side.calls a0_0 false _ A4.out).mono ?_
    rintro e w' ⟨rfl, ⟨nd, rfl⟩⟩
    refine ⟨_, rfl, ?_⟩
    refine hK.out _ _ ⟨bC BK222 0, bC BK222 1, bC BK222 2, bC BK222 3, bC BK222 4⟩ (fun hHeld => ?_); clear hK K
    refine norm_ (a' := ?_) ?_ ?_; rotate_left
    · show Act.put _ (some 6) _ = _
      simp only [Act.put, List.setIfInBounds_toArray, List.set_cons_zero, List.set_cons_succ, i64_w, i32_w]
      rfl
    refine pU 3 7 (bAr 33 15) ?_; refine pU 4 8 (bAr 33 31) ?_
    refine pV 5 9 (bAr 33 63) ?_
    refine pV 6 10 (bAr 33 127) ?_
    refine pV 7 11 (bAr 33 255) ?_
    refine pV 8 12 (bAr 33 511) ?_; refine pU 9 13 (bAr 33 1023) ?_; refine pU 10 14 (bAr 33 2047) ?_
    refine pV 11 15 (bAr 33 4095) ?_
    refine pV 12 16 (bAr 33 8191) ?_
    refine pV 13 17 (bAr 33 16383) ?_
    refine pV 14 18 (bAr 33 32767) ?_
    refine pV 15 19 (bAr 33 65535) ?_
    refine pV 16 20 (bAr 33 131071) ?_; refine pU 17 21 (bAr 33 262143) ?_; refine pU 18 22 (bAr 33 524287) ?_
    refine pV 19 23 (bAr 33 1048575) ?_
    refine pV 20 24 (bAr 33 2097151) ?_
    refine pV 21 25 (bAr 33 4194303) ?_
    refine pV 22 26 (bAr 33 8388607) ?_
    refine pV 23 27 (bAr 33 16777215) ?_
    refine pV 24 28 (bAr 33 33554431) ?_
    refine pV 25 29 (bAr 33 67108863) ?_
    refine pV 26 30 (bAr 33 134217727) ?_
    refine pV 27 31 (bAr 33 268435455) ?_
    refine pV 28 32 (bAr 33 536870911) ?_
    refine pV 29 33 (bAr 33 1073741823) ?_
    refine pV 30 34 (bAr 33 2147483647) ?_
    refine pV 31 35 (bAr 33 4294967295) ?_; refine pU 32 36 (bAr 33 8589934591) ?_
    refine done_ (done_of HT_.out (by kernel_rfl)) ?_
    try go_wp2
    go_meet
    case rel => exact ⟨_, (true), eQ, H', ⟨lE⟩, ⟨bI BK222.out⟩, ⟨hB⟩⟩
 case rest =>
  clear HC2; (try clear p2); (try clear c5); (try clear c7); obtain ⟨kq, x36_1, rfl, HA, HJ1, BK222, HB⟩ := hcut; rcases kq with _ | kj1
  · exact absurd HA.out (by simp [spec_RasterOk.j0])
  revert HA; refine aoR ?_; intro H; simp only [spec_RasterOk.j0] at H; revert H
  refine ifB (fun c15 => ?_) (fun c15 => ?_)
  · intro H; subst c15; obtain rfl := Option.some.inj H; go_wp2; go_ret; exact ⟨eE, hB⟩
  · intro H; replace c15 := Bool.eq_false_iff.mpr c15; subst c15; revert H; refine adR fun H' => ?_; go_wp2
    go_loopg [3] kj1 (fun kq v3 w' => ∃ (x3_2 : Int), v3 = .int .i64 x3_2 ∧ Aside0 (spec_RasterOk.l0 kq x3_2 a0_0 a0_1 a0_2 a0_3 l0_4 = some r) ∧ Aside0 (kq ≤ kj1) ∧ Aside0 (w'.heap[gb222]? = some (.cells #[.int .i64 a0_0, .int .i64 a0_1, .int .i64 a0_2, .int .i64 a0_3, (.slice A0_4 l0_4.length c0_4)] 29 (0, 0))) ∧ Aside0 (Below w.heap.size w w'))
    case atStart => exact ⟨(0), eQ, H', ⟨Nat.le_refl _⟩, ⟨bI BK222.out⟩, ⟨hB⟩⟩
    case round =>
     clear H'; (try clear c1); (try clear p2); (try clear c5); (try clear c7); (try clear c15); obtain ⟨x3_2, rfl, HA, HK2, BK222, HB⟩ := hrel; rcases gk with _ | k2
     · exact absurd HA.out (by simp [spec_RasterOk.l0])
     revert HA; refine aoR ?_; intro H; simp only [spec_RasterOk.l0] at H; revert H
     refine ifB (fun c16 => ?_) (fun c16 => ?_)
     · intro H; have c16b0 := decide_eq_true c16; clear c16; revert H; refine ifR fun c17 => ?_; intro H; have c17b0 := decide_eq_true c17; clear c17; revert H; refine bdR fun t228 A18 => ?_; refine bdR fun t229 A19 => ?_
       refine ifB (fun c20 => ?_) (fun c20 => ?_)
       · intro H; subst c20; revert H; refine adR fun H' => ?_; have hz21 := bz5 BK222
         try go_wp2
         replace BK222 := aM (blk_drew BK222.out); replace HB := aM (below_drew1 HB.out); have p227 : 0 ≤ (x3_2 : Int) := bD; have q227 : x3_2 < (l0_4.length : Int) := bD; obtain ⟨ad227, e227, hx227_0⟩ := Kd.at_int HR0_4.out x3_2 p227 q227; have hw227_0 := hx227_0; cases e227; replace hx227_0 := cB0 HB hx227_0; replace p227 := eq_true p227; replace q227 := eq_true q227
         refine start_ (n := 11) (S := fun w' => w'.cell? ⟨gb222, 0, none⟩ = some (.int .i64 a0_0) ∧ w'.cell? ⟨gb222, 1, none⟩ = some (.int .i64 a0_1) ∧ w'.cell? ⟨gb222, 2, none⟩ = some (.int .i64 a0_2) ∧ w'.cell? ⟨gb222, 3, none⟩ = some (.int .i64 a0_3) ∧ w'.cell? ⟨gb222, 4, none⟩ = some (.slice (some ad227) l0_4.length c0_4) ∧ w'.cell? (ad227.add (x3_2).toNat) = some (.int .i64 (rd l0_4 x3_2))) (ds := []) (bAr 11 0) (by kernel_rfl) rfl rfl ⟨bC BK222 0, bC BK222 1, bC BK222 2, bC BK222 3, bC BK222 4, (cB HB hw227_0)⟩ (fun hHeld => ?_); refine with_tabW spec_RasterOk.tab6 spec_RasterOk.bits6 (fun HT_ HW_ => ?_)
         generalize wr.drew = w22 at BK222 HB hx227_0 hHeld ⊢; refine pU 0 44 (bAr 11 1) ?_; refine pU 2 46 (bAr 11 5) ?_; refine pU 5 49 (bAr 11 37) ?_
         refine tK 1 45 (bAr 11 39) ?_; refine pU 3 47 (bAr 11 47) ?_
         refine tK 4 48 (bAr 11 63) ?_
         refine tK 6 50 (bAr 11 127) ?_
         refine one_ (i := 7) (N := some 51) (bAr 11 255) rfl rfl (one_of HT_.out (by kernel_rfl)) (by decide) (fun K hK => ?_)
         refine goes_ Try.func99 (by kernel_rfl) rfl #[.int .i64 a0_3] (by rfl) rfl rfl (by (try simp only [List.map_toArray, List.map_cons, List.map_nil]); first | done | rfl | (simp only [List.length_drop, List.length_take]; rfl)) ?_
         with_reducible refine (spec_l01Pow.calls k2 a0_3 t228 _ A18.out).mono ?_
         rintro e w' ⟨rfl, ⟨nd, rfl⟩⟩
         refine ⟨_, rfl, ?_⟩
         refine hK.out _ _ ⟨bC BK222 0, bC BK222 1, bC BK222 2, bC BK222 3, bC BK222 4, (cB HB hw227_0)⟩ (fun hHeld => ?_); clear hK K
         refine norm_ (a' := ?_) ?_ ?_; rotate_left
         · show Act.put _ (some 51) _ = _
           simp only [Act.put, List.setIfInBounds_toArray, List.set_cons_zero, List.set_cons_succ, i64_w, i32_w]
           rfl
         refine pU 8 52 (bAr 11 511) ?_
         refine one_ (i := 9) (N := some 53) (bAr 11 1023) rfl rfl (one_of HT_.out (by kernel_rfl)) (by decide) (fun K hK => ?_)
         refine goes_ Try.func129 (by kernel_rfl) rfl #[.int .i64 (rd l0_4 x3_2), .int .i64 0, .int .i64 (wrap64 (t228 - 1))] (by rfl) rfl rfl (by (try simp only [List.map_toArray, List.map_cons, List.map_nil]); first | done | rfl | (simp only [List.length_drop, List.length_take]; rfl)) ?_
         with_reducible refine (spec_l01In.calls (rd l0_4 x3_2) 0 (wrap64 (t228 - 1)) true _ A19.out).mono ?_
         rintro e w' ⟨rfl, ⟨nd, rfl⟩⟩
         refine ⟨_, rfl, ?_⟩
         refine hK.out _ _ ⟨bC BK222 0, bC BK222 1, bC BK222 2, bC BK222 3, bC BK222 4, (cB HB hw227_0)⟩ (fun hHeld => ?_); clear hK K
         refine norm_ (a' := ?_) ?_ ?_; rotate_left
         · show Act.put _ (some 53) _ = _
           simp only [Act.put, List.setIfInBounds_toArray, List.set_cons_zero, List.set_cons_succ, i64_w, i32_w]
           rfl
         refine pU 10 54 (bAr 11 2047) ?_
         refine done_ (done_of HT_.out (by kernel_rfl)) ?_
         try go_wp2
         go_roundg k2
         case measure => have := HJ1.out; have := HK2.out; omega
         case rel => exact ⟨(wrap64 (x3_2 + 1)), eQ, H', ⟨by have := HJ1.out; have := HK2.out; omega⟩, ⟨bI BK222.out⟩, ⟨hB⟩⟩
       · intro H; replace c20 := Bool.eq_false_iff.mpr c20; subst c20; obtain rfl := Option.some.inj H; have hz23 := bz5 BK222
         try go_wp2
         replace BK222 := aM (blk_drew BK222.out); replace HB := aM (below_drew1 HB.out); have p227 : 0 ≤ (x3_2 : Int) := bD; have q227 : x3_2 < (l0_4.length : Int) := bD; obtain ⟨ad227, e227, hx227_0⟩ := Kd.at_int HR0_4.out x3_2 p227 q227; have hw227_0 := hx227_0; cases e227; replace hx227_0 := cB0 HB hx227_0; replace p227 := eq_true p227; replace q227 := eq_true q227
         refine start_ (n := 11) (S := fun w' => w'.cell? ⟨gb222, 0, none⟩ = some (.int .i64 a0_0) ∧ w'.cell? ⟨gb222, 1, none⟩ = some (.int .i64 a0_1) ∧ w'.cell? ⟨gb222, 2, none⟩ = some (.int .i64 a0_2) ∧ w'.cell? ⟨gb222, 3, none⟩ = some (.int .i64 a0_3) ∧ w'.cell? ⟨gb222, 4, none⟩ = some (.slice (some ad227) l0_4.length c0_4) ∧ w'.cell? (ad227.add (x3_2).toNat) = some (.int .i64 (rd l0_4 x3_2))) (ds := []) (bAr 11 0) (by kernel_rfl) rfl rfl ⟨bC BK222 0, bC BK222 1, bC BK222 2, bC BK222 3, bC BK222 4, (cB HB hw227_0)⟩ (fun hHeld => ?_); refine with_tabW spec_RasterOk.tab6 spec_RasterOk.bits6 (fun HT_ HW_ => ?_)
         generalize wr.drew = w24 at BK222 HB hx227_0 hHeld ⊢; refine pU 0 44 (bAr 11 1) ?_; refine pU 2 46 (bAr 11 5) ?_; refine pU 5 49 (bAr 11 37) ?_
         refine tK 1 45 (bAr 11 39) ?_; refine pU 3 47 (bAr 11 47) ?_
         refine tK 4 48 (bAr 11 63) ?_
         refine tK 6 50 (bAr 11 127) ?_
         refine one_ (i := 7) (N := some 51) (bAr 11 255) rfl rfl (one_of HT_.out (by kernel_rfl)) (by decide) (fun K hK => ?_)
         refine goes_ Try.func99 (by kernel_rfl) rfl #[.int .i64 a0_3] (by rfl) rfl rfl (by (try simp only [List.map_toArray, List.map_cons, List.map_nil]); first | done | rfl | (simp only [List.length_drop, List.length_take]; rfl)) ?_
         with_reducible refine (spec_l01Pow.calls k2 a0_3 t228 _ A18.out).mono ?_
         rintro e w' ⟨rfl, ⟨nd, rfl⟩⟩
         refine ⟨_, rfl, ?_⟩
         refine hK.out _ _ ⟨bC BK222 0, bC BK222 1, bC BK222 2, bC BK222 3, bC BK222 4, (cB HB hw227_0)⟩ (fun hHeld => ?_); clear hK K
         refine norm_ (a' := ?_) ?_ ?_; rotate_left
         · show Act.put _ (some 51) _ = _
           simp only [Act.put, List.setIfInBounds_toArray, List.set_cons_zero, List.set_cons_succ, i64_w, i32_w]
           rfl
         refine pU 8 52 (bAr 11 511) ?_
         refine one_ (i := 9) (N := some 53) (bAr 11 1023) rfl rfl (one_of HT_.out (by kernel_rfl)) (by decide) (fun K hK => ?_)
         refine goes_ Try.func129 (by kernel_rfl) rfl #[.int .i64 (rd l0_4 x3_2), .int .i64 0, .int .i64 (wrap64 (t228 - 1))] (by rfl) rfl rfl (by (try simp only [List.map_toArray, List.map_cons, List.map_nil]); first | done | rfl | (simp only [List.length_drop, List.length_take]; rfl)) ?_
         with_reducible refine (spec_l01In.calls (rd l0_4 x3_2) 0 (wrap64 (t228 - 1)) false _ A19.out).mono ?_
         rintro e w' ⟨rfl, ⟨nd, rfl⟩⟩
         refine ⟨_, rfl, ?_⟩
         refine hK.out _ _ ⟨bC BK222 0, bC BK222 1, bC BK222 2, bC BK222 3, bC BK222 4, (cB HB hw227_0)⟩ (fun hHeld => ?_); clear hK K
         refine norm_ (a' := ?_) ?_ ?_; rotate_left
         · show Act.put _ (some 53) _ = _
           simp only [Act.put, List.setIfInBounds_toArray, List.set_cons_zero, List.set_cons_succ, i64_w, i32_w]
           rfl
         refine pU 10 54 (bAr 11 2047) ?_
         refine done_ (done_of HT_.out (by kernel_rfl)) ?_
         try go_wp2
         go_ret; exact ⟨eE, hB⟩
     · intro H; have c16b0 := decide_eq_false c16; clear c16; obtain rfl := Option.some.inj H; have hz25 := bz5 BK222; go_wp2; go_ret; exact ⟨eE, hB⟩

end Go.Proofs.Ytajnobmnkbkkgaa.PFnExactNoCover
