/- Walks of functions that the law FnExactScanOf reaches: each call comes to what the Lean function of its name tells. Written by p2.py, a program of this session, by way of the kit's print. -/
import Derived.Test.YtajnobmnkbkkgaaPFnExactScanOfx0
import Derived.Test.YtajnobmnkbkkgaaPFnExactScanOfx8
import Derived.Test.YtajnobmnkbkkgaaPFnExactScanOfx11
import Derived.Test.YtajnobmnkbkkgaaPFnExactScanOfx12
import Derived.Test.YtajnobmnkbkkgaaPFnExactScanOfx14
namespace Go.Proofs.Ytajnobmnkbkkgaa.PFnExactScanOf
open Go.RowKit Go.Proofs.YtajnobmnkbkkgaaW.PrintWords Go.Proofs.YtajnobmnkbkkgaaW.PrintLast Go.Proofs.YtajnobmnkbkkgaaW.PrintMore
attribute [local go_sem] max2_int min2_int max_two min_two max_three min_three max_four min_four   -- for this text's walks alone
set_option linter.unusedVariables false
set_option linter.unusedSimpArgs false

/-! ### spec_l15Rows: function 131 -/
def spec_l15Rows.l0 : Nat → Int → List Int → Int → ByteArray → Int → Int → Int → Int → Int → List Int → Option (ByteArray)
 | 0, _, _, _, _, _, _, _, _, _, _ => none
 | k + 1, x1, x5, x6, x7, x8, x359000, x359001, x359002, x359003, x359004 => if x8 < x359001 then (if 0 ≤ (wrap64 (x8 * x6)) then (if (wrap64 (x8 * x6)) ≤ (wrap64 ((wrap64 (x8 * x6)) + x6)) then (if (wrap64 ((wrap64 (x8 * x6)) + x6)) ≤ (x359004.length : Int) then ((spec_PackRow.f k ((x359004.take ((wrap64 ((wrap64 (x8 * x6)) + x6)) : Int).toNat).drop ((wrap64 (x8 * x6)) : Int).toNat) x359003).bind fun bt365 => (if x1 = 5 then ((spec_l15Unit.f k x359002 x359003).bind fun t367 => ((spec_BestFilter.f k bt365.1 x7 t367).bind fun bt368 => ((spec_l15Unit.f k x359002 x359003).bind fun t370 => ((spec_FilterRow.f k bt368.1 bt365.1 x7 t370).bind fun bt371 => (if x5.length < 140737488355328 then ((some (x5 ++ [(bt368.1) % 256] : List Int)).bind fun y373 => (if bt371.1.size ≤ 9223372036854775807 then ((some (bytesOf bt371.1 : List Int)).bind fun y376 => (if y373.length + y376.length < 140737488355328 then (spec_l15Rows.l0 k x1 (y373 ++ y376) x6 bt365.1 (wrap64 (x8 + 1)) x359000 x359001 x359002 x359003 x359004) else (none))) else (none))) else (none)))))) else ((spec_l15Unit.f k x359002 x359003).bind fun t382 => ((spec_FilterRow.f k x1 bt365.1 x7 t382).bind fun bt383 => (if x5.length < 140737488355328 then ((some (x5 ++ [(x1) % 256] : List Int)).bind fun y385 => (if bt383.1.size ≤ 9223372036854775807 then ((some (bytesOf bt383.1 : List Int)).bind fun y388 => (if y385.length + y388.length < 140737488355328 then (spec_l15Rows.l0 k x1 (y385 ++ y388) x6 bt365.1 (wrap64 (x8 + 1)) x359000 x359001 x359002 x359003 x359004) else (none))) else (none))) else (none)))))) else (none)) else (none)) else (none)) else (some (strOfNums x5))
def spec_l15Rows.f (k : Nat) (a0_0 : Int) (a0_1 : Int) (a0_2 : Int) (a0_3 : Int) (l0_4 : List Int) (a1 : Int) : Option (ByteArray) := (spec_ChannelsOf.f k a0_2).bind fun t362 => ((spec_l01Long.f k (wrap64 (Int.tdiv (wrap64 ((wrap64 ((wrap64 (a0_0 * t362)) * a0_3)) + 7)) 8)) 0).bind fun t363 => (spec_l15Rows.l0 k a1 (([] : List Int)) (wrap64 (a0_0 * t362)) t363 0 a0_0 a0_1 a0_2 a0_3 l0_4))
theorem spec_l15Rows.mono_l : ∀ k, (∀ y0 y1 y2 y3 y4 y5 y6 y7 y8 y9, LeO (spec_l15Rows.l0 k y0 y1 y2 y3 y4 y5 y6 y7 y8 y9) (spec_l15Rows.l0 (k + 1) y0 y1 y2 y3 y4 y5 y6 y7 y8 y9))
 | 0 => fun _ _ _ _ _ _ _ _ _ _ r h => by simp [spec_l15Rows.l0] at h
 | k + 1 => by
  have ih0 := spec_l15Rows.mono_l k
  ·intro y0 y1 y2 y3 y4 y5 y6 y7 y8 y9
   unfold spec_l15Rows.l0
   repeat' first
   | (with_reducible exact ih0 _ _ _ _ _ _ _ _ _ _)
   | (with_reducible exact spec_BestFilter.mono _ _ _ _)
   | (with_reducible exact spec_ChannelsOf.mono _ _)
   | (with_reducible exact spec_FilterRow.mono _ _ _ _ _)
   | (with_reducible exact spec_PackRow.mono _ _ _)
   | (with_reducible exact spec_l01Long.mono _ _ _)
   | (with_reducible exact spec_l15Unit.mono _ _ _)
   | (with_reducible exact LeO.refl _)
   | (with_reducible exact LeO.none _)
   | (with_reducible refine LeO.ite ?_ ?_)
   | (with_reducible refine LeO.bind ?_ (fun _ => ?_))
   | exact ih0 _ _ _ _ _ _ _ _ _ _
   | exact spec_BestFilter.mono _ _ _ _
   | exact spec_ChannelsOf.mono _ _
   | exact spec_FilterRow.mono _ _ _ _ _
   | exact spec_PackRow.mono _ _ _
   | exact spec_l01Long.mono _ _ _
   | exact spec_l15Unit.mono _ _ _
   | exact LeO.none _
   | refine LeO.ite ?_ ?_
   | refine LeO.bind ?_ (fun _ => ?_)
theorem spec_l15Rows.mono : ∀ a0 a1 a2 a3 a4 a5 k, LeO (spec_l15Rows.f k a0 a1 a2 a3 a4 a5) (spec_l15Rows.f (k + 1) a0 a1 a2 a3 a4 a5) := by
 intro a0 a1 a2 a3 a4 a5 k
 have ih0 := spec_l15Rows.mono_l k
 unfold spec_l15Rows.f
 repeat' first
   | (with_reducible exact ih0 _ _ _ _ _ _ _ _ _ _)
   | (with_reducible exact spec_BestFilter.mono _ _ _ _)
   | (with_reducible exact spec_ChannelsOf.mono _ _)
   | (with_reducible exact spec_FilterRow.mono _ _ _ _ _)
   | (with_reducible exact spec_PackRow.mono _ _ _)
   | (with_reducible exact spec_l01Long.mono _ _ _)
   | (with_reducible exact spec_l15Unit.mono _ _ _)
   | (with_reducible exact LeO.refl _)
   | (with_reducible exact LeO.none _)
   | (with_reducible refine LeO.ite ?_ ?_)
   | (with_reducible refine LeO.bind ?_ (fun _ => ?_))
   | exact ih0 _ _ _ _ _ _ _ _ _ _
   | exact spec_BestFilter.mono _ _ _ _
   | exact spec_ChannelsOf.mono _ _
   | exact spec_FilterRow.mono _ _ _ _ _
   | exact spec_PackRow.mono _ _ _
   | exact spec_l01Long.mono _ _ _
   | exact spec_l15Unit.mono _ _ _
   | exact LeO.none _
   | refine LeO.ite ?_ ?_
   | refine LeO.bind ?_ (fun _ => ?_)
def spec_l15Rows.T7 : Bool × List (List Nat × List Nat) := (true, [([], []), ([0], [0]), ([], []), ([], []), ([2, 3], [2, 3]), ([], []), ([], []), ([5, 6], [5, 6]), ([], []), ([7, 8], [7, 8]), ([1, 4, 9], [1, 4, 9]), ([], []), ([11], [11]), ([10, 12], [10, 12]), ([13], [13]), ([14], [14]), ([14], [14]), ([15, 13, 0, 1, 2, 3, 4, 5, 6, 7, 8, 9, 10, 11, 12, 13, 14, 15], [15]), ([16, 17, 0, 1, 2, 3, 4, 5, 6, 7, 8, 9, 10, 11, 12, 13, 14, 15, 16, 17], [16])])
def spec_l15Rows.B7 : List Nat := [0, 1, 0, 0, 12, 0, 0, 96, 0, 480, 1023, 0, 2048, 8191, 16383, 32767, 32767, 65535, 262143]
theorem spec_l15Rows.tab7 : rtab .any (opsOf Try.f131 7) = spec_l15Rows.T7 := by kernel_rfl
theorem spec_l15Rows.bits7 : waitsOk spec_l15Rows.T7.2 spec_l15Rows.B7 = true := by kernel_rfl
set_option maxHeartbeats 8000000 in
set_option maxRecDepth 100000 in
theorem spec_l15Rows.calls (k : Nat) (a0_0 : Int) (a0_1 : Int) (a0_2 : Int) (a0_3 : Int) (A0_4 : Option Addr) (c0_4 : Nat) (l0_4 : List Int) (a1 : Int) (r : ByteArray) (w : World) (hr0_4 : Kd.C (Kd.int .i64) w A0_4 l0_4.length l0_4) (hc0_4 : l0_4.length ≤ c0_4) (h : spec_l15Rows.f k a0_0 a0_1 a0_2 a0_3 l0_4 a1 = some r) :
  Calls Try.prog 131 #[.agg #[.int .i64 a0_0, .int .i64 a0_1, .int .i64 a0_2, .int .i64 a0_3, .slice A0_4 l0_4.length c0_4], .int .i64 a1] w fun e w' => e = .returned (.string r) ∧ Below w.heap.size w w' := by
 have hu29 := Try.underlying29
 have HR0_4 := aM hr0_4
 have HC0_4 := aM hc0_4
 clear hr0_4 hc0_4
 have HB := aM (Below.refl w.heap.size w)
 unfold spec_l15Rows.f at h; have H := h
 clear h
 obtain ⟨y359, hy359⟩ : ∃ y_ : List Int, y_ = (([] : List Int)) := ⟨_, rfl⟩
 replace H : ((spec_ChannelsOf.f k a0_2).bind fun t362 => ((spec_l01Long.f k (wrap64 (Int.tdiv (wrap64 ((wrap64 ((wrap64 (a0_0 * t362)) * a0_3)) + 7)) 8)) 0).bind fun t363 => (spec_l15Rows.l0 k a1 y359 (wrap64 (a0_0 * t362)) t363 0 a0_0 a0_1 a0_2 a0_3 l0_4))) = some r := by first | (rw [hy359]; with_reducible exact H) | (have H2_ := (Option.bind_some _ _).symm.trans H; rw [hy359]; with_reducible exact H2_) | (have H2_ := (Option.bind_some _ _).symm.trans H; with_reducible exact H2_) | with_reducible exact H | (rw [hy359]; exact H) | exact H
 have Ny359 := aM hy359
 clear hy359
 replace H := oB.mp H
 obtain ⟨t362, A30, H⟩ := H
 replace H : ((spec_l01Long.f k (wrap64 (Int.tdiv (wrap64 ((wrap64 ((wrap64 (a0_0 * t362)) * a0_3)) + 7)) 8)) 0).bind fun t363 => (spec_l15Rows.l0 k a1 y359 (wrap64 (a0_0 * t362)) t363 0 a0_0 a0_1 a0_2 a0_3 l0_4)) = some r := H
 have A3 := aM A30
 clear A30
 replace H := oB.mp H
 obtain ⟨t363, A40, H⟩ := H
 replace H : (spec_l15Rows.l0 k a1 y359 (wrap64 (a0_0 * t362)) t363 0 a0_0 a0_1 a0_2 a0_3 l0_4) = some r := H
 have A4 := aM A40
 clear A40
 have H' := aM H
 clear H
 go_enter Try.func131, Try.ntmps131
 try go_wp2_with (first | ((with_reducible refine gate_dst (N := 2) rfl ?_); refine box_event ?hg (N := 2) ?hd (cs := #[.int .i64 a0_0, .int .i64 a0_1, .int .i64 a0_2, .int .i64 a0_3, .slice A0_4 l0_4.length c0_4]) (t := 29) ?hr ?_; (case hd => rfl); (case hg => rfl); (case hr => first | (go_simp; done) | (go_simp; rfl)); intro gb358 hg w5 hbox hb; have n0_ := aM (bT (by repeat (first | (with_reducible first | exact HB.out | apply bA | apply bN | apply bE) | exact HB.out)) hb); have n1_ := aM (hbox); have n2_ := aM ((by rw [hg]; exact (bZ (by repeat (first | (with_reducible first | exact HB.out | apply bA | apply bN | apply bE) | exact HB.out))) : w.heap.size ≤ gb358)); have n3_ := aM ((by rw [hg]; exact (bZ (by repeat (first | (with_reducible first | exact HB.out | apply bA | apply bN | apply bE) | exact HB.out))) : w.heap.size ≤ gb358)); clear HB; have HB := n0_; have BK358 := n1_; have GW358 := n2_; have GE358 := n3_; clear n0_ n1_ n2_ n3_; clear hb hbox hg) | ((with_reducible refine gate_dst (N := 14) rfl ?_); refine Kd.R_lit (Kd.int .u8) _ 5 ?hg (N := 14) ?hd (xs := ([] : List Int)) (inner := []) (ok := fun _ => True) (okp := fun _ => True) ?hr ?hp (fun _ hk => hk) trivial (Below.refl _ _) (Nat.le_refl _) (by simp) ?_; (case hd => rfl); (case hg => rfl); (case hr => first | (go_simp; done) | (go_simp; rfl)); (case hp => exact (Reps.none _ _)); intro v360 w6 ho7 hb hg_ hnew_; clear hg_ hnew_; (first | rw [← Ny359.out] at ho7 | (simp only [Int.reduceToNat] at ho7; rw [← Ny359.out] at ho7)); have n0_ := aM (Kd.R_lower ho7 (bZ (by repeat (first | (with_reducible first | exact HB.out | apply bA | apply bN | apply bE | refine bS ?_ GE358.out) | exact HB.out)))); have n1_ := aM (kB (g := gb358) (o := .cells #[.int .i64 a0_0, .int .i64 a0_1, .int .i64 a0_2, .int .i64 a0_3, .slice A0_4 l0_4.length c0_4] 29 (0, 0)) (by (with_reducible repeat (first | refine kN ?_ _ | refine kD ?_ | refine kA ?_ _)); exact BK358.out) hb); have n2_ := aM (bT (by repeat (first | (with_reducible first | exact HB.out | apply bA | apply bN | apply bE | refine bS ?_ GE358.out) | exact HB.out)) hb); clear BK358; clear HB; have HO361 := n0_; have BK358 := n1_; have HB := n2_; clear n0_ n1_ n2_; clear hb ho7))
 have n0_ := aM (rD HO361.out)
 have n1_ := aM (kD BK358.out)
 have n2_ := aM (bE HB.out)
 clear HO361
 clear BK358
 clear HB
 have HO361 := n0_
 have BK358 := n1_
 have HB := n2_
 clear n0_ n1_ n2_
 refine start_ (n := 7) (S := fun w' => w'.cell? ⟨gb358, 0, none⟩ = some (.int .i64 a0_0) ∧ w'.cell? ⟨gb358, 1, none⟩ = some (.int .i64 a0_1) ∧ w'.cell? ⟨gb358, 2, none⟩ = some (.int .i64 a0_2) ∧ w'.cell? ⟨gb358, 3, none⟩ = some (.int .i64 a0_3) ∧ w'.cell? ⟨gb358, 4, none⟩ = some (.slice A0_4 l0_4.length c0_4)) (ds := []) #[false, false, false, false, false, false, false] (by kernel_rfl) rfl rfl ⟨(blk_cell BK358.out 0).trans rfl, (blk_cell BK358.out 1).trans rfl, (blk_cell BK358.out 2).trans rfl, (blk_cell BK358.out 3).trans rfl, (blk_cell BK358.out 4).trans rfl⟩ (fun hHeld => ?_)
 generalize w6.drew = w8 at HO361 BK358 HB hHeld ⊢
 refine pure_ (i := 0) (N := some 15) (v := ?_) (a' := ?_) #[true, false, false, false, false, false, false] rfl rfl (by kernel_rfl) (fun _ _ _ h => h) (Or.inl ⟨by rfl, ?_⟩) ?_ ?_
 rotate_left
 ·intro w'
  go_simp
  with_reducible rfl
 rotate_left
 ·simp only [Act.put, lI, lZ, lS, i64_w, i32_w]
  rfl
 refine pure_ (i := 2) (N := some 17) (v := ?_) (a' := ?_) #[true, false, true, false, false, false, false] rfl rfl (by kernel_rfl) (fun _ _ _ h => h) (Or.inl ⟨by rfl, ?_⟩) ?_ ?_
 rotate_left
 ·intro w'
  go_simp
  with_reducible rfl
 rotate_left
 ·simp only [Act.put, lI, lZ, lS, i64_w, i32_w]
  rfl
 refine take_ (i := 1) (N := some 16) (v := ?_) (a' := ?_) #[true, true, true, false, false, false, false] rfl rfl (by kernel_rfl) (fun _ _ _ h => h) (Or.inl ⟨by rfl, ?_⟩) hHeld ?_ ?_
 rotate_left
 ·rintro w' ⟨s0, s1, s2, s3, s4⟩
  go_simp
  with_reducible rfl
 rotate_left
 ·simp only [Act.put, lI, lZ, lS, i64_w, i32_w]
  rfl
 refine take_ (i := 3) (N := some 18) (v := ?_) (a' := ?_) #[true, true, true, true, false, false, false] rfl rfl (by kernel_rfl) (fun _ _ _ h => h) (Or.inl ⟨by rfl, ?_⟩) hHeld ?_ ?_
 rotate_left
 ·rintro w' ⟨s0, s1, s2, s3, s4⟩
  go_simp
  with_reducible rfl
 rotate_left
 ·simp only [Act.put, lI, lZ, lS, i64_w, i32_w]
  rfl
 refine one_ (i := 4) (N := some 19) #[true, true, true, true, true, false, false] rfl rfl (by kernel_rfl) (by decide) (fun K hK => ?_)
 refine goes_ Try.func88 (by kernel_rfl) rfl #[.int .i64 a0_2] (by rfl) rfl rfl (by (try simp only [lM, List.map_cons, List.map_nil]); first | done | rfl | (simp only [lD, lT]; rfl)) ?_
 with_reducible refine (spec_ChannelsOf.calls k a0_2 t362 _ A3.out).mono ?_
 rintro e w' ⟨rfl, ⟨nd, rfl⟩⟩
 refine ⟨_, rfl, ?_⟩
 refine hK.out _ _ ⟨(blk_cell BK358.out 0).trans rfl, (blk_cell BK358.out 1).trans rfl, (blk_cell BK358.out 2).trans rfl, (blk_cell BK358.out 3).trans rfl, (blk_cell BK358.out 4).trans rfl⟩ (fun hHeld => ?_)
 clear hK K
 refine norm_ (a' := ?_) ?_ ?_
 rotate_left
 ·show Act.put _ (some 19) _ = _
  simp only [Act.put, lI, lZ, lS, i64_w, i32_w]
  rfl
 refine pure_ (i := 5) (N := some 20) (v := ?_) (a' := ?_) #[true, true, true, true, true, true, false] rfl rfl (by kernel_rfl) (fun _ _ _ h => h) (Or.inl ⟨by rfl, ?_⟩) ?_ ?_
 rotate_left
 ·intro w'
  go_simp
  with_reducible rfl
 rotate_left
 ·simp only [Act.put, lI, lZ, lS, i64_w, i32_w]
  rfl
 refine pure_ (i := 6) (N := some 6) (v := ?_) (a' := ?_) #[true, true, true, true, true, true, true] rfl rfl (by kernel_rfl) (fun _ _ _ h => h) (Or.inl ⟨by rfl, ?_⟩) ?_ ?_
 rotate_left
 ·intro w'
  go_simp
  with_reducible rfl
 rotate_left
 ·simp only [Act.put, lI, lZ, lS, i64_w, i32_w]
  rfl
 refine done_ (by kernel_rfl) ?_
 obtain ⟨hcz9_0, hcz9_1, hcz9_2, hcz9_3, hcz9_4⟩ := blk_c5 BK358.out
 obtain ⟨hfz9_0, hfz9_1, hfz9_2, hfz9_3, hfz9_4⟩ := blk_f5 BK358.out
 try go_wp2_with (first | ((with_reducible refine gate_callee (f := 135) rfl ?_); refine goesL_ (some 27) rfl rfl Try.func135 (by kernel_rfl) rfl #[.int .i64 (wrap64 (Int.tdiv (wrap64 ((wrap64 ((wrap64 (a0_0 * t362)) * a0_3)) + 7)) 8)), .int .u8 0] rfl (by (try simp only [lM, List.map_cons, List.map_nil]); first | done | rfl | (simp only [lD, lT]; rfl)) ?_; (with_reducible refine (spec_l01Long.calls k (wrap64 (Int.tdiv (wrap64 ((wrap64 ((wrap64 (a0_0 * t362)) * a0_3)) + 7)) 8)) 0 t363 _ A4.out).mono ?_); rintro e w10 ⟨rfl, hb⟩; refine ⟨_, rfl, ?_⟩; have n0_ := aM (Kd.R_below (by (with_reducible repeat (first | apply rA | apply rN | apply rD)); exact HO361.out) hb); have n1_ := aM (kB (g := gb358) (o := .cells #[.int .i64 a0_0, .int .i64 a0_1, .int .i64 a0_2, .int .i64 a0_3, .slice A0_4 l0_4.length c0_4] 29 (0, 0)) (by (with_reducible repeat (first | refine kN ?_ _ | refine kD ?_ | refine kA ?_ _)); exact BK358.out) hb); have n2_ := aM (bT (by repeat (first | (with_reducible first | exact HB.out | apply bA | apply bN | apply bE | refine bS ?_ GE358.out) | exact HB.out)) hb); clear HO361; clear BK358; clear HB; have HO361 := n0_; have BK358 := n1_; have HB := n2_; clear n0_ n1_ n2_; (try clear hb); (try clear hb2); (try clear hk); (try clear hi)))
 go_loopg [5, 7, 8] k (fun kq v5 v7 v8 w' => ∃ (x5_1 : List Int) (x7_1 : ByteArray) (x8_1 : Int), v7 = .string x7_1 ∧ v8 = .int .i64 x8_1 ∧ Aside0 (spec_l15Rows.l0 kq a1 x5_1 (wrap64 (a0_0 * t362)) x7_1 x8_1 a0_0 a0_1 a0_2 a0_3 l0_4 = some r) ∧ Aside0 (kq ≤ k) ∧ Aside0 (Kd.R (Kd.int .u8) 5 w' w.heap.size (fun _ => True) v5 x5_1) ∧ Aside0 (w'.heap[gb358]? = some (.cells #[.int .i64 a0_0, .int .i64 a0_1, .int .i64 a0_2, .int .i64 a0_3, (.slice A0_4 l0_4.length c0_4)] 29 (0, 0))) ∧ Aside0 (Below w.heap.size w w'))
 case atStart => exact ⟨(y359), (t363), (0), (by first | rfl | (simp; done) | (simp [*]; done)), (by first | rfl | (simp; done) | (simp [*]; done)), H', ⟨Nat.le_refl _⟩, ⟨by (with_reducible repeat (first | apply rA | apply rN | apply rD)); exact HO361.out⟩, ⟨by (with_reducible repeat (first | refine kN ?_ _ | refine kD ?_ | refine kA ?_ _)); exact BK358.out⟩, ⟨by repeat (first | (with_reducible first | exact HB.out | apply bA | apply bN | apply bE | refine bS ?_ GE358.out) | exact HB.out)⟩⟩
 case round =>
  clear H'
  try clear c1
  try clear p2
  try clear c5
  try clear p6
  try clear c8
  try clear hcz9_0
  try clear hcz9_1
  try clear hcz9_2
  try clear hcz9_3
  try clear hcz9_4
  try clear hfz9_0
  try clear hfz9_1
  try clear hfz9_2
  try clear hfz9_3
  try clear hfz9_4
  obtain ⟨x5_1, x7_1, x8_1, rfl, rfl, HA, HK1, HO_5, BK358, HB⟩ := hrel
  cases gk with
  | zero => exact absurd HA.out (by simp [spec_l15Rows.l0])
  | succ k1 =>
   have H := HA.out
   clear HA
   simp only [spec_l15Rows.l0] at H
   by_cases c11 : x8_1 < a0_1
   ·rw [if_pos c11] at H
    have c11b0 : decide (x8_1 < a0_1) = true := decide_eq_true c11
    clear c11
    obtain ⟨ji12, hji12⟩ : ∃ j_ : Int, (wrap64 (x8_1 * (wrap64 (a0_0 * t362)))) = j_ := ⟨_, rfl⟩
    replace H : (if 0 ≤ (ji12) then (if (ji12) ≤ (wrap64 ((ji12) + (wrap64 (a0_0 * t362)))) then (if (wrap64 ((ji12) + (wrap64 (a0_0 * t362)))) ≤ (l0_4.length : Int) then ((spec_PackRow.f k1 ((l0_4.take ((wrap64 ((ji12) + (wrap64 (a0_0 * t362)))) : Int).toNat).drop ((ji12) : Int).toNat) a0_3).bind fun bt365 => (if a1 = 5 then ((spec_l15Unit.f k1 a0_2 a0_3).bind fun t367 => ((spec_BestFilter.f k1 bt365.1 x7_1 t367).bind fun bt368 => ((spec_l15Unit.f k1 a0_2 a0_3).bind fun t370 => ((spec_FilterRow.f k1 bt368.1 bt365.1 x7_1 t370).bind fun bt371 => (if x5_1.length < 140737488355328 then ((some (x5_1 ++ [(bt368.1) % 256] : List Int)).bind fun y373 => (if bt371.1.size ≤ 9223372036854775807 then ((some (bytesOf bt371.1 : List Int)).bind fun y376 => (if y373.length + y376.length < 140737488355328 then (spec_l15Rows.l0 k1 a1 (y373 ++ y376) (wrap64 (a0_0 * t362)) bt365.1 (wrap64 (x8_1 + 1)) a0_0 a0_1 a0_2 a0_3 l0_4) else (none))) else (none))) else (none)))))) else ((spec_l15Unit.f k1 a0_2 a0_3).bind fun t382 => ((spec_FilterRow.f k1 a1 bt365.1 x7_1 t382).bind fun bt383 => (if x5_1.length < 140737488355328 then ((some (x5_1 ++ [(a1) % 256] : List Int)).bind fun y385 => (if bt383.1.size ≤ 9223372036854775807 then ((some (bytesOf bt383.1 : List Int)).bind fun y388 => (if y385.length + y388.length < 140737488355328 then (spec_l15Rows.l0 k1 a1 (y385 ++ y388) (wrap64 (a0_0 * t362)) bt365.1 (wrap64 (x8_1 + 1)) a0_0 a0_1 a0_2 a0_3 l0_4) else (none))) else (none))) else (none)))))) else (none)) else (none)) else (none)) = some r := by first | (rw [hji12] at H; exact H) | (simp only [hji12] at H ⊢; exact H)
    have hji12w : (IntKind.i64.wrap (x8_1 * (wrap64 (a0_0 * t362)))) = ji12 := (i64_w _).trans hji12
    by_cases c13 : 0 ≤ (ji12)
    ·rw [if_pos c13] at H
     have c13b0 := eq_true c13
     have c13b1 : decide (0 ≤ (ji12)) = true := decide_eq_true c13
     clear c13
     by_cases c14 : (ji12) ≤ (wrap64 ((ji12) + (wrap64 (a0_0 * t362))))
     ·rw [if_pos c14] at H
      have c14b0 := eq_true c14
      have c14b1 : decide ((ji12) ≤ (wrap64 ((ji12) + (wrap64 (a0_0 * t362))))) = true := decide_eq_true c14
      by_cases c15 : (wrap64 ((ji12) + (wrap64 (a0_0 * t362)))) ≤ (l0_4.length : Int)
      ·rw [if_pos c15] at H
       have c15b0 := eq_true c15
       have c15b1 : decide ((wrap64 ((ji12) + (wrap64 (a0_0 * t362)))) ≤ (l0_4.length : Int)) = true := decide_eq_true c15
       replace H := oB.mp H
       obtain ⟨⟨t365, t366⟩, A160, H⟩ := H
       try dsimp only at H
       have A16 := aM A160
       clear A160
       by_cases c17 : a1 = 5
       ·rw [if_pos c17] at H
        have c17b0 : (a1 == 5) = true := beq_iff_eq.mpr c17
        have c17b1 : (a1 != 5) = false := bne_eq_false_iff_eq.mpr c17
        clear c17
        replace H := oB.mp H
        obtain ⟨t367, A180, H⟩ := H
        try dsimp only at H
        have A18 := aM A180
        clear A180
        replace H := oB.mp H
        obtain ⟨⟨t368, t369⟩, A190, H⟩ := H
        try dsimp only at H
        have A19 := aM A190
        clear A190
        replace H := oB.mp H
        obtain ⟨t370, A200, H⟩ := H
        try dsimp only at H
        have A20 := aM A200
        clear A200
        replace H := oB.mp H
        obtain ⟨⟨t371, t372⟩, A210, H⟩ := H
        try dsimp only at H
        have A21 := aM A210
        clear A210
        by_cases c22 : x5_1.length < 140737488355328
        ·rw [if_pos c22] at H
         have LMc22 := aM c22
         clear c22
         obtain ⟨y373, hy373⟩ : ∃ y_ : List Int, y_ = (x5_1 ++ [(t368) % 256]) := ⟨_, rfl⟩
         replace H : (if t371.size ≤ 9223372036854775807 then ((some (bytesOf t371 : List Int)).bind fun y376 => (if y373.length + y376.length < 140737488355328 then (spec_l15Rows.l0 k1 a1 (y373 ++ y376) (wrap64 (a0_0 * t362)) t365 (wrap64 (x8_1 + 1)) a0_0 a0_1 a0_2 a0_3 l0_4) else (none))) else (none)) = some r := by first | (rw [hy373]; with_reducible exact H) | (have H2_ := (Option.bind_some _ _).symm.trans H; rw [hy373]; with_reducible exact H2_) | (have H2_ := (Option.bind_some _ _).symm.trans H; with_reducible exact H2_) | with_reducible exact H | (rw [hy373]; exact H) | exact H
         have Ny373 := aM hy373
         clear hy373
         by_cases c23 : t371.size ≤ 9223372036854775807
         ·rw [if_pos c23] at H
          have c23b0 := eq_true c23
          have c23b1 : decide (t371.size ≤ 9223372036854775807) = true := decide_eq_true c23
          try have c23b2 : (9223372036854775807 < t371.size) = False := eq_false (Nat.not_lt.2 c23)
          clear c23
          obtain ⟨y376, hy376⟩ : ∃ y_ : List Int, y_ = (bytesOf t371) := ⟨_, rfl⟩
          replace H : (if y373.length + y376.length < 140737488355328 then (spec_l15Rows.l0 k1 a1 (y373 ++ y376) (wrap64 (a0_0 * t362)) t365 (wrap64 (x8_1 + 1)) a0_0 a0_1 a0_2 a0_3 l0_4) else (none)) = some r := by first | (rw [hy376]; with_reducible exact H) | (have H2_ := (Option.bind_some _ _).symm.trans H; rw [hy376]; with_reducible exact H2_) | (have H2_ := (Option.bind_some _ _).symm.trans H; with_reducible exact H2_) | with_reducible exact H | (rw [hy376]; exact H) | exact H
          have Ny376 := aM hy376
          clear hy376
          by_cases c24 : y373.length + y376.length < 140737488355328
          ·rw [if_pos c24] at H
           have LMc24 := aM c24
           clear c24
           obtain ⟨y379, hy379⟩ : ∃ y_ : List Int, y_ = (y373 ++ y376) := ⟨_, rfl⟩
           replace H : (spec_l15Rows.l0 k1 a1 y379 (wrap64 (a0_0 * t362)) t365 (wrap64 (x8_1 + 1)) a0_0 a0_1 a0_2 a0_3 l0_4) = some r := by first | (rw [hy379]; with_reducible exact H) | (have H2_ := (Option.bind_some _ _).symm.trans H; rw [hy379]; with_reducible exact H2_) | (have H2_ := (Option.bind_some _ _).symm.trans H; with_reducible exact H2_) | with_reducible exact H | (rw [hy379]; exact H) | exact H
           have Ny379 := aM hy379
           clear hy379
           have H' := aM H
           clear H
           obtain ⟨hcz25_0, hcz25_1, hcz25_2, hcz25_3, hcz25_4⟩ := blk_c5 BK358.out
           obtain ⟨hfz25_0, hfz25_1, hfz25_2, hfz25_3, hfz25_4⟩ := blk_f5 BK358.out
           try go_wp2
           have n0_ := aM (rD HO_5.out)
           have n1_ := aM (kD BK358.out)
           have n2_ := aM (bE HB.out)
           clear HO_5
           clear BK358
           clear HB
           have HO_5 := n0_
           have BK358 := n1_
           have HB := n2_
           clear n0_ n1_ n2_
           obtain ⟨i027, hi027, _, hsz27, _⟩ := info_parts info3
           obtain ⟨A27, hcut27, hA27, hC27⟩ := print_mid_of (P := Try.prog) (Value.int .i64) 0 22 3 .i64 .i64 Try.underlying22 hi027 hsz27 A0_4 c0_4 l0_4 (ji12) (wrap64 ((ji12) + (wrap64 (a0_0 * t362)))) (oD (by first | (with_reducible assumption) | assumption)) (by first | omega | exact oD (by first | (with_reducible assumption) | assumption)) (oD (by first | (with_reducible assumption) | assumption)) HC0_4.out
           have HR364 := aM (Kd.C_of_reads (h1 := fun _ => rfl) (hA27 _ (Kd.reads_of_C HR0_4.out)))
           have HC364 := aM hC27
           clear hA27 hC27 hi027 hsz27
           refine start_ (n := 19) (S := fun w' => w'.cell? ⟨gb358, 0, none⟩ = some (.int .i64 a0_0) ∧ w'.cell? ⟨gb358, 1, none⟩ = some (.int .i64 a0_1) ∧ w'.cell? ⟨gb358, 2, none⟩ = some (.int .i64 a0_2) ∧ w'.cell? ⟨gb358, 3, none⟩ = some (.int .i64 a0_3) ∧ w'.cell? ⟨gb358, 4, none⟩ = some (.slice A0_4 l0_4.length c0_4)) (ds := []) #[false, false, false, false, false, false, false, false, false, false, false, false, false, false, false, false, false, false, false] (by kernel_rfl) rfl rfl ⟨(blk_cell BK358.out 0).trans rfl, (blk_cell BK358.out 1).trans rfl, (blk_cell BK358.out 2).trans rfl, (blk_cell BK358.out 3).trans rfl, (blk_cell BK358.out 4).trans rfl⟩ (fun hHeld => ?_); refine with_tabW spec_l15Rows.tab7 spec_l15Rows.bits7 (fun HT_ HW_ => ?_)
           generalize wr.drew = w26 at HO_5 BK358 HB HR364 hHeld ⊢
           refine pure_ (i := 0) (N := some 35) (v := ?_) (a' := ?_) #[true, false, false, false, false, false, false, false, false, false, false, false, false, false, false, false, false, false, false] rfl rfl (any_of HT_.out (by kernel_rfl)) (fun _ _ _ h => h) (Or.inl ⟨by rfl, ?_⟩) ?_ ?_
           rotate_left
           ·intro w'
            go_simp
            with_reducible rfl
           rotate_left
           ·simp only [Act.put, lI, lZ, lS, i64_w, i32_w]
            rfl
           refine pure_ (i := 2) (N := some 37) (v := ?_) (a' := ?_) #[true, false, true, false, false, false, false, false, false, false, false, false, false, false, false, false, false, false, false] rfl rfl (any_of HT_.out (by kernel_rfl)) (fun _ _ _ h => h) (Or.inl ⟨by rfl, ?_⟩) ?_ ?_
           rotate_left
           ·intro w'
            go_simp
            with_reducible rfl
           rotate_left
           ·simp only [Act.put, lI, lZ, lS, i64_w, i32_w]
            rfl
           refine pure_ (i := 3) (N := some 38) (v := ?_) (a' := ?_) #[true, false, true, true, false, false, false, false, false, false, false, false, false, false, false, false, false, false, false] rfl rfl (any_of HT_.out (by kernel_rfl)) (fun _ _ _ h => h) (Or.inl ⟨by rfl, ?_⟩) ?_ ?_
           rotate_left
           ·intro w'
            go_simp
            with_reducible rfl
           rotate_left
           ·simp only [Act.put, lI, lZ, lS, i64_w, i32_w]
            rfl
           refine pure_ (i := 4) (N := some 39) (v := ?_) (a' := ?_) #[true, false, true, true, true, false, false, false, false, false, false, false, false, false, false, false, false, false, false] rfl rfl (any_of HT_.out (by kernel_rfl)) (fun _ _ _ h => h) (Or.inl ⟨by rfl, ?_⟩) ?_ ?_
           rotate_left
           ·intro w'
            go_simp
            with_reducible rfl
           rotate_left
           ·simp only [Act.put, lI, lZ, lS, i64_w, i32_w]
            rfl
           refine pure_ (i := 5) (N := some 40) (v := ?_) (a' := ?_) #[true, false, true, true, true, true, false, false, false, false, false, false, false, false, false, false, false, false, false] rfl rfl (any_of HT_.out (by kernel_rfl)) (fun _ _ _ h => h) (Or.inl ⟨by rfl, ?_⟩) ?_ ?_
           rotate_left
           ·intro w'
            go_simp
            with_reducible rfl
           rotate_left
           ·simp only [Act.put, lI, lZ, lS, i64_w, i32_w]
            rfl
           refine pure_ (i := 6) (N := some 41) (v := ?_) (a' := ?_) #[true, false, true, true, true, true, true, false, false, false, false, false, false, false, false, false, false, false, false] rfl rfl (any_of HT_.out (by kernel_rfl)) (fun _ _ _ h => h) (Or.inl ⟨by rfl, ?_⟩) ?_ ?_
           rotate_left
           ·intro w'
            go_simp
            with_reducible rfl
           rotate_left
           ·simp only [Act.put, lI, lZ, lS, i64_w, i32_w]
            rfl
           refine pure_ (i := 7) (N := some 42) (v := ?_) (a' := ?_) #[true, false, true, true, true, true, true, true, false, false, false, false, false, false, false, false, false, false, false] rfl rfl (any_of HT_.out (by kernel_rfl)) (fun _ _ _ h => h) (Or.inl ⟨by rfl, ?_⟩) ?_ ?_
           rotate_left
           ·intro w'
            go_simp
            with_reducible rfl
           rotate_left
           ·simp only [Act.put, lI, lZ, lS, i64_w, i32_w]
            rfl
           refine pure_ (i := 8) (N := some 43) (v := ?_) (a' := ?_) #[true, false, true, true, true, true, true, true, true, false, false, false, false, false, false, false, false, false, false] rfl rfl (any_of HT_.out (by kernel_rfl)) (fun _ _ _ h => h) (Or.inl ⟨by rfl, ?_⟩) ?_ ?_
           rotate_left
           ·intro w'
            go_simp
            with_reducible rfl
           rotate_left
           ·simp only [Act.put, lI, lZ, lS, i64_w, i32_w]
            rfl
           refine pure_ (i := 9) (N := some 44) (v := ?_) (a' := ?_) #[true, false, true, true, true, true, true, true, true, true, false, false, false, false, false, false, false, false, false] rfl rfl (any_of HT_.out (by kernel_rfl)) (fun _ _ _ h => h) (Or.inl ⟨by rfl, ?_⟩) ?_ ?_
           rotate_left
           ·intro w'
            go_simp
            with_reducible rfl
           rotate_left
           ·simp only [Act.put, lI, lZ, lS, i64_w, i32_w]
            rfl
           refine pure_ (i := 11) (N := some 46) (v := ?_) (a' := ?_) #[true, false, true, true, true, true, true, true, true, true, false, true, false, false, false, false, false, false, false] rfl rfl (any_of HT_.out (by kernel_rfl)) (fun _ _ _ h => h) (Or.inl ⟨by rfl, ?_⟩) ?_ ?_
           rotate_left
           ·intro w'
            go_simp
            with_reducible rfl
           rotate_left
           ·simp only [Act.put, lI, lZ, lS, i64_w, i32_w]
            rfl
           refine take_ (i := 1) (N := some 36) (v := ?_) (a' := ?_) #[true, true, true, true, true, true, true, true, true, true, false, true, false, false, false, false, false, false, false] rfl rfl (take_ofW HT_.out HW_.out (by kernel_rfl)) (fun _ _ _ h => h) (Or.inl ⟨by rfl, ?_⟩) hHeld ?_ ?_
           rotate_left
           ·rintro w' ⟨s0, s1, s2, s3, s4⟩
            go_simp
            with_reducible rfl
           rotate_left
           ·simp only [Act.put, lI, lZ, lS, i64_w, i32_w]
            rfl
           refine pure_ (i := 10) (N := some 45) (v := ?_) (a' := ?_) #[true, true, true, true, true, true, true, true, true, true, true, true, false, false, false, false, false, false, false] rfl rfl (any_of HT_.out (by kernel_rfl)) (fun _ _ _ h => h) (Or.inl ⟨by rfl, ?_⟩) ?_ ?_
           rotate_left
           ·intro w'
            go_simp
            with_reducible rfl
           rotate_left
           ·simp only [Act.put, lI, lZ, lS, i64_w, i32_w]
            rfl
           refine take_ (i := 12) (N := some 47) (v := ?_) (a' := ?_) #[true, true, true, true, true, true, true, true, true, true, true, true, true, false, false, false, false, false, false] rfl rfl (take_ofW HT_.out HW_.out (by kernel_rfl)) (fun _ _ _ h => h) (Or.inl ⟨by rfl, ?_⟩) hHeld ?_ ?_
           rotate_left
           ·rintro w' ⟨s0, s1, s2, s3, s4⟩
            go_simp
            with_reducible rfl
           rotate_left
           ·simp only [Act.put, lI, lZ, lS, i64_w, i32_w]
            rfl
           refine one_ (i := 13) (N := some 48) #[true, true, true, true, true, true, true, true, true, true, true, true, true, true, false, false, false, false, false] rfl rfl (one_of HT_.out (by kernel_rfl)) (by decide) (fun K hK => ?_)
           refine goes_ Try.func171 (by kernel_rfl) rfl #[.slice A27 ((l0_4.take ((wrap64 ((ji12) + (wrap64 (a0_0 * t362)))) : Int).toNat).drop ((ji12) : Int).toNat).length (c0_4 - (ji12).toNat), .int .i64 a0_3] (by rfl) rfl rfl (by (try simp only [lM, List.map_cons, List.map_nil]); first | done | (rw [show ((l0_4.take ((wrap64 ((ji12) + (wrap64 (a0_0 * t362)))) : Int).toNat).drop ((ji12) : Int).toNat).length = ((wrap64 ((ji12) + (wrap64 (a0_0 * t362)))).toNat - (ji12).toNat) from (by rw [lD, lT]; have h_ : ((wrap64 ((ji12) + (wrap64 (a0_0 * t362)))) : Int) ≤ (l0_4.length : Int) := oD (by first | (with_reducible assumption) | assumption); omega)] <;> rfl) | (simp only [hji12]; rfl) | rfl | (simp only [lD, lT]; rfl)) ?_
           with_reducible refine (spec_PackRow.calls k1 _ _ ((l0_4.take ((wrap64 ((ji12) + (wrap64 (a0_0 * t362)))) : Int).toNat).drop ((ji12) : Int).toNat) a0_3 t365 t366 _ ?side1 ?side2 A16.out).mono ?_
           (case side1 => repeat (first | exact (Kd.C_below HR364.out HB.out) | (with_reducible refine cA ?_ _) | (with_reducible refine cN ?_ _) | (with_reducible refine cD ?_)))
           (case side2 => exact HC364.out)
           rintro e w28 ⟨rfl, hb⟩
           refine ⟨_, rfl, ?_⟩
           have n0_ := aM (Kd.R_below (by (with_reducible repeat (first | apply rA | apply rN | apply rD)); exact HO_5.out) hb)
           have n1_ := aM (kB (g := gb358) (o := .cells #[.int .i64 a0_0, .int .i64 a0_1, .int .i64 a0_2, .int .i64 a0_3, .slice A0_4 l0_4.length c0_4] 29 (0, 0)) (by (with_reducible repeat (first | refine kN ?_ _ | refine kD ?_ | refine kA ?_ _)); exact BK358.out) hb)
           have n2_ := aM (bT (by repeat (first | (with_reducible first | exact HB.out | apply bA | apply bN | apply bE | refine bS ?_ GE358.out) | exact HB.out)) hb)
           clear HO_5
           clear BK358
           clear HB
           have HO_5 := n0_
           have BK358 := n1_
           have HB := n2_
           clear n0_ n1_ n2_
           (try clear hb)
           (try clear hb2)
           (try clear hk)
           (try clear hi)
           refine hK.out _ _ ⟨(blk_cell BK358.out 0).trans rfl, (blk_cell BK358.out 1).trans rfl, (blk_cell BK358.out 2).trans rfl, (blk_cell BK358.out 3).trans rfl, (blk_cell BK358.out 4).trans rfl⟩ (fun hHeld => ?_)
           clear hK K
           refine norm_ (a' := ?_) ?_ ?_
           rotate_left
           ·show Act.put _ (some 48) _ = _
            simp only [Act.put, lI, lZ, lS, i64_w, i32_w]
            rfl
           refine pure_ (i := 14) (N := some 34) (v := ?_) (a' := ?_) #[true, true, true, true, true, true, true, true, true, true, true, true, true, true, true, false, false, false, false] rfl rfl (any_of HT_.out (by kernel_rfl)) (fun _ _ _ h => h) (Or.inl ⟨by rfl, ?_⟩) ?_ ?_
           rotate_left
           ·intro w'
            go_simp
            with_reducible rfl
           rotate_left
           ·simp only [Act.put, lI, lZ, lS, i64_w, i32_w]
            rfl
           refine pure_ (i := 15) (N := some 49) (v := ?_) (a' := ?_) #[true, true, true, true, true, true, true, true, true, true, true, true, true, true, true, true, false, false, false] rfl rfl (any_of HT_.out (by kernel_rfl)) (fun _ _ _ h => h) (Or.inl ⟨by rfl, ?_⟩) ?_ ?_
           rotate_left
           ·intro w'
            go_simp
            with_reducible rfl
           rotate_left
           ·simp only [Act.put, lI, lZ, lS, i64_w, i32_w]
            rfl
           refine pure_ (i := 16) (N := some 50) (v := ?_) (a' := ?_) #[true, true, true, true, true, true, true, true, true, true, true, true, true, true, true, true, true, false, false] rfl rfl (any_of HT_.out (by kernel_rfl)) (fun _ _ _ h => h) (Or.inl ⟨by rfl, ?_⟩) ?_ ?_
           rotate_left
           ·intro w'
            go_simp
            with_reducible rfl
           rotate_left
           ·simp only [Act.put, lI, lZ, lS, i64_w, i32_w]
            rfl
           refine pure_ (i := 17) (N := some 9) (v := ?_) (a' := ?_) #[true, true, true, true, true, true, true, true, true, true, true, true, true, true, true, true, true, true, false] rfl rfl (any_of HT_.out (by kernel_rfl)) (fun _ _ _ h => h) (Or.inl ⟨by rfl, ?_⟩) ?_ ?_
           rotate_left
           ·intro w'
            go_simp
            with_reducible rfl
           rotate_left
           ·simp only [Act.put, lI, lZ, lS, i64_w, i32_w]
            rfl
           refine pure_ (i := 18) (N := some 10) (v := ?_) (a' := ?_) #[true, true, true, true, true, true, true, true, true, true, true, true, true, true, true, true, true, true, true] rfl rfl (any_of HT_.out (by kernel_rfl)) (fun _ _ _ h => h) (Or.inl ⟨by rfl, ?_⟩) ?_ ?_
           rotate_left
           ·intro w'
            go_simp
            with_reducible rfl
           rotate_left
           ·simp only [Act.put, lI, lZ, lS, i64_w, i32_w]
            rfl
           refine done_ (done_of HT_.out (by kernel_rfl)) ?_
           obtain ⟨hcz29_0, hcz29_1, hcz29_2, hcz29_3, hcz29_4⟩ := blk_c5 BK358.out
           obtain ⟨hfz29_0, hfz29_1, hfz29_2, hfz29_3, hfz29_4⟩ := blk_f5 BK358.out
           try go_wp2_with (first | ((with_reducible refine gate_callee (f := 137) rfl ?_); refine goesL_ (some 61) rfl rfl Try.func137 (by kernel_rfl) rfl #[.int .i64 a0_2, .int .i64 a0_3] rfl (by (try simp only [lM, List.map_cons, List.map_nil]); first | done | rfl | (simp only [lD, lT]; rfl)) ?_; (with_reducible refine (spec_l15Unit.calls k1 a0_2 a0_3 t367 _ A18.out).mono ?_); rintro e w' ⟨rfl, ⟨nd, rfl⟩⟩; refine ⟨_, rfl, ?_⟩) | ((with_reducible refine gate_callee (f := 172) rfl ?_); refine goesL_ (some 62) rfl rfl Try.func172 (by kernel_rfl) rfl #[.string t365, .string x7_1, .int .i64 t367] rfl (by (try simp only [lM, List.map_cons, List.map_nil]); first | done | rfl | (simp only [lD, lT]; rfl)) ?_; (with_reducible refine (spec_BestFilter.calls k1 t365 x7_1 t367 t368 t369 _ A19.out).mono ?_); rintro e w30 ⟨rfl, hb⟩; refine ⟨_, rfl, ?_⟩; have n0_ := aM (Kd.R_below (by (with_reducible repeat (first | apply rA | apply rN | apply rD)); exact HO_5.out) hb); have n1_ := aM (kB (g := gb358) (o := .cells #[.int .i64 a0_0, .int .i64 a0_1, .int .i64 a0_2, .int .i64 a0_3, .slice A0_4 l0_4.length c0_4] 29 (0, 0)) (by (with_reducible repeat (first | refine kN ?_ _ | refine kD ?_ | refine kA ?_ _)); exact BK358.out) hb); have n2_ := aM (bT (by repeat (first | (with_reducible first | exact HB.out | apply bA | apply bN | apply bE | refine bS ?_ GE358.out) | exact HB.out)) hb); clear HO_5; clear BK358; clear HB; have HO_5 := n0_; have BK358 := n1_; have HB := n2_; clear n0_ n1_ n2_; (try clear hb); (try clear hb2); (try clear hk); (try clear hi); obtain ⟨hcz31_0, hcz31_1, hcz31_2, hcz31_3, hcz31_4⟩ := blk_c5 BK358.out; obtain ⟨hfz31_0, hfz31_1, hfz31_2, hfz31_3, hfz31_4⟩ := blk_f5 BK358.out) | ((with_reducible refine gate_callee (f := 137) rfl ?_); refine goesL_ (some 73) rfl rfl Try.func137 (by kernel_rfl) rfl #[.int .i64 a0_2, .int .i64 a0_3] rfl (by (try simp only [lM, List.map_cons, List.map_nil]); first | done | rfl | (simp only [lD, lT]; rfl)) ?_; (with_reducible refine (spec_l15Unit.calls k1 a0_2 a0_3 t370 _ A20.out).mono ?_); rintro e w' ⟨rfl, ⟨nd, rfl⟩⟩; refine ⟨_, rfl, ?_⟩) | ((with_reducible refine gate_callee (f := 173) rfl ?_); refine goesL_ (some 74) rfl rfl Try.func173 (by kernel_rfl) rfl #[.int .i64 t368, .string t365, .string x7_1, .int .i64 t370] rfl (by (try simp only [lM, List.map_cons, List.map_nil]); first | done | rfl | (simp only [lD, lT]; rfl)) ?_; (with_reducible refine (spec_FilterRow.calls k1 t368 t365 x7_1 t370 t371 t372 _ A21.out).mono ?_); rintro e w32 ⟨rfl, hb⟩; refine ⟨_, rfl, ?_⟩; have n0_ := aM (Kd.R_below (by (with_reducible repeat (first | apply rA | apply rN | apply rD)); exact HO_5.out) hb); have n1_ := aM (kB (g := gb358) (o := .cells #[.int .i64 a0_0, .int .i64 a0_1, .int .i64 a0_2, .int .i64 a0_3, .slice A0_4 l0_4.length c0_4] 29 (0, 0)) (by (with_reducible repeat (first | refine kN ?_ _ | refine kD ?_ | refine kA ?_ _)); exact BK358.out) hb); have n2_ := aM (bT (by repeat (first | (with_reducible first | exact HB.out | apply bA | apply bN | apply bE | refine bS ?_ GE358.out) | exact HB.out)) hb); clear HO_5; clear BK358; clear HB; have HO_5 := n0_; have BK358 := n1_; have HB := n2_; clear n0_ n1_ n2_; (try clear hb); (try clear hb2); (try clear hk); (try clear hi)) | ((with_reducible refine gate_builtin (b := .append) (xs := #[.tmp 77, .tmp 80]) rfl ?_); at_builtin; refine Kd.R_append (Kd.int .u8) (w0 := w) w.heap.size rfl (.tmp 77) (.tmp 80) 36 5 (.int .u8 0) 1 rfl Try.underlying36 info5 rfl (by decide) (by omega) u5 x5_1 ((t368) % 256) [.int .u8 ((t368) % 256)] (fun _ => True) (fun _ => False) rfl rfl ?aP (fun _ hk => hk.elim) ?aF ?aO ?aB ?aS ?aL ?_; (case aP => exact rfl); (case aB => exact (by repeat (first | (with_reducible first | exact HB.out | apply bA | apply bN | apply bE | refine bS ?_ GE358.out) | exact HB.out))); (case aF => exact (fun _ _ => trivial)); (case aO => exact (by (with_reducible repeat (first | apply rA | apply rN | apply rD)); exact HO_5.out)); (case aS => exact (bZ (by repeat (first | (with_reducible first | exact HB.out | apply bA | apply bN | apply bE | refine bS ?_ GE358.out) | exact HB.out)))); (case aL => have := LMc22.out; omega); intro v374 w33 ho hb hg hat; rw [← Ny373.out] at ho; have n0_ := aM (blk_grown (g := gb358) (o := .cells #[.int .i64 a0_0, .int .i64 a0_1, .int .i64 a0_2, .int .i64 a0_3, .slice A0_4 l0_4.length c0_4] 29 (0, 0)) (by (with_reducible repeat (first | refine kN ?_ _ | refine kD ?_ | refine kA ?_ _)); exact BK358.out) hg (Kd.R_ne HO_5.out BK358.out (by decide))); have n1_ := aM (hb); have n2_ := aM (ho); clear BK358; clear HB; clear HO_5; have BK358 := n0_; have HB := n1_; have HO375 := n2_; clear n0_ n1_ n2_; clear ho hb hg hat) | ((with_reducible refine gate_dst (N := 83) rfl ?_); refine Kd.V_conv ?hg (N := 83) ?hd rfl Try.underlying9 Try.underlying36 Try.underlying5 (s := t371) rfl (oD (by first | (with_reducible assumption) | assumption)) (ok := fun k_ => w33.heap.size ≤ k_) (Nat.le_refl _) ?_; (case hd => rfl); (case hg => rfl); intro v377 w34 ho35 hb hg_ hnew_; clear hg_ hnew_; (first | rw [← Ny376.out] at ho35 | (simp only [Int.reduceToNat] at ho35; rw [← Ny376.out] at ho35)); have n0_ := aM (Kd.R_below (by (with_reducible repeat (first | apply rA | apply rN | apply rD)); exact HO375.out) hb); have n1_ := aM (Kd.V_lower (Kd.V_mono (ok' := fun k_ => some k_ ≠ (v374 : Value).ownBlock ∧ k_ ≠ gb358) ho35 (fun k_ hk_ => ⟨(Kd.fresh' (Kd.R_lt (by (with_reducible repeat (first | apply rA | apply rN | apply rD)); exact HO375.out)) k_ hk_), (Kd.freshB (g := gb358) (o := .cells #[.int .i64 a0_0, .int .i64 a0_1, .int .i64 a0_2, .int .i64 a0_3, .slice A0_4 l0_4.length c0_4] 29 (0, 0)) (by (with_reducible repeat (first | refine kN ?_ _ | refine kD ?_ | refine kA ?_ _)); exact BK358.out) k_ hk_)⟩)) (bZ (by repeat (first | (with_reducible first | exact HB.out | apply bA | apply bN | apply bE | refine bS ?_ GE358.out) | exact HB.out)))); have n2_ := aM (kB (g := gb358) (o := .cells #[.int .i64 a0_0, .int .i64 a0_1, .int .i64 a0_2, .int .i64 a0_3, .slice A0_4 l0_4.length c0_4] 29 (0, 0)) (by (with_reducible repeat (first | refine kN ?_ _ | refine kD ?_ | refine kA ?_ _)); exact BK358.out) hb); have n3_ := aM (bT (by repeat (first | (with_reducible first | exact HB.out | apply bA | apply bN | apply bE | refine bS ?_ GE358.out) | exact HB.out)) hb); clear HO375; clear BK358; clear HB; have HO375 := n0_; have HO378 := n1_; have BK358 := n2_; have HB := n3_; clear n0_ n1_ n2_ n3_; clear hb ho35; obtain ⟨Ao37, co37, eo37⟩ := Kd.V_slice HO378.out; subst eo37) | ((with_reducible refine gate_builtin (b := .append) (xs := #[.tmp 81, .tmp 83]) rfl ?_); at_builtin; refine Kd.R_append_rows (Kd.int .u8) (w0 := w) w.heap.size rfl (.tmp 81) (.tmp 83) 36 5 (.int .u8 0) 1 rfl Try.underlying36 info5 rfl (by decide) (by omega) v374 y373 y376 _ _ _ (fun _ => True) (fun _ => False) rfl rfl ?aO ?aR (fun _ _ h => h) (fun _ h => h.elim) ?aF ?aB ?aS ?aL ?_; (case aR => repeat (first | exact (Kd.V_reads' HO378.out).2.2 | (with_reducible refine cA ?_ _) | (with_reducible refine cN ?_ _) | (with_reducible refine cD ?_))); (case aB => exact (by repeat (first | (with_reducible first | exact HB.out | apply bA | apply bN | apply bE | refine bS ?_ GE358.out) | exact HB.out))); (case aF => exact (fun _ _ => trivial)); (case aO => exact (by (with_reducible repeat (first | apply rA | apply rN | apply rD)); exact HO375.out)); (case aS => exact (bZ (by repeat (first | (with_reducible first | exact HB.out | apply bA | apply bN | apply bE | refine bS ?_ GE358.out) | exact HB.out)))); (case aL => have := LMc24.out; omega); intro v380 w36 ho hb hg hat; rw [← Ny379.out] at ho; have n0_ := aM (blk_grown (g := gb358) (o := .cells #[.int .i64 a0_0, .int .i64 a0_1, .int .i64 a0_2, .int .i64 a0_3, .slice A0_4 l0_4.length c0_4] 29 (0, 0)) (by (with_reducible repeat (first | refine kN ?_ _ | refine kD ?_ | refine kA ?_ _)); exact BK358.out) hg (Kd.R_ne HO375.out BK358.out (by decide))); have n1_ := aM (Kd.V_afterv (ok := (fun k_ => k_ ≠ gb358)) (by (with_reducible repeat (first | apply Kd.V_alloc | apply Kd.V_drewN | apply Kd.V_drew)); exact Kd.V_mono HO378.out (fun _ hk => ⟨hk.2, hk.1⟩)) hg hat); have n2_ := aM (hb); have n3_ := aM (ho); clear BK358; clear HO378; clear HB; clear HO375; have BK358 := n0_; have HO378 := n1_; have HB := n2_; have HO381 := n3_; clear n0_ n1_ n2_ n3_; clear ho hb hg hat))
           go_roundg k1
           case measure => have := HK1.out; omega
           case rel => exact ⟨(y379), (t365), (wrap64 (x8_1 + 1)), (by first | rfl | (simp; done) | (simp [*]; done)), (by first | rfl | (simp; done) | (simp [*]; done)), H', ⟨by have := HK1.out; omega⟩, ⟨by (with_reducible repeat (first | apply rA | apply rN | apply rD)); exact HO381.out⟩, ⟨by (with_reducible repeat (first | refine kN ?_ _ | refine kD ?_ | refine kA ?_ _)); exact BK358.out⟩, ⟨by repeat (first | (with_reducible first | exact HB.out | apply bA | apply bN | apply bE | refine bS ?_ GE358.out) | exact HB.out)⟩⟩
          ·rw [if_neg c24] at H
           exact absurd H (by simp)
         ·rw [if_neg c23] at H
          exact absurd H (by simp)
        ·rw [if_neg c22] at H
         exact absurd H (by simp)
       ·rw [if_neg c17] at H
        have c17b0 : (a1 == 5) = false := beq_eq_false_iff_ne.mpr c17
        have c17b1 : (a1 != 5) = true := bne_iff_ne.mpr c17
        replace H := oB.mp H
        obtain ⟨t382, A380, H⟩ := H
        try dsimp only at H
        have A38 := aM A380
        clear A380
        replace H := oB.mp H
        obtain ⟨⟨t383, t384⟩, A390, H⟩ := H
        try dsimp only at H
        have A39 := aM A390
        clear A390
        by_cases c40 : x5_1.length < 140737488355328
        ·rw [if_pos c40] at H
         have LMc40 := aM c40
         clear c40
         obtain ⟨y385, hy385⟩ : ∃ y_ : List Int, y_ = (x5_1 ++ [(a1) % 256]) := ⟨_, rfl⟩
         replace H : (if t383.size ≤ 9223372036854775807 then ((some (bytesOf t383 : List Int)).bind fun y388 => (if y385.length + y388.length < 140737488355328 then (spec_l15Rows.l0 k1 a1 (y385 ++ y388) (wrap64 (a0_0 * t362)) t365 (wrap64 (x8_1 + 1)) a0_0 a0_1 a0_2 a0_3 l0_4) else (none))) else (none)) = some r := by first | (rw [hy385]; with_reducible exact H) | (have H2_ := (Option.bind_some _ _).symm.trans H; rw [hy385]; with_reducible exact H2_) | (have H2_ := (Option.bind_some _ _).symm.trans H; with_reducible exact H2_) | with_reducible exact H | (rw [hy385]; exact H) | exact H
         have Ny385 := aM hy385
         clear hy385
         by_cases c41 : t383.size ≤ 9223372036854775807
         ·rw [if_pos c41] at H
          have c41b0 := eq_true c41
          have c41b1 : decide (t383.size ≤ 9223372036854775807) = true := decide_eq_true c41
          try have c41b2 : (9223372036854775807 < t383.size) = False := eq_false (Nat.not_lt.2 c41)
          clear c41
          obtain ⟨y388, hy388⟩ : ∃ y_ : List Int, y_ = (bytesOf t383) := ⟨_, rfl⟩
          replace H : (if y385.length + y388.length < 140737488355328 then (spec_l15Rows.l0 k1 a1 (y385 ++ y388) (wrap64 (a0_0 * t362)) t365 (wrap64 (x8_1 + 1)) a0_0 a0_1 a0_2 a0_3 l0_4) else (none)) = some r := by first | (rw [hy388]; with_reducible exact H) | (have H2_ := (Option.bind_some _ _).symm.trans H; rw [hy388]; with_reducible exact H2_) | (have H2_ := (Option.bind_some _ _).symm.trans H; with_reducible exact H2_) | with_reducible exact H | (rw [hy388]; exact H) | exact H
          have Ny388 := aM hy388
          clear hy388
          by_cases c42 : y385.length + y388.length < 140737488355328
          ·rw [if_pos c42] at H
           have LMc42 := aM c42
           clear c42
           obtain ⟨y391, hy391⟩ : ∃ y_ : List Int, y_ = (y385 ++ y388) := ⟨_, rfl⟩
           replace H : (spec_l15Rows.l0 k1 a1 y391 (wrap64 (a0_0 * t362)) t365 (wrap64 (x8_1 + 1)) a0_0 a0_1 a0_2 a0_3 l0_4) = some r := by first | (rw [hy391]; with_reducible exact H) | (have H2_ := (Option.bind_some _ _).symm.trans H; rw [hy391]; with_reducible exact H2_) | (have H2_ := (Option.bind_some _ _).symm.trans H; with_reducible exact H2_) | with_reducible exact H | (rw [hy391]; exact H) | exact H
           have Ny391 := aM hy391
           clear hy391
           have H' := aM H
           clear H
           obtain ⟨hcz43_0, hcz43_1, hcz43_2, hcz43_3, hcz43_4⟩ := blk_c5 BK358.out
           obtain ⟨hfz43_0, hfz43_1, hfz43_2, hfz43_3, hfz43_4⟩ := blk_f5 BK358.out
           try go_wp2
           have n0_ := aM (rD HO_5.out)
           have n1_ := aM (kD BK358.out)
           have n2_ := aM (bE HB.out)
           clear HO_5
           clear BK358
           clear HB
           have HO_5 := n0_
           have BK358 := n1_
           have HB := n2_
           clear n0_ n1_ n2_
           obtain ⟨i045, hi045, _, hsz45, _⟩ := info_parts info3
           obtain ⟨A45, hcut45, hA45, hC45⟩ := print_mid_of (P := Try.prog) (Value.int .i64) 0 22 3 .i64 .i64 Try.underlying22 hi045 hsz45 A0_4 c0_4 l0_4 (ji12) (wrap64 ((ji12) + (wrap64 (a0_0 * t362)))) (oD (by first | (with_reducible assumption) | assumption)) (by first | omega | exact oD (by first | (with_reducible assumption) | assumption)) (oD (by first | (with_reducible assumption) | assumption)) HC0_4.out
           have HR364 := aM (Kd.C_of_reads (h1 := fun _ => rfl) (hA45 _ (Kd.reads_of_C HR0_4.out)))
           have HC364 := aM hC45
           clear hA45 hC45 hi045 hsz45
           refine start_ (n := 19) (S := fun w' => w'.cell? ⟨gb358, 0, none⟩ = some (.int .i64 a0_0) ∧ w'.cell? ⟨gb358, 1, none⟩ = some (.int .i64 a0_1) ∧ w'.cell? ⟨gb358, 2, none⟩ = some (.int .i64 a0_2) ∧ w'.cell? ⟨gb358, 3, none⟩ = some (.int .i64 a0_3) ∧ w'.cell? ⟨gb358, 4, none⟩ = some (.slice A0_4 l0_4.length c0_4)) (ds := []) #[false, false, false, false, false, false, false, false, false, false, false, false, false, false, false, false, false, false, false] (by kernel_rfl) rfl rfl ⟨(blk_cell BK358.out 0).trans rfl, (blk_cell BK358.out 1).trans rfl, (blk_cell BK358.out 2).trans rfl, (blk_cell BK358.out 3).trans rfl, (blk_cell BK358.out 4).trans rfl⟩ (fun hHeld => ?_); refine with_tabW spec_l15Rows.tab7 spec_l15Rows.bits7 (fun HT_ HW_ => ?_)
           generalize wr.drew = w44 at HO_5 BK358 HB HR364 hHeld ⊢
           refine pure_ (i := 0) (N := some 35) (v := ?_) (a' := ?_) #[true, false, false, false, false, false, false, false, false, false, false, false, false, false, false, false, false, false, false] rfl rfl (any_of HT_.out (by kernel_rfl)) (fun _ _ _ h => h) (Or.inl ⟨by rfl, ?_⟩) ?_ ?_
           rotate_left
           ·intro w'
            go_simp
            with_reducible rfl
           rotate_left
           ·simp only [Act.put, lI, lZ, lS, i64_w, i32_w]
            rfl
           refine pure_ (i := 2) (N := some 37) (v := ?_) (a' := ?_) #[true, false, true, false, false, false, false, false, false, false, false, false, false, false, false, false, false, false, false] rfl rfl (any_of HT_.out (by kernel_rfl)) (fun _ _ _ h => h) (Or.inl ⟨by rfl, ?_⟩) ?_ ?_
           rotate_left
           ·intro w'
            go_simp
            with_reducible rfl
           rotate_left
           ·simp only [Act.put, lI, lZ, lS, i64_w, i32_w]
            rfl
           refine pure_ (i := 3) (N := some 38) (v := ?_) (a' := ?_) #[true, false, true, true, false, false, false, false, false, false, false, false, false, false, false, false, false, false, false] rfl rfl (any_of HT_.out (by kernel_rfl)) (fun _ _ _ h => h) (Or.inl ⟨by rfl, ?_⟩) ?_ ?_
           rotate_left
           ·intro w'
            go_simp
            with_reducible rfl
           rotate_left
           ·simp only [Act.put, lI, lZ, lS, i64_w, i32_w]
            rfl
           refine pure_ (i := 4) (N := some 39) (v := ?_) (a' := ?_) #[true, false, true, true, true, false, false, false, false, false, false, false, false, false, false, false, false, false, false] rfl rfl (any_of HT_.out (by kernel_rfl)) (fun _ _ _ h => h) (Or.inl ⟨by rfl, ?_⟩) ?_ ?_
           rotate_left
           ·intro w'
            go_simp
            with_reducible rfl
           rotate_left
           ·simp only [Act.put, lI, lZ, lS, i64_w, i32_w]
            rfl
           refine pure_ (i := 5) (N := some 40) (v := ?_) (a' := ?_) #[true, false, true, true, true, true, false, false, false, false, false, false, false, false, false, false, false, false, false] rfl rfl (any_of HT_.out (by kernel_rfl)) (fun _ _ _ h => h) (Or.inl ⟨by rfl, ?_⟩) ?_ ?_
           rotate_left
           ·intro w'
            go_simp
            with_reducible rfl
           rotate_left
           ·simp only [Act.put, lI, lZ, lS, i64_w, i32_w]
            rfl
           refine pure_ (i := 6) (N := some 41) (v := ?_) (a' := ?_) #[true, false, true, true, true, true, true, false, false, false, false, false, false, false, false, false, false, false, false] rfl rfl (any_of HT_.out (by kernel_rfl)) (fun _ _ _ h => h) (Or.inl ⟨by rfl, ?_⟩) ?_ ?_
           rotate_left
           ·intro w'
            go_simp
            with_reducible rfl
           rotate_left
           ·simp only [Act.put, lI, lZ, lS, i64_w, i32_w]
            rfl
           refine pure_ (i := 7) (N := some 42) (v := ?_) (a' := ?_) #[true, false, true, true, true, true, true, true, false, false, false, false, false, false, false, false, false, false, false] rfl rfl (any_of HT_.out (by kernel_rfl)) (fun _ _ _ h => h) (Or.inl ⟨by rfl, ?_⟩) ?_ ?_
           rotate_left
           ·intro w'
            go_simp
            with_reducible rfl
           rotate_left
           ·simp only [Act.put, lI, lZ, lS, i64_w, i32_w]
            rfl
           refine pure_ (i := 8) (N := some 43) (v := ?_) (a' := ?_) #[true, false, true, true, true, true, true, true, true, false, false, false, false, false, false, false, false, false, false] rfl rfl (any_of HT_.out (by kernel_rfl)) (fun _ _ _ h => h) (Or.inl ⟨by rfl, ?_⟩) ?_ ?_
           rotate_left
           ·intro w'
            go_simp
            with_reducible rfl
           rotate_left
           ·simp only [Act.put, lI, lZ, lS, i64_w, i32_w]
            rfl
           refine pure_ (i := 9) (N := some 44) (v := ?_) (a' := ?_) #[true, false, true, true, true, true, true, true, true, true, false, false, false, false, false, false, false, false, false] rfl rfl (any_of HT_.out (by kernel_rfl)) (fun _ _ _ h => h) (Or.inl ⟨by rfl, ?_⟩) ?_ ?_
           rotate_left
           ·intro w'
            go_simp
            with_reducible rfl
           rotate_left
           ·simp only [Act.put, lI, lZ, lS, i64_w, i32_w]
            rfl
           refine pure_ (i := 11) (N := some 46) (v := ?_) (a' := ?_) #[true, false, true, true, true, true, true, true, true, true, false, true, false, false, false, false, false, false, false] rfl rfl (any_of HT_.out (by kernel_rfl)) (fun _ _ _ h => h) (Or.inl ⟨by rfl, ?_⟩) ?_ ?_
           rotate_left
           ·intro w'
            go_simp
            with_reducible rfl
           rotate_left
           ·simp only [Act.put, lI, lZ, lS, i64_w, i32_w]
            rfl
           refine take_ (i := 1) (N := some 36) (v := ?_) (a' := ?_) #[true, true, true, true, true, true, true, true, true, true, false, true, false, false, false, false, false, false, false] rfl rfl (take_ofW HT_.out HW_.out (by kernel_rfl)) (fun _ _ _ h => h) (Or.inl ⟨by rfl, ?_⟩) hHeld ?_ ?_
           rotate_left
           ·rintro w' ⟨s0, s1, s2, s3, s4⟩
            go_simp
            with_reducible rfl
           rotate_left
           ·simp only [Act.put, lI, lZ, lS, i64_w, i32_w]
            rfl
           refine pure_ (i := 10) (N := some 45) (v := ?_) (a' := ?_) #[true, true, true, true, true, true, true, true, true, true, true, true, false, false, false, false, false, false, false] rfl rfl (any_of HT_.out (by kernel_rfl)) (fun _ _ _ h => h) (Or.inl ⟨by rfl, ?_⟩) ?_ ?_
           rotate_left
           ·intro w'
            go_simp
            with_reducible rfl
           rotate_left
           ·simp only [Act.put, lI, lZ, lS, i64_w, i32_w]
            rfl
           refine take_ (i := 12) (N := some 47) (v := ?_) (a' := ?_) #[true, true, true, true, true, true, true, true, true, true, true, true, true, false, false, false, false, false, false] rfl rfl (take_ofW HT_.out HW_.out (by kernel_rfl)) (fun _ _ _ h => h) (Or.inl ⟨by rfl, ?_⟩) hHeld ?_ ?_
           rotate_left
           ·rintro w' ⟨s0, s1, s2, s3, s4⟩
            go_simp
            with_reducible rfl
           rotate_left
           ·simp only [Act.put, lI, lZ, lS, i64_w, i32_w]
            rfl
           refine one_ (i := 13) (N := some 48) #[true, true, true, true, true, true, true, true, true, true, true, true, true, true, false, false, false, false, false] rfl rfl (one_of HT_.out (by kernel_rfl)) (by decide) (fun K hK => ?_)
           refine goes_ Try.func171 (by kernel_rfl) rfl #[.slice A45 ((l0_4.take ((wrap64 ((ji12) + (wrap64 (a0_0 * t362)))) : Int).toNat).drop ((ji12) : Int).toNat).length (c0_4 - (ji12).toNat), .int .i64 a0_3] (by rfl) rfl rfl (by (try simp only [lM, List.map_cons, List.map_nil]); first | done | (rw [show ((l0_4.take ((wrap64 ((ji12) + (wrap64 (a0_0 * t362)))) : Int).toNat).drop ((ji12) : Int).toNat).length = ((wrap64 ((ji12) + (wrap64 (a0_0 * t362)))).toNat - (ji12).toNat) from (by rw [lD, lT]; have h_ : ((wrap64 ((ji12) + (wrap64 (a0_0 * t362)))) : Int) ≤ (l0_4.length : Int) := oD (by first | (with_reducible assumption) | assumption); omega)] <;> rfl) | (simp only [hji12]; rfl) | rfl | (simp only [lD, lT]; rfl)) ?_
           with_reducible refine (spec_PackRow.calls k1 _ _ ((l0_4.take ((wrap64 ((ji12) + (wrap64 (a0_0 * t362)))) : Int).toNat).drop ((ji12) : Int).toNat) a0_3 t365 t366 _ ?side1 ?side2 A16.out).mono ?_
           (case side1 => repeat (first | exact (Kd.C_below HR364.out HB.out) | (with_reducible refine cA ?_ _) | (with_reducible refine cN ?_ _) | (with_reducible refine cD ?_)))
           (case side2 => exact HC364.out)
           rintro e w46 ⟨rfl, hb⟩
           refine ⟨_, rfl, ?_⟩
           have n0_ := aM (Kd.R_below (by (with_reducible repeat (first | apply rA | apply rN | apply rD)); exact HO_5.out) hb)
           have n1_ := aM (kB (g := gb358) (o := .cells #[.int .i64 a0_0, .int .i64 a0_1, .int .i64 a0_2, .int .i64 a0_3, .slice A0_4 l0_4.length c0_4] 29 (0, 0)) (by (with_reducible repeat (first | refine kN ?_ _ | refine kD ?_ | refine kA ?_ _)); exact BK358.out) hb)
           have n2_ := aM (bT (by repeat (first | (with_reducible first | exact HB.out | apply bA | apply bN | apply bE | refine bS ?_ GE358.out) | exact HB.out)) hb)
           clear HO_5
           clear BK358
           clear HB
           have HO_5 := n0_
           have BK358 := n1_
           have HB := n2_
           clear n0_ n1_ n2_
           (try clear hb)
           (try clear hb2)
           (try clear hk)
           (try clear hi)
           refine hK.out _ _ ⟨(blk_cell BK358.out 0).trans rfl, (blk_cell BK358.out 1).trans rfl, (blk_cell BK358.out 2).trans rfl, (blk_cell BK358.out 3).trans rfl, (blk_cell BK358.out 4).trans rfl⟩ (fun hHeld => ?_)
           clear hK K
           refine norm_ (a' := ?_) ?_ ?_
           rotate_left
           ·show Act.put _ (some 48) _ = _
            simp only [Act.put, lI, lZ, lS, i64_w, i32_w]
            rfl
           refine pure_ (i := 14) (N := some 34) (v := ?_) (a' := ?_) #[true, true, true, true, true, true, true, true, true, true, true, true, true, true, true, false, false, false, false] rfl rfl (any_of HT_.out (by kernel_rfl)) (fun _ _ _ h => h) (Or.inl ⟨by rfl, ?_⟩) ?_ ?_
           rotate_left
           ·intro w'
            go_simp
            with_reducible rfl
           rotate_left
           ·simp only [Act.put, lI, lZ, lS, i64_w, i32_w]
            rfl
           refine pure_ (i := 15) (N := some 49) (v := ?_) (a' := ?_) #[true, true, true, true, true, true, true, true, true, true, true, true, true, true, true, true, false, false, false] rfl rfl (any_of HT_.out (by kernel_rfl)) (fun _ _ _ h => h) (Or.inl ⟨by rfl, ?_⟩) ?_ ?_
           rotate_left
           ·intro w'
            go_simp
            with_reducible rfl
           rotate_left
           ·simp only [Act.put, lI, lZ, lS, i64_w, i32_w]
            rfl
           refine pure_ (i := 16) (N := some 50) (v := ?_) (a' := ?_) #[true, true, true, true, true, true, true, true, true, true, true, true, true, true, true, true, true, false, false] rfl rfl (any_of HT_.out (by kernel_rfl)) (fun _ _ _ h => h) (Or.inl ⟨by rfl, ?_⟩) ?_ ?_
           rotate_left
           ·intro w'
            go_simp
            with_reducible rfl
           rotate_left
           ·simp only [Act.put, lI, lZ, lS, i64_w, i32_w]
            rfl
           refine pure_ (i := 17) (N := some 9) (v := ?_) (a' := ?_) #[true, true, true, true, true, true, true, true, true, true, true, true, true, true, true, true, true, true, false] rfl rfl (any_of HT_.out (by kernel_rfl)) (fun _ _ _ h => h) (Or.inl ⟨by rfl, ?_⟩) ?_ ?_
           rotate_left
           ·intro w'
            go_simp
            with_reducible rfl
           rotate_left
           ·simp only [Act.put, lI, lZ, lS, i64_w, i32_w]
            rfl
           refine pure_ (i := 18) (N := some 10) (v := ?_) (a' := ?_) #[true, true, true, true, true, true, true, true, true, true, true, true, true, true, true, true, true, true, true] rfl rfl (any_of HT_.out (by kernel_rfl)) (fun _ _ _ h => h) (Or.inl ⟨by rfl, ?_⟩) ?_ ?_
           rotate_left
           ·intro w'
            go_simp
            with_reducible rfl
           rotate_left
           ·simp only [Act.put, lI, lZ, lS, i64_w, i32_w]
            rfl
           refine done_ (done_of HT_.out (by kernel_rfl)) ?_
           obtain ⟨hcz47_0, hcz47_1, hcz47_2, hcz47_3, hcz47_4⟩ := blk_c5 BK358.out
           obtain ⟨hfz47_0, hfz47_1, hfz47_2, hfz47_3, hfz47_4⟩ := blk_f5 BK358.out
           try go_wp2_with (first | ((with_reducible refine gate_callee (f := 137) rfl ?_); refine goesL_ (some 73) rfl rfl Try.func137 (by kernel_rfl) rfl #[.int .i64 a0_2, .int .i64 a0_3] rfl (by (try simp only [lM, List.map_cons, List.map_nil]); first | done | rfl | (simp only [lD, lT]; rfl)) ?_; (with_reducible refine (spec_l15Unit.calls k1 a0_2 a0_3 t382 _ A38.out).mono ?_); rintro e w' ⟨rfl, ⟨nd, rfl⟩⟩; refine ⟨_, rfl, ?_⟩) | ((with_reducible refine gate_callee (f := 173) rfl ?_); refine goesL_ (some 74) rfl rfl Try.func173 (by kernel_rfl) rfl #[.int .i64 a1, .string t365, .string x7_1, .int .i64 t382] rfl (by (try simp only [lM, List.map_cons, List.map_nil]); first | done | rfl | (simp only [lD, lT]; rfl)) ?_; (with_reducible refine (spec_FilterRow.calls k1 a1 t365 x7_1 t382 t383 t384 _ A39.out).mono ?_); rintro e w48 ⟨rfl, hb⟩; refine ⟨_, rfl, ?_⟩; have n0_ := aM (Kd.R_below (by (with_reducible repeat (first | apply rA | apply rN | apply rD)); exact HO_5.out) hb); have n1_ := aM (kB (g := gb358) (o := .cells #[.int .i64 a0_0, .int .i64 a0_1, .int .i64 a0_2, .int .i64 a0_3, .slice A0_4 l0_4.length c0_4] 29 (0, 0)) (by (with_reducible repeat (first | refine kN ?_ _ | refine kD ?_ | refine kA ?_ _)); exact BK358.out) hb); have n2_ := aM (bT (by repeat (first | (with_reducible first | exact HB.out | apply bA | apply bN | apply bE | refine bS ?_ GE358.out) | exact HB.out)) hb); clear HO_5; clear BK358; clear HB; have HO_5 := n0_; have BK358 := n1_; have HB := n2_; clear n0_ n1_ n2_; (try clear hb); (try clear hb2); (try clear hk); (try clear hi)) | ((with_reducible refine gate_builtin (b := .append) (xs := #[.tmp 77, .tmp 80]) rfl ?_); at_builtin; refine Kd.R_append (Kd.int .u8) (w0 := w) w.heap.size rfl (.tmp 77) (.tmp 80) 36 5 (.int .u8 0) 1 rfl Try.underlying36 info5 rfl (by decide) (by omega) u5 x5_1 ((a1) % 256) [.int .u8 ((a1) % 256)] (fun _ => True) (fun _ => False) rfl rfl ?aP (fun _ hk => hk.elim) ?aF ?aO ?aB ?aS ?aL ?_; (case aP => exact rfl); (case aB => exact (by repeat (first | (with_reducible first | exact HB.out | apply bA | apply bN | apply bE | refine bS ?_ GE358.out) | exact HB.out))); (case aF => exact (fun _ _ => trivial)); (case aO => exact (by (with_reducible repeat (first | apply rA | apply rN | apply rD)); exact HO_5.out)); (case aS => exact (bZ (by repeat (first | (with_reducible first | exact HB.out | apply bA | apply bN | apply bE | refine bS ?_ GE358.out) | exact HB.out)))); (case aL => have := LMc40.out; omega); intro v386 w49 ho hb hg hat; rw [← Ny385.out] at ho; have n0_ := aM (blk_grown (g := gb358) (o := .cells #[.int .i64 a0_0, .int .i64 a0_1, .int .i64 a0_2, .int .i64 a0_3, .slice A0_4 l0_4.length c0_4] 29 (0, 0)) (by (with_reducible repeat (first | refine kN ?_ _ | refine kD ?_ | refine kA ?_ _)); exact BK358.out) hg (Kd.R_ne HO_5.out BK358.out (by decide))); have n1_ := aM (hb); have n2_ := aM (ho); clear BK358; clear HB; clear HO_5; have BK358 := n0_; have HB := n1_; have HO387 := n2_; clear n0_ n1_ n2_; clear ho hb hg hat) | ((with_reducible refine gate_dst (N := 83) rfl ?_); refine Kd.V_conv ?hg (N := 83) ?hd rfl Try.underlying9 Try.underlying36 Try.underlying5 (s := t383) rfl (oD (by first | (with_reducible assumption) | assumption)) (ok := fun k_ => w49.heap.size ≤ k_) (Nat.le_refl _) ?_; (case hd => rfl); (case hg => rfl); intro v389 w50 ho51 hb hg_ hnew_; clear hg_ hnew_; (first | rw [← Ny388.out] at ho51 | (simp only [Int.reduceToNat] at ho51; rw [← Ny388.out] at ho51)); have n0_ := aM (Kd.R_below (by (with_reducible repeat (first | apply rA | apply rN | apply rD)); exact HO387.out) hb); have n1_ := aM (Kd.V_lower (Kd.V_mono (ok' := fun k_ => some k_ ≠ (v386 : Value).ownBlock ∧ k_ ≠ gb358) ho51 (fun k_ hk_ => ⟨(Kd.fresh' (Kd.R_lt (by (with_reducible repeat (first | apply rA | apply rN | apply rD)); exact HO387.out)) k_ hk_), (Kd.freshB (g := gb358) (o := .cells #[.int .i64 a0_0, .int .i64 a0_1, .int .i64 a0_2, .int .i64 a0_3, .slice A0_4 l0_4.length c0_4] 29 (0, 0)) (by (with_reducible repeat (first | refine kN ?_ _ | refine kD ?_ | refine kA ?_ _)); exact BK358.out) k_ hk_)⟩)) (bZ (by repeat (first | (with_reducible first | exact HB.out | apply bA | apply bN | apply bE | refine bS ?_ GE358.out) | exact HB.out)))); have n2_ := aM (kB (g := gb358) (o := .cells #[.int .i64 a0_0, .int .i64 a0_1, .int .i64 a0_2, .int .i64 a0_3, .slice A0_4 l0_4.length c0_4] 29 (0, 0)) (by (with_reducible repeat (first | refine kN ?_ _ | refine kD ?_ | refine kA ?_ _)); exact BK358.out) hb); have n3_ := aM (bT (by repeat (first | (with_reducible first | exact HB.out | apply bA | apply bN | apply bE | refine bS ?_ GE358.out) | exact HB.out)) hb); clear HO387; clear BK358; clear HB; have HO387 := n0_; have HO390 := n1_; have BK358 := n2_; have HB := n3_; clear n0_ n1_ n2_ n3_; clear hb ho51; obtain ⟨Ao53, co53, eo53⟩ := Kd.V_slice HO390.out; subst eo53) | ((with_reducible refine gate_builtin (b := .append) (xs := #[.tmp 81, .tmp 83]) rfl ?_); at_builtin; refine Kd.R_append_rows (Kd.int .u8) (w0 := w) w.heap.size rfl (.tmp 81) (.tmp 83) 36 5 (.int .u8 0) 1 rfl Try.underlying36 info5 rfl (by decide) (by omega) v386 y385 y388 _ _ _ (fun _ => True) (fun _ => False) rfl rfl ?aO ?aR (fun _ _ h => h) (fun _ h => h.elim) ?aF ?aB ?aS ?aL ?_; (case aR => repeat (first | exact (Kd.V_reads' HO390.out).2.2 | (with_reducible refine cA ?_ _) | (with_reducible refine cN ?_ _) | (with_reducible refine cD ?_))); (case aB => exact (by repeat (first | (with_reducible first | exact HB.out | apply bA | apply bN | apply bE | refine bS ?_ GE358.out) | exact HB.out))); (case aF => exact (fun _ _ => trivial)); (case aO => exact (by (with_reducible repeat (first | apply rA | apply rN | apply rD)); exact HO387.out)); (case aS => exact (bZ (by repeat (first | (with_reducible first | exact HB.out | apply bA | apply bN | apply bE | refine bS ?_ GE358.out) | exact HB.out)))); (case aL => have := LMc42.out; omega); intro v392 w52 ho hb hg hat; rw [← Ny391.out] at ho; have n0_ := aM (blk_grown (g := gb358) (o := .cells #[.int .i64 a0_0, .int .i64 a0_1, .int .i64 a0_2, .int .i64 a0_3, .slice A0_4 l0_4.length c0_4] 29 (0, 0)) (by (with_reducible repeat (first | refine kN ?_ _ | refine kD ?_ | refine kA ?_ _)); exact BK358.out) hg (Kd.R_ne HO387.out BK358.out (by decide))); have n1_ := aM (Kd.V_afterv (ok := (fun k_ => k_ ≠ gb358)) (by (with_reducible repeat (first | apply Kd.V_alloc | apply Kd.V_drewN | apply Kd.V_drew)); exact Kd.V_mono HO390.out (fun _ hk => ⟨hk.2, hk.1⟩)) hg hat); have n2_ := aM (hb); have n3_ := aM (ho); clear BK358; clear HO390; clear HB; clear HO387; have BK358 := n0_; have HO390 := n1_; have HB := n2_; have HO393 := n3_; clear n0_ n1_ n2_ n3_; clear ho hb hg hat))
           go_roundg k1
           case measure => have := HK1.out; omega
           case rel => exact ⟨(y391), (t365), (wrap64 (x8_1 + 1)), (by first | rfl | (simp; done) | (simp [*]; done)), (by first | rfl | (simp; done) | (simp [*]; done)), H', ⟨by have := HK1.out; omega⟩, ⟨by (with_reducible repeat (first | apply rA | apply rN | apply rD)); exact HO393.out⟩, ⟨by (with_reducible repeat (first | refine kN ?_ _ | refine kD ?_ | refine kA ?_ _)); exact BK358.out⟩, ⟨by repeat (first | (with_reducible first | exact HB.out | apply bA | apply bN | apply bE | refine bS ?_ GE358.out) | exact HB.out)⟩⟩
          ·rw [if_neg c42] at H
           exact absurd H (by simp)
         ·rw [if_neg c41] at H
          exact absurd H (by simp)
        ·rw [if_neg c40] at H
         exact absurd H (by simp)
      ·rw [if_neg c15] at H
       exact absurd H (by simp)
     ·rw [if_neg c14] at H
      exact absurd H (by simp)
    ·rw [if_neg c13] at H
     exact absurd H (by simp)
   ·rw [if_neg c11] at H
    have c11b0 : decide (x8_1 < a0_1) = false := decide_eq_false c11
    clear c11
    obtain rfl := Option.some.inj H
    obtain ⟨hcz54_0, hcz54_1, hcz54_2, hcz54_3, hcz54_4⟩ := blk_c5 BK358.out
    obtain ⟨hfz54_0, hfz54_1, hfz54_2, hfz54_3, hfz54_4⟩ := blk_f5 BK358.out
    have hcv55 := own_string (P := Try.prog) Try.underlying36 Try.underlying5 Try.underlying9 (Kd.own_of_R HO_5.out)
    go_wp2
    go_ret
    exact ⟨by first | rfl | (simp [errW_none, errW_some] <;> rfl) | (simp [*, errW_none, errW_some] <;> rfl), by repeat (first | (with_reducible first | exact HB.out | apply bA | apply bN | apply bE | refine bS ?_ GE358.out) | exact HB.out)⟩

end Go.Proofs.Ytajnobmnkbkkgaa.PFnExactScanOf
