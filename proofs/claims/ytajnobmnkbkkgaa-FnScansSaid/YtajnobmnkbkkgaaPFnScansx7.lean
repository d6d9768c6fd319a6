/- Walks of functions that the law FnScans reaches: each call comes to what the Lean function of its name tells. Written by p2.py, a program of this session, by way of the kit's print. -/
import Derived.Test.YtajnobmnkbkkgaaVFnScans
import Derived.Test.YtajnobmnkbkkgaaPFnScansx0
import Derived.Test.YtajnobmnkbkkgaaPFnScansx4
import Derived.Test.YtajnobmnkbkkgaaPFnScansx6
namespace Go.Proofs.Ytajnobmnkbkkgaa.PFnScans
open Go.RowKit Go.Proofs.YtajnobmnkbkkgaaW.PrintWords Go.Proofs.YtajnobmnkbkkgaaW.PrintLast Go.Proofs.YtajnobmnkbkkgaaW.PrintMore
attribute [local go_sem] max2_int min2_int max_two min_two max_three min_three max_four min_four   -- for this text's walks alone
set_option linter.unusedVariables false
set_option linter.unusedSimpArgs false

/-! ### impl_rowsOf: function 158 -/
def impl_rowsOf.l0 : Nat → List ByteArray → Int → Int → Int → Int → Int → Int → Int → List Int → Option (List ByteArray)
  | 0, _, _, _, _, _, _, _, _, _ => none
  | k + 1, x3, x4, x16, x17, x256000, x256001, x256002, x256003, x256004 => if x17 < x16 then (if 0 ≤ (wrap64 (x17 * x4)) then (if (wrap64 (x17 * x4)) ≤ (wrap64 ((wrap64 (x17 + 1)) * x4)) then (if (wrap64 ((wrap64 (x17 + 1)) * x4)) ≤ (x256004.length : Int) then ((impl_PackRow.f k ((x256004.take ((wrap64 ((wrap64 (x17 + 1)) * x4)) : Int).toNat).drop ((wrap64 (x17 * x4)) : Int).toNat) x256003).bind fun bt261 => (if x3.length < 8796093022208 then (impl_rowsOf.l0 k (x3 ++ [bt261.1]) x4 x16 (wrap64 (x17 + 1)) x256000 x256001 x256002 x256003 x256004) else (none))) else (none)) else (none)) else (none)) else (some x3)
def impl_rowsOf.f (k : Nat) (a0_0 : Int) (a0_1 : Int) (a0_2 : Int) (a0_3 : Int) (l0_4 : List Int) : Option (List ByteArray) := (impl_ChannelsOf.f k a0_2).bind fun t259 => (impl_rowsOf.l0 k (([] : List ByteArray)) (wrap64 (a0_0 * t259)) a0_1 0 a0_0 a0_1 a0_2 a0_3 l0_4)
def impl_rowsOf.T6 : Bool × List (List Nat × List Nat) := (true, [([], []), ([0], [0]), ([], []), ([], []), ([2, 3], [2, 3]), ([], []), ([5], [5]), ([], []), ([6, 7], [6, 7]), ([1, 4, 8], [1, 4, 8]), ([], []), ([10], [10]), ([9, 11], [9, 11]), ([12], [12]), ([13], [13]), ([13], [13]), ([14, 12, 0, 1, 2, 3, 4, 5, 6, 7, 8, 9, 10, 11, 12, 13, 14], [14]), ([15, 16, 0, 1, 2, 3, 4, 5, 6, 7, 8, 9, 10, 11, 12, 13, 14, 15, 16], [15])])
def impl_rowsOf.B6 : List Nat := [0, 1, 0, 0, 12, 0, 32, 0, 224, 511, 0, 1024, 4095, 8191, 16383, 16383, 32767, 131071]
theorem impl_rowsOf.tab6 : rtab .any (opsOf Try.f158 6) = impl_rowsOf.T6 := by kernel_rfl
theorem impl_rowsOf.bits6 : waitsOk impl_rowsOf.T6.2 impl_rowsOf.B6 = true := by kernel_rfl
set_option maxHeartbeats 8000000 in
set_option maxRecDepth 100000 in
theorem impl_rowsOf.calls (k : Nat) (a0_0 : Int) (a0_1 : Int) (a0_2 : Int) (a0_3 : Int) (A0_4 : Option Addr) (c0_4 : Nat) (l0_4 : List Int) (r : List ByteArray) (w : World) (hr0_4 : Kd.C (Kd.int .i64) w A0_4 l0_4.length l0_4) (hc0_4 : l0_4.length ≤ c0_4) (h : impl_rowsOf.f k a0_0 a0_1 a0_2 a0_3 l0_4 = some r) :
 Calls Try.prog 158 #[.agg #[.int .i64 a0_0, .int .i64 a0_1, .int .i64 a0_2, .int .i64 a0_3, .slice A0_4 l0_4.length c0_4]] w fun e w' => ∃ v0_ : Value, e = .returned (v0_) ∧ Kd.R Kd.string 9 w' w.heap.size (fun _ => True) v0_ r ∧ Below w.heap.size w w' := by
 have hu29 := Try.underlying29; have HR0_4 := aM hr0_4; have HC0_4 := aM hc0_4; clear hr0_4 hc0_4; have HB := aM (Below.refl w.heap.size w); have H : ((impl_ChannelsOf.f k a0_2).bind fun t259 => (impl_rowsOf.l0 k (([] : List ByteArray)) (wrap64 (a0_0 * t259)) a0_1 0 a0_0 a0_1 a0_2 a0_3 l0_4)) = some r := h; clear h; obtain ⟨y256, hy256⟩ : ∃ y_ : List ByteArray, y_ = (([] : List ByteArray)) := ⟨_, rfl⟩; replace H : ((impl_ChannelsOf.f k a0_2).bind fun t259 => (impl_rowsOf.l0 k y256 (wrap64 (a0_0 * t259)) a0_1 0 a0_0 a0_1 a0_2 a0_3 l0_4)) = some r := by first | (rw [hy256]; with_reducible exact H) | (have H2_ := (Option.bind_some _ _).symm.trans H; rw [hy256]; with_reducible exact H2_) | (have H2_ := (Option.bind_some _ _).symm.trans H; with_reducible exact H2_) | with_reducible exact H | (rw [hy256]; exact H) | exact H
 have Ny256 := aM hy256; clear hy256; revert H; refine bdR fun t259 A2 => ?_; refine adR fun H' => ?_; go_enter Try.func158, Try.ntmps158
 try go_wp2_with (first | ((with_reducible refine gD 1 ?_); refine bE 1 #[.int .i64 a0_0, .int .i64 a0_1, .int .i64 a0_2, .int .i64 a0_3, .slice A0_4 l0_4.length c0_4] 29 ?_; intro gb255 hg w3 hbox hb; have BK255 := aM (hbox); have GW255 := aM ((sZ hg : w.heap.size ≤ gb255)); have GE255 := aM ((sZ hg : w.heap.size ≤ gb255)); replace HB := aM (below_step hB hb); clear hb hbox hg) | ((with_reducible refine gD 8 ?_); refine Kd.R_lit Kd.string _ 9 ?hg (N := 8) ?hd (xs := ([] : List ByteArray)) (inner := []) (ok := fun _ => True) (okp := fun _ => True) ?hr ?hp (fun _ hk => hk) trivial (Below.refl _ _) (Nat.le_refl _) (by simp) ?_; (case hd => rfl); (case hg => rfl); (case hr => first | (go_simp; done) | (go_simp; rfl)); (case hp => exact (Reps.none _ _)); intro v257 w4 ho5 hb hg_ hnew_; clear hg_ hnew_; (first | rw [← Ny256.out] at ho5 | (simp only [Int.reduceToNat] at ho5; rw [← Ny256.out] at ho5)); have HO258 := aM (Kd.R_lower ho5 (below_size hB)); replace BK255 := aM (blk_below (g := gb255) (o := .cells #[.int .i64 a0_0, .int .i64 a0_1, .int .i64 a0_2, .int .i64 a0_3, .slice A0_4 l0_4.length c0_4] 29 (0, 0)) (bI BK255.out) hb); replace HB := aM (below_step hB hb); clear hb ho5))
 replace HO258 := aM (Kd.R_drew HO258.out); replace BK255 := aM (blk_drew BK255.out); replace HB := aM (below_drew1 HB.out)
 refine start_ (n := 7) (S := fun w' => w'.cell? ⟨gb255, 0, none⟩ = some (.int .i64 a0_0) ∧ w'.cell? ⟨gb255, 1, none⟩ = some (.int .i64 a0_1) ∧ w'.cell? ⟨gb255, 2, none⟩ = some (.int .i64 a0_2) ∧ w'.cell? ⟨gb255, 3, none⟩ = some (.int .i64 a0_3) ∧ w'.cell? ⟨gb255, 4, none⟩ = some (.slice A0_4 l0_4.length c0_4)) (ds := []) #[false, false, false, false, false, false, false] (by kernel_rfl) rfl rfl ⟨(blk_cell BK255.out 0).trans rfl, (blk_cell BK255.out 1).trans rfl, (blk_cell BK255.out 2).trans rfl, (blk_cell BK255.out 3).trans rfl, (blk_cell BK255.out 4).trans rfl⟩ (fun hHeld => ?_)
 generalize w4.drew = w6 at HO258 BK255 HB hHeld ⊢
 refine pure_ (i := 0) (N := some 9) (v := ?_) (a' := ?_) #[true, false, false, false, false, false, false] rfl rfl (by kernel_rfl) (fun _ _ _ h => h) (Or.inl ⟨by rfl, ?_⟩) ?_ ?_; rotate_left
 · intro w'
   go_simp; with_reducible rfl
 rotate_left
 · simp only [Act.put, List.setIfInBounds_toArray, List.set_cons_zero, List.set_cons_succ, i64_w, i32_w]
   rfl
 refine pure_ (i := 2) (N := some 11) (v := ?_) (a' := ?_) #[true, false, true, false, false, false, false] rfl rfl (by kernel_rfl) (fun _ _ _ h => h) (Or.inl ⟨by rfl, ?_⟩) ?_ ?_; rotate_left
 · intro w'
   go_simp; with_reducible rfl
 rotate_left
 · simp only [Act.put, List.setIfInBounds_toArray, List.set_cons_zero, List.set_cons_succ, i64_w, i32_w]
   rfl
 refine take_ (i := 1) (N := some 10) (v := ?_) (a' := ?_) #[true, true, true, false, false, false, false] rfl rfl (by kernel_rfl) (fun _ _ _ h => h) (Or.inl ⟨by rfl, ?_⟩) hHeld ?_ ?_; rotate_left
 · rintro w' ⟨s0, s1, s2, s3, s4⟩
   go_simp; with_reducible rfl
 rotate_left
 · simp only [Act.put, List.setIfInBounds_toArray, List.set_cons_zero, List.set_cons_succ, i64_w, i32_w]
   rfl
 refine take_ (i := 3) (N := some 12) (v := ?_) (a' := ?_) #[true, true, true, true, false, false, false] rfl rfl (by kernel_rfl) (fun _ _ _ h => h) (Or.inl ⟨by rfl, ?_⟩) hHeld ?_ ?_; rotate_left
 · rintro w' ⟨s0, s1, s2, s3, s4⟩
   go_simp; with_reducible rfl
 rotate_left
 · simp only [Act.put, List.setIfInBounds_toArray, List.set_cons_zero, List.set_cons_succ, i64_w, i32_w]
   rfl
 refine one_ (i := 4) (N := some 13) #[true, true, true, true, true, false, false] rfl rfl (by kernel_rfl) (by decide) (fun K hK => ?_)
 refine goes_ Try.func65 (by kernel_rfl) rfl #[.int .i64 a0_2] (by rfl) rfl rfl (by (try simp only [List.map_toArray, List.map_cons, List.map_nil]); first | done | rfl | (simp only [List.length_drop, List.length_take]; rfl)) ?_
 with_reducible refine (impl_ChannelsOf.calls k a0_2 t259 _ A2.out).mono ?_
 rintro e w' ⟨rfl, ⟨nd, rfl⟩⟩
 refine ⟨_, rfl, ?_⟩
 refine hK.out _ _ ⟨(blk_cell BK255.out 0).trans rfl, (blk_cell BK255.out 1).trans rfl, (blk_cell BK255.out 2).trans rfl, (blk_cell BK255.out 3).trans rfl, (blk_cell BK255.out 4).trans rfl⟩ (fun hHeld => ?_); clear hK K
 refine norm_ (a' := ?_) ?_ ?_; rotate_left
 · show Act.put _ (some 13) _ = _
   simp only [Act.put, List.setIfInBounds_toArray, List.set_cons_zero, List.set_cons_succ, i64_w, i32_w]
   rfl
 refine pure_ (i := 5) (N := some 14) (v := ?_) (a' := ?_) #[true, true, true, true, true, true, false] rfl rfl (by kernel_rfl) (fun _ _ _ h => h) (Or.inl ⟨by rfl, ?_⟩) ?_ ?_; rotate_left
 · intro w'
   go_simp; with_reducible rfl
 rotate_left
 · simp only [Act.put, List.setIfInBounds_toArray, List.set_cons_zero, List.set_cons_succ, i64_w, i32_w]
   rfl
 refine pure_ (i := 6) (N := some 4) (v := ?_) (a' := ?_) #[true, true, true, true, true, true, true] rfl rfl (by kernel_rfl) (fun _ _ _ h => h) (Or.inl ⟨by rfl, ?_⟩) ?_ ?_; rotate_left
 · intro w'
   go_simp; with_reducible rfl
 rotate_left
 · simp only [Act.put, List.setIfInBounds_toArray, List.set_cons_zero, List.set_cons_succ, i64_w, i32_w]
   rfl
 refine done_ (by kernel_rfl) ?_; obtain ⟨hcz7_0, hcz7_1, hcz7_2, hcz7_3, hcz7_4⟩ := blk_c5 BK255.out; obtain ⟨hfz7_0, hfz7_1, hfz7_2, hfz7_3, hfz7_4⟩ := blk_f5 BK255.out
 try go_wp2
 go_loopg [3, 17] k (fun kq v3 v17 w' => ∃ (x3_1 : List ByteArray) (x17_1 : Int), v17 = .int .i64 x17_1 ∧ Aside0 (impl_rowsOf.l0 kq x3_1 (wrap64 (a0_0 * t259)) a0_1 x17_1 a0_0 a0_1 a0_2 a0_3 l0_4 = some r) ∧ Aside0 (kq ≤ k) ∧ Aside0 (Kd.R Kd.string 9 w' w.heap.size (fun _ => True) v3 x3_1) ∧ Aside0 (w'.heap[gb255]? = some (.cells #[.int .i64 a0_0, .int .i64 a0_1, .int .i64 a0_2, .int .i64 a0_3, (.slice A0_4 l0_4.length c0_4)] 29 (0, 0))) ∧ Aside0 (Below w.heap.size w w'))
 case atStart => exact ⟨(y256), (0), eQ, H', ⟨Nat.le_refl _⟩, ⟨Kd.R_i HO258.out⟩, ⟨bI BK255.out⟩, ⟨hB⟩⟩
 case round =>
  clear H'; (try clear c1); (try clear p2); (try clear c5); (try clear c6); (try clear p6); (try clear hcz7_0 hcz7_1 hcz7_2 hcz7_3 hcz7_4); (try clear hfz7_0 hfz7_1 hfz7_2 hfz7_3 hfz7_4); obtain ⟨x3_1, x17_1, rfl, HA, HK1, HO_3, BK255, HB⟩ := hrel; rcases gk with _ | k1
  · exact absurd HA.out (by simp [impl_rowsOf.l0])
  revert HA; refine aoR ?_; intro H; simp only [impl_rowsOf.l0] at H; revert H
  refine ifB (fun c8 => ?_) (fun c8 => ?_)
  · intro H; have c8b0 := decide_eq_true c8; clear c8; obtain ⟨ji9, hji9⟩ : ∃ j_ : Int, (wrap64 (x17_1 * (wrap64 (a0_0 * t259)))) = j_ := ⟨_, rfl⟩; replace H : (if 0 ≤ (ji9) then (if (ji9) ≤ (wrap64 ((wrap64 (x17_1 + 1)) * (wrap64 (a0_0 * t259)))) then (if (wrap64 ((wrap64 (x17_1 + 1)) * (wrap64 (a0_0 * t259)))) ≤ (l0_4.length : Int) then ((impl_PackRow.f k1 ((l0_4.take ((wrap64 ((wrap64 (x17_1 + 1)) * (wrap64 (a0_0 * t259)))) : Int).toNat).drop ((ji9) : Int).toNat) a0_3).bind fun bt261 => (if x3_1.length < 8796093022208 then (impl_rowsOf.l0 k1 (x3_1 ++ [bt261.1]) (wrap64 (a0_0 * t259)) a0_1 (wrap64 (x17_1 + 1)) a0_0 a0_1 a0_2 a0_3 l0_4) else (none))) else (none)) else (none)) else (none)) = some r := by first | (rw [hji9] at H; exact H) | (simp only [hji9] at H ⊢; exact H)
    have hji9w : (IntKind.i64.wrap (x17_1 * (wrap64 (a0_0 * t259)))) = ji9 := (i64_w _).trans hji9; revert H; refine ifR fun c10 => ?_; intro H; have c10b0 := eq_true c10; have c10b1 := decide_eq_true c10; clear c10; revert H; refine ifR fun c11 => ?_; intro H; have c11b0 := eq_true c11; have c11b1 := decide_eq_true c11; revert H; refine ifR fun c12 => ?_; intro H; have c12b0 := eq_true c12; have c12b1 := decide_eq_true c12; revert H; refine bdR fun ⟨t261, t262⟩ A13 => ?_; intro H
    try dsimp only at H
    revert H; refine ifR fun c14 => ?_; intro H; have LMc14 := aM c14; clear c14; obtain ⟨y263, hy263⟩ : ∃ y_ : List ByteArray, y_ = (x3_1 ++ [t261]) := ⟨_, rfl⟩; replace H : (impl_rowsOf.l0 k1 y263 (wrap64 (a0_0 * t259)) a0_1 (wrap64 (x17_1 + 1)) a0_0 a0_1 a0_2 a0_3 l0_4) = some r := by first | (rw [hy263]; with_reducible exact H) | (have H2_ := (Option.bind_some _ _).symm.trans H; rw [hy263]; with_reducible exact H2_) | (have H2_ := (Option.bind_some _ _).symm.trans H; with_reducible exact H2_) | with_reducible exact H | (rw [hy263]; exact H) | exact H
    have Ny263 := aM hy263; clear hy263; revert H; refine adR fun H' => ?_
    try go_wp2
    replace HO_3 := aM (Kd.R_drew HO_3.out); replace BK255 := aM (blk_drew BK255.out); replace HB := aM (below_drew1 HB.out); obtain ⟨i016, hi016, _, hsz16, _⟩ := info_parts info3; obtain ⟨A16, hcut16, hA16, hC16⟩ := print_mid_of (P := Try.prog) (Value.int .i64) 0 22 3 .i64 .i64 Try.underlying22 hi016 hsz16 A0_4 c0_4 l0_4 (ji9) (wrap64 ((wrap64 (x17_1 + 1)) * (wrap64 (a0_0 * t259)))) (bD) (by first | omega | exact bD) (bD) HC0_4.out; have HR260 := aM (Kd.C_of_reads (h1 := fun _ => rfl) (hA16 _ (Kd.reads_of_C HR0_4.out))); have HC260 := aM hC16; clear hA16 hC16 hi016 hsz16
    refine start_ (n := 18) (S := fun w' => w'.cell? ⟨gb255, 0, none⟩ = some (.int .i64 a0_0) ∧ w'.cell? ⟨gb255, 1, none⟩ = some (.int .i64 a0_1) ∧ w'.cell? ⟨gb255, 2, none⟩ = some (.int .i64 a0_2) ∧ w'.cell? ⟨gb255, 3, none⟩ = some (.int .i64 a0_3) ∧ w'.cell? ⟨gb255, 4, none⟩ = some (.slice A0_4 l0_4.length c0_4)) (ds := []) #[false, false, false, false, false, false, false, false, false, false, false, false, false, false, false, false, false, false] (by kernel_rfl) rfl rfl ⟨(blk_cell BK255.out 0).trans rfl, (blk_cell BK255.out 1).trans rfl, (blk_cell BK255.out 2).trans rfl, (blk_cell BK255.out 3).trans rfl, (blk_cell BK255.out 4).trans rfl⟩ (fun hHeld => ?_); refine with_tabW impl_rowsOf.tab6 impl_rowsOf.bits6 (fun HT_ HW_ => ?_)
    generalize wr.drew = w15 at HO_3 BK255 HB HR260 hHeld ⊢; refine pU 0 21 (bAr 18 1) ?_; refine pU 2 23 (bAr 18 5) ?_; refine pU 3 24 (bAr 18 13) ?_; refine pU 4 25 (bAr 18 29) ?_; refine pU 5 26 (bAr 18 61) ?_; refine pU 6 27 (bAr 18 125) ?_; refine pU 7 28 (bAr 18 253) ?_; refine pU 8 29 (bAr 18 509) ?_; refine pU 10 31 (bAr 18 1533) ?_
    refine take_ (i := 1) (N := some 22) (v := ?_) (a' := ?_) #[true, true, true, true, true, true, true, true, true, false, true, false, false, false, false, false, false, false] rfl rfl (take_ofW HT_.out HW_.out (by kernel_rfl)) (fun _ _ _ h => h) (Or.inl ⟨by rfl, ?_⟩) hHeld ?_ ?_; rotate_left
    · rintro w' ⟨s0, s1, s2, s3, s4⟩
      go_simp; with_reducible rfl
    rotate_left
    · simp only [Act.put, List.setIfInBounds_toArray, List.set_cons_zero, List.set_cons_succ, i64_w, i32_w]
      rfl
    refine pU 9 30 (bAr 18 2047) ?_
    refine take_ (i := 11) (N := some 32) (v := ?_) (a' := ?_) #[true, true, true, true, true, true, true, true, true, true, true, true, false, false, false, false, false, false] rfl rfl (take_ofW HT_.out HW_.out (by kernel_rfl)) (fun _ _ _ h => h) (Or.inl ⟨by rfl, ?_⟩) hHeld ?_ ?_; rotate_left
    · rintro w' ⟨s0, s1, s2, s3, s4⟩
      go_simp; with_reducible rfl
    rotate_left
    · simp only [Act.put, List.setIfInBounds_toArray, List.set_cons_zero, List.set_cons_succ, i64_w, i32_w]
      rfl
    refine one_ (i := 12) (N := some 33) #[true, true, true, true, true, true, true, true, true, true, true, true, true, false, false, false, false, false] rfl rfl (one_of HT_.out (by kernel_rfl)) (by decide) (fun K hK => ?_)
    refine goes_ Try.func181 (by kernel_rfl) rfl #[.slice A16 ((l0_4.take ((wrap64 ((wrap64 (x17_1 + 1)) * (wrap64 (a0_0 * t259)))) : Int).toNat).drop ((ji9) : Int).toNat).length (c0_4 - (ji9).toNat), .int .i64 a0_3] (by rfl) rfl rfl (by (try simp only [List.map_toArray, List.map_cons, List.map_nil]); first | done | (rw [show ((l0_4.take ((wrap64 ((wrap64 (x17_1 + 1)) * (wrap64 (a0_0 * t259)))) : Int).toNat).drop ((ji9) : Int).toNat).length = ((wrap64 ((wrap64 (x17_1 + 1)) * (wrap64 (a0_0 * t259)))).toNat - (ji9).toNat) from (by rw [List.length_drop, List.length_take]; have h_ : ((wrap64 ((wrap64 (x17_1 + 1)) * (wrap64 (a0_0 * t259)))) : Int) ≤ (l0_4.length : Int) := bD; omega)] <;> rfl) | (simp only [hji9]; rfl) | rfl | (simp only [List.length_drop, List.length_take]; rfl)) ?_
    with_reducible refine (impl_PackRow.calls k1 _ _ ((l0_4.take ((wrap64 ((wrap64 (x17_1 + 1)) * (wrap64 (a0_0 * t259)))) : Int).toNat).drop ((ji9) : Int).toNat) a0_3 t261 t262 _ ?side1 ?side2 A13.out).mono ?_
    (case side1 => repeat (first | exact (Kd.C_below HR260.out HB.out) | (with_reducible refine Kd.C_alloc ?_ _) | (with_reducible refine Kd.C_drewN ?_ _) | (with_reducible refine Kd.C_drew ?_)))
    (case side2 => exact HC260.out)
    rintro e w17 ⟨rfl, hb⟩
    refine ⟨_, rfl, ?_⟩; replace HO_3 := aM (Kd.R_below (Kd.R_i HO_3.out) hb); replace BK255 := aM (blk_below (g := gb255) (o := .cells #[.int .i64 a0_0, .int .i64 a0_1, .int .i64 a0_2, .int .i64 a0_3, .slice A0_4 l0_4.length c0_4] 29 (0, 0)) (bI BK255.out) hb); replace HB := aM (below_step hB hb); (try clear hb); (try clear hb2); (try clear hk); (try clear hi)
    refine hK.out _ _ ⟨(blk_cell BK255.out 0).trans rfl, (blk_cell BK255.out 1).trans rfl, (blk_cell BK255.out 2).trans rfl, (blk_cell BK255.out 3).trans rfl, (blk_cell BK255.out 4).trans rfl⟩ (fun hHeld => ?_); clear hK K
    refine norm_ (a' := ?_) ?_ ?_; rotate_left
    · show Act.put _ (some 33) _ = _
      simp only [Act.put, List.setIfInBounds_toArray, List.set_cons_zero, List.set_cons_succ, i64_w, i32_w]
      rfl
    refine pU 13 20 (bAr 18 16383) ?_; refine pU 14 34 (bAr 18 32767) ?_; refine pU 15 35 (bAr 18 65535) ?_; refine pU 16 6 (bAr 18 131071) ?_; refine pU 17 7 (bAr 18 262143) ?_
    refine done_ (done_of HT_.out (by kernel_rfl)) ?_
    try go_wp2_with (first | ((with_reducible refine gate_builtin (b := .append) (xs := #[.tmp 36, .tmp 38]) rfl ?_); at_builtin; refine Kd.R_append Kd.string (w0 := w) w.heap.size rfl (.tmp 36) (.tmp 38) 174 9 (.string ⟨#[]⟩) 16 rfl Try.underlying174 info9 rfl (by decide) (by omega) u3 x3_1 t261 [.string t261] (fun _ => True) (fun _ => False) rfl rfl ?aP (fun _ hk => hk.elim) ?aF ?aO ?aB ?aS ?aL ?_; (case aP => exact rfl); (case aB => exact hB); (case aF => exact (fun _ _ => trivial)); (case aO => exact (Kd.R_i HO_3.out)); (case aS => exact (below_size hB)); (case aL => have := LMc14.out; omega); intro v264 w18 ho hb hg hat; rw [← Ny263.out] at ho; replace BK255 := aM (blk_grown (g := gb255) (o := .cells #[.int .i64 a0_0, .int .i64 a0_1, .int .i64 a0_2, .int .i64 a0_3, .slice A0_4 l0_4.length c0_4] 29 (0, 0)) (bI BK255.out) hg (Kd.R_ne HO_3.out BK255.out (by decide))); replace HB := aM (hb); have HO265 := aM (ho); clear HO_3; clear ho hb hg hat))
    go_roundg k1
    case measure => have := HK1.out; omega
    case rel => exact ⟨(y263), (wrap64 (x17_1 + 1)), eQ, H', ⟨by have := HK1.out; omega⟩, ⟨Kd.R_i HO265.out⟩, ⟨bI BK255.out⟩, ⟨hB⟩⟩
  · intro H; have c8b0 := decide_eq_false c8; clear c8; obtain rfl := Option.some.inj H; go_wp2; go_ret; exact ⟨_, eE, Kd.R_i HO_3.out, hB⟩

/-! ### strings_Repeat: function 182 -/
/-- So many copies of a text. -/
def strings_Repeat.f (a0 : ByteArray) (a1 : Int) : Option (ByteArray) := if 0 ≤ a1 then (if a1 ≤ 9223372036854775807 then (if a0.size * a1.toNat ≤ 140737488355328 then (some (⟨(Go.Lib.repeatL a0.data.toList a1.toNat).toArray⟩ : ByteArray)) else (none)) else (none)) else (none)
theorem strings_Repeat.calls (a0 : ByteArray) (a1 : Int) (r : ByteArray) (w : World) (h : strings_Repeat.f a0 a1 = some r) :
 Calls Try.prog 182 #[.string a0, .int .i64 a1] w fun e w' => e = .returned (.string r) ∧ Below w.heap.size w w' := by
 unfold strings_Repeat.f at h
 by_cases h0 : 0 ≤ a1
 · rw [if_pos h0] at h
   by_cases h1 : a1 ≤ 9223372036854775807
   · rw [if_pos h1] at h
     by_cases h2 : a0.size * a1.toNat ≤ 140737488355328
     · rw [if_pos h2] at h; have h3 := Option.some.inj h; subst h3; obtain ⟨n, rfl⟩ := Int.eq_ofNat_of_zero_le h0; exact Try.strings_Repeat a0 n w (by omega) h2
     · rw [if_neg h2] at h; cases h
   · rw [if_neg h1] at h; cases h
 · rw [if_neg h0] at h; cases h

/-! ### impl_noughts: function 159 -/
def impl_noughts.f (a0 : Int) : Option (ByteArray) := (strings_Repeat.f (⟨#[0]⟩ : ByteArray) a0).bind fun t266 => (some t266)
set_option maxHeartbeats 8000000 in
set_option maxRecDepth 100000 in
theorem impl_noughts.calls (a0 : Int) (r : ByteArray) (w : World) (h : impl_noughts.f a0 = some r) :
 Calls Try.prog 159 #[.int .i64 a0] w fun e w' => e = .returned (.string r) ∧ Below w.heap.size w w' := by
 have HB := aM (Below.refl w.heap.size w); have H : ((strings_Repeat.f (⟨#[0]⟩ : ByteArray) a0).bind fun t266 => (some t266)) = some r := h; clear h; revert H; refine bdR fun t266 A2 => ?_; intro H; obtain rfl := Option.some.inj H; go_enter Try.func159, Try.ntmps159
 go_wp2_with (first | ((with_reducible refine gC 182 ?_); refine gL (some 4) Try.func182 #[.string (⟨#[0]⟩ : ByteArray), .int .i64 a0] ?_; (with_reducible refine (strings_Repeat.calls (⟨#[0]⟩ : ByteArray) a0 t266 _ A2.out).mono ?_); rintro e w3 ⟨rfl, hb⟩; refine ⟨_, rfl, ?_⟩; replace HB := aM (below_step hB hb); (try clear hb); (try clear hb2); (try clear hk); (try clear hi))); go_ret; exact ⟨eE, hB⟩

/-! ### impl_filterOk: function 184 -/
def impl_filterOk.f (a0 : Int) (a1 : ByteArray) (a2 : ByteArray) (a3 : Int) : Option (Bool) := (impl_within.f a0 0 4).bind fun t267 => (if t267 = true then ((impl_within.f a3 1 8).bind fun t268 => (if t268 = true then (if (a2.size : Int) = (a1.size : Int) then (some (decide ((a1.size : Int) ≤ 200))) else (some false)) else (some false))) else (some false))
set_option maxHeartbeats 8000000 in
set_option maxRecDepth 100000 in
theorem impl_filterOk.calls (a0 : Int) (a1 : ByteArray) (a2 : ByteArray) (a3 : Int) (r : Bool) (w : World) (h : impl_filterOk.f a0 a1 a2 a3 = some r) :
 Calls Try.prog 184 #[.int .i64 a0, .string a1, .string a2, .int .i64 a3] w fun e w' => e = .returned (.bool r) ∧ Drawn0 w w' := by
 unfold impl_filterOk.f at h; have H := h; clear h; revert H; refine bdR fun t267 A5 => ?_
 refine ifB (fun c6 => ?_) (fun c6 => ?_)
 · intro H; subst c6; revert H; refine bdR fun t268 A7 => ?_
   refine ifB (fun c8 => ?_) (fun c8 => ?_)
   · intro H; subst c8; revert H
     refine ifB (fun c9 => ?_) (fun c9 => ?_)
     · intro H; have c9b0 := beq_iff_eq.mpr c9; have c9b1 := bne_eq_false_iff_eq.mpr c9; have c9b2 : (a2.size == a1.size) = true := by first | simpa using c9 | (simp at c9 ⊢; omega)
       clear c9; obtain rfl := Option.some.inj H; go_enter Try.func184, Try.ntmps184
       go_wp2_with (first | ((with_reducible refine gC 82 ?_); refine gL (some 10) Try.func82 #[.int .i64 a0, .int .i64 0, .int .i64 4] ?_; (with_reducible refine (impl_within.calls a0 0 4 true _ A5.out).mono ?_); rintro e w' ⟨rfl, ⟨nd, rfl⟩⟩; refine ⟨_, rfl, ?_⟩) | (go_at_call 82; (with_reducible refine (impl_within.calls a3 1 8 true _ A7.out).mono ?_); rintro e w' ⟨rfl, ⟨nd, rfl⟩⟩)); go_ret; exact ⟨eQ, dQ⟩
     · intro H; have c9b0 := beq_eq_false_iff_ne.mpr c9; have c9b1 := bne_iff_ne.mpr c9; have c9b2 : (a2.size == a1.size) = false := by first | simpa using c9 | (simp at c9 ⊢; omega)
       obtain rfl := Option.some.inj H; go_enter Try.func184, Try.ntmps184
       go_wp2_with (first | ((with_reducible refine gC 82 ?_); refine gL (some 10) Try.func82 #[.int .i64 a0, .int .i64 0, .int .i64 4] ?_; (with_reducible refine (impl_within.calls a0 0 4 true _ A5.out).mono ?_); rintro e w' ⟨rfl, ⟨nd, rfl⟩⟩; refine ⟨_, rfl, ?_⟩) | (go_at_call 82; (with_reducible refine (impl_within.calls a3 1 8 true _ A7.out).mono ?_); rintro e w' ⟨rfl, ⟨nd, rfl⟩⟩)); go_ret; exact ⟨eQ, dQ⟩
   · intro H; replace c8 := Bool.eq_false_iff.mpr c8; subst c8; obtain rfl := Option.some.inj H; go_enter Try.func184, Try.ntmps184
     go_wp2_with (first | ((with_reducible refine gC 82 ?_); refine gL (some 10) Try.func82 #[.int .i64 a0, .int .i64 0, .int .i64 4] ?_; (with_reducible refine (impl_within.calls a0 0 4 true _ A5.out).mono ?_); rintro e w' ⟨rfl, ⟨nd, rfl⟩⟩; refine ⟨_, rfl, ?_⟩) | (go_at_call 82; (with_reducible refine (impl_within.calls a3 1 8 false _ A7.out).mono ?_); rintro e w' ⟨rfl, ⟨nd, rfl⟩⟩)); go_ret; exact ⟨eQ, dQ⟩
 · intro H; replace c6 := Bool.eq_false_iff.mpr c6; subst c6; obtain rfl := Option.some.inj H; go_enter Try.func184, Try.ntmps184
   go_wp2_with (first | ((with_reducible refine gC 82 ?_); refine gL (some 10) Try.func82 #[.int .i64 a0, .int .i64 0, .int .i64 4] ?_; (with_reducible refine (impl_within.calls a0 0 4 false _ A5.out).mono ?_); rintro e w' ⟨rfl, ⟨nd, rfl⟩⟩; refine ⟨_, rfl, ?_⟩)); go_ret; exact ⟨eQ, dQ⟩

/-! ### impl_byteAt: function 200 -/
def impl_byteAt.f (l0 : List Int) (a1 : Int) : Option (Int) := if a1 < 0 then (some 0) else (if 0 ≤ a1 then (if a1 < (l0.length : Int) then (some (wrap64 (rd l0 a1))) else (none)) else (none))
set_option maxHeartbeats 8000000 in
set_option maxRecDepth 100000 in
theorem impl_byteAt.calls (A0 : Option Addr) (c0 : Nat) (l0 : List Int) (a1 : Int) (r : Int) (w : World) (hr0 : Kd.C (Kd.int .u8) w A0 l0.length l0) (hc0 : l0.length ≤ c0) (h : impl_byteAt.f l0 a1 = some r) :
 Calls Try.prog 200 #[.slice A0 l0.length c0, .int .i64 a1] w fun e w' => e = .returned (.int .i64 r) ∧ Drawn0 w w' := by
 have HR0 := aM hr0; have HC0 := aM hc0; clear hr0 hc0; have H : (if a1 < 0 then (some 0) else (if 0 ≤ a1 then (if a1 < (l0.length : Int) then (some (wrap64 (rd l0 a1))) else (none)) else (none))) = some r := h; clear h; revert H
 refine ifB (fun c3 => ?_) (fun c3 => ?_)
 · intro H; have c3b0 := decide_eq_true c3; clear c3; obtain rfl := Option.some.inj H; go_enter Try.func200, Try.ntmps200; go_wp2; go_ret; exact ⟨eQ, dQ⟩
 · intro H; have c3b0 := decide_eq_false c3; clear c3; revert H; refine ifR fun c4 => ?_; intro H; have c4b0 := decide_eq_true c4; clear c4; revert H; refine ifR fun c5 => ?_; intro H; have c5b0 := decide_eq_true c5; clear c5; obtain rfl := Option.some.inj H; have p269 : 0 ≤ (a1 : Int) := bD; have q269 : a1 < (l0.length : Int) := bD; obtain ⟨ad269, e269, hx269_0⟩ := Kd.at_int HR0.out a1 p269 q269; cases e269; replace p269 := eq_true p269; replace q269 := eq_true q269; go_enter Try.func200, Try.ntmps200; go_wp2; go_ret; exact ⟨eQ, dQ⟩

/-! ### impl_distance: function 208 -/
def impl_distance.f (a0 : Int) (a1 : Int) : Option (Int) := some (mx (wrap64 (a0 - a1)) (wrap64 (a1 - a0)))
set_option maxHeartbeats 8000000 in
set_option maxRecDepth 100000 in
theorem impl_distance.calls (a0 : Int) (a1 : Int) (r : Int) (w : World) (h : impl_distance.f a0 a1 = some r) :
 Calls Try.prog 208 #[.int .i64 a0, .int .i64 a1] w fun e w' => e = .returned (.int .i64 r) ∧ Below w.heap.size w w' := by
 have HB := aM (Below.refl w.heap.size w); have H : (some (mx (wrap64 (a0 - a1)) (wrap64 (a1 - a0)))) = some r := h; clear h; obtain ⟨ji3, hji3⟩ : ∃ j_ : Int, (mx (wrap64 (a0 - a1)) (wrap64 (a1 - a0))) = j_ := ⟨_, rfl⟩; replace H : (some ji3) = some r := by first | (rw [hji3] at H; exact H) | (simp only [hji3] at H ⊢; exact H)
 have hji3_ : (if (wrap64 (a0 - a1)) < (wrap64 (a1 - a0)) then (wrap64 (a1 - a0)) else (wrap64 (a0 - a1))) = ji3 := hji3; obtain rfl := Option.some.inj H; go_enter Try.func208, Try.ntmps208; go_wp2; go_ret; exact ⟨by first | rfl | (simp [errW_none, errW_some] <;> rfl) | (simp only [← hji3]; first | rfl | (simp [errW_none, errW_some] <;> rfl)) | (simp [*, errW_none, errW_some] <;> rfl), hB⟩

/-! ### impl_Paeth: function 201 -/
mutual
def impl_Paeth.l0 : Nat → Int → Int → Int → List Int → Int → Int → Option (Int)
  | 0, _, _, _, _, _, _ => none
  | k + 1, x0, x1, x2, x16, x17, x18 => if x18 < x17 then (if 0 ≤ x18 then (if x18 < (x16.length : Int) then ((impl_within.f (rd x16 x18) (-1000) 1000).bind fun t274 => (if t274 = true then (impl_Paeth.l0 k x0 x1 x2 x16 x17 (wrap64 (x18 + 1))) else (some 0))) else (none)) else (none)) else ((some (([x1, x2] : List Int) : List Int)).bind fun y275 => (impl_Paeth.l1 k (wrap64 ((wrap64 (x0 + x1)) - x2)) x0 y275 (y275.length : Int) 0))
def impl_Paeth.l1 : Nat → Int → Int → List Int → Int → Int → Option (Int)
  | 0, _, _, _, _, _ => none
  | k + 1, x9, x10, x34, x35, x36 => if x36 < x35 then (if 0 ≤ x36 then (if x36 < (x34.length : Int) then ((impl_distance.f (rd x34 x36) x9).bind fun t279 => ((impl_distance.f x10 x9).bind fun t280 => (if t279 < t280 then (impl_Paeth.l1 k x9 (rd x34 x36) x34 x35 (wrap64 (x36 + 1))) else (impl_Paeth.l1 k x9 x10 x34 x35 (wrap64 (x36 + 1)))))) else (none)) else (none)) else (some x10)
end
def impl_Paeth.f (k : Nat) (a0 : Int) (a1 : Int) (a2 : Int) : Option (Int) := (some (([a0, a1, a2] : List Int) : List Int)).bind fun y270 => (impl_Paeth.l0 k a0 a1 a2 y270 (y270.length : Int) 0)
set_option maxHeartbeats 8000000 in
set_option maxRecDepth 100000 in
theorem impl_Paeth.calls (k : Nat) (a0 : Int) (a1 : Int) (a2 : Int) (r : Int) (w : World) (h : impl_Paeth.f k a0 a1 a2 = some r) :
 Calls Try.prog 201 #[.int .i64 a0, .int .i64 a1, .int .i64 a2] w fun e w' => e = .returned (.int .i64 r) ∧ Below w.heap.size w w' := by
 have HB := aM (Below.refl w.heap.size w); have H : ((some (([a0, a1, a2] : List Int) : List Int)).bind fun y270 => (impl_Paeth.l0 k a0 a1 a2 y270 (y270.length : Int) 0)) = some r := h; clear h; obtain ⟨y270, hy270⟩ : ∃ y_ : List Int, y_ = (([a0, a1, a2] : List Int)) := ⟨_, rfl⟩; replace H : (impl_Paeth.l0 k a0 a1 a2 y270 (y270.length : Int) 0) = some r := by first | (rw [hy270]; with_reducible exact H) | (have H2_ := (Option.bind_some _ _).symm.trans H; rw [hy270]; with_reducible exact H2_) | (have H2_ := (Option.bind_some _ _).symm.trans H; with_reducible exact H2_) | with_reducible exact H | (rw [hy270]; exact H) | exact H
 have Ny270 := aM hy270; clear hy270; revert H; refine adR fun H' => ?_; go_enter Try.func201, Try.ntmps201
 go_wp2_with (first | ((with_reducible refine gD 16 ?_); refine Kd.R_lit (Kd.int .i64) _ 3 ?hg (N := 16) ?hd (xs := ([a0, a1, a2] : List Int)) (inner := [.int .i64 a0, .int .i64 a1, .int .i64 a2]) (ok := fun _ => True) (okp := fun _ => True) ?hr ?hp (fun _ hk => hk) trivial (Below.refl _ _) (Nat.le_refl _) (by simp) ?_; (case hd => rfl); (case hg => rfl); (case hr => first | (go_simp; done) | (go_simp; rfl)); (case hp => exact (Reps.one (show Kd.M (Kd.int .i64) _ _ _ a0 [.int .i64 a0] from rfl) (Reps.one (show Kd.M (Kd.int .i64) _ _ _ a1 [.int .i64 a1] from rfl) (Reps.one (show Kd.M (Kd.int .i64) _ _ _ a2 [.int .i64 a2] from rfl) (Reps.none _ _))))); intro v271 w4 ho5 hb hg_ hnew_; clear hg_ hnew_; (first | rw [← Ny270.out] at ho5 | (simp only [Int.reduceToNat] at ho5; rw [← Ny270.out] at ho5)); have HO272 := aM (Kd.R_lower ho5 (below_size hB)); replace HB := aM (below_step hB hb); clear hb ho5; obtain ⟨Ao6, co6, eo6⟩ := Kd.R_slice HO272.out; subst eo6))
 go_loopg [18] k (fun kq v18 w' => ∃ (x18_1 : Int), v18 = .int .i64 x18_1 ∧ Aside0 (impl_Paeth.l0 kq a0 a1 a2 y270 (y270.length : Int) x18_1 = some r) ∧ Aside0 (kq ≤ k) ∧ Aside0 (Kd.R (Kd.int .i64) 3 w' w.heap.size (fun _ => True) (.slice Ao6 y270.length co6) y270) ∧ Aside0 (Below w.heap.size w w'))
 case atStart => exact ⟨(0), eQ, H', ⟨Nat.le_refl _⟩, ⟨Kd.R_i HO272.out⟩, ⟨hB⟩⟩
 case round =>
  clear H'; (try clear c2); (try clear p2); obtain ⟨x18_1, rfl, HA, HK1, HO_16, HB⟩ := hrel; rcases gk with _ | k1
  · exact absurd HA.out (by simp [impl_Paeth.l0])
  revert HA; refine aoR ?_; intro H; simp only [impl_Paeth.l0] at H; revert H
  refine ifB (fun c7 => ?_) (fun c7 => ?_)
  · intro H; have c7b0 := decide_eq_true c7; clear c7; revert H; refine ifR fun c8 => ?_; intro H; have c8b0 := decide_eq_true c8; clear c8; revert H; refine ifR fun c9 => ?_; intro H; have c9b0 := decide_eq_true c9; clear c9; revert H; refine bdR fun t274 A10 => ?_
    refine ifB (fun c11 => ?_) (fun c11 => ?_)
    · intro H; subst c11; revert H; refine adR fun H' => ?_; have p273 : 0 ≤ (x18_1 : Int) := bD; have q273 : x18_1 < (y270.length : Int) := bD; obtain ⟨ad273, e273, hx273_0⟩ := Kd.at_int (Kd.R_reads' HO_16.out).2.2 x18_1 p273 q273; cases e273; replace p273 := eq_true p273; replace q273 := eq_true q273
      go_wp2_with (first | ((with_reducible refine gC 82 ?_); refine gL (some 23) Try.func82 #[.int .i64 (rd y270 x18_1), .int .i64 (-1000), .int .i64 1000] ?_; (with_reducible refine (impl_within.calls (rd y270 x18_1) (-1000) 1000 true _ A10.out).mono ?_); rintro e w' ⟨rfl, ⟨nd, rfl⟩⟩; refine ⟨_, rfl, ?_⟩)); go_roundg k1
      case measure => have := HK1.out; omega
      case rel => exact ⟨(wrap64 (x18_1 + 1)), eQ, H', ⟨by have := HK1.out; omega⟩, ⟨Kd.R_i HO_16.out⟩, ⟨hB⟩⟩
    · intro H; replace c11 := Bool.eq_false_iff.mpr c11; subst c11; obtain rfl := Option.some.inj H; have p273 : 0 ≤ (x18_1 : Int) := bD; have q273 : x18_1 < (y270.length : Int) := bD; obtain ⟨ad273, e273, hx273_0⟩ := Kd.at_int (Kd.R_reads' HO_16.out).2.2 x18_1 p273 q273; cases e273; replace p273 := eq_true p273; replace q273 := eq_true q273
      go_wp2_with (first | ((with_reducible refine gC 82 ?_); refine gL (some 23) Try.func82 #[.int .i64 (rd y270 x18_1), .int .i64 (-1000), .int .i64 1000] ?_; (with_reducible refine (impl_within.calls (rd y270 x18_1) (-1000) 1000 false _ A10.out).mono ?_); rintro e w' ⟨rfl, ⟨nd, rfl⟩⟩; refine ⟨_, rfl, ?_⟩)); go_ret; exact ⟨eE, hB⟩
  · intro H; have c7b0 := decide_eq_false c7; clear c7; obtain ⟨y275, hy275⟩ : ∃ y_ : List Int, y_ = (([a1, a2] : List Int)) := ⟨_, rfl⟩; replace H : (impl_Paeth.l1 k1 (wrap64 ((wrap64 (a0 + a1)) - a2)) a0 y275 (y275.length : Int) 0) = some r := by first | (rw [hy275]; with_reducible exact H) | (have H2_ := (Option.bind_some _ _).symm.trans H; rw [hy275]; with_reducible exact H2_) | (have H2_ := (Option.bind_some _ _).symm.trans H; with_reducible exact H2_) | with_reducible exact H | (rw [hy275]; exact H) | exact H
    have Ny275 := aM hy275; clear hy275; revert H; refine adR fun H' => ?_
    go_wp2_with (first | ((with_reducible refine gD 34 ?_); refine Kd.R_lit (Kd.int .i64) _ 3 ?hg (N := 34) ?hd (xs := ([a1, a2] : List Int)) (inner := [.int .i64 a1, .int .i64 a2]) (ok := fun _ => True) (okp := fun _ => True) ?hr ?hp (fun _ hk => hk) trivial (Below.refl _ _) (Nat.le_refl _) (by simp) ?_; (case hd => rfl); (case hg => rfl); (case hr => first | (go_simp; done) | (go_simp; rfl)); (case hp => exact (Reps.one (show Kd.M (Kd.int .i64) _ _ _ a1 [.int .i64 a1] from rfl) (Reps.one (show Kd.M (Kd.int .i64) _ _ _ a2 [.int .i64 a2] from rfl) (Reps.none _ _)))); intro v276 w12 ho13 hb hg_ hnew_; clear hg_ hnew_; (first | rw [← Ny275.out] at ho13 | (simp only [Int.reduceToNat] at ho13; rw [← Ny275.out] at ho13)); have HO277 := aM (Kd.R_lower (Kd.R_new' ho13 (Kd.R_lt (Kd.R_i HO_16.out))) (below_size hB)); replace HO_16 := aM (Kd.R_elder' (Kd.R_i HO_16.out) (Kd.R_base ho13) hb); replace HB := aM (below_step hB hb); clear hb ho13; obtain ⟨Ao14, co14, eo14⟩ := Kd.R_slice HO277.out; subst eo14))
    go_loopg [10, 36] k1 (fun kq v10 v36 w' => ∃ (x10_2 : Int) (x36_2 : Int), v10 = .int .i64 x10_2 ∧ v36 = .int .i64 x36_2 ∧ Aside0 (impl_Paeth.l1 kq (wrap64 ((wrap64 (a0 + a1)) - a2)) x10_2 y275 (y275.length : Int) x36_2 = some r) ∧ Aside0 (kq ≤ k1) ∧ Aside0 (Kd.R (Kd.int .i64) 3 w' w.heap.size (fun _ => True) (.slice Ao14 y275.length co14) y275) ∧ Aside0 (Below w.heap.size w w'))
    case atStart => exact ⟨(a0), (0), eQ, eQ, H', ⟨Nat.le_refl _⟩, ⟨Kd.R_i (Kd.R_mono HO277.out (fun _ hk => trivial))⟩, ⟨hB⟩⟩
    case round =>
     clear H'; (try clear c1); (try clear c2); (try clear p2); (try clear q2); (try clear hx2); (try clear p6); (try clear c7); (try clear c7b0); (try clear c8); (try clear c8b0); (try clear c9); (try clear c9b0); (try clear c11); (try clear hx273_0); (try clear p273); (try clear q273); obtain ⟨x10_2, x36_2, rfl, rfl, HA, HK2, HO_34, HB⟩ := hrel; rcases gk with _ | k2
     · exact absurd HA.out (by simp [impl_Paeth.l1])
     revert HA; refine aoR ?_; intro H; simp only [impl_Paeth.l1] at H; revert H
     refine ifB (fun c15 => ?_) (fun c15 => ?_)
     · intro H; have c15b0 := decide_eq_true c15; clear c15; revert H; refine ifR fun c16 => ?_; intro H; have c16b0 := decide_eq_true c16; clear c16; revert H; refine ifR fun c17 => ?_; intro H; have c17b0 := decide_eq_true c17; clear c17; revert H; refine bdR fun t279 A18 => ?_; refine bdR fun t280 A19 => ?_
       refine ifB (fun c20 => ?_) (fun c20 => ?_)
       · intro H; have c20b0 := decide_eq_true c20; clear c20; revert H; refine adR fun H' => ?_; have p278 : 0 ≤ (x36_2 : Int) := bD; have q278 : x36_2 < (y275.length : Int) := bD; obtain ⟨ad278, e278, hx278_0⟩ := Kd.at_int (Kd.R_reads' HO_34.out).2.2 x36_2 p278 q278; cases e278; replace p278 := eq_true p278; replace q278 := eq_true q278
         go_wp2_with (first | ((with_reducible refine gC 208 ?_); refine gL (some 42) Try.func208 #[.int .i64 (rd y275 x36_2), .int .i64 (wrap64 ((wrap64 (a0 + a1)) - a2))] ?_; (with_reducible refine (impl_distance.calls (rd y275 x36_2) (wrap64 ((wrap64 (a0 + a1)) - a2)) t279 _ A18.out).mono ?_); rintro e w21 ⟨rfl, hb⟩; refine ⟨_, rfl, ?_⟩; replace HO_34 := aM (Kd.R_below (Kd.R_i HO_34.out) hb); replace HB := aM (below_step hB hb); (try clear hb); (try clear hb2); (try clear hk); (try clear hi)) | ((with_reducible refine gC 208 ?_); refine gL (some 45) Try.func208 #[.int .i64 x10_2, .int .i64 (wrap64 ((wrap64 (a0 + a1)) - a2))] ?_; (with_reducible refine (impl_distance.calls x10_2 (wrap64 ((wrap64 (a0 + a1)) - a2)) t280 _ A19.out).mono ?_); rintro e w22 ⟨rfl, hb⟩; refine ⟨_, rfl, ?_⟩; replace HO_34 := aM (Kd.R_below (Kd.R_i HO_34.out) hb); replace HB := aM (below_step hB hb); (try clear hb); (try clear hb2); (try clear hk); (try clear hi))); go_roundg k2
         case measure => have := HK1.out; have := HK2.out; omega
         case rel => exact ⟨(rd y275 x36_2), (wrap64 (x36_2 + 1)), eQ, eQ, H', ⟨by have := HK1.out; have := HK2.out; omega⟩, ⟨Kd.R_i HO_34.out⟩, ⟨hB⟩⟩
       · intro H; have c20b0 := decide_eq_false c20; clear c20; revert H; refine adR fun H' => ?_; have p278 : 0 ≤ (x36_2 : Int) := bD; have q278 : x36_2 < (y275.length : Int) := bD; obtain ⟨ad278, e278, hx278_0⟩ := Kd.at_int (Kd.R_reads' HO_34.out).2.2 x36_2 p278 q278; cases e278; replace p278 := eq_true p278; replace q278 := eq_true q278
         go_wp2_with (first | ((with_reducible refine gC 208 ?_); refine gL (some 42) Try.func208 #[.int .i64 (rd y275 x36_2), .int .i64 (wrap64 ((wrap64 (a0 + a1)) - a2))] ?_; (with_reducible refine (impl_distance.calls (rd y275 x36_2) (wrap64 ((wrap64 (a0 + a1)) - a2)) t279 _ A18.out).mono ?_); rintro e w23 ⟨rfl, hb⟩; refine ⟨_, rfl, ?_⟩; replace HO_34 := aM (Kd.R_below (Kd.R_i HO_34.out) hb); replace HB := aM (below_step hB hb); (try clear hb); (try clear hb2); (try clear hk); (try clear hi)) | ((with_reducible refine gC 208 ?_); refine gL (some 45) Try.func208 #[.int .i64 x10_2, .int .i64 (wrap64 ((wrap64 (a0 + a1)) - a2))] ?_; (with_reducible refine (impl_distance.calls x10_2 (wrap64 ((wrap64 (a0 + a1)) - a2)) t280 _ A19.out).mono ?_); rintro e w24 ⟨rfl, hb⟩; refine ⟨_, rfl, ?_⟩; replace HO_34 := aM (Kd.R_below (Kd.R_i HO_34.out) hb); replace HB := aM (below_step hB hb); (try clear hb); (try clear hb2); (try clear hk); (try clear hi))); go_roundg k2
         case measure => have := HK1.out; have := HK2.out; omega
         case rel => exact ⟨(x10_2), (wrap64 (x36_2 + 1)), eQ, eQ, H', ⟨by have := HK1.out; have := HK2.out; omega⟩, ⟨Kd.R_i HO_34.out⟩, ⟨hB⟩⟩
     · intro H; have c15b0 := decide_eq_false c15; clear c15; obtain rfl := Option.some.inj H; go_wp2; go_ret; exact ⟨eE, hB⟩

end Go.Proofs.Ytajnobmnkbkkgaa.PFnScans
