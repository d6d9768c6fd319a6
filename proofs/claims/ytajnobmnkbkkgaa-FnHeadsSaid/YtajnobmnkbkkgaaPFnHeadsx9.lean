/- Walks of functions that the law FnHeads reaches: each call comes to what the Lean function of its name tells. Written by p2.py, a program of this session, by way of the kit's print. -/
import Derived.Test.YtajnobmnkbkkgaaPFnHeadsx0
import Derived.Test.YtajnobmnkbkkgaaPFnHeadsx3
import Derived.Test.YtajnobmnkbkkgaaPFnHeadsx4
import Derived.Test.YtajnobmnkbkkgaaPFnHeadsx8
namespace Go.Proofs.Ytajnobmnkbkkgaa.PFnHeads
open Go.RowKit Go.Proofs.YtajnobmnkbkkgaaW.PrintWords Go.Proofs.YtajnobmnkbkkgaaW.PrintLast Go.Proofs.YtajnobmnkbkkgaaW.PrintMore
attribute [local go_sem] max2_int min2_int max_two min_two max_three min_three max_four min_four   -- for this text's walks alone
set_option linter.unusedVariables false
set_option linter.unusedSimpArgs false

/-! ### spec_l17Clear: function 83 -/
mutual
def spec_l17Clear.j0 : Nat → Int → List Int → Int → Int → List Int → Int → Int → Option (Int × List Int × Int × Int)
 | 0, _, _, _, _, _, _, _ => none
 | k + 1, x6, x7, x8, x9, x1000, x1001, x1002 => spec_l17Clear.l0 k x6 x7 x8 x9 0 x1000 x1001 x1002
def spec_l17Clear.j2 : Nat → Int → List Int → Int → List Int → Int → Int → Option (Int × List Int × Int × Int)
 | 0, _, _, _, _, _, _ => none
 | k + 1, x6, x7, x9, x1000, x1001, x1002 => (spec_l01Below.f x1000 x1001 x1002 20).bind fun bt331 => (if bt331.1 = 0 then (if x7.length < 17592186044416 then (some (x6, (x7 ++ [0]), bt331.2.1, bt331.2.2)) else (none)) else (if bt331.1 = 1 then (if (x7.length : Int) > 0 then ((spec_l01PickInt.f x1000 bt331.2.1 bt331.2.2 (([(-1), x9] : List Int))).bind fun bt340 => (if 0 < (x7.length : Int) then (some (x6, (x7.set (0 : Int).toNat bt340.1), bt340.2.1, bt340.2.2)) else (none))) else (some (x6, x7, bt331.2.1, bt331.2.2))) else (if bt331.1 = 2 then ((spec_l01PickInt.f x1000 bt331.2.1 bt331.2.2 (([(-1), 0, 256] : List Int))).bind fun bt347 => (some (bt347.1, x7, bt347.2.1, bt347.2.2))) else (some (x6, x7, bt331.2.1, bt331.2.2)))))
def spec_l17Clear.l0 : Nat → Int → List Int → Int → Int → Int → List Int → Int → Int → Option (Int × List Int × Int × Int)
 | 0, _, _, _, _, _, _, _, _ => none
 | k + 1, x6, x7, x8, x9, x10, x1000, x1001, x1002 => if x10 < x8 then ((spec_l01Once.f x1000 x1001 x1002 12).bind fun bt322 => (if bt322.1 = true then (spec_l17Clear.j2 k x6 x7 x9 x1000 bt322.2.1 bt322.2.2) else ((spec_l01Below.f x1000 bt322.2.1 bt322.2.2 x9).bind fun bt325 => (if x7.length < 17592186044416 then (spec_l17Clear.l0 k x6 (x7 ++ [bt325.1]) x8 x9 (wrap64 (x10 + 1)) x1000 bt325.2.1 bt325.2.2) else (none))))) else (spec_l17Clear.j2 k x6 x7 x9 x1000 x1001 x1002)
end
def spec_l17Clear.f (k : Nat) (s0_0 : List Int) (s0_1 : Int) (s0_2 : Int) (a1_0 : Int) (a1_1 : Int) (a1_2 : Int) (a1_3 : Int) (a1_4 : Bool) : Option (Int × List Int × Int × Int) := (spec_l01Below.f s0_0 s0_1 s0_2 9).bind fun bt311 => ((some (([] : List Int) : List Int)).bind fun y314 => ((spec_l17Depth.f a1_0 a1_1 a1_2 a1_3 a1_4).bind fun t317 => ((spec_l01Pow.f k t317).bind fun t318 => (if a1_3 = 0 then (spec_l17Clear.j0 k (wrap64 (1 + bt311.1)) y314 1 t318 s0_0 bt311.2.1 bt311.2.2) else (if a1_3 = 2 then (spec_l17Clear.j0 k (wrap64 (1 + bt311.1)) y314 3 t318 s0_0 bt311.2.1 bt311.2.2) else (if a1_3 = 3 then ((spec_l01Below.f s0_0 bt311.2.1 bt311.2.2 (wrap64 ((wrap64 (1 + bt311.1)) + 1))).bind fun bt319 => (spec_l17Clear.j0 k (wrap64 (1 + bt311.1)) y314 bt319.1 256 s0_0 bt319.2.1 bt319.2.2)) else (spec_l17Clear.j0 k (wrap64 (1 + bt311.1)) y314 0 t318 s0_0 bt311.2.1 bt311.2.2)))))))
theorem spec_l17Clear.mono_l : ∀ k, (∀ y0 y1 y2 y3 y4 y5 y6, LeO (spec_l17Clear.j0 k y0 y1 y2 y3 y4 y5 y6) (spec_l17Clear.j0 (k + 1) y0 y1 y2 y3 y4 y5 y6)) ∧ (∀ y0 y1 y2 y3 y4 y5, LeO (spec_l17Clear.j2 k y0 y1 y2 y3 y4 y5) (spec_l17Clear.j2 (k + 1) y0 y1 y2 y3 y4 y5)) ∧ (∀ y0 y1 y2 y3 y4 y5 y6 y7, LeO (spec_l17Clear.l0 k y0 y1 y2 y3 y4 y5 y6 y7) (spec_l17Clear.l0 (k + 1) y0 y1 y2 y3 y4 y5 y6 y7))
 | 0 => ⟨fun _ _ _ _ _ _ _ r h => by simp [spec_l17Clear.j0] at h, fun _ _ _ _ _ _ r h => by simp [spec_l17Clear.j2] at h, fun _ _ _ _ _ _ _ _ r h => by simp [spec_l17Clear.l0] at h⟩
 | k + 1 => by
  obtain ⟨ih0, ih1, ih2⟩ := spec_l17Clear.mono_l k
  refine ⟨?_, ?_, ?_⟩
  ·intro y0 y1 y2 y3 y4 y5 y6
   unfold spec_l17Clear.j0
   repeat' first
   | (with_reducible exact ih0 _ _ _ _ _ _ _)
   | (with_reducible exact ih1 _ _ _ _ _ _)
   | (with_reducible exact ih2 _ _ _ _ _ _ _ _)
   | (with_reducible exact spec_l01Pow.mono _ _)
   | (with_reducible exact LeO.refl _)
   | (with_reducible exact LeO.none _)
   | (with_reducible refine LeO.ite ?_ ?_)
   | (with_reducible refine LeO.bind ?_ (fun _ => ?_))
   | exact ih0 _ _ _ _ _ _ _
   | exact ih1 _ _ _ _ _ _
   | exact ih2 _ _ _ _ _ _ _ _
   | exact spec_l01Pow.mono _ _
   | exact LeO.none _
   | refine LeO.ite ?_ ?_
   | refine LeO.bind ?_ (fun _ => ?_)
  ·intro y0 y1 y2 y3 y4 y5
   unfold spec_l17Clear.j2
   repeat' first
   | (with_reducible exact ih0 _ _ _ _ _ _ _)
   | (with_reducible exact ih1 _ _ _ _ _ _)
   | (with_reducible exact ih2 _ _ _ _ _ _ _ _)
   | (with_reducible exact spec_l01Pow.mono _ _)
   | (with_reducible exact LeO.refl _)
   | (with_reducible exact LeO.none _)
   | (with_reducible refine LeO.ite ?_ ?_)
   | (with_reducible refine LeO.bind ?_ (fun _ => ?_))
   | exact ih0 _ _ _ _ _ _ _
   | exact ih1 _ _ _ _ _ _
   | exact ih2 _ _ _ _ _ _ _ _
   | exact spec_l01Pow.mono _ _
   | exact LeO.none _
   | refine LeO.ite ?_ ?_
   | refine LeO.bind ?_ (fun _ => ?_)
  ·intro y0 y1 y2 y3 y4 y5 y6 y7
   unfold spec_l17Clear.l0
   repeat' first
   | (with_reducible exact ih0 _ _ _ _ _ _ _)
   | (with_reducible exact ih1 _ _ _ _ _ _)
   | (with_reducible exact ih2 _ _ _ _ _ _ _ _)
   | (with_reducible exact spec_l01Pow.mono _ _)
   | (with_reducible exact LeO.refl _)
   | (with_reducible exact LeO.none _)
   | (with_reducible refine LeO.ite ?_ ?_)
   | (with_reducible refine LeO.bind ?_ (fun _ => ?_))
   | exact ih0 _ _ _ _ _ _ _
   | exact ih1 _ _ _ _ _ _
   | exact ih2 _ _ _ _ _ _ _ _
   | exact spec_l01Pow.mono _ _
   | exact LeO.none _
   | refine LeO.ite ?_ ?_
   | refine LeO.bind ?_ (fun _ => ?_)
theorem spec_l17Clear.mono : ∀ a0 a1 a2 a3 a4 a5 a6 a7 k, LeO (spec_l17Clear.f k a0 a1 a2 a3 a4 a5 a6 a7) (spec_l17Clear.f (k + 1) a0 a1 a2 a3 a4 a5 a6 a7) := by
 intro a0 a1 a2 a3 a4 a5 a6 a7 k
 obtain ⟨ih0, ih1, ih2⟩ := spec_l17Clear.mono_l k
 unfold spec_l17Clear.f
 repeat' first
   | (with_reducible exact ih0 _ _ _ _ _ _ _)
   | (with_reducible exact ih1 _ _ _ _ _ _)
   | (with_reducible exact ih2 _ _ _ _ _ _ _ _)
   | (with_reducible exact spec_l01Pow.mono _ _)
   | (with_reducible exact LeO.refl _)
   | (with_reducible exact LeO.none _)
   | (with_reducible refine LeO.ite ?_ ?_)
   | (with_reducible refine LeO.bind ?_ (fun _ => ?_))
   | exact ih0 _ _ _ _ _ _ _
   | exact ih1 _ _ _ _ _ _
   | exact ih2 _ _ _ _ _ _ _ _
   | exact spec_l01Pow.mono _ _
   | exact LeO.none _
   | refine LeO.ite ?_ ?_
   | refine LeO.bind ?_ (fun _ => ?_)
set_option maxHeartbeats 8000000 in
set_option maxRecDepth 100000 in
theorem spec_l17Clear.calls (k : Nat) (g : Nat) (s0_0 : List Int) (s0_1 : Int) (s0_2 : Int) (a1_0 : Int) (a1_1 : Int) (a1_2 : Int) (a1_3 : Int) (a1_4 : Bool) (r1 : Int) (r2 : List Int) (r3 : Int) (r4 : Int) (w0 w : World) (hI : IsS162 w0 w g s0_0 s0_1 s0_2) (hB : Below w0.heap.size w0 w) (h : spec_l17Clear.f k s0_0 s0_1 s0_2 a1_0 a1_1 a1_2 a1_3 a1_4 = some (r1, r2, r3, r4)) :
  Calls Try.prog 83 #[.pointer (some ⟨g, 0, none⟩), .agg #[.int .i64 a1_0, .int .i64 a1_1, .int .i64 a1_2, .int .i64 a1_3, .bool a1_4]] w fun e w' => ∃ v1_ : Value, e = .returned (.tuple #[.int .i64 r1, v1_]) ∧ Kd.R (Kd.int .i64) 3 w' w.heap.size (fun _ => True) v1_ r2 ∧ IsS162 w0 w' g s0_0 r3 r4 ∧ Below w0.heap.size w0 w' ∧ KeepBut w w' g none := by
 have hu39 := Try.underlying39
 have HI0 := aM hI
 have HK := aM (KeepBut.refl w g none)
 have HL := aM hB.size
 clear hI
 have HW0 := aM hB.size
 have HB := aM hB
 clear hB
 unfold spec_l17Clear.f at h; have H := h
 clear h
 replace H := oB.mp H
 obtain ⟨⟨t311, t312, t313⟩, A30, H⟩ := H
 try dsimp only at H
 have A3 := aM A30
 clear A30
 obtain ⟨y314, hy314⟩ : ∃ y_ : List Int, y_ = (([] : List Int)) := ⟨_, rfl⟩
 replace H : ((spec_l17Depth.f a1_0 a1_1 a1_2 a1_3 a1_4).bind fun t317 => ((spec_l01Pow.f k t317).bind fun t318 => (if a1_3 = 0 then (spec_l17Clear.j0 k (wrap64 (1 + t311)) y314 1 t318 s0_0 t312 t313) else (if a1_3 = 2 then (spec_l17Clear.j0 k (wrap64 (1 + t311)) y314 3 t318 s0_0 t312 t313) else (if a1_3 = 3 then ((spec_l01Below.f s0_0 t312 t313 (wrap64 ((wrap64 (1 + t311)) + 1))).bind fun bt319 => (spec_l17Clear.j0 k (wrap64 (1 + t311)) y314 bt319.1 256 s0_0 bt319.2.1 bt319.2.2)) else (spec_l17Clear.j0 k (wrap64 (1 + t311)) y314 0 t318 s0_0 t312 t313)))))) = some (r1, r2, r3, r4) := by first | (rw [hy314]; with_reducible exact H) | (have H2_ := (Option.bind_some _ _).symm.trans H; rw [hy314]; with_reducible exact H2_) | (have H2_ := (Option.bind_some _ _).symm.trans H; with_reducible exact H2_) | with_reducible exact H | (rw [hy314]; exact H) | exact H
 have Ny314 := aM hy314
 clear hy314
 replace H := oB.mp H
 obtain ⟨t317, A40, H⟩ := H
 try dsimp only at H
 have A4 := aM A40
 clear A40
 replace H := oB.mp H
 obtain ⟨t318, A50, H⟩ := H
 try dsimp only at H
 have A5 := aM A50
 clear A50
 have HC6 := aM H
 clear H
 go_enter Try.func83, Try.ntmps83
 go_upto_block 0 with (first | ((with_reducible refine gate_dst (N := 3) rfl ?_); refine box_event ?hg (N := 3) ?hd (cs := #[.int .i64 a1_0, .int .i64 a1_1, .int .i64 a1_2, .int .i64 a1_3, .bool a1_4]) (t := 39) ?hr ?_; (case hd => rfl); (case hg => rfl); (case hr => first | (go_simp; done) | (go_simp; rfl)); intro gb310 hg w7 hbox hb; have n0_ := aM (IsS162.below (by repeat (first | (with_reducible first | exact HI0.out | apply IsS162.alloc | apply IsS162.drewN | apply IsS162.drew | apply IsS162.set_1 | apply IsS162.set_2) | exact HI0.out)) hb); have n1_ := aM (KeepBut.trans (by repeat (first | (with_reducible first | exact HK.out | apply KeepBut.set_ | apply keep_drewN | apply keep_drew | apply keep_alloc) | exact HK.out)) (KeepBut.of_below hb g none) (.inl rfl)); have n2_ := aM (bT (by repeat (first | (with_reducible first | exact HB.out | apply bA | apply bN | apply bE | refine bS ?_ (IsS162.ge HI0.out)) | exact HB.out)) hb); have n3_ := aM (hbox); have n4_ := aM ((by rw [hg]; exact (keep_size (w := w) (g := g) (row := none) (by repeat (first | (with_reducible first | exact HK.out | apply KeepBut.set_ | apply keep_drewN | apply keep_drew | apply keep_alloc) | exact HK.out))) : w.heap.size ≤ gb310)); have n5_ := aM ((Nat.le_trans HW0.out (by rw [hg]; exact (keep_size (w := w) (g := g) (row := none) (by repeat (first | (with_reducible first | exact HK.out | apply KeepBut.set_ | apply keep_drewN | apply keep_drew | apply keep_alloc) | exact HK.out))) : w.heap.size ≤ gb310) : w0.heap.size ≤ gb310)); have n6_ := aM ((by rw [hg]; exact Nat.ne_of_lt (IsS162.lt (show IsS162 w0 _ g s0_0 s0_1 s0_2 from by repeat (first | (with_reducible first | exact HI0.out | apply IsS162.alloc | apply IsS162.drewN | apply IsS162.drew | apply IsS162.set_1 | apply IsS162.set_2) | exact HI0.out))) : g ≠ gb310)); have n7_ := aM ((by rw [hg]; exact Nat.ne_of_gt (IsS162.lt (show IsS162 w0 _ g s0_0 s0_1 s0_2 from by repeat (first | (with_reducible first | exact HI0.out | apply IsS162.alloc | apply IsS162.drewN | apply IsS162.drew | apply IsS162.set_1 | apply IsS162.set_2) | exact HI0.out))) : gb310 ≠ g)); clear HI0; clear HK; clear HB; have HI0 := n0_; have HK := n1_; have HB := n2_; have BK310 := n3_; have GW310 := n4_; have GE310 := n5_; have NB0_310 := n6_; have NB310_0 := n7_; clear n0_ n1_ n2_ n3_ n4_ n5_ n6_ n7_; clear hb hbox hg) | ((with_reducible refine gate_callee (f := 141) rfl ?_); refine goesL_ (some 12) rfl rfl Try.func141 (by kernel_rfl) rfl #[.pointer (some ⟨g, 0, none⟩), .int .i64 9] rfl (by (try simp only [lM, List.map_cons, List.map_nil]); first | done | rfl | (simp only [lD, lT]; rfl)) ?_; (with_reducible refine (spec_l01Below.calls g s0_0 s0_1 s0_2 9 t311 t312 t313 w0 _ ?side1 ?side2 A3.out).mono ?_); (case side1 => repeat (first | (with_reducible first | exact HI0.out | apply IsS162.alloc | apply IsS162.drewN | apply IsS162.drew | apply IsS162.set_1 | apply IsS162.set_2 | refine IsS162.far ?_ NB0_310.out _) | exact HI0.out)); (case side2 => repeat (first | (with_reducible first | exact HB.out | apply bA | apply bN | apply bE | refine bS ?_ (IsS162.ge HI0.out) | refine bS ?_ GE310.out) | exact HB.out)); rintro e w8 ⟨rfl, hi, hb, hk⟩; refine ⟨_, rfl, ?_⟩; have n0_ := aM (KeepBut.blk hk (g' := gb310) (o := .cells #[.int .i64 a1_0, .int .i64 a1_1, .int .i64 a1_2, .int .i64 a1_3, .bool a1_4] 39 (0, 0)) (by (with_reducible repeat (first | refine kN ?_ _ | refine kD ?_ | refine kA ?_ _)); exact BK310.out) NB310_0.out (by simp)); have n1_ := aM (KeepBut.trans (by repeat (first | (with_reducible first | exact HK.out | apply KeepBut.set_ | apply keep_drewN | apply keep_drew | apply keep_alloc | refine keep_far ?_ GW310.out _) | exact HK.out)) hk (.inl rfl)); have n2_ := aM (hb); have n3_ := aM (hi); clear BK310; clear HK; clear HB; clear HI0; have BK310 := n0_; have HK := n1_; have HB := n2_; have HI0 := n3_; clear n0_ n1_ n2_ n3_; (try clear hb); (try clear hb2); (try clear hk); (try clear hi)) | ((with_reducible refine gate_dst (N := 14) rfl ?_); refine Kd.R_lit (Kd.int .i64) _ 3 ?hg (N := 14) ?hd (xs := ([] : List Int)) (inner := []) (ok := fun _ => True) (okp := fun _ => True) ?hr ?hp (fun _ hk => hk) trivial (Below.refl _ _) (Nat.le_refl _) (by simp) ?_; (case hd => rfl); (case hg => rfl); (case hr => first | (go_simp; done) | (go_simp; rfl)); (case hp => exact (Reps.none _ _)); intro v315 w9 ho10 hb hg_ hnew_; clear hg_ hnew_; (first | rw [← Ny314.out] at ho10 | (simp only [Int.reduceToNat] at ho10; rw [← Ny314.out] at ho10)); have n0_ := aM (Kd.R_lower ho10 (keep_size (w := w) (g := g) (row := none) (by repeat (first | (with_reducible first | exact HK.out | apply KeepBut.set_ | apply keep_drewN | apply keep_drew | apply keep_alloc | refine keep_far ?_ GW310.out _) | exact HK.out)))); have n1_ := aM (IsS162.below (by repeat (first | (with_reducible first | exact HI0.out | apply IsS162.alloc | apply IsS162.drewN | apply IsS162.drew | apply IsS162.set_1 | apply IsS162.set_2 | refine IsS162.far ?_ NB0_310.out _) | exact HI0.out)) hb); have n2_ := aM (kB (g := gb310) (o := .cells #[.int .i64 a1_0, .int .i64 a1_1, .int .i64 a1_2, .int .i64 a1_3, .bool a1_4] 39 (0, 0)) (by (with_reducible repeat (first | refine kN ?_ _ | refine kD ?_ | refine kA ?_ _)); exact BK310.out) hb); have n3_ := aM (KeepBut.trans (by repeat (first | (with_reducible first | exact HK.out | apply KeepBut.set_ | apply keep_drewN | apply keep_drew | apply keep_alloc | refine keep_far ?_ GW310.out _) | exact HK.out)) (KeepBut.of_below hb g none) (.inl rfl)); have n4_ := aM (bT (by repeat (first | (with_reducible first | exact HB.out | apply bA | apply bN | apply bE | refine bS ?_ (IsS162.ge HI0.out) | refine bS ?_ GE310.out) | exact HB.out)) hb); clear HI0; clear BK310; clear HK; clear HB; have HO316 := n0_; have HI0 := n1_; have BK310 := n2_; have HK := n3_; have HB := n4_; clear n0_ n1_ n2_ n3_ n4_; clear hb ho10; have hnb11 := NB310_0.out; have hnc11 := NB0_310.out; obtain ⟨hcz12_0, hcz12_1, hcz12_2, hcz12_3, hcz12_4⟩ := blk_c5 BK310.out; obtain ⟨hfz12_0, hfz12_1, hfz12_2, hfz12_3, hfz12_4⟩ := blk_f5 BK310.out) | ((with_reducible refine gate_callee (f := 146) rfl ?_); refine goesL_ (some 16) rfl rfl Try.func146 (by kernel_rfl) rfl #[.agg #[.int .i64 a1_0, .int .i64 a1_1, .int .i64 a1_2, .int .i64 a1_3, .bool a1_4]] rfl (by (try simp only [lM, List.map_cons, List.map_nil]); first | done | rfl | (simp only [lD, lT]; rfl)) ?_; (with_reducible refine (spec_l17Depth.calls a1_0 a1_1 a1_2 a1_3 a1_4 t317 _ A4.out).mono ?_); rintro e w13 ⟨rfl, hb⟩; refine ⟨_, rfl, ?_⟩; have n0_ := aM (rB (by (with_reducible repeat (first | apply rA | apply rN | apply rD)); exact HO316.out) hb); have n1_ := aM (IsS162.below (by repeat (first | (with_reducible first | exact HI0.out | apply IsS162.alloc | apply IsS162.drewN | apply IsS162.drew | apply IsS162.set_1 | apply IsS162.set_2 | refine IsS162.far ?_ NB0_310.out _) | exact HI0.out)) hb); have n2_ := aM (kB (g := gb310) (o := .cells #[.int .i64 a1_0, .int .i64 a1_1, .int .i64 a1_2, .int .i64 a1_3, .bool a1_4] 39 (0, 0)) (by (with_reducible repeat (first | refine kN ?_ _ | refine kD ?_ | refine kA ?_ _)); exact BK310.out) hb); have n3_ := aM (KeepBut.trans (by repeat (first | (with_reducible first | exact HK.out | apply KeepBut.set_ | apply keep_drewN | apply keep_drew | apply keep_alloc | refine keep_far ?_ GW310.out _) | exact HK.out)) (KeepBut.of_below hb g none) (.inl rfl)); have n4_ := aM (bT (by repeat (first | (with_reducible first | exact HB.out | apply bA | apply bN | apply bE | refine bS ?_ (IsS162.ge HI0.out) | refine bS ?_ GE310.out) | exact HB.out)) hb); clear HO316; clear HI0; clear BK310; clear HK; clear HB; have HO316 := n0_; have HI0 := n1_; have BK310 := n2_; have HK := n3_; have HB := n4_; clear n0_ n1_ n2_ n3_ n4_; (try clear hb); (try clear hb2); (try clear hk); (try clear hi)) | ((with_reducible refine gate_callee (f := 99) rfl ?_); refine goesL_ (some 17) rfl rfl Try.func99 (by kernel_rfl) rfl #[.int .i64 t317] rfl (by (try simp only [lM, List.map_cons, List.map_nil]); first | done | rfl | (simp only [lD, lT]; rfl)) ?_; (with_reducible refine (spec_l01Pow.calls k t317 t318 _ A5.out).mono ?_); rintro e w' ⟨rfl, ⟨nd, rfl⟩⟩; refine ⟨_, rfl, ?_⟩; obtain ⟨hcz14_0, hcz14_1, hcz14_2, hcz14_3, hcz14_4⟩ := blk_c5 BK310.out; obtain ⟨hfz14_0, hfz14_1, hfz14_2, hfz14_3, hfz14_4⟩ := blk_f5 BK310.out))
 (try simp only [Act.put, lI, lZ, lS])
 go_cut [8, 9] (fun v8 v9 wc => ∃ (kq : Nat) (x8_5 : Int) (x9_5 : Int) (x1001_5 : Int) (x1002_5 : Int), v8 = .int .i64 x8_5 ∧ v9 = .int .i64 x9_5 ∧ Aside0 (spec_l17Clear.j0 kq (wrap64 (1 + t311)) y314 x8_5 x9_5 s0_0 x1001_5 x1002_5 = some (r1, r2, r3, r4)) ∧ Aside0 (kq ≤ k) ∧ Aside0 (Kd.R (Kd.int .i64) 3 wc w.heap.size (fun _ => True) v315 y314) ∧ Aside0 (wc.heap[gb310]? = some (.cells #[.int .i64 a1_0, .int .i64 a1_1, .int .i64 a1_2, .int .i64 a1_3, .bool a1_4] 39 (0, 0))) ∧ Aside0 (IsS162 w0 wc g s0_0 x1001_5 x1002_5) ∧ Aside0 (KeepBut w wc g none) ∧ Aside0 (Below w0.heap.size w0 wc))
 case first =>
  have H := HC6.out
  clear HC6
  by_cases c15 : a1_3 = 0
  ·rw [if_pos c15] at H
   have c15b0 : (a1_3 == 0) = true := beq_iff_eq.mpr c15
   have c15b1 : (a1_3 != 0) = false := bne_eq_false_iff_eq.mpr c15
   clear c15
   (first | rw [c15b0] | (simp only [i64_w, i32_w]; rw [c15b0]) | skip)
   have H' := aM H
   clear H
   go_wp2
   go_meet
   case rel => exact ⟨_, (1), (t318), (t312), (t313), (by first | rfl | (simp; done) | (simp [*]; done)), (by first | rfl | (simp; done) | (simp [*]; done)), H', ⟨by first | omega | exact Nat.le_refl _⟩, ⟨by (with_reducible repeat (first | apply rA | apply rN | apply rD)); exact HO316.out⟩, ⟨by (with_reducible repeat (first | refine kN ?_ _ | refine kD ?_ | refine kA ?_ _)); exact BK310.out⟩, ⟨by repeat (first | (with_reducible first | exact HI0.out | apply IsS162.alloc | apply IsS162.drewN | apply IsS162.drew | apply IsS162.set_1 | apply IsS162.set_2 | refine IsS162.far ?_ NB0_310.out _) | exact HI0.out)⟩, ⟨by repeat (first | (with_reducible first | exact HK.out | apply KeepBut.set_ | apply keep_drewN | apply keep_drew | apply keep_alloc | refine keep_far ?_ GW310.out _) | exact HK.out)⟩, ⟨by repeat (first | (with_reducible first | exact HB.out | apply bA | apply bN | apply bE | refine bS ?_ (IsS162.ge HI0.out) | refine bS ?_ GE310.out) | exact HB.out)⟩⟩
  ·rw [if_neg c15] at H
   have c15b0 : (a1_3 == 0) = false := beq_eq_false_iff_ne.mpr c15
   have c15b1 : (a1_3 != 0) = true := bne_iff_ne.mpr c15
   (first | rw [c15b0] | (simp only [i64_w, i32_w]; rw [c15b0]) | skip)
   by_cases c16 : a1_3 = 2
   ·rw [if_pos c16] at H
    have c16b0 : (a1_3 == 2) = true := beq_iff_eq.mpr c16
    have c16b1 : (a1_3 != 2) = false := bne_eq_false_iff_eq.mpr c16
    clear c16
    have H' := aM H
    clear H
    go_wp2
    go_meet
    case rel => exact ⟨_, (3), (t318), (t312), (t313), (by first | rfl | (simp; done) | (simp [*]; done)), (by first | rfl | (simp; done) | (simp [*]; done)), H', ⟨by first | omega | exact Nat.le_refl _⟩, ⟨by (with_reducible repeat (first | apply rA | apply rN | apply rD)); exact HO316.out⟩, ⟨by (with_reducible repeat (first | refine kN ?_ _ | refine kD ?_ | refine kA ?_ _)); exact BK310.out⟩, ⟨by repeat (first | (with_reducible first | exact HI0.out | apply IsS162.alloc | apply IsS162.drewN | apply IsS162.drew | apply IsS162.set_1 | apply IsS162.set_2 | refine IsS162.far ?_ NB0_310.out _) | exact HI0.out)⟩, ⟨by repeat (first | (with_reducible first | exact HK.out | apply KeepBut.set_ | apply keep_drewN | apply keep_drew | apply keep_alloc | refine keep_far ?_ GW310.out _) | exact HK.out)⟩, ⟨by repeat (first | (with_reducible first | exact HB.out | apply bA | apply bN | apply bE | refine bS ?_ (IsS162.ge HI0.out) | refine bS ?_ GE310.out) | exact HB.out)⟩⟩
   ·rw [if_neg c16] at H
    have c16b0 : (a1_3 == 2) = false := beq_eq_false_iff_ne.mpr c16
    have c16b1 : (a1_3 != 2) = true := bne_iff_ne.mpr c16
    by_cases c17 : a1_3 = 3
    ·rw [if_pos c17] at H
     have c17b0 : (a1_3 == 3) = true := beq_iff_eq.mpr c17
     have c17b1 : (a1_3 != 3) = false := bne_eq_false_iff_eq.mpr c17
     clear c17
     replace H := oB.mp H
     obtain ⟨⟨t319, t320, t321⟩, A180, H⟩ := H
     replace H : (spec_l17Clear.j0 k (wrap64 (1 + t311)) y314 t319 256 s0_0 t320 t321) = some (r1, r2, r3, r4) := H
     have A18 := aM A180
     clear A180
     have H' := aM H
     clear H
     go_wp2_with (first | ((with_reducible refine gate_callee (f := 141) rfl ?_); refine goesL_ (some 29) rfl rfl Try.func141 (by kernel_rfl) rfl #[.pointer (some ⟨g, 0, none⟩), .int .i64 (wrap64 ((wrap64 (1 + t311)) + 1))] rfl (by (try simp only [lM, List.map_cons, List.map_nil]); first | done | rfl | (simp only [lD, lT]; rfl)) ?_; (with_reducible refine (spec_l01Below.calls g s0_0 t312 t313 (wrap64 ((wrap64 (1 + t311)) + 1)) t319 t320 t321 w0 _ ?side1 ?side2 A18.out).mono ?_); (case side1 => repeat (first | (with_reducible first | exact HI0.out | apply IsS162.alloc | apply IsS162.drewN | apply IsS162.drew | apply IsS162.set_1 | apply IsS162.set_2 | refine IsS162.far ?_ NB0_310.out _) | exact HI0.out)); (case side2 => repeat (first | (with_reducible first | exact HB.out | apply bA | apply bN | apply bE | refine bS ?_ (IsS162.ge HI0.out) | refine bS ?_ GE310.out) | exact HB.out)); rintro e w19 ⟨rfl, hi, hb, hk⟩; refine ⟨_, rfl, ?_⟩; have n0_ := aM (KeepBut.blk hk (g' := gb310) (o := .cells #[.int .i64 a1_0, .int .i64 a1_1, .int .i64 a1_2, .int .i64 a1_3, .bool a1_4] 39 (0, 0)) (by (with_reducible repeat (first | refine kN ?_ _ | refine kD ?_ | refine kA ?_ _)); exact BK310.out) NB310_0.out (by simp)); have n1_ := aM (rM (Kd.R_keep (IsS162.apart (show IsS162 w0 _ g s0_0 t312 t313 from by repeat (first | (with_reducible first | exact HI0.out | apply IsS162.alloc | apply IsS162.drewN | apply IsS162.drew | apply IsS162.set_1 | apply IsS162.set_2 | refine IsS162.far ?_ NB0_310.out _) | exact HI0.out)) (by (with_reducible repeat (first | apply rA | apply rN | apply rD)); exact HO316.out) (by decide)) hk (fun _ h => h.2)) (fun _ h => h.1)); have n2_ := aM (KeepBut.trans (by repeat (first | (with_reducible first | exact HK.out | apply KeepBut.set_ | apply keep_drewN | apply keep_drew | apply keep_alloc | refine keep_far ?_ GW310.out _) | exact HK.out)) hk (.inl rfl)); have n3_ := aM (hb); have n4_ := aM (hi); clear BK310; clear HO316; clear HK; clear HB; clear HI0; have BK310 := n0_; have HO316 := n1_; have HK := n2_; have HB := n3_; have HI0 := n4_; clear n0_ n1_ n2_ n3_ n4_; (try clear hb); (try clear hb2); (try clear hk); (try clear hi)))
     go_meet
     case rel => exact ⟨_, (t319), (256), (t320), (t321), (by first | rfl | (simp; done) | (simp [*]; done)), (by first | rfl | (simp; done) | (simp [*]; done)), H', ⟨by first | omega | exact Nat.le_refl _⟩, ⟨by (with_reducible repeat (first | apply rA | apply rN | apply rD)); exact HO316.out⟩, ⟨by (with_reducible repeat (first | refine kN ?_ _ | refine kD ?_ | refine kA ?_ _)); exact BK310.out⟩, ⟨by repeat (first | (with_reducible first | exact HI0.out | apply IsS162.alloc | apply IsS162.drewN | apply IsS162.drew | apply IsS162.set_1 | apply IsS162.set_2 | refine IsS162.far ?_ NB0_310.out _) | exact HI0.out)⟩, ⟨by repeat (first | (with_reducible first | exact HK.out | apply KeepBut.set_ | apply keep_drewN | apply keep_drew | apply keep_alloc | refine keep_far ?_ GW310.out _) | exact HK.out)⟩, ⟨by repeat (first | (with_reducible first | exact HB.out | apply bA | apply bN | apply bE | refine bS ?_ (IsS162.ge HI0.out) | refine bS ?_ GE310.out) | exact HB.out)⟩⟩
    ·rw [if_neg c17] at H
     have c17b0 : (a1_3 == 3) = false := beq_eq_false_iff_ne.mpr c17
     have c17b1 : (a1_3 != 3) = true := bne_iff_ne.mpr c17
     have H' := aM H
     clear H
     go_wp2
     go_meet
     case rel => exact ⟨_, (0), (t318), (t312), (t313), (by first | rfl | (simp; done) | (simp [*]; done)), (by first | rfl | (simp; done) | (simp [*]; done)), H', ⟨by first | omega | exact Nat.le_refl _⟩, ⟨by (with_reducible repeat (first | apply rA | apply rN | apply rD)); exact HO316.out⟩, ⟨by (with_reducible repeat (first | refine kN ?_ _ | refine kD ?_ | refine kA ?_ _)); exact BK310.out⟩, ⟨by repeat (first | (with_reducible first | exact HI0.out | apply IsS162.alloc | apply IsS162.drewN | apply IsS162.drew | apply IsS162.set_1 | apply IsS162.set_2 | refine IsS162.far ?_ NB0_310.out _) | exact HI0.out)⟩, ⟨by repeat (first | (with_reducible first | exact HK.out | apply KeepBut.set_ | apply keep_drewN | apply keep_drew | apply keep_alloc | refine keep_far ?_ GW310.out _) | exact HK.out)⟩, ⟨by repeat (first | (with_reducible first | exact HB.out | apply bA | apply bN | apply bE | refine bS ?_ (IsS162.ge HI0.out) | refine bS ?_ GE310.out) | exact HB.out)⟩⟩
 case rest =>
  clear HC6
  try clear c1
  try clear p2
  try clear c5
  try clear p6
  try clear c8
  try clear c9
  try clear c11
  try clear c14
  try clear c15
  try clear c15b0
  try clear c15b1
  try clear c16
  try clear c16b0
  try clear c16b1
  try clear c17
  try clear c17b0
  try clear c17b1
  try clear hcz12_0
  try clear hcz12_1
  try clear hcz12_2
  try clear hcz12_3
  try clear hcz12_4
  try clear hcz14_0
  try clear hcz14_1
  try clear hcz14_2
  try clear hcz14_3
  try clear hcz14_4
  try clear hfz12_0
  try clear hfz12_1
  try clear hfz12_2
  try clear hfz12_3
  try clear hfz12_4
  try clear hfz14_0
  try clear hfz14_1
  try clear hfz14_2
  try clear hfz14_3
  try clear hfz14_4
  obtain ⟨kq, x8_5, x9_5, x1001_5, x1002_5, rfl, rfl, HA, HJ5, HO_7, BK310, HI0, HK, HB⟩ := hcut
  cases kq with
  | zero => exact absurd HA.out (by simp [spec_l17Clear.j0])
  | succ kj5 =>
   have H := HA.out
   clear HA
   simp only [spec_l17Clear.j0] at H
   have HC20 := aM H
   clear H
   go_upto_block 1 with (fail)
   go_cut [7] (fun v7 wc => ∃ (kq : Nat) (x7_19 : List Int) (x1001_19 : Int) (x1002_19 : Int), Aside0 (spec_l17Clear.j2 kq (wrap64 (1 + t311)) x7_19 x9_5 s0_0 x1001_19 x1002_19 = some (r1, r2, r3, r4)) ∧ Aside0 (kq ≤ kj5) ∧ Aside0 (Kd.R (Kd.int .i64) 3 wc w.heap.size (fun _ => True) v7 x7_19) ∧ Aside0 (wc.heap[gb310]? = some (.cells #[.int .i64 a1_0, .int .i64 a1_1, .int .i64 a1_2, .int .i64 a1_3, .bool a1_4] 39 (0, 0))) ∧ Aside0 (IsS162 w0 wc g s0_0 x1001_19 x1002_19) ∧ Aside0 (KeepBut w wc g none) ∧ Aside0 (Below w0.heap.size w0 wc))
   case first =>
    have H := HC20.out
    clear HC20
    have H' := aM H
    clear H
    go_wp2
    go_loopg [7, 10] kj5 (fun kq v7 v10 w' => ∃ (x7_2 : List Int) (x10_2 : Int) (x1001_2 : Int) (x1002_2 : Int), v10 = .int .i64 x10_2 ∧ Aside0 (spec_l17Clear.l0 kq (wrap64 (1 + t311)) x7_2 x8_5 x9_5 x10_2 s0_0 x1001_2 x1002_2 = some (r1, r2, r3, r4)) ∧ Aside0 (kq ≤ kj5) ∧ Aside0 (Kd.R (Kd.int .i64) 3 w' w.heap.size (fun _ => True) v7 x7_2) ∧ Aside0 (w'.heap[gb310]? = some (.cells #[.int .i64 a1_0, .int .i64 a1_1, .int .i64 a1_2, .int .i64 a1_3, .bool a1_4] 39 (0, 0))) ∧ Aside0 (IsS162 w0 w' g s0_0 x1001_2 x1002_2) ∧ Aside0 (KeepBut w w' g none) ∧ Aside0 (Below w0.heap.size w0 w'))
    case atStart => exact ⟨(y314), (0), (x1001_5), (x1002_5), (by first | rfl | (simp; done) | (simp [*]; done)), H', ⟨Nat.le_refl _⟩, ⟨by (with_reducible repeat (first | apply rA | apply rN | apply rD)); exact HO_7.out⟩, ⟨by (with_reducible repeat (first | refine kN ?_ _ | refine kD ?_ | refine kA ?_ _)); exact BK310.out⟩, ⟨by repeat (first | (with_reducible first | exact HI0.out | apply IsS162.alloc | apply IsS162.drewN | apply IsS162.drew | apply IsS162.set_1 | apply IsS162.set_2 | refine IsS162.far ?_ NB0_310.out _) | exact HI0.out)⟩, ⟨by repeat (first | (with_reducible first | exact HK.out | apply KeepBut.set_ | apply keep_drewN | apply keep_drew | apply keep_alloc | refine keep_far ?_ GW310.out _) | exact HK.out)⟩, ⟨by repeat (first | (with_reducible first | exact HB.out | apply bA | apply bN | apply bE | refine bS ?_ (IsS162.ge HI0.out) | refine bS ?_ GE310.out) | exact HB.out)⟩⟩
    case round =>
     clear H'
     try clear c1
     try clear p2
     try clear c5
     try clear p6
     try clear c8
     try clear c9
     try clear c11
     try clear c14
     try clear c15
     try clear c15b0
     try clear c15b1
     try clear c16
     try clear c16b0
     try clear c16b1
     try clear c17
     try clear c17b0
     try clear c17b1
     try clear hcz12_0
     try clear hcz12_1
     try clear hcz12_2
     try clear hcz12_3
     try clear hcz12_4
     try clear hcz14_0
     try clear hcz14_1
     try clear hcz14_2
     try clear hcz14_3
     try clear hcz14_4
     try clear hfz12_0
     try clear hfz12_1
     try clear hfz12_2
     try clear hfz12_3
     try clear hfz12_4
     try clear hfz14_0
     try clear hfz14_1
     try clear hfz14_2
     try clear hfz14_3
     try clear hfz14_4
     try clear p2
     try clear p6
     obtain ⟨x7_2, x10_2, x1001_2, x1002_2, rfl, HA, HK2, HO_7, BK310, HI0, HK, HB⟩ := hrel
     cases gk with
     | zero => exact absurd HA.out (by simp [spec_l17Clear.l0])
     | succ k2 =>
      have H := HA.out
      clear HA
      simp only [spec_l17Clear.l0] at H
      by_cases c21 : x10_2 < x8_5
      ·rw [if_pos c21] at H
       have c21b0 : decide (x10_2 < x8_5) = true := decide_eq_true c21
       clear c21
       (first | rw [c21b0] | (simp only [i64_w, i32_w]; rw [c21b0]) | skip)
       replace H := oB.mp H
       obtain ⟨⟨t322, t323, t324⟩, A220, H⟩ := H
       try dsimp only at H
       have A22 := aM A220
       clear A220
       by_cases c23 : t322 = true
       ·subst c23
        have H1 : (spec_l17Clear.j2 k2 (wrap64 (1 + t311)) x7_2 x9_5 s0_0 t323 t324) = some (r1, r2, r3, r4) := by rw [if_pos rfl] at H; first | done | exact H
        clear H
        have H := H1
        clear H1
        have H' := aM H
        clear H
        go_wp2_with (first | (go_at_call 143; (with_reducible refine (spec_l01Once.calls g s0_0 x1001_2 x1002_2 12 true t323 t324 w0 _ ?side1 ?side2 A22.out).mono ?_); (case side1 => repeat (first | (with_reducible first | exact HI0.out | apply IsS162.alloc | apply IsS162.drewN | apply IsS162.drew | apply IsS162.set_1 | apply IsS162.set_2 | refine IsS162.far ?_ NB0_310.out _) | exact HI0.out)); (case side2 => repeat (first | (with_reducible first | exact HB.out | apply bA | apply bN | apply bE | refine bS ?_ (IsS162.ge HI0.out) | refine bS ?_ GE310.out) | exact HB.out)); rintro e w24 ⟨rfl, hi, hb, hk⟩; have n0_ := aM (rM (Kd.R_keep (IsS162.apart (show IsS162 w0 _ g s0_0 x1001_2 x1002_2 from by repeat (first | (with_reducible first | exact HI0.out | apply IsS162.alloc | apply IsS162.drewN | apply IsS162.drew | apply IsS162.set_1 | apply IsS162.set_2 | refine IsS162.far ?_ NB0_310.out _) | exact HI0.out)) (by (with_reducible repeat (first | apply rA | apply rN | apply rD)); exact HO_7.out) (by decide)) hk (fun _ h => h.2)) (fun _ h => h.1)); have n1_ := aM (KeepBut.blk hk (g' := gb310) (o := .cells #[.int .i64 a1_0, .int .i64 a1_1, .int .i64 a1_2, .int .i64 a1_3, .bool a1_4] 39 (0, 0)) (by (with_reducible repeat (first | refine kN ?_ _ | refine kD ?_ | refine kA ?_ _)); exact BK310.out) NB310_0.out (by simp)); have n2_ := aM (KeepBut.trans (by repeat (first | (with_reducible first | exact HK.out | apply KeepBut.set_ | apply keep_drewN | apply keep_drew | apply keep_alloc | refine keep_far ?_ GW310.out _) | exact HK.out)) hk (.inl rfl)); have n3_ := aM (hb); have n4_ := aM (hi); clear HO_7; clear BK310; clear HK; clear HB; clear HI0; have HO_7 := n0_; have BK310 := n1_; have HK := n2_; have HB := n3_; have HI0 := n4_; clear n0_ n1_ n2_ n3_ n4_; (try clear hb); (try clear hb2); (try clear hk); (try clear hi)))
        go_meet
        case rel => exact ⟨_, (x7_2), (t323), (t324), H', ⟨by have := HJ5.out; have := HK2.out; first | omega | exact Nat.le_refl _⟩, ⟨by (with_reducible repeat (first | apply rA | apply rN | apply rD)); exact HO_7.out⟩, ⟨by (with_reducible repeat (first | refine kN ?_ _ | refine kD ?_ | refine kA ?_ _)); exact BK310.out⟩, ⟨by repeat (first | (with_reducible first | exact HI0.out | apply IsS162.alloc | apply IsS162.drewN | apply IsS162.drew | apply IsS162.set_1 | apply IsS162.set_2 | refine IsS162.far ?_ NB0_310.out _) | exact HI0.out)⟩, ⟨by repeat (first | (with_reducible first | exact HK.out | apply KeepBut.set_ | apply keep_drewN | apply keep_drew | apply keep_alloc | refine keep_far ?_ GW310.out _) | exact HK.out)⟩, ⟨by repeat (first | (with_reducible first | exact HB.out | apply bA | apply bN | apply bE | refine bS ?_ (IsS162.ge HI0.out) | refine bS ?_ GE310.out) | exact HB.out)⟩⟩
       ·replace c23 := Bool.eq_false_iff.mpr c23
        subst c23
        have H1 : ((spec_l01Below.f s0_0 t323 t324 x9_5).bind fun bt325 => (if x7_2.length < 17592186044416 then (spec_l17Clear.l0 k2 (wrap64 (1 + t311)) (x7_2 ++ [bt325.1]) x8_5 x9_5 (wrap64 (x10_2 + 1)) s0_0 bt325.2.1 bt325.2.2) else (none))) = some (r1, r2, r3, r4) := by rw [if_neg (show ¬ (false = true) by decide)] at H; first | done | exact H
        clear H
        have H := H1
        clear H1
        replace H := oB.mp H
        obtain ⟨⟨t325, t326, t327⟩, A250, H⟩ := H
        replace H : (if x7_2.length < 17592186044416 then (spec_l17Clear.l0 k2 (wrap64 (1 + t311)) (x7_2 ++ [t325]) x8_5 x9_5 (wrap64 (x10_2 + 1)) s0_0 t326 t327) else (none)) = some (r1, r2, r3, r4) := H
        have A25 := aM A250
        clear A250
        by_cases c26 : x7_2.length < 17592186044416
        ·rw [if_pos c26] at H
         have LMc26 := aM c26
         clear c26
         obtain ⟨y328, hy328⟩ : ∃ y_ : List Int, y_ = (x7_2 ++ [t325]) := ⟨_, rfl⟩
         replace H : (spec_l17Clear.l0 k2 (wrap64 (1 + t311)) y328 x8_5 x9_5 (wrap64 (x10_2 + 1)) s0_0 t326 t327) = some (r1, r2, r3, r4) := by first | (rw [hy328]; with_reducible exact H) | (have H2_ := (Option.bind_some _ _).symm.trans H; rw [hy328]; with_reducible exact H2_) | (have H2_ := (Option.bind_some _ _).symm.trans H; with_reducible exact H2_) | with_reducible exact H | (rw [hy328]; exact H) | exact H
         have Ny328 := aM hy328
         clear hy328
         have H' := aM H
         clear H
         go_wp2_with (first | (go_at_call 143; (with_reducible refine (spec_l01Once.calls g s0_0 x1001_2 x1002_2 12 false t323 t324 w0 _ ?side1 ?side2 A22.out).mono ?_); (case side1 => repeat (first | (with_reducible first | exact HI0.out | apply IsS162.alloc | apply IsS162.drewN | apply IsS162.drew | apply IsS162.set_1 | apply IsS162.set_2 | refine IsS162.far ?_ NB0_310.out _) | exact HI0.out)); (case side2 => repeat (first | (with_reducible first | exact HB.out | apply bA | apply bN | apply bE | refine bS ?_ (IsS162.ge HI0.out) | refine bS ?_ GE310.out) | exact HB.out)); rintro e w27 ⟨rfl, hi, hb, hk⟩; have n0_ := aM (rM (Kd.R_keep (IsS162.apart (show IsS162 w0 _ g s0_0 x1001_2 x1002_2 from by repeat (first | (with_reducible first | exact HI0.out | apply IsS162.alloc | apply IsS162.drewN | apply IsS162.drew | apply IsS162.set_1 | apply IsS162.set_2 | refine IsS162.far ?_ NB0_310.out _) | exact HI0.out)) (by (with_reducible repeat (first | apply rA | apply rN | apply rD)); exact HO_7.out) (by decide)) hk (fun _ h => h.2)) (fun _ h => h.1)); have n1_ := aM (KeepBut.blk hk (g' := gb310) (o := .cells #[.int .i64 a1_0, .int .i64 a1_1, .int .i64 a1_2, .int .i64 a1_3, .bool a1_4] 39 (0, 0)) (by (with_reducible repeat (first | refine kN ?_ _ | refine kD ?_ | refine kA ?_ _)); exact BK310.out) NB310_0.out (by simp)); have n2_ := aM (KeepBut.trans (by repeat (first | (with_reducible first | exact HK.out | apply KeepBut.set_ | apply keep_drewN | apply keep_drew | apply keep_alloc | refine keep_far ?_ GW310.out _) | exact HK.out)) hk (.inl rfl)); have n3_ := aM (hb); have n4_ := aM (hi); clear HO_7; clear BK310; clear HK; clear HB; clear HI0; have HO_7 := n0_; have BK310 := n1_; have HK := n2_; have HB := n3_; have HI0 := n4_; clear n0_ n1_ n2_ n3_ n4_; (try clear hb); (try clear hb2); (try clear hk); (try clear hi)) | ((with_reducible refine gate_callee (f := 141) rfl ?_); refine goesL_ (some 43) rfl rfl Try.func141 (by kernel_rfl) rfl #[.pointer (some ⟨g, 0, none⟩), .int .i64 x9_5] rfl (by (try simp only [lM, List.map_cons, List.map_nil]); first | done | rfl | (simp only [lD, lT]; rfl)) ?_; (with_reducible refine (spec_l01Below.calls g s0_0 t323 t324 x9_5 t325 t326 t327 w0 _ ?side1 ?side2 A25.out).mono ?_); (case side1 => repeat (first | (with_reducible first | exact HI0.out | apply IsS162.alloc | apply IsS162.drewN | apply IsS162.drew | apply IsS162.set_1 | apply IsS162.set_2 | refine IsS162.far ?_ NB0_310.out _) | exact HI0.out)); (case side2 => repeat (first | (with_reducible first | exact HB.out | apply bA | apply bN | apply bE | refine bS ?_ (IsS162.ge HI0.out) | refine bS ?_ GE310.out) | exact HB.out)); rintro e w28 ⟨rfl, hi, hb, hk⟩; refine ⟨_, rfl, ?_⟩; have n0_ := aM (rM (Kd.R_keep (IsS162.apart (show IsS162 w0 _ g s0_0 t323 t324 from by repeat (first | (with_reducible first | exact HI0.out | apply IsS162.alloc | apply IsS162.drewN | apply IsS162.drew | apply IsS162.set_1 | apply IsS162.set_2 | refine IsS162.far ?_ NB0_310.out _) | exact HI0.out)) (by (with_reducible repeat (first | apply rA | apply rN | apply rD)); exact HO_7.out) (by decide)) hk (fun _ h => h.2)) (fun _ h => h.1)); have n1_ := aM (KeepBut.blk hk (g' := gb310) (o := .cells #[.int .i64 a1_0, .int .i64 a1_1, .int .i64 a1_2, .int .i64 a1_3, .bool a1_4] 39 (0, 0)) (by (with_reducible repeat (first | refine kN ?_ _ | refine kD ?_ | refine kA ?_ _)); exact BK310.out) NB310_0.out (by simp)); have n2_ := aM (KeepBut.trans (by repeat (first | (with_reducible first | exact HK.out | apply KeepBut.set_ | apply keep_drewN | apply keep_drew | apply keep_alloc | refine keep_far ?_ GW310.out _) | exact HK.out)) hk (.inl rfl)); have n3_ := aM (hb); have n4_ := aM (hi); clear HO_7; clear BK310; clear HK; clear HB; clear HI0; have HO_7 := n0_; have BK310 := n1_; have HK := n2_; have HB := n3_; have HI0 := n4_; clear n0_ n1_ n2_ n3_ n4_; (try clear hb); (try clear hb2); (try clear hk); (try clear hi)) | ((with_reducible refine gate_builtin (b := .append) (xs := #[.tmp 40, .tmp 44]) rfl ?_); at_builtin; refine Kd.R_append (Kd.int .i64) w.heap.size rfl (.tmp 40) (.tmp 44) 22 3 (.int .i64 0) 8 rfl Try.underlying22 info3 rfl (by decide) (by omega) u7 x7_2 t325 [.int .i64 t325] (fun _ => True) (fun _ => False) rfl rfl ?aP (fun _ hk => hk.elim) ?aF ?aO (Below.refl _ _) ?aS ?aL ?_; (case aP => exact rfl); (case aF => exact (fun _ _ => trivial)); (case aO => exact (by (with_reducible repeat (first | apply rA | apply rN | apply rD)); exact HO_7.out)); (case aS => exact (keep_size (w := w) (g := g) (row := none) (by repeat (first | (with_reducible first | exact HK.out | apply KeepBut.set_ | apply keep_drewN | apply keep_drew | apply keep_alloc | refine keep_far ?_ GW310.out _) | exact HK.out)))); (case aL => have := LMc26.out; omega); intro v329 w29 ho hb hg hat; rw [← Ny328.out] at ho; have n0_ := aM (blk_grown (g := gb310) (o := .cells #[.int .i64 a1_0, .int .i64 a1_1, .int .i64 a1_2, .int .i64 a1_3, .bool a1_4] 39 (0, 0)) (by (with_reducible repeat (first | refine kN ?_ _ | refine kD ?_ | refine kA ?_ _)); exact BK310.out) hg (Kd.R_ne HO_7.out BK310.out (by decide))); have n1_ := aM (IsS162.grown (by repeat (first | (with_reducible first | exact HI0.out | apply IsS162.alloc | apply IsS162.drewN | apply IsS162.drew | apply IsS162.set_1 | apply IsS162.set_2 | refine IsS162.far ?_ NB0_310.out _) | exact HI0.out)) hg (IsS162.own_ne HI0.out HO_7.out (by decide))); have n2_ := aM (below_weaken (by repeat (first | (with_reducible first | exact HB.out | apply bA | apply bN | apply bE | refine bS ?_ (IsS162.ge HI0.out) | refine bS ?_ GE310.out) | exact HB.out)) HL.out hb); have n3_ := aM (KeepBut.trans (by repeat (first | (with_reducible first | exact HK.out | apply KeepBut.set_ | apply keep_drewN | apply keep_drew | apply keep_alloc | refine keep_far ?_ GW310.out _) | exact HK.out)) (KeepBut.of_grown hg g) (Kd.R_base2 HO_7.out)); have n4_ := aM (ho); clear BK310; clear HI0; clear HB; clear HK; clear HO_7; have BK310 := n0_; have HI0 := n1_; have HB := n2_; have HK := n3_; have HO330 := n4_; clear n0_ n1_ n2_ n3_ n4_; clear ho hb hg hat))
         go_roundg k2
         case measure => have := HJ5.out; have := HK2.out; omega
         case rel => exact ⟨(y328), (wrap64 (x10_2 + 1)), (t326), (t327), (by first | rfl | (simp; done) | (simp [*]; done)), H', ⟨by have := HJ5.out; have := HK2.out; omega⟩, ⟨by (with_reducible repeat (first | apply rA | apply rN | apply rD)); exact HO330.out⟩, ⟨by (with_reducible repeat (first | refine kN ?_ _ | refine kD ?_ | refine kA ?_ _)); exact BK310.out⟩, ⟨by repeat (first | (with_reducible first | exact HI0.out | apply IsS162.alloc | apply IsS162.drewN | apply IsS162.drew | apply IsS162.set_1 | apply IsS162.set_2 | refine IsS162.far ?_ NB0_310.out _) | exact HI0.out)⟩, ⟨by repeat (first | (with_reducible first | exact HK.out | apply KeepBut.set_ | apply keep_drewN | apply keep_drew | apply keep_alloc | refine keep_far ?_ GW310.out _) | exact HK.out)⟩, ⟨by repeat (first | (with_reducible first | exact HB.out | apply bA | apply bN | apply bE | refine bS ?_ (IsS162.ge HI0.out) | refine bS ?_ GE310.out) | exact HB.out)⟩⟩
        ·rw [if_neg c26] at H
         exact absurd H (by simp)
      ·rw [if_neg c21] at H
       have c21b0 : decide (x10_2 < x8_5) = false := decide_eq_false c21
       clear c21
       (first | rw [c21b0] | (simp only [i64_w, i32_w]; rw [c21b0]) | skip)
       have H' := aM H
       clear H
       go_wp2
       go_meet
       case rel => exact ⟨_, (x7_2), (x1001_2), (x1002_2), H', ⟨by have := HJ5.out; have := HK2.out; first | omega | exact Nat.le_refl _⟩, ⟨by (with_reducible repeat (first | apply rA | apply rN | apply rD)); exact HO_7.out⟩, ⟨by (with_reducible repeat (first | refine kN ?_ _ | refine kD ?_ | refine kA ?_ _)); exact BK310.out⟩, ⟨by repeat (first | (with_reducible first | exact HI0.out | apply IsS162.alloc | apply IsS162.drewN | apply IsS162.drew | apply IsS162.set_1 | apply IsS162.set_2 | refine IsS162.far ?_ NB0_310.out _) | exact HI0.out)⟩, ⟨by repeat (first | (with_reducible first | exact HK.out | apply KeepBut.set_ | apply keep_drewN | apply keep_drew | apply keep_alloc | refine keep_far ?_ GW310.out _) | exact HK.out)⟩, ⟨by repeat (first | (with_reducible first | exact HB.out | apply bA | apply bN | apply bE | refine bS ?_ (IsS162.ge HI0.out) | refine bS ?_ GE310.out) | exact HB.out)⟩⟩
   case rest =>
    clear HC20
    try clear c1
    try clear c2
    try clear p2
    try clear c5
    try clear p6
    try clear c8
    try clear c9
    try clear c11
    try clear c14
    try clear c15
    try clear c15b0
    try clear c15b1
    try clear c16
    try clear c16b0
    try clear c16b1
    try clear c17
    try clear c17b0
    try clear c17b1
    try clear c21
    try clear c21b0
    try clear c23
    try clear c26
    try clear hcz12_0
    try clear hcz12_1
    try clear hcz12_2
    try clear hcz12_3
    try clear hcz12_4
    try clear hcz14_0
    try clear hcz14_1
    try clear hcz14_2
    try clear hcz14_3
    try clear hcz14_4
    try clear hfz12_0
    try clear hfz12_1
    try clear hfz12_2
    try clear hfz12_3
    try clear hfz12_4
    try clear hfz14_0
    try clear hfz14_1
    try clear hfz14_2
    try clear hfz14_3
    try clear hfz14_4
    try clear p2
    try clear p6
    obtain ⟨kq, x7_19, x1001_19, x1002_19, HA, HJ19, HO_7, BK310, HI0, HK, HB⟩ := hcut
    cases kq with
    | zero => exact absurd HA.out (by simp [spec_l17Clear.j2])
    | succ kj19 =>
     have H := HA.out
     clear HA
     simp only [spec_l17Clear.j2] at H
     replace H := oB.mp H
     obtain ⟨⟨t331, t332, t333⟩, A300, H⟩ := H
     try dsimp only at H
     have A30 := aM A300
     clear A300
     by_cases c31 : t331 = 0
     ·rw [if_pos c31] at H
      have c31b0 : (t331 == 0) = true := beq_iff_eq.mpr c31
      have c31b1 : (t331 != 0) = false := bne_eq_false_iff_eq.mpr c31
      clear c31
      by_cases c32 : x7_19.length < 17592186044416
      ·rw [if_pos c32] at H
       have LMc32 := aM c32
       clear c32
       obtain ⟨y334, hy334⟩ : ∃ y_ : List Int, y_ = (x7_19 ++ [0]) := ⟨_, rfl⟩
       replace H : (some ((wrap64 (1 + t311)), y334, t332, t333)) = some (r1, r2, r3, r4) := by first | (rw [hy334]; with_reducible exact H) | (have H2_ := (Option.bind_some _ _).symm.trans H; rw [hy334]; with_reducible exact H2_) | (have H2_ := (Option.bind_some _ _).symm.trans H; with_reducible exact H2_) | with_reducible exact H | (rw [hy334]; exact H) | exact H
       have Ny334 := aM hy334
       clear hy334
       simp only [Option.some.injEq, Prod.mk.injEq] at H
       obtain ⟨rfl, rfl, rfl, rfl⟩ := H
       go_wp2_with (first | ((with_reducible refine gate_callee (f := 141) rfl ?_); refine goesL_ (some 47) rfl rfl Try.func141 (by kernel_rfl) rfl #[.pointer (some ⟨g, 0, none⟩), .int .i64 20] rfl (by (try simp only [lM, List.map_cons, List.map_nil]); first | done | rfl | (simp only [lD, lT]; rfl)) ?_; (with_reducible refine (spec_l01Below.calls g s0_0 x1001_19 x1002_19 20 t331 t332 t333 w0 _ ?side1 ?side2 A30.out).mono ?_); (case side1 => repeat (first | (with_reducible first | exact HI0.out | apply IsS162.alloc | apply IsS162.drewN | apply IsS162.drew | apply IsS162.set_1 | apply IsS162.set_2 | refine IsS162.far ?_ NB0_310.out _) | exact HI0.out)); (case side2 => repeat (first | (with_reducible first | exact HB.out | apply bA | apply bN | apply bE | refine bS ?_ (IsS162.ge HI0.out) | refine bS ?_ GE310.out) | exact HB.out)); rintro e w33 ⟨rfl, hi, hb, hk⟩; refine ⟨_, rfl, ?_⟩; have n0_ := aM (rM (Kd.R_keep (IsS162.apart (show IsS162 w0 _ g s0_0 x1001_19 x1002_19 from by repeat (first | (with_reducible first | exact HI0.out | apply IsS162.alloc | apply IsS162.drewN | apply IsS162.drew | apply IsS162.set_1 | apply IsS162.set_2 | refine IsS162.far ?_ NB0_310.out _) | exact HI0.out)) (by (with_reducible repeat (first | apply rA | apply rN | apply rD)); exact HO_7.out) (by decide)) hk (fun _ h => h.2)) (fun _ h => h.1)); have n1_ := aM (KeepBut.blk hk (g' := gb310) (o := .cells #[.int .i64 a1_0, .int .i64 a1_1, .int .i64 a1_2, .int .i64 a1_3, .bool a1_4] 39 (0, 0)) (by (with_reducible repeat (first | refine kN ?_ _ | refine kD ?_ | refine kA ?_ _)); exact BK310.out) NB310_0.out (by simp)); have n2_ := aM (KeepBut.trans (by repeat (first | (with_reducible first | exact HK.out | apply KeepBut.set_ | apply keep_drewN | apply keep_drew | apply keep_alloc | refine keep_far ?_ GW310.out _) | exact HK.out)) hk (.inl rfl)); have n3_ := aM (hb); have n4_ := aM (hi); clear HO_7; clear BK310; clear HK; clear HB; clear HI0; have HO_7 := n0_; have BK310 := n1_; have HK := n2_; have HB := n3_; have HI0 := n4_; clear n0_ n1_ n2_ n3_ n4_; (try clear hb); (try clear hb2); (try clear hk); (try clear hi)) | ((with_reducible refine gate_builtin (b := .append) (xs := #[.tmp 50, .tmp 51]) rfl ?_); at_builtin; refine Kd.R_append (Kd.int .i64) w.heap.size rfl (.tmp 50) (.tmp 51) 22 3 (.int .i64 0) 8 rfl Try.underlying22 info3 rfl (by decide) (by omega) u7 x7_19 0 [.int .i64 0] (fun _ => True) (fun _ => False) rfl rfl ?aP (fun _ hk => hk.elim) ?aF ?aO (Below.refl _ _) ?aS ?aL ?_; (case aP => exact rfl); (case aF => exact (fun _ _ => trivial)); (case aO => exact (by (with_reducible repeat (first | apply rA | apply rN | apply rD)); exact HO_7.out)); (case aS => exact (keep_size (w := w) (g := g) (row := none) (by repeat (first | (with_reducible first | exact HK.out | apply KeepBut.set_ | apply keep_drewN | apply keep_drew | apply keep_alloc | refine keep_far ?_ GW310.out _) | exact HK.out)))); (case aL => have := LMc32.out; omega); intro v335 w34 ho hb hg hat; rw [← Ny334.out] at ho; have n0_ := aM (blk_grown (g := gb310) (o := .cells #[.int .i64 a1_0, .int .i64 a1_1, .int .i64 a1_2, .int .i64 a1_3, .bool a1_4] 39 (0, 0)) (by (with_reducible repeat (first | refine kN ?_ _ | refine kD ?_ | refine kA ?_ _)); exact BK310.out) hg (Kd.R_ne HO_7.out BK310.out (by decide))); have n1_ := aM (IsS162.grown (by repeat (first | (with_reducible first | exact HI0.out | apply IsS162.alloc | apply IsS162.drewN | apply IsS162.drew | apply IsS162.set_1 | apply IsS162.set_2 | refine IsS162.far ?_ NB0_310.out _) | exact HI0.out)) hg (IsS162.own_ne HI0.out HO_7.out (by decide))); have n2_ := aM (below_weaken (by repeat (first | (with_reducible first | exact HB.out | apply bA | apply bN | apply bE | refine bS ?_ (IsS162.ge HI0.out) | refine bS ?_ GE310.out) | exact HB.out)) HL.out hb); have n3_ := aM (KeepBut.trans (by repeat (first | (with_reducible first | exact HK.out | apply KeepBut.set_ | apply keep_drewN | apply keep_drew | apply keep_alloc | refine keep_far ?_ GW310.out _) | exact HK.out)) (KeepBut.of_grown hg g) (Kd.R_base2 HO_7.out)); have n4_ := aM (ho); clear BK310; clear HI0; clear HB; clear HK; clear HO_7; have BK310 := n0_; have HI0 := n1_; have HB := n2_; have HK := n3_; have HO336 := n4_; clear n0_ n1_ n2_ n3_ n4_; clear ho hb hg hat))
       go_ret2
       exact ⟨_, by first | rfl | (simp [errW_none, errW_some] <;> rfl) | (simp [*, errW_none, errW_some] <;> rfl), by (with_reducible repeat (first | apply rA | apply rN | apply rD)); exact HO336.out, by repeat (first | (with_reducible first | exact HI0.out | apply IsS162.alloc | apply IsS162.drewN | apply IsS162.drew | apply IsS162.set_1 | apply IsS162.set_2 | refine IsS162.far ?_ NB0_310.out _) | exact HI0.out), by repeat (first | (with_reducible first | exact HB.out | apply bA | apply bN | apply bE | refine bS ?_ (IsS162.ge HI0.out) | refine bS ?_ GE310.out) | exact HB.out), by repeat (first | (with_reducible first | exact HK.out | apply KeepBut.set_ | apply keep_drewN | apply keep_drew | apply keep_alloc | refine keep_far ?_ GW310.out _) | exact HK.out)⟩
      ·rw [if_neg c32] at H
       exact absurd H (by simp)
     ·rw [if_neg c31] at H
      have c31b0 : (t331 == 0) = false := beq_eq_false_iff_ne.mpr c31
      have c31b1 : (t331 != 0) = true := bne_iff_ne.mpr c31
      by_cases c35 : t331 = 1
      ·rw [if_pos c35] at H
       have c35b0 : (t331 == 1) = true := beq_iff_eq.mpr c35
       have c35b1 : (t331 != 1) = false := bne_eq_false_iff_eq.mpr c35
       clear c35
       by_cases c36 : (x7_19.length : Int) > 0
       ·rw [if_pos c36] at H
        have c36b0 : decide (0 < (x7_19.length : Int)) = true := decide_eq_true c36
        have c36b1 : decide (0 < x7_19.length) = true := decide_eq_true (by omega)
        clear c36
        obtain ⟨y337, hy337⟩ : ∃ y_ : List Int, y_ = (([(-1), x9_5] : List Int)) := ⟨_, rfl⟩
        replace H : ((spec_l01PickInt.f s0_0 t332 t333 y337).bind fun bt340 => (if 0 < (x7_19.length : Int) then (some ((wrap64 (1 + t311)), (x7_19.set (0 : Int).toNat bt340.1), bt340.2.1, bt340.2.2)) else (none))) = some (r1, r2, r3, r4) := by first | (rw [hy337]; with_reducible exact H) | (have H2_ := (Option.bind_some _ _).symm.trans H; rw [hy337]; with_reducible exact H2_) | (have H2_ := (Option.bind_some _ _).symm.trans H; with_reducible exact H2_) | with_reducible exact H | (rw [hy337]; exact H) | exact H
        have Ny337 := aM hy337
        clear hy337
        replace H := oB.mp H
        obtain ⟨⟨t340, t341, t342⟩, A370, H⟩ := H
        replace H : (if 0 < (x7_19.length : Int) then (some ((wrap64 (1 + t311)), (x7_19.set (0 : Int).toNat t340), t341, t342)) else (none)) = some (r1, r2, r3, r4) := H
        have A37 := aM A370
        clear A370
        by_cases c38 : 0 < (x7_19.length : Int)
        ·rw [if_pos c38] at H
         have c38b0 : decide (0 < (x7_19.length : Int)) = true := decide_eq_true c38
         have c38b1 : decide (0 < x7_19.length) = true := decide_eq_true (by omega)
         clear c38
         obtain ⟨y343, hy343⟩ : ∃ y_ : List Int, y_ = (x7_19.set (0 : Int).toNat t340) := ⟨_, rfl⟩
         replace H : (some ((wrap64 (1 + t311)), y343, t341, t342)) = some (r1, r2, r3, r4) := by first | (rw [hy343]; with_reducible exact H) | (have H2_ := (Option.bind_some _ _).symm.trans H; rw [hy343]; with_reducible exact H2_) | (have H2_ := (Option.bind_some _ _).symm.trans H; with_reducible exact H2_) | with_reducible exact H | (rw [hy343]; exact H) | exact H
         have Ny343 := aM hy343
         clear hy343
         simp only [Option.some.injEq, Prod.mk.injEq] at H
         obtain ⟨rfl, rfl, rfl, rfl⟩ := H
         go_wp2_with (first | ((with_reducible refine gate_callee (f := 141) rfl ?_); refine goesL_ (some 47) rfl rfl Try.func141 (by kernel_rfl) rfl #[.pointer (some ⟨g, 0, none⟩), .int .i64 20] rfl (by (try simp only [lM, List.map_cons, List.map_nil]); first | done | rfl | (simp only [lD, lT]; rfl)) ?_; (with_reducible refine (spec_l01Below.calls g s0_0 x1001_19 x1002_19 20 t331 t332 t333 w0 _ ?side1 ?side2 A30.out).mono ?_); (case side1 => repeat (first | (with_reducible first | exact HI0.out | apply IsS162.alloc | apply IsS162.drewN | apply IsS162.drew | apply IsS162.set_1 | apply IsS162.set_2 | refine IsS162.far ?_ NB0_310.out _) | exact HI0.out)); (case side2 => repeat (first | (with_reducible first | exact HB.out | apply bA | apply bN | apply bE | refine bS ?_ (IsS162.ge HI0.out) | refine bS ?_ GE310.out) | exact HB.out)); rintro e w40 ⟨rfl, hi, hb, hk⟩; refine ⟨_, rfl, ?_⟩; have n0_ := aM (rM (Kd.R_keep (IsS162.apart (show IsS162 w0 _ g s0_0 x1001_19 x1002_19 from by repeat (first | (with_reducible first | exact HI0.out | apply IsS162.alloc | apply IsS162.drewN | apply IsS162.drew | apply IsS162.set_1 | apply IsS162.set_2 | refine IsS162.far ?_ NB0_310.out _) | exact HI0.out)) (by (with_reducible repeat (first | apply rA | apply rN | apply rD)); exact HO_7.out) (by decide)) hk (fun _ h => h.2)) (fun _ h => h.1)); have n1_ := aM (KeepBut.blk hk (g' := gb310) (o := .cells #[.int .i64 a1_0, .int .i64 a1_1, .int .i64 a1_2, .int .i64 a1_3, .bool a1_4] 39 (0, 0)) (by (with_reducible repeat (first | refine kN ?_ _ | refine kD ?_ | refine kA ?_ _)); exact BK310.out) NB310_0.out (by simp)); have n2_ := aM (KeepBut.trans (by repeat (first | (with_reducible first | exact HK.out | apply KeepBut.set_ | apply keep_drewN | apply keep_drew | apply keep_alloc | refine keep_far ?_ GW310.out _) | exact HK.out)) hk (.inl rfl)); have n3_ := aM (hb); have n4_ := aM (hi); clear HO_7; clear BK310; clear HK; clear HB; clear HI0; have HO_7 := n0_; have BK310 := n1_; have HK := n2_; have HB := n3_; have HI0 := n4_; clear n0_ n1_ n2_ n3_ n4_; (try clear hb); (try clear hb2); (try clear hk); (try clear hi); obtain ⟨Ao41, co41, eo41⟩ := Kd.R_slice HO_7.out; subst eo41) | ((with_reducible refine gate_dst (N := 61) rfl ?_); refine Kd.R_lit (Kd.int .i64) _ 3 ?hg (N := 61) ?hd (xs := ([(-1), x9_5] : List Int)) (inner := [.int .i64 (-1), .int .i64 x9_5]) (ok := fun _ => True) (okp := fun _ => True) ?hr ?hp (fun _ hk => hk) trivial (Below.refl _ _) (Nat.le_refl _) (by simp) ?_; (case hd => rfl); (case hg => rfl); (case hr => first | (go_simp; done) | (go_simp; rfl)); (case hp => exact (Reps.one (show Kd.M (Kd.int .i64) _ _ _ (-1) [.int .i64 (-1)] from rfl) (Reps.one (show Kd.M (Kd.int .i64) _ _ _ x9_5 [.int .i64 x9_5] from rfl) (Reps.none _ _)))); intro v338 w42 ho43 hb hg_ hnew_; clear hg_ hnew_; (first | rw [← Ny337.out] at ho43 | (simp only [Int.reduceToNat] at ho43; rw [← Ny337.out] at ho43)); have n0_ := aM (Kd.R_elder' (by (with_reducible repeat (first | apply rA | apply rN | apply rD)); exact HO_7.out) (Kd.R_base ho43) hb); have n1_ := aM (Kd.R_lower (Kd.R_new' ho43 (Kd.R_lt (by (with_reducible repeat (first | apply rA | apply rN | apply rD)); exact HO_7.out))) (keep_size (w := w) (g := g) (row := none) (by repeat (first | (with_reducible first | exact HK.out | apply KeepBut.set_ | apply keep_drewN | apply keep_drew | apply keep_alloc | refine keep_far ?_ GW310.out _) | exact HK.out)))); have n2_ := aM (kB (g := gb310) (o := .cells #[.int .i64 a1_0, .int .i64 a1_1, .int .i64 a1_2, .int .i64 a1_3, .bool a1_4] 39 (0, 0)) (by (with_reducible repeat (first | refine kN ?_ _ | refine kD ?_ | refine kA ?_ _)); exact BK310.out) hb); have n3_ := aM (IsS162.below (by repeat (first | (with_reducible first | exact HI0.out | apply IsS162.alloc | apply IsS162.drewN | apply IsS162.drew | apply IsS162.set_1 | apply IsS162.set_2 | refine IsS162.far ?_ NB0_310.out _) | exact HI0.out)) hb); have n4_ := aM (KeepBut.trans (by repeat (first | (with_reducible first | exact HK.out | apply KeepBut.set_ | apply keep_drewN | apply keep_drew | apply keep_alloc | refine keep_far ?_ GW310.out _) | exact HK.out)) (KeepBut.of_below hb g none) (.inl rfl)); have n5_ := aM (bT (by repeat (first | (with_reducible first | exact HB.out | apply bA | apply bN | apply bE | refine bS ?_ (IsS162.ge HI0.out) | refine bS ?_ GE310.out) | exact HB.out)) hb); clear HO_7; clear BK310; clear HI0; clear HK; clear HB; have HO_7 := n0_; have HO339 := n1_; have BK310 := n2_; have HI0 := n3_; have HK := n4_; have HB := n5_; clear n0_ n1_ n2_ n3_ n4_ n5_; clear hb ho43; obtain ⟨Ao44, co44, eo44⟩ := Kd.R_slice HO339.out; subst eo44) | ((with_reducible refine gate_callee (f := 145) rfl ?_); refine goesL_ (some 62) rfl rfl Try.func145 (by kernel_rfl) rfl #[.pointer (some ⟨g, 0, none⟩), .slice Ao44 y337.length co44] rfl (by (try simp only [lM, List.map_cons, List.map_nil]); first | done | rfl | (simp only [lD, lT]; rfl)) ?_; (with_reducible refine (spec_l01PickInt.calls g s0_0 t332 t333 _ _ y337 t340 t341 t342 w0 _ ?side1 ?side2 ?side3 ?side4 ?side5 A37.out).mono ?_); (case side1 => repeat (first | (with_reducible first | exact HI0.out | apply IsS162.alloc | apply IsS162.drewN | apply IsS162.drew | apply IsS162.set_1 | apply IsS162.set_2 | refine IsS162.far ?_ NB0_310.out _) | exact HI0.out)); (case side2 => repeat (first | (with_reducible first | exact HB.out | apply bA | apply bN | apply bE | refine bS ?_ (IsS162.ge HI0.out) | refine bS ?_ GE310.out) | exact HB.out)); (case side3 => repeat (first | exact (Kd.R_reads' HO339.out).2.2 | (with_reducible refine cA ?_ _) | (with_reducible refine cN ?_ _) | (with_reducible refine cD ?_))); (case side4 => exact (Kd.R_reads' HO339.out).2.1); (case side5 => exact far_slice (IsS162.own_ne HI0.out HO339.out (by decide))); rintro e w45 ⟨rfl, hi, hb, hk⟩; refine ⟨_, rfl, ?_⟩; have n0_ := aM (rM (Kd.R_keep (IsS162.apart (show IsS162 w0 _ g s0_0 t332 t333 from by repeat (first | (with_reducible first | exact HI0.out | apply IsS162.alloc | apply IsS162.drewN | apply IsS162.drew | apply IsS162.set_1 | apply IsS162.set_2 | refine IsS162.far ?_ NB0_310.out _) | exact HI0.out)) (by (with_reducible repeat (first | apply rA | apply rN | apply rD)); exact HO_7.out) (by decide)) hk (fun _ h => h.2)) (fun _ h => h.1)); have n1_ := aM (KeepBut.blk hk (g' := gb310) (o := .cells #[.int .i64 a1_0, .int .i64 a1_1, .int .i64 a1_2, .int .i64 a1_3, .bool a1_4] 39 (0, 0)) (by (with_reducible repeat (first | refine kN ?_ _ | refine kD ?_ | refine kA ?_ _)); exact BK310.out) NB310_0.out (by simp)); have n2_ := aM (rM (Kd.R_keep (IsS162.apart (show IsS162 w0 _ g s0_0 t332 t333 from by repeat (first | (with_reducible first | exact HI0.out | apply IsS162.alloc | apply IsS162.drewN | apply IsS162.drew | apply IsS162.set_1 | apply IsS162.set_2 | refine IsS162.far ?_ NB0_310.out _) | exact HI0.out)) (by (with_reducible repeat (first | apply rA | apply rN | apply rD)); exact HO339.out) (by decide)) hk (fun _ h => h.2)) (fun _ h => h.1)); have n3_ := aM (KeepBut.trans (by repeat (first | (with_reducible first | exact HK.out | apply KeepBut.set_ | apply keep_drewN | apply keep_drew | apply keep_alloc | refine keep_far ?_ GW310.out _) | exact HK.out)) hk (.inl rfl)); have n4_ := aM (hb); have n5_ := aM (hi); clear HO_7; clear BK310; clear HO339; clear HK; clear HB; clear HI0; have HO_7 := n0_; have BK310 := n1_; have HO339 := n2_; have HK := n3_; have HB := n4_; have HI0 := n5_; clear n0_ n1_ n2_ n3_ n4_ n5_; (try clear hb); (try clear hb2); (try clear hk); (try clear hi); have p39 : 0 ≤ (0 : Int) := (by omega); have q39 : (0 : Int) < ((x7_19.length : Int) : Int) := oD (by first | (with_reducible assumption) | assumption); have qi39 : (0 < x7_19.length) = True := eq_true (by omega); obtain ⟨go39, co39, eo39, gb39, gl39, cl39, HG39⟩ := Kd.R_form HO_7.out (by omega); (first | cases eo39 | (injection eo39 with ea_ en_ ec_; (first | subst ea_ | (injection ea_ with ea_; subst ea_)); subst ec_; clear en_)); have GB39 := aM gb39; have GG39 := aM HG39; clear gb39 gl39 HG39; obtain ⟨hx39_0, hf39_0⟩ := Kd.R_celln 0 HO_7.out (0 : Int) p39 q39; (try rw [show ((0 : Int)).toNat = 0 from rfl] at hx39_0); (try simp only [Nat.reduceMul, Nat.zero_mul, Nat.zero_add, Nat.reduceAdd] at hx39_0); (try rw [show ((0 : Int)).toNat = 0 from rfl] at hf39_0); (try simp only [Nat.reduceMul, Nat.zero_mul, Nat.zero_add, Nat.reduceAdd] at hf39_0); replace p39 := eq_true p39; replace q39 := eq_true q39; have n_ := aM (rM (ok' := (fun k_ => some k_ ≠ (.slice Ao44 y337.length co44 : Value).ownBlock)) HO_7.out (fun k_ hk => hk.2)); clear HO_7; have HO_7 := n_; clear n_; obtain ⟨hy46_, hz46_⟩ := Kd.R_celln 0 HO_7.out (0 : Int) (by omega) (oD (by first | (with_reducible assumption) | assumption)); (try simp only [Int.reduceToNat, Int.toNat_zero, Int.toNat_ofNat, Nat.reduceMul, Nat.zero_mul, Nat.zero_add] at hy46_ hz46_); (try rw [show ((0 : Int)).toNat = 0 from rfl] at hy46_); (try rw [show ((0 : Int)).toNat = 0 from rfl] at hz46_); have HP46 := Kd.R_putg HO_7.out (0 : Int) t340) | ((with_reducible refine gate_store (t := 3) (p := 63) rfl ?_); refine store_event (t := 3) (p := 63) (v := ?vo_w47) (w1 := (w45.setCell ⟨go39, (0 : Int).toNat, none⟩ (.int .i64 t340))) ?hg ?ho ?hn ?hr ?_; (case ho => rfl); (case hg => rfl); (case hn => rfl); (case hr => first | (go_simp; done) | (go_simp; rfl)); intro w47 hw; have hg : w45.grownBy w47 (some go39) := (by rw [hw]; exact HP46.2); have hp_ : Kd.R (Kd.int .i64) 3 w47 w.heap.size (fun k_ => some k_ ≠ (.slice Ao44 y337.length co44 : Value).ownBlock) (.slice (some ⟨go39, 0, none⟩) x7_19.length co41) y343 := (by rw [hw, Ny343.out]; exact HP46.1); clear HP46; have n0_ := aM (hp_); have n1_ := aM (blk_grown (g := gb310) (o := .cells #[.int .i64 a1_0, .int .i64 a1_1, .int .i64 a1_2, .int .i64 a1_3, .bool a1_4] 39 (0, 0)) (by (with_reducible repeat (first | refine kN ?_ _ | refine kD ?_ | refine kA ?_ _)); exact BK310.out) hg (Kd.R_ne HO_7.out BK310.out (by decide))); have n2_ := aM (IsS162.grown (by repeat (first | (with_reducible first | exact HI0.out | apply IsS162.alloc | apply IsS162.drewN | apply IsS162.drew | apply IsS162.set_1 | apply IsS162.set_2 | refine IsS162.far ?_ NB0_310.out _) | exact HI0.out)) hg (IsS162.own_ne HI0.out HO_7.out (by decide))); have n3_ := aM (Kd.R_after (v := (.slice (some ⟨go39, 0, none⟩) x7_19.length co41)) (v1 := (.slice (some ⟨go39, 0, none⟩) x7_19.length co41)) (ok := (fun _ => True)) (by (with_reducible repeat (first | apply rA | apply rN | apply rD)); exact HO339.out) hg (.inl rfl)); have n4_ := aM ((by rw [hw]; exact bS (HB.out) (Nat.le_trans HL.out GB39.out) : Below w0.heap.size w0 w47)); have n5_ := aM (KeepBut.trans (by repeat (first | (with_reducible first | exact HK.out | apply KeepBut.set_ | apply keep_drewN | apply keep_drew | apply keep_alloc | refine keep_far ?_ GW310.out _) | exact HK.out)) (KeepBut.of_grown hg g) (Kd.R_base2 HO_7.out)); clear HO_7; clear BK310; clear HI0; clear HO339; clear HB; clear HK; have HO_7 := n0_; have BK310 := n1_; have HI0 := n2_; have HO339 := n3_; have HB := n4_; have HK := n5_; clear n0_ n1_ n2_ n3_ n4_ n5_; clear hg hw hp_))
         go_ret2
         exact ⟨_, by first | rfl | (simp [errW_none, errW_some] <;> rfl) | (simp [*, errW_none, errW_some] <;> rfl), by (with_reducible repeat (first | apply rA | apply rN | apply rD)); exact rM HO_7.out (fun _ hk => trivial), by repeat (first | (with_reducible first | exact HI0.out | apply IsS162.alloc | apply IsS162.drewN | apply IsS162.drew | apply IsS162.set_1 | apply IsS162.set_2 | refine IsS162.far ?_ NB0_310.out _) | exact HI0.out), by repeat (first | (with_reducible first | exact HB.out | apply bA | apply bN | apply bE | refine bS ?_ (IsS162.ge HI0.out) | refine bS ?_ GE310.out) | exact HB.out), by repeat (first | (with_reducible first | exact HK.out | apply KeepBut.set_ | apply keep_drewN | apply keep_drew | apply keep_alloc | refine keep_far ?_ GW310.out _) | exact HK.out)⟩
        ·rw [if_neg c38] at H
         exact absurd H (by simp)
       ·rw [if_neg c36] at H
        have c36b0 : decide (0 < (x7_19.length : Int)) = false := decide_eq_false c36
        have c36b1 : decide (0 < x7_19.length) = false := decide_eq_false (by omega)
        clear c36
        simp only [Option.some.injEq, Prod.mk.injEq] at H
        obtain ⟨rfl, rfl, rfl, rfl⟩ := H
        go_wp2_with (first | ((with_reducible refine gate_callee (f := 141) rfl ?_); refine goesL_ (some 47) rfl rfl Try.func141 (by kernel_rfl) rfl #[.pointer (some ⟨g, 0, none⟩), .int .i64 20] rfl (by (try simp only [lM, List.map_cons, List.map_nil]); first | done | rfl | (simp only [lD, lT]; rfl)) ?_; (with_reducible refine (spec_l01Below.calls g s0_0 x1001_19 x1002_19 20 t331 t332 t333 w0 _ ?side1 ?side2 A30.out).mono ?_); (case side1 => repeat (first | (with_reducible first | exact HI0.out | apply IsS162.alloc | apply IsS162.drewN | apply IsS162.drew | apply IsS162.set_1 | apply IsS162.set_2 | refine IsS162.far ?_ NB0_310.out _) | exact HI0.out)); (case side2 => repeat (first | (with_reducible first | exact HB.out | apply bA | apply bN | apply bE | refine bS ?_ (IsS162.ge HI0.out) | refine bS ?_ GE310.out) | exact HB.out)); rintro e w48 ⟨rfl, hi, hb, hk⟩; refine ⟨_, rfl, ?_⟩; have n0_ := aM (rM (Kd.R_keep (IsS162.apart (show IsS162 w0 _ g s0_0 x1001_19 x1002_19 from by repeat (first | (with_reducible first | exact HI0.out | apply IsS162.alloc | apply IsS162.drewN | apply IsS162.drew | apply IsS162.set_1 | apply IsS162.set_2 | refine IsS162.far ?_ NB0_310.out _) | exact HI0.out)) (by (with_reducible repeat (first | apply rA | apply rN | apply rD)); exact HO_7.out) (by decide)) hk (fun _ h => h.2)) (fun _ h => h.1)); have n1_ := aM (KeepBut.blk hk (g' := gb310) (o := .cells #[.int .i64 a1_0, .int .i64 a1_1, .int .i64 a1_2, .int .i64 a1_3, .bool a1_4] 39 (0, 0)) (by (with_reducible repeat (first | refine kN ?_ _ | refine kD ?_ | refine kA ?_ _)); exact BK310.out) NB310_0.out (by simp)); have n2_ := aM (KeepBut.trans (by repeat (first | (with_reducible first | exact HK.out | apply KeepBut.set_ | apply keep_drewN | apply keep_drew | apply keep_alloc | refine keep_far ?_ GW310.out _) | exact HK.out)) hk (.inl rfl)); have n3_ := aM (hb); have n4_ := aM (hi); clear HO_7; clear BK310; clear HK; clear HB; clear HI0; have HO_7 := n0_; have BK310 := n1_; have HK := n2_; have HB := n3_; have HI0 := n4_; clear n0_ n1_ n2_ n3_ n4_; (try clear hb); (try clear hb2); (try clear hk); (try clear hi); obtain ⟨Ao49, co49, eo49⟩ := Kd.R_slice HO_7.out; subst eo49))
        go_ret2
        exact ⟨_, by first | rfl | (simp [errW_none, errW_some] <;> rfl) | (simp [*, errW_none, errW_some] <;> rfl), by (with_reducible repeat (first | apply rA | apply rN | apply rD)); exact HO_7.out, by repeat (first | (with_reducible first | exact HI0.out | apply IsS162.alloc | apply IsS162.drewN | apply IsS162.drew | apply IsS162.set_1 | apply IsS162.set_2 | refine IsS162.far ?_ NB0_310.out _) | exact HI0.out), by repeat (first | (with_reducible first | exact HB.out | apply bA | apply bN | apply bE | refine bS ?_ (IsS162.ge HI0.out) | refine bS ?_ GE310.out) | exact HB.out), by repeat (first | (with_reducible first | exact HK.out | apply KeepBut.set_ | apply keep_drewN | apply keep_drew | apply keep_alloc | refine keep_far ?_ GW310.out _) | exact HK.out)⟩
      ·rw [if_neg c35] at H
       have c35b0 : (t331 == 1) = false := beq_eq_false_iff_ne.mpr c35
       have c35b1 : (t331 != 1) = true := bne_iff_ne.mpr c35
       by_cases c50 : t331 = 2
       ·rw [if_pos c50] at H
        have c50b0 : (t331 == 2) = true := beq_iff_eq.mpr c50
        have c50b1 : (t331 != 2) = false := bne_eq_false_iff_eq.mpr c50
        clear c50
        obtain ⟨y344, hy344⟩ : ∃ y_ : List Int, y_ = (([(-1), 0, 256] : List Int)) := ⟨_, rfl⟩
        replace H : ((spec_l01PickInt.f s0_0 t332 t333 y344).bind fun bt347 => (some (bt347.1, x7_19, bt347.2.1, bt347.2.2))) = some (r1, r2, r3, r4) := by first | (rw [hy344]; with_reducible exact H) | (have H2_ := (Option.bind_some _ _).symm.trans H; rw [hy344]; with_reducible exact H2_) | (have H2_ := (Option.bind_some _ _).symm.trans H; with_reducible exact H2_) | with_reducible exact H | (rw [hy344]; exact H) | exact H
        have Ny344 := aM hy344
        clear hy344
        replace H := oB.mp H
        obtain ⟨⟨t347, t348, t349⟩, A510, H⟩ := H
        replace H : (some (t347, x7_19, t348, t349)) = some (r1, r2, r3, r4) := H
        have A51 := aM A510
        clear A510
        simp only [Option.some.injEq, Prod.mk.injEq] at H
        obtain ⟨rfl, rfl, rfl, rfl⟩ := H
        go_wp2_with (first | ((with_reducible refine gate_callee (f := 141) rfl ?_); refine goesL_ (some 47) rfl rfl Try.func141 (by kernel_rfl) rfl #[.pointer (some ⟨g, 0, none⟩), .int .i64 20] rfl (by (try simp only [lM, List.map_cons, List.map_nil]); first | done | rfl | (simp only [lD, lT]; rfl)) ?_; (with_reducible refine (spec_l01Below.calls g s0_0 x1001_19 x1002_19 20 t331 t332 t333 w0 _ ?side1 ?side2 A30.out).mono ?_); (case side1 => repeat (first | (with_reducible first | exact HI0.out | apply IsS162.alloc | apply IsS162.drewN | apply IsS162.drew | apply IsS162.set_1 | apply IsS162.set_2 | refine IsS162.far ?_ NB0_310.out _) | exact HI0.out)); (case side2 => repeat (first | (with_reducible first | exact HB.out | apply bA | apply bN | apply bE | refine bS ?_ (IsS162.ge HI0.out) | refine bS ?_ GE310.out) | exact HB.out)); rintro e w52 ⟨rfl, hi, hb, hk⟩; refine ⟨_, rfl, ?_⟩; have n0_ := aM (rM (Kd.R_keep (IsS162.apart (show IsS162 w0 _ g s0_0 x1001_19 x1002_19 from by repeat (first | (with_reducible first | exact HI0.out | apply IsS162.alloc | apply IsS162.drewN | apply IsS162.drew | apply IsS162.set_1 | apply IsS162.set_2 | refine IsS162.far ?_ NB0_310.out _) | exact HI0.out)) (by (with_reducible repeat (first | apply rA | apply rN | apply rD)); exact HO_7.out) (by decide)) hk (fun _ h => h.2)) (fun _ h => h.1)); have n1_ := aM (KeepBut.blk hk (g' := gb310) (o := .cells #[.int .i64 a1_0, .int .i64 a1_1, .int .i64 a1_2, .int .i64 a1_3, .bool a1_4] 39 (0, 0)) (by (with_reducible repeat (first | refine kN ?_ _ | refine kD ?_ | refine kA ?_ _)); exact BK310.out) NB310_0.out (by simp)); have n2_ := aM (KeepBut.trans (by repeat (first | (with_reducible first | exact HK.out | apply KeepBut.set_ | apply keep_drewN | apply keep_drew | apply keep_alloc | refine keep_far ?_ GW310.out _) | exact HK.out)) hk (.inl rfl)); have n3_ := aM (hb); have n4_ := aM (hi); clear HO_7; clear BK310; clear HK; clear HB; clear HI0; have HO_7 := n0_; have BK310 := n1_; have HK := n2_; have HB := n3_; have HI0 := n4_; clear n0_ n1_ n2_ n3_ n4_; (try clear hb); (try clear hb2); (try clear hk); (try clear hi)) | ((with_reducible refine gate_dst (N := 67) rfl ?_); refine Kd.R_lit (Kd.int .i64) _ 3 ?hg (N := 67) ?hd (xs := ([(-1), 0, 256] : List Int)) (inner := [.int .i64 (-1), .int .i64 0, .int .i64 256]) (ok := fun _ => True) (okp := fun _ => True) ?hr ?hp (fun _ hk => hk) trivial (Below.refl _ _) (Nat.le_refl _) (by simp) ?_; (case hd => rfl); (case hg => rfl); (case hr => first | (go_simp; done) | (go_simp; rfl)); (case hp => exact (Reps.one (show Kd.M (Kd.int .i64) _ _ _ (-1) [.int .i64 (-1)] from rfl) (Reps.one (show Kd.M (Kd.int .i64) _ _ _ 0 [.int .i64 0] from rfl) (Reps.one (show Kd.M (Kd.int .i64) _ _ _ 256 [.int .i64 256] from rfl) (Reps.none _ _))))); intro v345 w53 ho54 hb hg_ hnew_; clear hg_ hnew_; (first | rw [← Ny344.out] at ho54 | (simp only [Int.reduceToNat] at ho54; rw [← Ny344.out] at ho54)); have n0_ := aM (Kd.R_elder' (by (with_reducible repeat (first | apply rA | apply rN | apply rD)); exact HO_7.out) (Kd.R_base ho54) hb); have n1_ := aM (Kd.R_lower (Kd.R_new' ho54 (Kd.R_lt (by (with_reducible repeat (first | apply rA | apply rN | apply rD)); exact HO_7.out))) (keep_size (w := w) (g := g) (row := none) (by repeat (first | (with_reducible first | exact HK.out | apply KeepBut.set_ | apply keep_drewN | apply keep_drew | apply keep_alloc | refine keep_far ?_ GW310.out _) | exact HK.out)))); have n2_ := aM (kB (g := gb310) (o := .cells #[.int .i64 a1_0, .int .i64 a1_1, .int .i64 a1_2, .int .i64 a1_3, .bool a1_4] 39 (0, 0)) (by (with_reducible repeat (first | refine kN ?_ _ | refine kD ?_ | refine kA ?_ _)); exact BK310.out) hb); have n3_ := aM (IsS162.below (by repeat (first | (with_reducible first | exact HI0.out | apply IsS162.alloc | apply IsS162.drewN | apply IsS162.drew | apply IsS162.set_1 | apply IsS162.set_2 | refine IsS162.far ?_ NB0_310.out _) | exact HI0.out)) hb); have n4_ := aM (KeepBut.trans (by repeat (first | (with_reducible first | exact HK.out | apply KeepBut.set_ | apply keep_drewN | apply keep_drew | apply keep_alloc | refine keep_far ?_ GW310.out _) | exact HK.out)) (KeepBut.of_below hb g none) (.inl rfl)); have n5_ := aM (bT (by repeat (first | (with_reducible first | exact HB.out | apply bA | apply bN | apply bE | refine bS ?_ (IsS162.ge HI0.out) | refine bS ?_ GE310.out) | exact HB.out)) hb); clear HO_7; clear BK310; clear HI0; clear HK; clear HB; have HO_7 := n0_; have HO346 := n1_; have BK310 := n2_; have HI0 := n3_; have HK := n4_; have HB := n5_; clear n0_ n1_ n2_ n3_ n4_ n5_; clear hb ho54; obtain ⟨Ao55, co55, eo55⟩ := Kd.R_slice HO346.out; subst eo55) | ((with_reducible refine gate_callee (f := 145) rfl ?_); refine goesL_ (some 68) rfl rfl Try.func145 (by kernel_rfl) rfl #[.pointer (some ⟨g, 0, none⟩), .slice Ao55 y344.length co55] rfl (by (try simp only [lM, List.map_cons, List.map_nil]); first | done | rfl | (simp only [lD, lT]; rfl)) ?_; (with_reducible refine (spec_l01PickInt.calls g s0_0 t332 t333 _ _ y344 t347 t348 t349 w0 _ ?side1 ?side2 ?side3 ?side4 ?side5 A51.out).mono ?_); (case side1 => repeat (first | (with_reducible first | exact HI0.out | apply IsS162.alloc | apply IsS162.drewN | apply IsS162.drew | apply IsS162.set_1 | apply IsS162.set_2 | refine IsS162.far ?_ NB0_310.out _) | exact HI0.out)); (case side2 => repeat (first | (with_reducible first | exact HB.out | apply bA | apply bN | apply bE | refine bS ?_ (IsS162.ge HI0.out) | refine bS ?_ GE310.out) | exact HB.out)); (case side3 => repeat (first | exact (Kd.R_reads' HO346.out).2.2 | (with_reducible refine cA ?_ _) | (with_reducible refine cN ?_ _) | (with_reducible refine cD ?_))); (case side4 => exact (Kd.R_reads' HO346.out).2.1); (case side5 => exact far_slice (IsS162.own_ne HI0.out HO346.out (by decide))); rintro e w56 ⟨rfl, hi, hb, hk⟩; refine ⟨_, rfl, ?_⟩; have n0_ := aM (rM (Kd.R_keep (IsS162.apart (show IsS162 w0 _ g s0_0 t332 t333 from by repeat (first | (with_reducible first | exact HI0.out | apply IsS162.alloc | apply IsS162.drewN | apply IsS162.drew | apply IsS162.set_1 | apply IsS162.set_2 | refine IsS162.far ?_ NB0_310.out _) | exact HI0.out)) (by (with_reducible repeat (first | apply rA | apply rN | apply rD)); exact HO_7.out) (by decide)) hk (fun _ h => h.2)) (fun _ h => h.1)); have n1_ := aM (KeepBut.blk hk (g' := gb310) (o := .cells #[.int .i64 a1_0, .int .i64 a1_1, .int .i64 a1_2, .int .i64 a1_3, .bool a1_4] 39 (0, 0)) (by (with_reducible repeat (first | refine kN ?_ _ | refine kD ?_ | refine kA ?_ _)); exact BK310.out) NB310_0.out (by simp)); have n2_ := aM (rM (Kd.R_keep (IsS162.apart (show IsS162 w0 _ g s0_0 t332 t333 from by repeat (first | (with_reducible first | exact HI0.out | apply IsS162.alloc | apply IsS162.drewN | apply IsS162.drew | apply IsS162.set_1 | apply IsS162.set_2 | refine IsS162.far ?_ NB0_310.out _) | exact HI0.out)) (by (with_reducible repeat (first | apply rA | apply rN | apply rD)); exact HO346.out) (by decide)) hk (fun _ h => h.2)) (fun _ h => h.1)); have n3_ := aM (KeepBut.trans (by repeat (first | (with_reducible first | exact HK.out | apply KeepBut.set_ | apply keep_drewN | apply keep_drew | apply keep_alloc | refine keep_far ?_ GW310.out _) | exact HK.out)) hk (.inl rfl)); have n4_ := aM (hb); have n5_ := aM (hi); clear HO_7; clear BK310; clear HO346; clear HK; clear HB; clear HI0; have HO_7 := n0_; have BK310 := n1_; have HO346 := n2_; have HK := n3_; have HB := n4_; have HI0 := n5_; clear n0_ n1_ n2_ n3_ n4_ n5_; (try clear hb); (try clear hb2); (try clear hk); (try clear hi)))
        go_ret2
        exact ⟨_, by first | rfl | (simp [errW_none, errW_some] <;> rfl) | (simp [*, errW_none, errW_some] <;> rfl), by (with_reducible repeat (first | apply rA | apply rN | apply rD)); exact rM HO_7.out (fun _ hk => trivial), by repeat (first | (with_reducible first | exact HI0.out | apply IsS162.alloc | apply IsS162.drewN | apply IsS162.drew | apply IsS162.set_1 | apply IsS162.set_2 | refine IsS162.far ?_ NB0_310.out _) | exact HI0.out), by repeat (first | (with_reducible first | exact HB.out | apply bA | apply bN | apply bE | refine bS ?_ (IsS162.ge HI0.out) | refine bS ?_ GE310.out) | exact HB.out), by repeat (first | (with_reducible first | exact HK.out | apply KeepBut.set_ | apply keep_drewN | apply keep_drew | apply keep_alloc | refine keep_far ?_ GW310.out _) | exact HK.out)⟩
       ·rw [if_neg c50] at H
        have c50b0 : (t331 == 2) = false := beq_eq_false_iff_ne.mpr c50
        have c50b1 : (t331 != 2) = true := bne_iff_ne.mpr c50
        simp only [Option.some.injEq, Prod.mk.injEq] at H
        obtain ⟨rfl, rfl, rfl, rfl⟩ := H
        go_wp2_with (first | ((with_reducible refine gate_callee (f := 141) rfl ?_); refine goesL_ (some 47) rfl rfl Try.func141 (by kernel_rfl) rfl #[.pointer (some ⟨g, 0, none⟩), .int .i64 20] rfl (by (try simp only [lM, List.map_cons, List.map_nil]); first | done | rfl | (simp only [lD, lT]; rfl)) ?_; (with_reducible refine (spec_l01Below.calls g s0_0 x1001_19 x1002_19 20 t331 t332 t333 w0 _ ?side1 ?side2 A30.out).mono ?_); (case side1 => repeat (first | (with_reducible first | exact HI0.out | apply IsS162.alloc | apply IsS162.drewN | apply IsS162.drew | apply IsS162.set_1 | apply IsS162.set_2 | refine IsS162.far ?_ NB0_310.out _) | exact HI0.out)); (case side2 => repeat (first | (with_reducible first | exact HB.out | apply bA | apply bN | apply bE | refine bS ?_ (IsS162.ge HI0.out) | refine bS ?_ GE310.out) | exact HB.out)); rintro e w57 ⟨rfl, hi, hb, hk⟩; refine ⟨_, rfl, ?_⟩; have n0_ := aM (rM (Kd.R_keep (IsS162.apart (show IsS162 w0 _ g s0_0 x1001_19 x1002_19 from by repeat (first | (with_reducible first | exact HI0.out | apply IsS162.alloc | apply IsS162.drewN | apply IsS162.drew | apply IsS162.set_1 | apply IsS162.set_2 | refine IsS162.far ?_ NB0_310.out _) | exact HI0.out)) (by (with_reducible repeat (first | apply rA | apply rN | apply rD)); exact HO_7.out) (by decide)) hk (fun _ h => h.2)) (fun _ h => h.1)); have n1_ := aM (KeepBut.blk hk (g' := gb310) (o := .cells #[.int .i64 a1_0, .int .i64 a1_1, .int .i64 a1_2, .int .i64 a1_3, .bool a1_4] 39 (0, 0)) (by (with_reducible repeat (first | refine kN ?_ _ | refine kD ?_ | refine kA ?_ _)); exact BK310.out) NB310_0.out (by simp)); have n2_ := aM (KeepBut.trans (by repeat (first | (with_reducible first | exact HK.out | apply KeepBut.set_ | apply keep_drewN | apply keep_drew | apply keep_alloc | refine keep_far ?_ GW310.out _) | exact HK.out)) hk (.inl rfl)); have n3_ := aM (hb); have n4_ := aM (hi); clear HO_7; clear BK310; clear HK; clear HB; clear HI0; have HO_7 := n0_; have BK310 := n1_; have HK := n2_; have HB := n3_; have HI0 := n4_; clear n0_ n1_ n2_ n3_ n4_; (try clear hb); (try clear hb2); (try clear hk); (try clear hi)))
        go_ret2
        exact ⟨_, by first | rfl | (simp [errW_none, errW_some] <;> rfl) | (simp [*, errW_none, errW_some] <;> rfl), by (with_reducible repeat (first | apply rA | apply rN | apply rD)); exact HO_7.out, by repeat (first | (with_reducible first | exact HI0.out | apply IsS162.alloc | apply IsS162.drewN | apply IsS162.drew | apply IsS162.set_1 | apply IsS162.set_2 | refine IsS162.far ?_ NB0_310.out _) | exact HI0.out), by repeat (first | (with_reducible first | exact HB.out | apply bA | apply bN | apply bE | refine bS ?_ (IsS162.ge HI0.out) | refine bS ?_ GE310.out) | exact HB.out), by repeat (first | (with_reducible first | exact HK.out | apply KeepBut.set_ | apply keep_drewN | apply keep_drew | apply keep_alloc | refine keep_far ?_ GW310.out _) | exact HK.out)⟩

/-! ### spec_DrawClearText: function 29 -/
def spec_DrawClearText.f (k : Nat) (l0 : List Int) : Option (Int × Int × Int × Int × Bool × Int × List Int) := (spec_l01New.f k l0).bind fun bt351 => ((spec_l17Head.f k bt351.1 bt351.2.1 bt351.2.2).bind fun bt355 => ((spec_l17Clear.f k bt351.1 bt355.2.2.2.2.2.1 bt355.2.2.2.2.2.2 bt355.1 bt355.2.1 bt355.2.2.1 bt355.2.2.2.1 bt355.2.2.2.2.1).bind fun bt363 => (some (bt355.1, bt355.2.1, bt355.2.2.1, bt355.2.2.2.1, bt355.2.2.2.2.1, bt363.1, bt363.2.1))))
theorem spec_DrawClearText.mono : ∀ a0 k, LeO (spec_DrawClearText.f k a0) (spec_DrawClearText.f (k + 1) a0) := by
 intro a0 k
 unfold spec_DrawClearText.f
 repeat' first
   | (with_reducible exact spec_l01New.mono _ _)
   | (with_reducible exact spec_l17Clear.mono _ _ _ _ _ _ _ _ _)
   | (with_reducible exact spec_l17Head.mono _ _ _ _)
   | (with_reducible exact LeO.refl _)
   | (with_reducible exact LeO.none _)
   | (with_reducible refine LeO.ite ?_ ?_)
   | (with_reducible refine LeO.bind ?_ (fun _ => ?_))
   | exact spec_l01New.mono _ _
   | exact spec_l17Clear.mono _ _ _ _ _ _ _ _ _
   | exact spec_l17Head.mono _ _ _ _
   | exact LeO.none _
   | refine LeO.ite ?_ ?_
   | refine LeO.bind ?_ (fun _ => ?_)
set_option maxHeartbeats 8000000 in
set_option maxRecDepth 100000 in
theorem spec_DrawClearText.calls (k : Nat) (A0 : Option Addr) (c0 : Nat) (l0 : List Int) (r1 : Int) (r2 : Int) (r3 : Int) (r4 : Int) (r5 : Bool) (r6 : Int) (r7 : List Int) (w : World) (hr0 : Kd.C (Kd.int .u8) w A0 l0.length l0) (hc0 : l0.length ≤ c0) (h : spec_DrawClearText.f k l0 = some (r1, r2, r3, r4, r5, r6, r7)) :
  Calls Try.prog 29 #[.slice A0 l0.length c0] w fun e w' => ∃ v6_ : Value, e = .returned (.tuple #[.agg #[.int .i64 r1, .int .i64 r2, .int .i64 r3, .int .i64 r4, .bool r5], .int .i64 r6, v6_]) ∧ Kd.R (Kd.int .i64) 3 w' w.heap.size (fun _ => True) v6_ r7 ∧ Below w.heap.size w w' := by
 have hu39 := Try.underlying39
 have HR0 := aM hr0
 have HC0 := aM hc0
 clear hr0 hc0
 have HB := aM (Below.refl w.heap.size w)
 unfold spec_DrawClearText.f at h; have H := h
 clear h
 replace H := oB.mp H
 obtain ⟨⟨t351, t352, t353⟩, A20, H⟩ := H
 try dsimp only at H
 have A2 := aM A20
 clear A20
 replace H := oB.mp H
 obtain ⟨⟨t355, t356, t357, t358, t359, t360, t361⟩, A30, H⟩ := H
 replace H : ((spec_l17Clear.f k t351 t360 t361 t355 t356 t357 t358 t359).bind fun bt363 => (some (t355, t356, t357, t358, t359, bt363.1, bt363.2.1))) = some (r1, r2, r3, r4, r5, r6, r7) := H
 have A3 := aM A30
 clear A30
 replace H := oB.mp H
 obtain ⟨⟨t363, t364, t367, t368⟩, A40, H⟩ := H
 replace H : (some (t355, t356, t357, t358, t359, t363, t364)) = some (r1, r2, r3, r4, r5, r6, r7) := H
 have A4 := aM A40
 clear A40
 simp only [Option.some.injEq, Prod.mk.injEq] at H
 obtain ⟨rfl, rfl, rfl, rfl, rfl, rfl, rfl⟩ := H
 go_enter Try.func29, Try.ntmps29
 go_wp2_with (first | ((with_reducible refine gate_dst (N := 2) rfl ?_); refine box_event ?hg (N := 2) ?hd (cs := #[.int .i64 0, .int .i64 0, .int .i64 0, .int .i64 0, .bool false]) (t := 39) ?hr ?_; (case hd => rfl); (case hg => rfl); (case hr => first | (go_simp; done) | (go_simp; rfl)); intro gb350 hg w5 hbox hb; have n0_ := aM (bT (by repeat (first | (with_reducible first | exact HB.out | apply bA | apply bN | apply bE) | exact HB.out)) hb); have n1_ := aM (hbox); have n2_ := aM ((by rw [hg]; exact (bZ (by repeat (first | (with_reducible first | exact HB.out | apply bA | apply bN | apply bE) | exact HB.out))) : w.heap.size ≤ gb350)); have n3_ := aM ((by rw [hg]; exact (bZ (by repeat (first | (with_reducible first | exact HB.out | apply bA | apply bN | apply bE) | exact HB.out))) : w.heap.size ≤ gb350)); clear HB; have HB := n0_; have BK350 := n1_; have GW350 := n2_; have GE350 := n3_; clear n0_ n1_ n2_ n3_; clear hb hbox hg) | ((with_reducible refine gate_callee (f := 72) rfl ?_); refine goesL_ (some 10) rfl rfl Try.func72 (by kernel_rfl) rfl #[.slice A0 l0.length c0] rfl (by (try simp only [lM, List.map_cons, List.map_nil]); first | done | rfl | (simp only [lD, lT]; rfl)) ?_; (with_reducible refine (spec_l01New.calls k _ _ l0 t351 t352 t353 w _ ?side1 ?side2 ?side3 A2.out).mono ?_); (case side1 => repeat (first | (with_reducible first | exact HB.out | apply bA | apply bN | apply bE | refine bS ?_ GE350.out) | exact HB.out)); (case side2 => exact HR0.out); (case side3 => exact HC0.out); rintro e w6 ⟨g354, rfl, hi, hb, hb2⟩; refine ⟨_, rfl, ?_⟩; have n0_ := aM (kB (g := gb350) (o := .cells #[.int .i64 0, .int .i64 0, .int .i64 0, .int .i64 0, .bool false] 39 (0, 0)) (by (with_reducible repeat (first | refine kN ?_ _ | refine kD ?_ | refine kA ?_ _)); exact BK350.out) hb2); have n1_ := aM (hb); have n2_ := aM (hi); have n3_ := aM (IsS162.ne_blk hi (kB (g := gb350) (o := .cells #[.int .i64 0, .int .i64 0, .int .i64 0, .int .i64 0, .bool false] 39 (0, 0)) (by (with_reducible repeat (first | refine kN ?_ _ | refine kD ?_ | refine kA ?_ _)); exact BK350.out) hb2) (by decide)); have n4_ := aM (Ne.symm (IsS162.ne_blk hi (kB (g := gb350) (o := .cells #[.int .i64 0, .int .i64 0, .int .i64 0, .int .i64 0, .bool false] 39 (0, 0)) (by (with_reducible repeat (first | refine kN ?_ _ | refine kD ?_ | refine kA ?_ _)); exact BK350.out) hb2) (by decide))); clear BK350; clear HB; have BK350 := n0_; have HB := n1_; have HI354 := n2_; have NB354_350 := n3_; have NB350_354 := n4_; clear n0_ n1_ n2_ n3_ n4_; (try clear hb); (try clear hb2); (try clear hk); (try clear hi)) | ((with_reducible refine gate_callee (f := 71) rfl ?_); refine goesL_ (some 12) rfl rfl Try.func71 (by kernel_rfl) rfl #[.pointer (some ⟨g354, 0, none⟩)] rfl (by (try simp only [lM, List.map_cons, List.map_nil]); first | done | rfl | (simp only [lD, lT]; rfl)) ?_; (with_reducible refine (spec_l17Head.calls k g354 t351 t352 t353 t355 t356 t357 t358 t359 t360 t361 w _ ?side1 ?side2 A3.out).mono ?_); (case side1 => repeat (first | (with_reducible first | exact HI354.out | apply IsS162.alloc | apply IsS162.drewN | apply IsS162.drew | apply IsS162.set_1 | apply IsS162.set_2 | refine IsS162.far ?_ NB354_350.out _) | exact HI354.out)); (case side2 => repeat (first | (with_reducible first | exact HB.out | apply bA | apply bN | apply bE | refine bS ?_ (IsS162.ge HI354.out) | refine bS ?_ GE350.out) | exact HB.out)); rintro e w7 ⟨rfl, hi, hb, hk⟩; refine ⟨_, rfl, ?_⟩; have n0_ := aM (KeepBut.blk hk (g' := gb350) (o := .cells #[.int .i64 0, .int .i64 0, .int .i64 0, .int .i64 0, .bool false] 39 (0, 0)) (by (with_reducible repeat (first | refine kN ?_ _ | refine kD ?_ | refine kA ?_ _)); exact BK350.out) NB350_354.out (by simp)); have n1_ := aM (hb); have n2_ := aM (hi); clear BK350; clear HB; clear HI354; have BK350 := n0_; have HB := n1_; have HI354 := n2_; clear n0_ n1_ n2_; (try clear hb); (try clear hb2); (try clear hk); (try clear hi)) | ((with_reducible refine gate_dst (N := 6) rfl ?_); refine box_event ?hg (N := 6) ?hd (cs := #[.int .i64 0, .int .i64 0, .int .i64 0, .int .i64 0, .bool false]) (t := 39) ?hr ?_; (case hd => rfl); (case hg => rfl); (case hr => first | (go_simp; done) | (go_simp; rfl)); intro gb362 hg w8 hbox hb; have n0_ := aM (kB (g := gb350) (o := .cells #[.int .i64 0, .int .i64 0, .int .i64 0, .int .i64 0, .bool false] 39 (0, 0)) (by (with_reducible repeat (first | refine kN ?_ _ | refine kD ?_ | refine kA ?_ _)); exact BK350.out) hb); have n1_ := aM (IsS162.below (by repeat (first | (with_reducible first | exact HI354.out | apply IsS162.alloc | apply IsS162.drewN | apply IsS162.drew | apply IsS162.set_1 | apply IsS162.set_2 | refine IsS162.far ?_ NB354_350.out _) | exact HI354.out)) hb); have n2_ := aM (bT (by repeat (first | (with_reducible first | exact HB.out | apply bA | apply bN | apply bE | refine bS ?_ (IsS162.ge HI354.out) | refine bS ?_ GE350.out) | exact HB.out)) hb); have n3_ := aM (hbox); have n4_ := aM ((by rw [hg]; exact (bZ (by repeat (first | (with_reducible first | exact HB.out | apply bA | apply bN | apply bE | refine bS ?_ (IsS162.ge HI354.out) | refine bS ?_ GE350.out) | exact HB.out))) : w.heap.size ≤ gb362)); have n5_ := aM ((by rw [hg]; exact (bZ (by repeat (first | (with_reducible first | exact HB.out | apply bA | apply bN | apply bE | refine bS ?_ (IsS162.ge HI354.out) | refine bS ?_ GE350.out) | exact HB.out))) : w.heap.size ≤ gb362)); have n6_ := aM ((by rw [hg]; exact Nat.ne_of_lt (blk_lt (g := gb350) (o := .cells #[.int .i64 0, .int .i64 0, .int .i64 0, .int .i64 0, .bool false] 39 (0, 0)) (by (with_reducible repeat (first | refine kN ?_ _ | refine kD ?_ | refine kA ?_ _)); exact BK350.out)) : gb350 ≠ gb362)); have n7_ := aM ((by rw [hg]; exact Nat.ne_of_gt (blk_lt (g := gb350) (o := .cells #[.int .i64 0, .int .i64 0, .int .i64 0, .int .i64 0, .bool false] 39 (0, 0)) (by (with_reducible repeat (first | refine kN ?_ _ | refine kD ?_ | refine kA ?_ _)); exact BK350.out)) : gb362 ≠ gb350)); have n8_ := aM ((by rw [hg]; exact Nat.ne_of_lt (IsS162.lt (show IsS162 w _ g354 t351 t360 t361 from by repeat (first | (with_reducible first | exact HI354.out | apply IsS162.alloc | apply IsS162.drewN | apply IsS162.drew | apply IsS162.set_1 | apply IsS162.set_2 | refine IsS162.far ?_ NB354_350.out _) | exact HI354.out))) : g354 ≠ gb362)); have n9_ := aM ((by rw [hg]; exact Nat.ne_of_gt (IsS162.lt (show IsS162 w _ g354 t351 t360 t361 from by repeat (first | (with_reducible first | exact HI354.out | apply IsS162.alloc | apply IsS162.drewN | apply IsS162.drew | apply IsS162.set_1 | apply IsS162.set_2 | refine IsS162.far ?_ NB354_350.out _) | exact HI354.out))) : gb362 ≠ g354)); clear BK350; clear HI354; clear HB; have BK350 := n0_; have HI354 := n1_; have HB := n2_; have BK362 := n3_; have GW362 := n4_; have GE362 := n5_; have NB350_362 := n6_; have NB362_350 := n7_; have NB354_362 := n8_; have NB362_354 := n9_; clear n0_ n1_ n2_ n3_ n4_ n5_ n6_ n7_ n8_ n9_; clear hb hbox hg; have hnb9 := NB362_350.out; have hnc9 := NB350_362.out; have hnb10 := NB362_354.out; have hnc10 := NB354_362.out; obtain ⟨hcz11_0, hcz11_1, hcz11_2, hcz11_3, hcz11_4⟩ := blk_c5 BK362.out; obtain ⟨hfz11_0, hfz11_1, hfz11_2, hfz11_3, hfz11_4⟩ := blk_f5 BK362.out) | ((with_reducible refine gate_callee (f := 83) rfl ?_); refine goesL_ (some 16) rfl rfl Try.func83 (by kernel_rfl) rfl #[.pointer (some ⟨g354, 0, none⟩), .agg #[.int .i64 t355, .int .i64 t356, .int .i64 t357, .int .i64 t358, .bool t359]] rfl (by (try simp only [lM, List.map_cons, List.map_nil]); first | done | rfl | (simp only [lD, lT]; rfl)) ?_; (with_reducible refine (spec_l17Clear.calls k g354 t351 t360 t361 t355 t356 t357 t358 t359 t363 t364 t367 t368 w _ ?side1 ?side2 A4.out).mono ?_); (case side1 => repeat (first | (with_reducible first | exact HI354.out | apply IsS162.alloc | apply IsS162.drewN | apply IsS162.drew | apply IsS162.set_1 | apply IsS162.set_2 | refine IsS162.far ?_ NB354_350.out _ | refine IsS162.far ?_ NB354_362.out _) | exact HI354.out)); (case side2 => repeat (first | (with_reducible first | exact HB.out | apply bA | apply bN | apply bE | refine bS ?_ (IsS162.ge HI354.out) | refine bS ?_ GE350.out | refine bS ?_ GE362.out) | exact HB.out)); rintro e w12 ⟨v365, rfl, ho0, hi, hb, hk⟩; refine ⟨_, rfl, ?_⟩; have n0_ := aM (KeepBut.blk hk (g' := gb350) (o := .cells #[.int .i64 0, .int .i64 0, .int .i64 0, .int .i64 0, .bool false] 39 (0, 0)) (by (with_reducible repeat (first | refine kN ?_ _ | refine kD ?_ | refine kA ?_ _)); refine kF ?_ NB350_362.out _; (with_reducible repeat (first | refine kN ?_ _ | refine kD ?_ | refine kA ?_ _)); refine kF ?_ NB350_362.out _; (with_reducible repeat (first | refine kN ?_ _ | refine kD ?_ | refine kA ?_ _)); refine kF ?_ NB350_362.out _; (with_reducible repeat (first | refine kN ?_ _ | refine kD ?_ | refine kA ?_ _)); refine kF ?_ NB350_362.out _; (with_reducible repeat (first | refine kN ?_ _ | refine kD ?_ | refine kA ?_ _)); refine kF ?_ NB350_362.out _; (with_reducible repeat (first | refine kN ?_ _ | refine kD ?_ | refine kA ?_ _)); exact BK350.out) NB350_354.out (by simp)); have n1_ := aM (KeepBut.blk hk (g' := gb362) (o := .cells #[.int .i64 t355, .int .i64 t356, .int .i64 t357, .int .i64 t358, .bool t359] 39 (0, 0)) (by (with_reducible repeat (first | refine kN ?_ _ | refine kD ?_ | refine kA ?_ _)); refine blk_put (cs := #[.int .i64 t355, .int .i64 t356, .int .i64 t357, .int .i64 t358, .bool false]) ?_ 4 _ rfl; (with_reducible repeat (first | refine kN ?_ _ | refine kD ?_ | refine kA ?_ _)); refine blk_put (cs := #[.int .i64 t355, .int .i64 t356, .int .i64 t357, .int .i64 0, .bool false]) ?_ 3 _ rfl; (with_reducible repeat (first | refine kN ?_ _ | refine kD ?_ | refine kA ?_ _)); refine blk_put (cs := #[.int .i64 t355, .int .i64 t356, .int .i64 0, .int .i64 0, .bool false]) ?_ 2 _ rfl; (with_reducible repeat (first | refine kN ?_ _ | refine kD ?_ | refine kA ?_ _)); refine blk_put (cs := #[.int .i64 t355, .int .i64 0, .int .i64 0, .int .i64 0, .bool false]) ?_ 1 _ rfl; (with_reducible repeat (first | refine kN ?_ _ | refine kD ?_ | refine kA ?_ _)); refine blk_put (cs := #[.int .i64 0, .int .i64 0, .int .i64 0, .int .i64 0, .bool false]) ?_ 0 _ rfl; (with_reducible repeat (first | refine kN ?_ _ | refine kD ?_ | refine kA ?_ _)); exact BK362.out) NB362_354.out (by simp)); have n2_ := aM (Kd.R_lower ho0 (bZ (by repeat (first | (with_reducible first | exact HB.out | apply bA | apply bN | apply bE | refine bS ?_ (IsS162.ge HI354.out) | refine bS ?_ GE350.out | refine bS ?_ GE362.out) | exact HB.out)))); have n3_ := aM (hb); have n4_ := aM (hi); clear BK350; clear BK362; clear HB; clear HI354; have BK350 := n0_; have BK362 := n1_; have HO366 := n2_; have HB := n3_; have HI354 := n4_; clear n0_ n1_ n2_ n3_ n4_; (try clear hb); (try clear hb2); (try clear hk); (try clear hi); (try clear ho0); obtain ⟨hcz13_0, hcz13_1, hcz13_2, hcz13_3, hcz13_4⟩ := blk_c5 BK362.out; obtain ⟨hfz13_0, hfz13_1, hfz13_2, hfz13_3, hfz13_4⟩ := blk_f5 BK362.out; have hnb14 := NB350_354.out; have hnc14 := NB354_350.out; obtain ⟨hcz15_0, hcz15_1, hcz15_2, hcz15_3, hcz15_4⟩ := blk_c5 BK350.out; obtain ⟨hfz15_0, hfz15_1, hfz15_2, hfz15_3, hfz15_4⟩ := blk_f5 BK350.out))
 refine bodyPost_ret (results_ctt rfl _ _ gb350 39 #[.int .i64 t355, .int .i64 t356, .int .i64 t357, .int .i64 t358, .bool t359] (0, 0) _ rfl (by (with_reducible repeat (first | refine kN ?_ _ | refine kD ?_ | refine kA ?_ _)); refine blk_put (cs := #[.int .i64 t355, .int .i64 t356, .int .i64 t357, .int .i64 t358, .bool false]) ?_ 4 _ rfl; (with_reducible repeat (first | refine kN ?_ _ | refine kD ?_ | refine kA ?_ _)); refine blk_put (cs := #[.int .i64 t355, .int .i64 t356, .int .i64 t357, .int .i64 0, .bool false]) ?_ 3 _ rfl; (with_reducible repeat (first | refine kN ?_ _ | refine kD ?_ | refine kA ?_ _)); refine blk_put (cs := #[.int .i64 t355, .int .i64 t356, .int .i64 0, .int .i64 0, .bool false]) ?_ 2 _ rfl; (with_reducible repeat (first | refine kN ?_ _ | refine kD ?_ | refine kA ?_ _)); refine blk_put (cs := #[.int .i64 t355, .int .i64 0, .int .i64 0, .int .i64 0, .bool false]) ?_ 1 _ rfl; (with_reducible repeat (first | refine kN ?_ _ | refine kD ?_ | refine kA ?_ _)); refine blk_put (cs := #[.int .i64 0, .int .i64 0, .int .i64 0, .int .i64 0, .bool false]) ?_ 0 _ rfl; (with_reducible repeat (first | refine kN ?_ _ | refine kD ?_ | refine kA ?_ _)); exact BK350.out) Try.underlying39 rfl (by kernel_rfl)) rfl ?_
 exact ⟨_, by first | rfl | (simp [errW_none, errW_some] <;> rfl) | (simp [*, errW_none, errW_some] <;> rfl), by (with_reducible repeat (first | apply rA | apply rN | apply rD)); exact rM (rF (p := ⟨gb350, 4, none⟩) (rF (p := ⟨gb350, 3, none⟩) (rF (p := ⟨gb350, 2, none⟩) (rF (p := ⟨gb350, 1, none⟩) (rF (p := ⟨gb350, 0, none⟩) (Kd.R_types HO366.out BK350.out (by decide)) (fun _ hk => hk.2) (.int .i64 t355)) (fun _ hk => hk.2) (.int .i64 t356)) (fun _ hk => hk.2) (.int .i64 t357)) (fun _ hk => hk.2) (.int .i64 t358)) (fun _ hk => hk.2) (.bool t359)) (fun _ hk => trivial), by repeat (first | (with_reducible first | exact HB.out | apply bA | apply bN | apply bE | refine bS ?_ (IsS162.ge HI354.out) | refine bS ?_ GE350.out | refine bS ?_ GE362.out) | exact HB.out)⟩

/-! ### impl_samplesOk: function 139 -/
def impl_samplesOk.l0 : Nat → Int → List Int → Int → Int → Option (Bool)
 | 0, _, _, _, _ => none
 | k + 1, x1, x7, x8, x9 => if x9 < x8 then (if 0 ≤ x9 then (if x9 < (x7.length : Int) then ((impl_powerOf.f x1).bind fun t370 => ((impl_within.f (rd x7 x9) 0 (wrap64 (t370 - 1))).bind fun t371 => (if t371 = true then (impl_samplesOk.l0 k x1 x7 x8 (wrap64 (x9 + 1))) else (some false)))) else (none)) else (none)) else (some true)
def impl_samplesOk.f (k : Nat) (l0 : List Int) (a1 : Int) : Option (Bool) := impl_samplesOk.l0 k a1 l0 (l0.length : Int) 0
theorem impl_samplesOk.mono_l : ∀ k, (∀ y0 y1 y2 y3, LeO (impl_samplesOk.l0 k y0 y1 y2 y3) (impl_samplesOk.l0 (k + 1) y0 y1 y2 y3))
 | 0 => fun _ _ _ _ r h => by simp [impl_samplesOk.l0] at h
 | k + 1 => by
  have ih0 := impl_samplesOk.mono_l k
  ·intro y0 y1 y2 y3
   unfold impl_samplesOk.l0
   repeat' first
   | (with_reducible exact ih0 _ _ _ _)
   | (with_reducible exact LeO.refl _)
   | (with_reducible exact LeO.none _)
   | (with_reducible refine LeO.ite ?_ ?_)
   | (with_reducible refine LeO.bind ?_ (fun _ => ?_))
   | exact ih0 _ _ _ _
   | exact LeO.none _
   | refine LeO.ite ?_ ?_
   | refine LeO.bind ?_ (fun _ => ?_)
theorem impl_samplesOk.mono : ∀ a0 a1 k, LeO (impl_samplesOk.f k a0 a1) (impl_samplesOk.f (k + 1) a0 a1) := by
 intro a0 a1 k
 have ih0 := impl_samplesOk.mono_l k
 unfold impl_samplesOk.f
 repeat' first
   | (with_reducible exact ih0 _ _ _ _)
   | (with_reducible exact LeO.refl _)
   | (with_reducible exact LeO.none _)
   | (with_reducible refine LeO.ite ?_ ?_)
   | (with_reducible refine LeO.bind ?_ (fun _ => ?_))
   | exact ih0 _ _ _ _
   | exact LeO.none _
   | refine LeO.ite ?_ ?_
   | refine LeO.bind ?_ (fun _ => ?_)
set_option maxHeartbeats 8000000 in
set_option maxRecDepth 100000 in
theorem impl_samplesOk.calls (k : Nat) (A0 : Option Addr) (c0 : Nat) (l0 : List Int) (a1 : Int) (r : Bool) (w : World) (hr0 : Kd.C (Kd.int .i64) w A0 l0.length l0) (hc0 : l0.length ≤ c0) (h : impl_samplesOk.f k l0 a1 = some r) :
  Calls Try.prog 139 #[.slice A0 l0.length c0, .int .i64 a1] w fun e w' => e = .returned (.bool r) ∧ Drawn0 w w' := by
 have HR0 := aM hr0
 have HC0 := aM hc0
 clear hr0 hc0
 have H : (impl_samplesOk.l0 k a1 l0 (l0.length : Int) 0) = some r := h
 clear h
 have H' := aM H
 clear H
 go_enter Try.func139, Try.ntmps139
 go_wp2
 go_loopg [9] k (fun kq v9 w' => ∃ (x9_1 : Int), v9 = .int .i64 x9_1 ∧ Aside0 (impl_samplesOk.l0 kq a1 l0 (l0.length : Int) x9_1 = some r) ∧ Aside0 (kq ≤ k) ∧ Drawn0 w w')
 case atStart => exact ⟨(0), (by first | rfl | (simp; done) | (simp [*]; done)), H', ⟨Nat.le_refl _⟩, by repeat (first | exact Drawn0.refl _ | apply Drawn0.step)⟩
 case round =>
  clear H'
  try clear c1
  try clear p2
  obtain ⟨x9_1, rfl, HA, HK1, ⟨m1, rfl⟩⟩ := hrel
  cases gk with
  | zero => exact absurd HA.out (by simp [impl_samplesOk.l0])
  | succ k1 =>
   have H := HA.out
   clear HA
   simp only [impl_samplesOk.l0] at H
   by_cases c3 : x9_1 < (l0.length : Int)
   ·rw [if_pos c3] at H
    have c3b0 : decide (x9_1 < (l0.length : Int)) = true := decide_eq_true c3
    clear c3
    by_cases c4 : 0 ≤ x9_1
    ·rw [if_pos c4] at H
     have c4b0 : decide (0 ≤ x9_1) = true := decide_eq_true c4
     clear c4
     by_cases c5 : x9_1 < (l0.length : Int)
     ·rw [if_pos c5] at H
      have c5b0 : decide (x9_1 < (l0.length : Int)) = true := decide_eq_true c5
      clear c5
      replace H := oB.mp H
      obtain ⟨t370, A60, H⟩ := H
      replace H : ((impl_within.f (rd l0 x9_1) 0 (wrap64 (t370 - 1))).bind fun t371 => (if t371 = true then (impl_samplesOk.l0 k1 a1 l0 (l0.length : Int) (wrap64 (x9_1 + 1))) else (some false))) = some r := H
      have A6 := aM A60
      clear A60
      replace H := oB.mp H
      obtain ⟨t371, A70, H⟩ := H
      replace H : (if t371 = true then (impl_samplesOk.l0 k1 a1 l0 (l0.length : Int) (wrap64 (x9_1 + 1))) else (some false)) = some r := H
      have A7 := aM A70
      clear A70
      by_cases c8 : t371 = true
      ·subst c8
       have H1 : (impl_samplesOk.l0 k1 a1 l0 (l0.length : Int) (wrap64 (x9_1 + 1))) = some r := by rw [if_pos rfl] at H; first | done | exact H
       clear H
       have H := H1
       clear H1
       have H' := aM H
       clear H
       have p369 : 0 ≤ (x9_1 : Int) := oD (by first | (with_reducible assumption) | assumption)
       have q369 : x9_1 < (l0.length : Int) := oD (by first | (with_reducible assumption) | assumption)
       obtain ⟨ad369, e369, hx369_0⟩ := Kd.at_int HR0.out x9_1 p369 q369
       cases e369
       replace p369 := eq_true p369
       replace q369 := eq_true q369
       go_wp2_with (first | ((with_reducible refine gate_callee (f := 126) rfl ?_); refine goesL_ (some 15) rfl rfl Try.func126 (by kernel_rfl) rfl #[.int .i64 a1] rfl (by (try simp only [lM, List.map_cons, List.map_nil]); first | done | rfl | (simp only [lD, lT]; rfl)) ?_; (with_reducible refine (impl_powerOf.calls a1 t370 _ A6.out).mono ?_); rintro e w' ⟨rfl, ⟨nd, rfl⟩⟩; refine ⟨_, rfl, ?_⟩) | ((with_reducible refine gate_callee (f := 82) rfl ?_); refine goesL_ (some 17) rfl rfl Try.func82 (by kernel_rfl) rfl #[.int .i64 (rd l0 x9_1), .int .i64 0, .int .i64 (wrap64 (t370 - 1))] rfl (by (try simp only [lM, List.map_cons, List.map_nil]); first | done | rfl | (simp only [lD, lT]; rfl)) ?_; (with_reducible refine (impl_within.calls (rd l0 x9_1) 0 (wrap64 (t370 - 1)) true _ A7.out).mono ?_); rintro e w' ⟨rfl, ⟨nd, rfl⟩⟩; refine ⟨_, rfl, ?_⟩))
       go_roundg k1
       case measure => have := HK1.out; omega
       case rel => exact ⟨(wrap64 (x9_1 + 1)), (by first | rfl | (simp; done) | (simp [*]; done)), H', ⟨by have := HK1.out; omega⟩, by repeat (first | exact Drawn0.refl _ | apply Drawn0.step)⟩
      ·replace c8 := Bool.eq_false_iff.mpr c8
       subst c8
       have H1 : (some false) = some r := by rw [if_neg (show ¬ (false = true) by decide)] at H; first | done | exact H
       clear H
       have H := H1
       clear H1
       obtain rfl := Option.some.inj H
       have p369 : 0 ≤ (x9_1 : Int) := oD (by first | (with_reducible assumption) | assumption)
       have q369 : x9_1 < (l0.length : Int) := oD (by first | (with_reducible assumption) | assumption)
       obtain ⟨ad369, e369, hx369_0⟩ := Kd.at_int HR0.out x9_1 p369 q369
       cases e369
       replace p369 := eq_true p369
       replace q369 := eq_true q369
       go_wp2_with (first | ((with_reducible refine gate_callee (f := 126) rfl ?_); refine goesL_ (some 15) rfl rfl Try.func126 (by kernel_rfl) rfl #[.int .i64 a1] rfl (by (try simp only [lM, List.map_cons, List.map_nil]); first | done | rfl | (simp only [lD, lT]; rfl)) ?_; (with_reducible refine (impl_powerOf.calls a1 t370 _ A6.out).mono ?_); rintro e w' ⟨rfl, ⟨nd, rfl⟩⟩; refine ⟨_, rfl, ?_⟩) | ((with_reducible refine gate_callee (f := 82) rfl ?_); refine goesL_ (some 17) rfl rfl Try.func82 (by kernel_rfl) rfl #[.int .i64 (rd l0 x9_1), .int .i64 0, .int .i64 (wrap64 (t370 - 1))] rfl (by (try simp only [lM, List.map_cons, List.map_nil]); first | done | rfl | (simp only [lD, lT]; rfl)) ?_; (with_reducible refine (impl_within.calls (rd l0 x9_1) 0 (wrap64 (t370 - 1)) false _ A7.out).mono ?_); rintro e w' ⟨rfl, ⟨nd, rfl⟩⟩; refine ⟨_, rfl, ?_⟩))
       go_ret
       exact ⟨by first | rfl | (simp; done) | (simp [*]; done), by repeat (first | exact Drawn0.refl _ | apply Drawn0.step)⟩
     ·rw [if_neg c5] at H
      exact absurd H (by simp)
    ·rw [if_neg c4] at H
     exact absurd H (by simp)
   ·rw [if_neg c3] at H
    have c3b0 : decide (x9_1 < (l0.length : Int)) = false := decide_eq_false c3
    clear c3
    obtain rfl := Option.some.inj H
    go_wp2
    go_ret
    exact ⟨by first | rfl | (simp; done) | (simp [*]; done), by repeat (first | exact Drawn0.refl _ | apply Drawn0.step)⟩

end Go.Proofs.Ytajnobmnkbkkgaa.PFnHeads
