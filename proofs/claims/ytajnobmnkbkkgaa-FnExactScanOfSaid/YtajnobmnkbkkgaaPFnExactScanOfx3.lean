/- Walks of functions that the law FnExactScanOf reaches: each call comes to what the Lean function of its name tells. Written by p2.py, a program of this session, by way of the kit's print. -/
import Derived.Test.YtajnobmnkbkkgaaPFnExactScanOfx0
import Derived.Test.YtajnobmnkbkkgaaPFnExactScanOfx1
import Derived.Test.YtajnobmnkbkkgaaPFnExactScanOfx2
namespace Go.Proofs.Ytajnobmnkbkkgaa.PFnExactScanOf
open Go.RowKit Go.Proofs.YtajnobmnkbkkgaaW.PrintWords Go.Proofs.YtajnobmnkbkkgaaW.PrintLast Go.Proofs.YtajnobmnkbkkgaaW.PrintMore
attribute [local go_sem] max2_int min2_int max_two min_two max_three min_three max_four min_four   -- for this text's walks alone
set_option linter.unusedVariables false
set_option linter.unusedSimpArgs false

/-! ### impl_PassesOf: function 15 -/
mutual
def impl_PassesOf.l0 : Nat → List (S29) → Int → Int → Int → Int → Int → Int → List Int → Option ((List (S29)) × Bool)
 | 0, _, _, _, _, _, _, _, _ => none
 | k + 1, x4, x5, x17, x151000, x151001, x151002, x151003, x151004 => if x17 < 7 then ((impl_PassSize.f k x151000 x151001 x17).bind fun bt157 => ((impl_pixelsOf.f k x151000 x151001 x17).bind fun t159 => (impl_PassesOf.l1 k x4 x5 x17 t159 (t159.length : Int) 0 x151000 x151001 x151002 x151003 x151004 bt157.1 bt157.2 x151002 x151003 ([] : List Int)))) else (some (x4, true))
def impl_PassesOf.l1 : Nat → List (S29) → Int → Int → List Int → Int → Int → Int → Int → Int → Int → List Int → Int → Int → Int → Int → List Int → Option ((List (S29)) × Bool)
 | 0, _, _, _, _, _, _, _, _, _, _, _, _, _, _, _, _ => none
 | k + 1, x4, x5, x17, x41, x42, x43, x151000, x151001, x151002, x151003, x151004, x157000, x157001, x157002, x157003, x157004 => if x43 < x42 then (if 0 ≤ x43 then (if x43 < (x41.length : Int) then (if 0 ≤ (wrap64 ((rd x41 x43) * x5)) then (if (wrap64 ((rd x41 x43) * x5)) ≤ (wrap64 ((wrap64 ((rd x41 x43) + 1)) * x5)) then (if (wrap64 ((wrap64 ((rd x41 x43) + 1)) * x5)) ≤ (x151004.length : Int) then (if x157004.length + ((x151004.take ((wrap64 ((wrap64 ((rd x41 x43) + 1)) * x5)) : Int).toNat).drop ((wrap64 ((rd x41 x43) * x5)) : Int).toNat).length < 17592186044416 then (impl_PassesOf.l1 k x4 x5 x17 x41 x42 (wrap64 (x43 + 1)) x151000 x151001 x151002 x151003 x151004 x157000 x157001 x157002 x157003 (x157004 ++ ((x151004.take ((wrap64 ((wrap64 ((rd x41 x43) + 1)) * x5)) : Int).toNat).drop ((wrap64 ((rd x41 x43) * x5)) : Int).toNat))) else (none)) else (none)) else (none)) else (none)) else (none)) else (none)) else (if x4.length < 2513169434916 then (impl_PassesOf.l0 k (x4 ++ [(⟨x157000, x157001, x157002, x157003, x157004⟩ : S29)]) x5 (wrap64 (x17 + 1)) x151000 x151001 x151002 x151003 x151004) else (none))
end
def impl_PassesOf.f (k : Nat) (a0_0 : Int) (a0_1 : Int) (a0_2 : Int) (a0_3 : Int) (l0_4 : List Int) : Option ((List (S29)) × Bool) := (impl_RasterOk.f k a0_0 a0_1 a0_2 a0_3 l0_4).bind fun t151 => (if t151 = true then ((impl_ChannelsOf.f k a0_2).bind fun t155 => (impl_PassesOf.l0 k (([] : List (S29))) t155 0 a0_0 a0_1 a0_2 a0_3 l0_4)) else (some (([] : List (S29)), false)))
theorem impl_PassesOf.mono_l : ∀ k, (∀ y0 y1 y2 y3 y4 y5 y6 y7, LeO (impl_PassesOf.l0 k y0 y1 y2 y3 y4 y5 y6 y7) (impl_PassesOf.l0 (k + 1) y0 y1 y2 y3 y4 y5 y6 y7)) ∧ (∀ y0 y1 y2 y3 y4 y5 y6 y7 y8 y9 y10 y11 y12 y13 y14 y15, LeO (impl_PassesOf.l1 k y0 y1 y2 y3 y4 y5 y6 y7 y8 y9 y10 y11 y12 y13 y14 y15) (impl_PassesOf.l1 (k + 1) y0 y1 y2 y3 y4 y5 y6 y7 y8 y9 y10 y11 y12 y13 y14 y15))
 | 0 => ⟨fun _ _ _ _ _ _ _ _ r h => by simp [impl_PassesOf.l0] at h, fun _ _ _ _ _ _ _ _ _ _ _ _ _ _ _ _ r h => by simp [impl_PassesOf.l1] at h⟩
 | k + 1 => by
  obtain ⟨ih0, ih1⟩ := impl_PassesOf.mono_l k
  refine ⟨?_, ?_⟩
  ·intro y0 y1 y2 y3 y4 y5 y6 y7
   unfold impl_PassesOf.l0
   repeat' first
   | (with_reducible exact ih0 _ _ _ _ _ _ _ _)
   | (with_reducible exact ih1 _ _ _ _ _ _ _ _ _ _ _ _ _ _ _ _)
   | (with_reducible exact impl_ChannelsOf.mono _ _)
   | (with_reducible exact impl_PassSize.mono _ _ _ _)
   | (with_reducible exact impl_RasterOk.mono _ _ _ _ _ _)
   | (with_reducible exact impl_pixelsOf.mono _ _ _ _)
   | (with_reducible exact LeO.refl _)
   | (with_reducible exact LeO.none _)
   | (with_reducible refine LeO.ite ?_ ?_)
   | (with_reducible refine LeO.bind ?_ (fun _ => ?_))
   | exact ih0 _ _ _ _ _ _ _ _
   | exact ih1 _ _ _ _ _ _ _ _ _ _ _ _ _ _ _ _
   | exact impl_ChannelsOf.mono _ _
   | exact impl_PassSize.mono _ _ _ _
   | exact impl_RasterOk.mono _ _ _ _ _ _
   | exact impl_pixelsOf.mono _ _ _ _
   | exact LeO.none _
   | refine LeO.ite ?_ ?_
   | refine LeO.bind ?_ (fun _ => ?_)
  ·intro y0 y1 y2 y3 y4 y5 y6 y7 y8 y9 y10 y11 y12 y13 y14 y15
   unfold impl_PassesOf.l1
   repeat' first
   | (with_reducible exact ih0 _ _ _ _ _ _ _ _)
   | (with_reducible exact ih1 _ _ _ _ _ _ _ _ _ _ _ _ _ _ _ _)
   | (with_reducible exact impl_ChannelsOf.mono _ _)
   | (with_reducible exact impl_PassSize.mono _ _ _ _)
   | (with_reducible exact impl_RasterOk.mono _ _ _ _ _ _)
   | (with_reducible exact impl_pixelsOf.mono _ _ _ _)
   | (with_reducible exact LeO.refl _)
   | (with_reducible exact LeO.none _)
   | (with_reducible refine LeO.ite ?_ ?_)
   | (with_reducible refine LeO.bind ?_ (fun _ => ?_))
   | exact ih0 _ _ _ _ _ _ _ _
   | exact ih1 _ _ _ _ _ _ _ _ _ _ _ _ _ _ _ _
   | exact impl_ChannelsOf.mono _ _
   | exact impl_PassSize.mono _ _ _ _
   | exact impl_RasterOk.mono _ _ _ _ _ _
   | exact impl_pixelsOf.mono _ _ _ _
   | exact LeO.none _
   | refine LeO.ite ?_ ?_
   | refine LeO.bind ?_ (fun _ => ?_)
theorem impl_PassesOf.mono : ∀ a0 a1 a2 a3 a4 k, LeO (impl_PassesOf.f k a0 a1 a2 a3 a4) (impl_PassesOf.f (k + 1) a0 a1 a2 a3 a4) := by
 intro a0 a1 a2 a3 a4 k
 obtain ⟨ih0, ih1⟩ := impl_PassesOf.mono_l k
 unfold impl_PassesOf.f
 repeat' first
   | (with_reducible exact ih0 _ _ _ _ _ _ _ _)
   | (with_reducible exact ih1 _ _ _ _ _ _ _ _ _ _ _ _ _ _ _ _)
   | (with_reducible exact impl_ChannelsOf.mono _ _)
   | (with_reducible exact impl_PassSize.mono _ _ _ _)
   | (with_reducible exact impl_RasterOk.mono _ _ _ _ _ _)
   | (with_reducible exact impl_pixelsOf.mono _ _ _ _)
   | (with_reducible exact LeO.refl _)
   | (with_reducible exact LeO.none _)
   | (with_reducible refine LeO.ite ?_ ?_)
   | (with_reducible refine LeO.bind ?_ (fun _ => ?_))
   | exact ih0 _ _ _ _ _ _ _ _
   | exact ih1 _ _ _ _ _ _ _ _ _ _ _ _ _ _ _ _
   | exact impl_ChannelsOf.mono _ _
   | exact impl_PassSize.mono _ _ _ _
   | exact impl_RasterOk.mono _ _ _ _ _ _
   | exact impl_pixelsOf.mono _ _ _ _
   | exact LeO.none _
   | refine LeO.ite ?_ ?_
   | refine LeO.bind ?_ (fun _ => ?_)
def impl_PassesOf.T13 : Bool × List (List Nat × List Nat) := (true, [([], []), ([0], [0]), ([], []), ([2], [2]), ([], []), ([], []), ([4, 5], [4, 5]), ([], []), ([7], [7]), ([], []), ([8, 9], [8, 9]), ([3, 6, 10], [3, 6, 10]), ([1, 11], [1, 11]), ([0, 1, 2, 3, 4, 5, 6, 7, 8, 9, 10, 11, 12], []), ([13, 12, 12, 0, 1, 2, 3, 4, 5, 6, 7, 8, 9, 10, 11, 12], [12, 13])])
def impl_PassesOf.B13 : List Nat := [0, 1, 0, 4, 0, 0, 48, 0, 128, 0, 896, 2044, 4095, 8191, 16383]
theorem impl_PassesOf.tab13 : rtab .any (opsOf Try.f15 13) = impl_PassesOf.T13 := by kernel_rfl
theorem impl_PassesOf.bits13 : waitsOk impl_PassesOf.T13.2 impl_PassesOf.B13 = true := by kernel_rfl
set_option maxHeartbeats 8000000 in
set_option maxRecDepth 100000 in
theorem impl_PassesOf.calls (k : Nat) (a0_0 : Int) (a0_1 : Int) (a0_2 : Int) (a0_3 : Int) (A0_4 : Option Addr) (c0_4 : Nat) (l0_4 : List Int) (r1 : List (S29)) (r2 : Bool) (w : World) (hr0_4 : Kd.C (Kd.int .i64) w A0_4 l0_4.length l0_4) (hc0_4 : l0_4.length ≤ c0_4) (h : impl_PassesOf.f k a0_0 a0_1 a0_2 a0_3 l0_4 = some (r1, r2)) :
  Calls Try.prog 15 #[.agg #[.int .i64 a0_0, .int .i64 a0_1, .int .i64 a0_2, .int .i64 a0_3, .slice A0_4 l0_4.length c0_4]] w fun e w' => ∃ v0_ : Value, e = .returned (.tuple #[v0_, .bool r2]) ∧ Kd.S k29 29 w' w.heap.size (fun _ => True) v0_ r1 ∧ Below w.heap.size w w' := by
 have hu29 := Try.underlying29
 have HR0_4 := aM hr0_4
 have HC0_4 := aM hc0_4
 clear hr0_4 hc0_4
 have HB := aM (Below.refl w.heap.size w)
 unfold impl_PassesOf.f at h; have H := h
 clear h
 replace H := oB.mp H
 obtain ⟨t151, A20, H⟩ := H
 replace H : (if t151 = true then ((impl_ChannelsOf.f k a0_2).bind fun t155 => (impl_PassesOf.l0 k (([] : List (S29))) t155 0 a0_0 a0_1 a0_2 a0_3 l0_4)) else (some (([] : List (S29)), false))) = some (r1, r2) := H
 have A2 := aM A20
 clear A20
 by_cases c3 : t151 = true
 ·subst c3
  have H1 : ((impl_ChannelsOf.f k a0_2).bind fun t155 => (impl_PassesOf.l0 k (([] : List (S29))) t155 0 a0_0 a0_1 a0_2 a0_3 l0_4)) = some (r1, r2) := by rw [if_pos rfl] at H; first | done | exact H
  clear H
  have H := H1
  clear H1
  obtain ⟨y152, hy152⟩ : ∃ y_ : List (S29), y_ = (([] : List (S29))) := ⟨_, rfl⟩
  replace H : ((impl_ChannelsOf.f k a0_2).bind fun t155 => (impl_PassesOf.l0 k y152 t155 0 a0_0 a0_1 a0_2 a0_3 l0_4)) = some (r1, r2) := by first | (rw [hy152]; with_reducible exact H) | (have H2_ := (Option.bind_some _ _).symm.trans H; rw [hy152]; with_reducible exact H2_) | (have H2_ := (Option.bind_some _ _).symm.trans H; with_reducible exact H2_) | with_reducible exact H | (rw [hy152]; exact H) | exact H
  have Ny152 := aM hy152
  clear hy152
  replace H := oB.mp H
  obtain ⟨t155, A40, H⟩ := H
  replace H : (impl_PassesOf.l0 k y152 t155 0 a0_0 a0_1 a0_2 a0_3 l0_4) = some (r1, r2) := H
  have A4 := aM A40
  clear A40
  have H' := aM H
  clear H
  go_enter Try.func15, Try.ntmps15
  go_wp2_with (first | ((with_reducible refine gate_dst (N := 1) rfl ?_); refine box_event ?hg (N := 1) ?hd (cs := #[.int .i64 a0_0, .int .i64 a0_1, .int .i64 a0_2, .int .i64 a0_3, .slice A0_4 l0_4.length c0_4]) (t := 29) ?hr ?_; (case hd => rfl); (case hg => rfl); (case hr => first | (go_simp; done) | (go_simp; rfl)); intro gb150 hg w5 hbox hb; have n0_ := aM (bT (by repeat (first | (with_reducible first | exact HB.out | apply bA | apply bN | apply bE) | exact HB.out)) hb); have n1_ := aM (hbox); have n2_ := aM ((by rw [hg]; exact (bZ (by repeat (first | (with_reducible first | exact HB.out | apply bA | apply bN | apply bE) | exact HB.out))) : w.heap.size ≤ gb150)); have n3_ := aM ((by rw [hg]; exact (bZ (by repeat (first | (with_reducible first | exact HB.out | apply bA | apply bN | apply bE) | exact HB.out))) : w.heap.size ≤ gb150)); clear HB; have HB := n0_; have BK150 := n1_; have GW150 := n2_; have GE150 := n3_; clear n0_ n1_ n2_ n3_; clear hb hbox hg; obtain ⟨hcz6_0, hcz6_1, hcz6_2, hcz6_3, hcz6_4⟩ := blk_c5 BK150.out; obtain ⟨hfz6_0, hfz6_1, hfz6_2, hfz6_3, hfz6_4⟩ := blk_f5 BK150.out) | ((with_reducible refine gate_callee (f := 64) rfl ?_); refine goesL_ (some 11) rfl rfl Try.func64 (by kernel_rfl) rfl #[.agg #[.int .i64 a0_0, .int .i64 a0_1, .int .i64 a0_2, .int .i64 a0_3, .slice A0_4 l0_4.length c0_4]] rfl (by (try simp only [lM, List.map_cons, List.map_nil]); first | done | rfl | (simp only [lD, lT]; rfl)) ?_; (with_reducible refine (impl_RasterOk.calls k a0_0 a0_1 a0_2 a0_3 _ _ l0_4 true _ ?side1 ?side2 A2.out).mono ?_); (case side1 => repeat (first | exact (Kd.C_below HR0_4.out HB.out) | (with_reducible refine cA ?_ _) | (with_reducible refine cN ?_ _) | (with_reducible refine cD ?_))); (case side2 => exact HC0_4.out); rintro e w7 ⟨rfl, hb⟩; refine ⟨_, rfl, ?_⟩; have n0_ := aM (kB (g := gb150) (o := .cells #[.int .i64 a0_0, .int .i64 a0_1, .int .i64 a0_2, .int .i64 a0_3, .slice A0_4 l0_4.length c0_4] 29 (0, 0)) (by (with_reducible repeat (first | refine kN ?_ _ | refine kD ?_ | refine kA ?_ _)); exact BK150.out) hb); have n1_ := aM (bT (by repeat (first | (with_reducible first | exact HB.out | apply bA | apply bN | apply bE | refine bS ?_ GE150.out) | exact HB.out)) hb); clear BK150; clear HB; have BK150 := n0_; have HB := n1_; clear n0_ n1_; (try clear hb); (try clear hb2); (try clear hk); (try clear hi)) | ((with_reducible refine gate_dst (N := 13) rfl ?_); refine Kd.S_lit k29 _ 29 ?hg (N := 13) ?hd (xs := ([] : List (S29))) (inner := []) (ok := fun _ => True) (okp := fun _ => True) ?hr ?hp (fun _ hk => hk) trivial (Below.refl _ _) (Nat.le_refl _) (by simp) ?_; (case hd => rfl); (case hg => rfl); (case hr => first | (go_simp; done) | (go_simp; rfl)); (case hp => exact (Reps.none _ _)); intro v153 w8 ho9 hb hg_ hnew_; clear hg_ hnew_; (first | rw [← Ny152.out] at ho9 | (simp only [Int.reduceToNat] at ho9; rw [← Ny152.out] at ho9)); have n0_ := aM (Kd.S_lower (Kd.S_newB ho9 (g := gb150) (o := .cells #[.int .i64 a0_0, .int .i64 a0_1, .int .i64 a0_2, .int .i64 a0_3, .slice A0_4 l0_4.length c0_4] 29 (0, 0)) (by (with_reducible repeat (first | refine kN ?_ _ | refine kD ?_ | refine kA ?_ _)); exact BK150.out)) (bZ (by repeat (first | (with_reducible first | exact HB.out | apply bA | apply bN | apply bE | refine bS ?_ GE150.out) | exact HB.out)))); have n1_ := aM (kB (g := gb150) (o := .cells #[.int .i64 a0_0, .int .i64 a0_1, .int .i64 a0_2, .int .i64 a0_3, .slice A0_4 l0_4.length c0_4] 29 (0, 0)) (by (with_reducible repeat (first | refine kN ?_ _ | refine kD ?_ | refine kA ?_ _)); exact BK150.out) hb); have n2_ := aM (bT (by repeat (first | (with_reducible first | exact HB.out | apply bA | apply bN | apply bE | refine bS ?_ GE150.out) | exact HB.out)) hb); clear BK150; clear HB; have HO154 := n0_; have BK150 := n1_; have HB := n2_; clear n0_ n1_ n2_; clear hb ho9; obtain ⟨hcz10_0, hcz10_1, hcz10_2, hcz10_3, hcz10_4⟩ := blk_c5 BK150.out; obtain ⟨hfz10_0, hfz10_1, hfz10_2, hfz10_3, hfz10_4⟩ := blk_f5 BK150.out) | ((with_reducible refine gate_callee (f := 65) rfl ?_); refine goesL_ (some 16) rfl rfl Try.func65 (by kernel_rfl) rfl #[.int .i64 a0_2] rfl (by (try simp only [lM, List.map_cons, List.map_nil]); first | done | rfl | (simp only [lD, lT]; rfl)) ?_; (with_reducible refine (impl_ChannelsOf.calls k a0_2 t155 _ A4.out).mono ?_); rintro e w' ⟨rfl, ⟨nd, rfl⟩⟩; refine ⟨_, rfl, ?_⟩))
  go_loopg [4, 17] k (fun kq v4 v17 w' => ∃ (x4_1 : List (S29)) (x17_1 : Int), v17 = .int .i64 x17_1 ∧ Aside0 (impl_PassesOf.l0 kq x4_1 t155 x17_1 a0_0 a0_1 a0_2 a0_3 l0_4 = some (r1, r2)) ∧ Aside0 (kq ≤ k) ∧ Aside0 (Kd.S k29 29 w' w.heap.size (fun k_ => k_ ≠ gb150) v4 x4_1) ∧ Aside0 (w'.heap[gb150]? = some (.cells #[.int .i64 a0_0, .int .i64 a0_1, .int .i64 a0_2, .int .i64 a0_3, (.slice A0_4 l0_4.length c0_4)] 29 (0, 0))) ∧ Aside0 (Below w.heap.size w w'))
  case atStart => exact ⟨(y152), (0), (by first | rfl | (simp; done) | (simp [*]; done)), H', ⟨Nat.le_refl _⟩, ⟨by (with_reducible repeat (first | apply Kd.S_alloc | apply Kd.S_drewN | apply Kd.S_drew)); exact Kd.S_mono HO154.out (fun _ hk => hk.2)⟩, ⟨by (with_reducible repeat (first | refine kN ?_ _ | refine kD ?_ | refine kA ?_ _)); exact BK150.out⟩, ⟨by repeat (first | (with_reducible first | exact HB.out | apply bA | apply bN | apply bE | refine bS ?_ GE150.out) | exact HB.out)⟩⟩
  case round =>
   clear H'
   try clear c1
   try clear p2
   try clear c3
   try clear c5
   try clear c6
   try clear hcz10_0
   try clear hcz10_1
   try clear hcz10_2
   try clear hcz10_3
   try clear hcz10_4
   try clear hcz6_0
   try clear hcz6_1
   try clear hcz6_2
   try clear hcz6_3
   try clear hcz6_4
   try clear hfz10_0
   try clear hfz10_1
   try clear hfz10_2
   try clear hfz10_3
   try clear hfz10_4
   try clear hfz6_0
   try clear hfz6_1
   try clear hfz6_2
   try clear hfz6_3
   try clear hfz6_4
   obtain ⟨x4_1, x17_1, rfl, HA, HK1, HO_4, BK150, HB⟩ := hrel
   cases gk with
   | zero => exact absurd HA.out (by simp [impl_PassesOf.l0])
   | succ k1 =>
    have H := HA.out
    clear HA
    simp only [impl_PassesOf.l0] at H
    by_cases c11 : x17_1 < 7
    ·rw [if_pos c11] at H
     have c11b0 : decide (x17_1 < 7) = true := decide_eq_true c11
     clear c11
     replace H := oB.mp H
     obtain ⟨⟨t157, t158⟩, A120, H⟩ := H
     replace H : ((impl_pixelsOf.f k1 a0_0 a0_1 x17_1).bind fun t159 => (impl_PassesOf.l1 k1 x4_1 t155 x17_1 t159 (t159.length : Int) 0 a0_0 a0_1 a0_2 a0_3 l0_4 t157 t158 a0_2 a0_3 ([] : List Int))) = some (r1, r2) := H
     have A12 := aM A120
     clear A120
     replace H := oB.mp H
     obtain ⟨t159, A130, H⟩ := H
     replace H : (impl_PassesOf.l1 k1 x4_1 t155 x17_1 t159 (t159.length : Int) 0 a0_0 a0_1 a0_2 a0_3 l0_4 t157 t158 a0_2 a0_3 ([] : List Int)) = some (r1, r2) := H
     have A13 := aM A130
     clear A130
     have H' := aM H
     clear H
     obtain ⟨hcz14_0, hcz14_1, hcz14_2, hcz14_3, hcz14_4⟩ := blk_c5 BK150.out
     obtain ⟨hfz14_0, hfz14_1, hfz14_2, hfz14_3, hfz14_4⟩ := blk_f5 BK150.out
     go_wp2_with (first | ((with_reducible refine gate_dst (N := 7) rfl ?_); refine box_event ?hg (N := 7) ?hd (cs := #[.int .i64 0, .int .i64 0, .int .i64 0, .int .i64 0, .slice none 0 0]) (t := 29) ?hr ?_; (case hd => rfl); (case hg => rfl); (case hr => first | (go_simp; done) | (go_simp; rfl)); intro gb156 hg w15 hbox hb; have n0_ := aM (Kd.S_below (Kd.S_elderB (by (with_reducible repeat (first | apply Kd.S_alloc | apply Kd.S_drewN | apply Kd.S_drew)); exact HO_4.out) gb156 (Nat.le_of_eq hg.symm)) hb); have n1_ := aM (kB (g := gb150) (o := .cells #[.int .i64 a0_0, .int .i64 a0_1, .int .i64 a0_2, .int .i64 a0_3, .slice A0_4 l0_4.length c0_4] 29 (0, 0)) (by (with_reducible repeat (first | refine kN ?_ _ | refine kD ?_ | refine kA ?_ _)); exact BK150.out) hb); have n2_ := aM (bT (by repeat (first | (with_reducible first | exact HB.out | apply bA | apply bN | apply bE | refine bS ?_ GE150.out) | exact HB.out)) hb); have n3_ := aM (hbox); have n4_ := aM ((by rw [hg]; exact (bZ (by repeat (first | (with_reducible first | exact HB.out | apply bA | apply bN | apply bE | refine bS ?_ GE150.out) | exact HB.out))) : w.heap.size ≤ gb156)); have n5_ := aM ((by rw [hg]; exact (bZ (by repeat (first | (with_reducible first | exact HB.out | apply bA | apply bN | apply bE | refine bS ?_ GE150.out) | exact HB.out))) : w.heap.size ≤ gb156)); have n6_ := aM ((by rw [hg]; exact Nat.ne_of_lt (blk_lt (g := gb150) (o := .cells #[.int .i64 a0_0, .int .i64 a0_1, .int .i64 a0_2, .int .i64 a0_3, .slice A0_4 l0_4.length c0_4] 29 (0, 0)) (by (with_reducible repeat (first | refine kN ?_ _ | refine kD ?_ | refine kA ?_ _)); exact BK150.out)) : gb150 ≠ gb156)); have n7_ := aM ((by rw [hg]; exact Nat.ne_of_gt (blk_lt (g := gb150) (o := .cells #[.int .i64 a0_0, .int .i64 a0_1, .int .i64 a0_2, .int .i64 a0_3, .slice A0_4 l0_4.length c0_4] 29 (0, 0)) (by (with_reducible repeat (first | refine kN ?_ _ | refine kD ?_ | refine kA ?_ _)); exact BK150.out)) : gb156 ≠ gb150)); clear HO_4; clear BK150; clear HB; have HO_4 := n0_; have BK150 := n1_; have HB := n2_; have BK156 := n3_; have GW156 := n4_; have GE156 := n5_; have NB150_156 := n6_; have NB156_150 := n7_; clear n0_ n1_ n2_ n3_ n4_ n5_ n6_ n7_; clear hb hbox hg; have hnb16 := NB156_150.out; have hnc16 := NB150_156.out; obtain ⟨hcz17_0, hcz17_1, hcz17_2, hcz17_3, hcz17_4⟩ := blk_c5 BK156.out; obtain ⟨hfz17_0, hfz17_1, hfz17_2, hfz17_3, hfz17_4⟩ := blk_f5 BK156.out; obtain ⟨hcz18_0, hcz18_1, hcz18_2, hcz18_3, hcz18_4⟩ := blk_c5 BK150.out; obtain ⟨hfz18_0, hfz18_1, hfz18_2, hfz18_3, hfz18_4⟩ := blk_f5 BK150.out) | ((with_reducible refine gate_callee (f := 66) rfl ?_); refine goesL_ (some 31) rfl rfl Try.func66 (by kernel_rfl) rfl #[.int .i64 a0_0, .int .i64 a0_1, .int .i64 x17_1] rfl (by (try simp only [lM, List.map_cons, List.map_nil]); first | done | rfl | (simp only [lD, lT]; rfl)) ?_; (with_reducible refine (impl_PassSize.calls k1 a0_0 a0_1 x17_1 t157 t158 _ A12.out).mono ?_); rintro e w' ⟨rfl, ⟨nd, rfl⟩⟩; refine ⟨_, rfl, ?_⟩) | ((with_reducible refine gate_callee (f := 67) rfl ?_); refine goesL_ (some 41) rfl rfl Try.func67 (by kernel_rfl) rfl #[.int .i64 a0_0, .int .i64 a0_1, .int .i64 x17_1] rfl (by (try simp only [lM, List.map_cons, List.map_nil]); first | done | rfl | (simp only [lD, lT]; rfl)) ?_; (with_reducible refine (impl_pixelsOf.calls k1 a0_0 a0_1 x17_1 t159 _ A13.out).mono ?_); rintro e w19 ⟨v160, rfl, ho0, hb⟩; refine ⟨_, rfl, ?_⟩; have n0_ := aM (Kd.S_elder' (by (with_reducible repeat (first | apply Kd.S_alloc | apply Kd.S_drewN | apply Kd.S_drew)); exact (Kd.S_mono (Kd.S_far (p := ⟨gb156, 1, none⟩) (Kd.S_far (p := ⟨gb156, 0, none⟩) (Kd.S_far (p := ⟨gb156, 4, none⟩) (Kd.S_far (p := ⟨gb156, 3, none⟩) (Kd.S_far (p := ⟨gb156, 2, none⟩) (Kd.S_far (p := ⟨gb156, 1, none⟩) (Kd.S_far (p := ⟨gb156, 0, none⟩) (Kd.S_mono HO_4.out (fun k_ hk => (⟨hk, hk.2⟩ : _ ∧ k_ ≠ gb156))) (fun _ hk => hk.2) (.int .i64 0)) (fun _ hk => hk.2) (.int .i64 0)) (fun _ hk => hk.2) (.int .i64 a0_2)) (fun _ hk => hk.2) (.int .i64 a0_3)) (fun _ hk => hk.2) (.slice none 0 0)) (fun _ hk => hk.2) (.int .i64 t157)) (fun _ hk => hk.2) (.int .i64 t158)) (fun _ h_ => h_.1))) (Kd.R_base ho0) hb); have n1_ := aM (Kd.R_lower ho0 (bZ (by repeat (first | (with_reducible first | exact HB.out | apply bA | apply bN | apply bE | refine bS ?_ GE150.out | refine bS ?_ GE156.out) | exact HB.out)))); have n2_ := aM (kB (g := gb150) (o := .cells #[.int .i64 a0_0, .int .i64 a0_1, .int .i64 a0_2, .int .i64 a0_3, .slice A0_4 l0_4.length c0_4] 29 (0, 0)) (by (with_reducible repeat (first | refine kN ?_ _ | refine kD ?_ | refine kA ?_ _)); refine blk_far ?_ NB150_156.out _; (with_reducible repeat (first | refine kN ?_ _ | refine kD ?_ | refine kA ?_ _)); refine blk_far ?_ NB150_156.out _; (with_reducible repeat (first | refine kN ?_ _ | refine kD ?_ | refine kA ?_ _)); refine blk_far ?_ NB150_156.out _; (with_reducible repeat (first | refine kN ?_ _ | refine kD ?_ | refine kA ?_ _)); refine blk_far ?_ NB150_156.out _; (with_reducible repeat (first | refine kN ?_ _ | refine kD ?_ | refine kA ?_ _)); refine blk_far ?_ NB150_156.out _; (with_reducible repeat (first | refine kN ?_ _ | refine kD ?_ | refine kA ?_ _)); refine blk_far ?_ NB150_156.out _; (with_reducible repeat (first | refine kN ?_ _ | refine kD ?_ | refine kA ?_ _)); refine blk_far ?_ NB150_156.out _; (with_reducible repeat (first | refine kN ?_ _ | refine kD ?_ | refine kA ?_ _)); exact BK150.out) hb); have n3_ := aM (kB (g := gb156) (o := .cells #[.int .i64 t157, .int .i64 t158, .int .i64 a0_2, .int .i64 a0_3, .slice none 0 0] 29 (0, 0)) (by (with_reducible repeat (first | refine kN ?_ _ | refine kD ?_ | refine kA ?_ _)); refine blk_put (cs := #[.int .i64 t157, .int .i64 0, .int .i64 a0_2, .int .i64 a0_3, .slice none 0 0]) ?_ 1 _ rfl; (with_reducible repeat (first | refine kN ?_ _ | refine kD ?_ | refine kA ?_ _)); refine blk_put (cs := #[.int .i64 0, .int .i64 0, .int .i64 a0_2, .int .i64 a0_3, .slice none 0 0]) ?_ 0 _ rfl; (with_reducible repeat (first | refine kN ?_ _ | refine kD ?_ | refine kA ?_ _)); refine blk_put (cs := #[.int .i64 0, .int .i64 0, .int .i64 a0_2, .int .i64 a0_3, .slice none 0 0]) ?_ 4 _ rfl; (with_reducible repeat (first | refine kN ?_ _ | refine kD ?_ | refine kA ?_ _)); refine blk_put (cs := #[.int .i64 0, .int .i64 0, .int .i64 a0_2, .int .i64 0, .slice none 0 0]) ?_ 3 _ rfl; (with_reducible repeat (first | refine kN ?_ _ | refine kD ?_ | refine kA ?_ _)); refine blk_put (cs := #[.int .i64 0, .int .i64 0, .int .i64 0, .int .i64 0, .slice none 0 0]) ?_ 2 _ rfl; (with_reducible repeat (first | refine kN ?_ _ | refine kD ?_ | refine kA ?_ _)); refine blk_put (cs := #[.int .i64 0, .int .i64 0, .int .i64 0, .int .i64 0, .slice none 0 0]) ?_ 1 _ rfl; (with_reducible repeat (first | refine kN ?_ _ | refine kD ?_ | refine kA ?_ _)); refine blk_put (cs := #[.int .i64 0, .int .i64 0, .int .i64 0, .int .i64 0, .slice none 0 0]) ?_ 0 _ rfl; (with_reducible repeat (first | refine kN ?_ _ | refine kD ?_ | refine kA ?_ _)); exact BK156.out) hb); have n4_ := aM (bT (by repeat (first | (with_reducible first | exact HB.out | apply bA | apply bN | apply bE | refine bS ?_ GE150.out | refine bS ?_ GE156.out) | exact HB.out)) hb); clear HO_4; clear BK150; clear BK156; clear HB; have HO_4 := n0_; have HO161 := n1_; have BK150 := n2_; have BK156 := n3_; have HB := n4_; clear n0_ n1_ n2_ n3_ n4_; (try clear hb); (try clear hb2); (try clear hk); (try clear hi); (try clear ho0); obtain ⟨Ao20, co20, eo20⟩ := Kd.R_slice HO161.out; subst eo20))
     go_loopg [43] k1 (fun kq v43 w' => ∃ (x43_2 : Int) (x157004_2 : List Int) (u157004 : Value), v43 = .int .i64 x43_2 ∧ Aside0 (impl_PassesOf.l1 kq x4_1 t155 x17_1 t159 (t159.length : Int) x43_2 a0_0 a0_1 a0_2 a0_3 l0_4 t157 t158 a0_2 a0_3 x157004_2 = some (r1, r2)) ∧ Aside0 (kq ≤ k1) ∧ Aside0 (Kd.S k29 29 w' w.heap.size (fun k_ => some k_ ≠ ((.slice Ao20 t159.length co20) : Value).ownBlock ∧ some k_ ≠ (u157004 : Value).ownBlock ∧ k_ ≠ gb150 ∧ k_ ≠ gb156) u4 x4_1) ∧ Aside0 (Kd.R (Kd.int .i64) 3 w' w.heap.size (fun k_ => some k_ ≠ (u157004 : Value).ownBlock) (.slice Ao20 t159.length co20) t159) ∧ Aside0 (Kd.R (Kd.int .i64) 3 w' w.heap.size (fun k_ => some k_ ≠ ((.slice Ao20 t159.length co20) : Value).ownBlock) u157004 x157004_2) ∧ Aside0 (w'.heap[gb150]? = some (.cells #[.int .i64 a0_0, .int .i64 a0_1, .int .i64 a0_2, .int .i64 a0_3, (.slice A0_4 l0_4.length c0_4)] 29 (0, 0))) ∧ Aside0 (w'.heap[gb156]? = some (.cells #[.int .i64 t157, .int .i64 t158, .int .i64 a0_2, .int .i64 a0_3, u157004] 29 (0, 0))) ∧ Aside0 (Below w.heap.size w w'))
     case atStart => exact ⟨(0), (([] : List Int)), (.slice none 0 0), (by first | rfl | (simp; done) | (simp [*]; done)), H', ⟨Nat.le_refl _⟩, ⟨by (with_reducible repeat (first | apply Kd.S_alloc | apply Kd.S_drewN | apply Kd.S_drew)); exact Kd.S_mono HO_4.out (fun _ hk => ⟨hk.2, ⟨(by simp [Value.ownBlock]), ⟨hk.1.1, hk.1.2⟩⟩⟩)⟩, ⟨by (with_reducible repeat (first | apply rA | apply rN | apply rD)); exact Kd.R_mono HO161.out (fun _ hk => (by simp [Value.ownBlock]))⟩, ⟨by first | exact Kd.R_nil _ _ _ _ _ | exact Kd.N_nil _ _ _ _ _ | exact Kd.V_nil _ _ _ _ _ | exact Kd.Q_nil _ _ _ _ _ | exact Kd.S_nil _ _ _ _ _⟩, ⟨by (with_reducible repeat (first | refine kN ?_ _ | refine kD ?_ | refine kA ?_ _)); exact BK150.out⟩, ⟨by (with_reducible repeat (first | refine kN ?_ _ | refine kD ?_ | refine kA ?_ _)); exact BK156.out⟩, ⟨by repeat (first | (with_reducible first | exact HB.out | apply bA | apply bN | apply bE | refine bS ?_ GE150.out | refine bS ?_ GE156.out) | exact HB.out)⟩⟩
     case round =>
      clear H'
      try clear c1
      try clear p2
      try clear c3
      try clear c5
      try clear c6
      try clear c11
      try clear c11b0
      try clear c15
      try clear c16
      try clear hcz10_0
      try clear hcz10_1
      try clear hcz10_2
      try clear hcz10_3
      try clear hcz10_4
      try clear hcz14_0
      try clear hcz14_1
      try clear hcz14_2
      try clear hcz14_3
      try clear hcz14_4
      try clear hcz17_0
      try clear hcz17_1
      try clear hcz17_2
      try clear hcz17_3
      try clear hcz17_4
      try clear hcz18_0
      try clear hcz18_1
      try clear hcz18_2
      try clear hcz18_3
      try clear hcz18_4
      try clear hcz6_0
      try clear hcz6_1
      try clear hcz6_2
      try clear hcz6_3
      try clear hcz6_4
      try clear hfz10_0
      try clear hfz10_1
      try clear hfz10_2
      try clear hfz10_3
      try clear hfz10_4
      try clear hfz14_0
      try clear hfz14_1
      try clear hfz14_2
      try clear hfz14_3
      try clear hfz14_4
      try clear hfz17_0
      try clear hfz17_1
      try clear hfz17_2
      try clear hfz17_3
      try clear hfz17_4
      try clear hfz18_0
      try clear hfz18_1
      try clear hfz18_2
      try clear hfz18_3
      try clear hfz18_4
      try clear hfz6_0
      try clear hfz6_1
      try clear hfz6_2
      try clear hfz6_3
      try clear hfz6_4
      try clear p2
      obtain ⟨x43_2, x157004_2, u157004, rfl, HA, HK2, HO_4, HO_41, HO_157004, BK150, BK156, HB⟩ := hrel
      cases gk with
      | zero => exact absurd HA.out (by simp [impl_PassesOf.l1])
      | succ k2 =>
       have H := HA.out
       clear HA
       simp only [impl_PassesOf.l1] at H
       by_cases c21 : x43_2 < (t159.length : Int)
       ·rw [if_pos c21] at H
        have c21b0 : decide (x43_2 < (t159.length : Int)) = true := decide_eq_true c21
        clear c21
        by_cases c22 : 0 ≤ x43_2
        ·rw [if_pos c22] at H
         have c22b0 : decide (0 ≤ x43_2) = true := decide_eq_true c22
         clear c22
         by_cases c23 : x43_2 < (t159.length : Int)
         ·rw [if_pos c23] at H
          have c23b0 : decide (x43_2 < (t159.length : Int)) = true := decide_eq_true c23
          clear c23
          obtain ⟨ji24, hji24⟩ : ∃ j_ : Int, (wrap64 ((rd t159 x43_2) * t155)) = j_ := ⟨_, rfl⟩
          replace H : (if 0 ≤ (ji24) then (if (ji24) ≤ (wrap64 ((wrap64 ((rd t159 x43_2) + 1)) * t155)) then (if (wrap64 ((wrap64 ((rd t159 x43_2) + 1)) * t155)) ≤ (l0_4.length : Int) then (if x157004_2.length + ((l0_4.take ((wrap64 ((wrap64 ((rd t159 x43_2) + 1)) * t155)) : Int).toNat).drop ((ji24) : Int).toNat).length < 17592186044416 then (impl_PassesOf.l1 k2 x4_1 t155 x17_1 t159 (t159.length : Int) (wrap64 (x43_2 + 1)) a0_0 a0_1 a0_2 a0_3 l0_4 t157 t158 a0_2 a0_3 (x157004_2 ++ ((l0_4.take ((wrap64 ((wrap64 ((rd t159 x43_2) + 1)) * t155)) : Int).toNat).drop ((ji24) : Int).toNat))) else (none)) else (none)) else (none)) else (none)) = some (r1, r2) := by first | (rw [hji24] at H; exact H) | (simp only [hji24] at H ⊢; exact H)
          have hji24w : (IntKind.i64.wrap ((rd t159 x43_2) * t155)) = ji24 := (i64_w _).trans hji24
          by_cases c25 : 0 ≤ (ji24)
          ·rw [if_pos c25] at H
           have c25b0 := eq_true c25
           have c25b1 : decide (0 ≤ (ji24)) = true := decide_eq_true c25
           clear c25
           by_cases c26 : (ji24) ≤ (wrap64 ((wrap64 ((rd t159 x43_2) + 1)) * t155))
           ·rw [if_pos c26] at H
            have c26b0 := eq_true c26
            have c26b1 : decide ((ji24) ≤ (wrap64 ((wrap64 ((rd t159 x43_2) + 1)) * t155))) = true := decide_eq_true c26
            by_cases c27 : (wrap64 ((wrap64 ((rd t159 x43_2) + 1)) * t155)) ≤ (l0_4.length : Int)
            ·rw [if_pos c27] at H
             have c27b0 := eq_true c27
             have c27b1 : decide ((wrap64 ((wrap64 ((rd t159 x43_2) + 1)) * t155)) ≤ (l0_4.length : Int)) = true := decide_eq_true c27
             by_cases c28 : x157004_2.length + ((l0_4.take ((wrap64 ((wrap64 ((rd t159 x43_2) + 1)) * t155)) : Int).toNat).drop ((ji24) : Int).toNat).length < 17592186044416
             ·rw [if_pos c28] at H
              have LMc28 := aM c28
              clear c28
              obtain ⟨y164, hy164⟩ : ∃ y_ : List Int, y_ = (x157004_2 ++ ((l0_4.take ((wrap64 ((wrap64 ((rd t159 x43_2) + 1)) * t155)) : Int).toNat).drop ((ji24) : Int).toNat)) := ⟨_, rfl⟩
              replace H : (impl_PassesOf.l1 k2 x4_1 t155 x17_1 t159 (t159.length : Int) (wrap64 (x43_2 + 1)) a0_0 a0_1 a0_2 a0_3 l0_4 t157 t158 a0_2 a0_3 y164) = some (r1, r2) := by first | (rw [hy164]; with_reducible exact H) | (have H2_ := (Option.bind_some _ _).symm.trans H; rw [hy164]; with_reducible exact H2_) | (have H2_ := (Option.bind_some _ _).symm.trans H; with_reducible exact H2_) | with_reducible exact H | (rw [hy164]; exact H) | exact H
              have Ny164 := aM hy164
              clear hy164
              have H' := aM H
              clear H
              have p162 : 0 ≤ (x43_2 : Int) := oD (by first | (with_reducible assumption) | assumption)
              have q162 : x43_2 < (t159.length : Int) := oD (by first | (with_reducible assumption) | assumption)
              obtain ⟨ad162, e162, hx162_0⟩ := Kd.at_int (Kd.R_reads' HO_41.out).2.2 x43_2 p162 q162
              cases e162
              replace p162 := eq_true p162
              replace q162 := eq_true q162
              try go_wp2
              have n0_ := aM (Kd.S_drew HO_4.out)
              have n1_ := aM (rD HO_41.out)
              have n2_ := aM (rD HO_157004.out)
              have n3_ := aM (kD BK150.out)
              have n4_ := aM (kD BK156.out)
              have n5_ := aM (bE HB.out)
              clear HO_4
              clear HO_41
              clear HO_157004
              clear BK150
              clear BK156
              clear HB
              have HO_4 := n0_
              have HO_41 := n1_
              have HO_157004 := n2_
              have BK150 := n3_
              have BK156 := n4_
              have HB := n5_
              clear n0_ n1_ n2_ n3_ n4_ n5_
              obtain ⟨i030, hi030, _, hsz30, _⟩ := info_parts info3
              obtain ⟨A30, hcut30, hA30, hC30⟩ := print_mid_of (P := Try.prog) (Value.int .i64) 0 22 3 .i64 .i64 Try.underlying22 hi030 hsz30 A0_4 c0_4 l0_4 (ji24) (wrap64 ((wrap64 ((rd t159 x43_2) + 1)) * t155)) (oD (by first | (with_reducible assumption) | assumption)) (by first | omega | exact oD (by first | (with_reducible assumption) | assumption)) (oD (by first | (with_reducible assumption) | assumption)) HC0_4.out
              have HR163 := aM (Kd.C_of_reads (h1 := fun _ => rfl) (hA30 _ (Kd.reads_of_C HR0_4.out)))
              have HC163 := aM hC30
              clear hA30 hC30 hi030 hsz30
              refine start_ (n := 15) (S := fun w' => w'.cell? ⟨gb156, 0, none⟩ = some (.int .i64 t157) ∧ w'.cell? ⟨gb156, 1, none⟩ = some (.int .i64 t158) ∧ w'.cell? ⟨gb156, 2, none⟩ = some (.int .i64 a0_2) ∧ w'.cell? ⟨gb156, 3, none⟩ = some (.int .i64 a0_3) ∧ w'.cell? ⟨gb156, 4, none⟩ = some (u157004) ∧ w'.cell? ⟨gb150, 0, none⟩ = some (.int .i64 a0_0) ∧ w'.cell? ⟨gb150, 1, none⟩ = some (.int .i64 a0_1) ∧ w'.cell? ⟨gb150, 2, none⟩ = some (.int .i64 a0_2) ∧ w'.cell? ⟨gb150, 3, none⟩ = some (.int .i64 a0_3) ∧ w'.cell? ⟨gb150, 4, none⟩ = some (.slice A0_4 l0_4.length c0_4)) (ds := [14]) #[false, false, false, false, false, false, false, false, false, false, false, false, false, false, false] (by kernel_rfl) rfl rfl ⟨(blk_cell BK156.out 0).trans rfl, (blk_cell BK156.out 1).trans rfl, (blk_cell BK156.out 2).trans rfl, (blk_cell BK156.out 3).trans rfl, (blk_cell BK156.out 4).trans rfl, (blk_cell BK150.out 0).trans rfl, (blk_cell BK150.out 1).trans rfl, (blk_cell BK150.out 2).trans rfl, (blk_cell BK150.out 3).trans rfl, (blk_cell BK150.out 4).trans rfl⟩ (fun hHeld => ?_); refine with_tabW impl_PassesOf.tab13 impl_PassesOf.bits13 (fun HT_ HW_ => ?_)
              generalize wr.drew = w29 at HO_4 HO_41 HO_157004 BK150 BK156 HB HR163 hHeld ⊢
              refine pure_ (i := 0) (N := some 47) (v := ?_) (a' := ?_) #[true, false, false, false, false, false, false, false, false, false, false, false, false, false, false] rfl rfl (any_of HT_.out (by kernel_rfl)) (fun _ _ _ h => h) (Or.inl ⟨by rfl, ?_⟩) ?_ ?_
              rotate_left
              ·intro w'
               go_simp
               with_reducible rfl
              rotate_left
              ·simp only [Act.put, lI, lZ, lS, i64_w, i32_w]
               rfl
              refine pure_ (i := 2) (N := some 49) (v := ?_) (a' := ?_) #[true, false, true, false, false, false, false, false, false, false, false, false, false, false, false] rfl rfl (any_of HT_.out (by kernel_rfl)) (fun _ _ _ h => h) (Or.inl ⟨by rfl, ?_⟩) ?_ ?_
              rotate_left
              ·intro w'
               go_simp
               with_reducible rfl
              rotate_left
              ·simp only [Act.put, lI, lZ, lS, i64_w, i32_w]
               rfl
              refine pure_ (i := 4) (N := some 51) (v := ?_) (a' := ?_) #[true, false, true, false, true, false, false, false, false, false, false, false, false, false, false] rfl rfl (any_of HT_.out (by kernel_rfl)) (fun _ _ _ h => h) (Or.inl ⟨by rfl, ?_⟩) ?_ ?_
              rotate_left
              ·intro w'
               go_simp
               with_reducible rfl
              rotate_left
              ·simp only [Act.put, lI, lZ, lS, i64_w, i32_w]
               rfl
              refine pure_ (i := 5) (N := some 52) (v := ?_) (a' := ?_) #[true, false, true, false, true, true, false, false, false, false, false, false, false, false, false] rfl rfl (any_of HT_.out (by kernel_rfl)) (fun _ _ _ h => h) (Or.inl ⟨by rfl, ?_⟩) ?_ ?_
              rotate_left
              ·intro w'
               go_simp
               with_reducible rfl
              rotate_left
              ·simp only [Act.put, lI, lZ, lS, i64_w, i32_w]
               rfl
              refine pure_ (i := 6) (N := some 53) (v := ?_) (a' := ?_) #[true, false, true, false, true, true, true, false, false, false, false, false, false, false, false] rfl rfl (any_of HT_.out (by kernel_rfl)) (fun _ _ _ h => h) (Or.inl ⟨by rfl, ?_⟩) ?_ ?_
              rotate_left
              ·intro w'
               go_simp
               with_reducible rfl
              rotate_left
              ·simp only [Act.put, lI, lZ, lS, i64_w, i32_w]
               rfl
              refine pure_ (i := 7) (N := some 54) (v := ?_) (a' := ?_) #[true, false, true, false, true, true, true, true, false, false, false, false, false, false, false] rfl rfl (any_of HT_.out (by kernel_rfl)) (fun _ _ _ h => h) (Or.inl ⟨by rfl, ?_⟩) ?_ ?_
              rotate_left
              ·intro w'
               go_simp
               with_reducible rfl
              rotate_left
              ·simp only [Act.put, lI, lZ, lS, i64_w, i32_w]
               rfl
              refine pure_ (i := 8) (N := some 55) (v := ?_) (a' := ?_) #[true, false, true, false, true, true, true, true, true, false, false, false, false, false, false] rfl rfl (any_of HT_.out (by kernel_rfl)) (fun _ _ _ h => h) (Or.inl ⟨by rfl, ?_⟩) ?_ ?_
              rotate_left
              ·intro w'
               go_simp
               with_reducible rfl
              rotate_left
              ·simp only [Act.put, lI, lZ, lS, i64_w, i32_w]
               rfl
              refine pure_ (i := 9) (N := some 56) (v := ?_) (a' := ?_) #[true, false, true, false, true, true, true, true, true, true, false, false, false, false, false] rfl rfl (any_of HT_.out (by kernel_rfl)) (fun _ _ _ h => h) (Or.inl ⟨by rfl, ?_⟩) ?_ ?_
              rotate_left
              ·intro w'
               go_simp
               with_reducible rfl
              rotate_left
              ·simp only [Act.put, lI, lZ, lS, i64_w, i32_w]
               rfl
              refine pure_ (i := 10) (N := some 57) (v := ?_) (a' := ?_) #[true, false, true, false, true, true, true, true, true, true, true, false, false, false, false] rfl rfl (any_of HT_.out (by kernel_rfl)) (fun _ _ _ h => h) (Or.inl ⟨by rfl, ?_⟩) ?_ ?_
              rotate_left
              ·intro w'
               go_simp
               with_reducible rfl
              rotate_left
              ·simp only [Act.put, lI, lZ, lS, i64_w, i32_w]
               rfl
              refine take_ (i := 1) (N := some 48) (v := ?_) (a' := ?_) #[true, true, true, false, true, true, true, true, true, true, true, false, false, false, false] rfl rfl (take_ofW HT_.out HW_.out (by kernel_rfl)) (fun _ _ _ h => h) (Or.inl ⟨by rfl, ?_⟩) hHeld ?_ ?_
              rotate_left
              ·rintro w' ⟨s0, s1, s2, s3, s4, s5, s6, s7, s8, s9⟩
               go_simp
               with_reducible rfl
              rotate_left
              ·simp only [Act.put, lI, lZ, lS, i64_w, i32_w]
               rfl
              refine take_ (i := 3) (N := some 50) (v := ?_) (a' := ?_) #[true, true, true, true, true, true, true, true, true, true, true, false, false, false, false] rfl rfl (take_ofW HT_.out HW_.out (by kernel_rfl)) (fun _ _ _ h => h) (Or.inl ⟨by rfl, ?_⟩) hHeld ?_ ?_
              rotate_left
              ·rintro w' ⟨s0, s1, s2, s3, s4, s5, s6, s7, s8, s9⟩
               go_simp
               with_reducible rfl
              rotate_left
              ·simp only [Act.put, lI, lZ, lS, i64_w, i32_w]
               rfl
              refine pure_ (i := 11) (N := some 58) (v := ?_) (a' := ?_) #[true, true, true, true, true, true, true, true, true, true, true, true, false, false, false] rfl rfl (any_of HT_.out (by kernel_rfl)) (fun _ _ _ h => h) (Or.inl ⟨by rfl, ?_⟩) ?_ ?_
              rotate_left
              ·intro w'
               go_simp
               with_reducible rfl
              rotate_left
              ·simp only [Act.put, lI, lZ, lS, i64_w, i32_w]
               rfl
              refine one_ (i := 12) (N := some 59) #[true, true, true, true, true, true, true, true, true, true, true, true, true, false, false] rfl rfl (one_of HT_.out (by kernel_rfl)) (by decide) (fun K hK => ?_)
              refine Kd.R_append_rows_step (Kd.int .i64) (w0 := w) w.heap.size (by rfl) (.tmp 48) (.tmp 58) 22 3 (.int .i64 0) 8 rfl Try.underlying22 info3 rfl (by decide) (by omega) u157004 x157004_2 ((l0_4.take ((wrap64 ((wrap64 ((rd t159 x43_2) + 1)) * t155)) : Int).toNat).drop ((ji24) : Int).toNat) _ _ _ (fun k_ => some k_ ≠ (.slice (some ad162) t159.length co20 : Value).ownBlock) (fun _ => False) rfl rfl ?aO ?aR (fun _ _ h => h) (fun _ h => h.elim) ?aF ?aB ?aS ?aL ?_
              (case aR => first | (rw [← show ((l0_4.take ((wrap64 ((wrap64 ((rd t159 x43_2) + 1)) * t155)) : Int).toNat).drop ((ji24) : Int).toNat).length = ((wrap64 ((wrap64 ((rd t159 x43_2) + 1)) * t155)).toNat - (ji24).toNat) from (by rw [lD, lT]; have h_ : ((wrap64 ((wrap64 ((rd t159 x43_2) + 1)) * t155)) : Int) ≤ (l0_4.length : Int) := oD (by first | (with_reducible assumption) | assumption); omega)]; repeat (first | exact (Kd.C_below HR163.out HB.out) | (with_reducible refine cA ?_ _) | (with_reducible refine cN ?_ _) | (with_reducible refine cD ?_))) | (repeat (first | exact (Kd.C_below HR163.out HB.out) | (with_reducible refine cA ?_ _) | (with_reducible refine cN ?_ _) | (with_reducible refine cD ?_))))
              (case aB => exact (by repeat (first | (with_reducible first | exact HB.out | apply bA | apply bN | apply bE | refine bS ?_ GE150.out | refine bS ?_ GE156.out) | exact HB.out)))
              (case aF => exact (fun k_ hk => Kd.fresh' (Kd.R_lt (by (with_reducible repeat (first | apply rA | apply rN | apply rD)); exact HO_41.out)) k_ hk))
              (case aO => exact (by (with_reducible repeat (first | apply rA | apply rN | apply rD)); exact HO_157004.out))
              (case aS => exact (bZ (by repeat (first | (with_reducible first | exact HB.out | apply bA | apply bN | apply bE | refine bS ?_ GE150.out | refine bS ?_ GE156.out) | exact HB.out))))
              (case aL => have := LMc28.out; have hlx_ := (show ((l0_4.take ((wrap64 ((wrap64 ((rd t159 x43_2) + 1)) * t155)) : Int).toNat).drop ((ji24) : Int).toNat).length = ((wrap64 ((wrap64 ((rd t159 x43_2) + 1)) * t155)).toNat - (ji24).toNat) from (by rw [lD, lT]; have h_ : ((wrap64 ((wrap64 ((rd t159 x43_2) + 1)) * t155)) : Int) ≤ (l0_4.length : Int) := oD (by first | (with_reducible assumption) | assumption); omega)); omega)
              intro v165 w31 ho hb hg hat
              rw [← Ny164.out] at ho
              have n0_ := aM (Kd.S_after (ok := (fun k_ => some k_ ≠ (.slice (some ad162) t159.length co20 : Value).ownBlock ∧ k_ ≠ gb150 ∧ k_ ≠ gb156)) (by (with_reducible repeat (first | apply Kd.S_alloc | apply Kd.S_drewN | apply Kd.S_drew)); exact Kd.S_mono HO_4.out (fun _ hk => ⟨⟨hk.1, ⟨hk.2.2.1, hk.2.2.2⟩⟩, hk.2.1⟩)) hg hat)
              have n1_ := aM (Kd.R_after (ok := (fun _ => True)) (by (with_reducible repeat (first | apply rA | apply rN | apply rD)); exact Kd.R_mono HO_41.out (fun _ hk => ⟨trivial, hk⟩)) hg hat)
              have n2_ := aM (blk_grown (g := gb150) (o := .cells #[.int .i64 a0_0, .int .i64 a0_1, .int .i64 a0_2, .int .i64 a0_3, .slice A0_4 l0_4.length c0_4] 29 (0, 0)) (by (with_reducible repeat (first | refine kN ?_ _ | refine kD ?_ | refine kA ?_ _)); exact BK150.out) hg (Kd.R_ne HO_157004.out BK150.out (by decide)))
              have n3_ := aM (blk_grown (g := gb156) (o := .cells #[.int .i64 t157, .int .i64 t158, .int .i64 a0_2, .int .i64 a0_3, u157004] 29 (0, 0)) (by (with_reducible repeat (first | refine kN ?_ _ | refine kD ?_ | refine kA ?_ _)); exact BK156.out) hg (Kd.R_ne HO_157004.out BK156.out (by decide)))
              have n4_ := aM (hb)
              have n5_ := aM (ho)
              clear HO_4
              clear HO_41
              clear BK150
              clear BK156
              clear HB
              clear HO_157004
              have HO_4 := n0_
              have HO_41 := n1_
              have BK150 := n2_
              have BK156 := n3_
              have HB := n4_
              have HO166 := n5_
              clear n0_ n1_ n2_ n3_ n4_ n5_
              clear ho hb hg hat
              obtain ⟨Ao32, co32, eo32⟩ := Kd.R_slice HO166.out
              (first | subst eo32 | (injection eo32 with f1_ f2_ f3_; have f4_ := f1_.symm; have f5_ := f3_.symm; clear f1_ f2_ f3_; subst f4_; subst f5_))
              refine hK.out _ _ ⟨(blk_cell BK156.out 0).trans rfl, (blk_cell BK156.out 1).trans rfl, (blk_cell BK156.out 2).trans rfl, (blk_cell BK156.out 3).trans rfl, (blk_cell BK156.out 4).trans rfl, (blk_cell BK150.out 0).trans rfl, (blk_cell BK150.out 1).trans rfl, (blk_cell BK150.out 2).trans rfl, (blk_cell BK150.out 3).trans rfl, (blk_cell BK150.out 4).trans rfl⟩ (fun hHeld => ?_)
              clear hK K
              refine norm_ (a' := ?_) ?_ ?_
              rotate_left
              ·show Act.put _ (some 59) _ = _
               simp only [Act.put, lI, lZ, lS, i64_w, i32_w]
               rfl
              refine pure_ (i := 13) (N := some 60) (v := ?_) (a' := ?_) #[true, true, true, true, true, true, true, true, true, true, true, true, true, true, false] rfl rfl (any_of HT_.out (by kernel_rfl)) (fun _ _ _ h => h) (Or.inl ⟨by rfl, ?_⟩) ?_ ?_
              rotate_left
              ·intro w'
               go_simp
               with_reducible rfl
              rotate_left
              ·simp only [Act.put, lI, lZ, lS, i64_w, i32_w]
               rfl
              refine last_ (i := 14) (N := none) #[true, true, true, true, true, true, true, true, true, true, true, true, true, true, true] rfl rfl (one_of HT_.out (by kernel_rfl)) (by decide) (fun K hK => ?_)
              have hs33 : w31.cell? ⟨gb156, 4, none⟩ = some (u157004) := (blk_cell BK156.out 4).trans rfl
              have hfs33 := blk_frozen BK156.out 4
              have hns33_0 := NB150_156.out
              have hms33_0 := NB156_150.out
              refine skip_ (w1 := ?_) (by rfl) rfl ?_ ?_
              rotate_left
              ·go_simp
               rfl
              refine hK.out _ _ ?_
              clear hK K
              refine done_ (done_of HT_.out (by kernel_rfl)) ?_
              try go_wp2
              go_roundg k2
              case measure => have := HK1.out; have := HK2.out; omega
              case rel => exact ⟨(wrap64 (x43_2 + 1)), (y164), (.slice Ao32 y164.length co32), (by first | rfl | (simp; done) | (simp [*]; done)), H', ⟨by have := HK1.out; have := HK2.out; omega⟩, ⟨by (with_reducible repeat (first | apply Kd.S_alloc | apply Kd.S_drewN | apply Kd.S_drew)); exact Kd.S_mono (Kd.S_far (p := ⟨gb156, 4, none⟩) (Kd.S_mono HO_4.out (fun k_ hk => (⟨hk, hk.1.2.2⟩ : _ ∧ k_ ≠ gb156))) (fun _ hk => hk.2) (.slice Ao32 y164.length co32)) (fun _ hk => ⟨hk.1.1.1, ⟨hk.1.2, ⟨hk.1.1.2.1, hk.1.1.2.2⟩⟩⟩)⟩, ⟨by (with_reducible repeat (first | apply rA | apply rN | apply rD)); exact Kd.R_mono (Kd.R_far (p := ⟨gb156, 4, none⟩) (Kd.R_types HO_41.out BK156.out (by decide)) (fun _ hk => hk.2) (.slice Ao32 y164.length co32)) (fun _ hk => hk.1.2)⟩, ⟨by (with_reducible repeat (first | apply rA | apply rN | apply rD)); exact Kd.R_mono (Kd.R_far (p := ⟨gb156, 4, none⟩) (Kd.R_types HO166.out BK156.out (by decide)) (fun _ hk => hk.2) (.slice Ao32 y164.length co32)) (fun _ hk => hk.1)⟩, ⟨by (with_reducible repeat (first | refine kN ?_ _ | refine kD ?_ | refine kA ?_ _)); refine blk_far ?_ NB150_156.out _; (with_reducible repeat (first | refine kN ?_ _ | refine kD ?_ | refine kA ?_ _)); exact BK150.out⟩, ⟨by (with_reducible repeat (first | refine kN ?_ _ | refine kD ?_ | refine kA ?_ _)); refine blk_put (cs := #[.int .i64 t157, .int .i64 t158, .int .i64 a0_2, .int .i64 a0_3, u157004]) ?_ 4 _ rfl; (with_reducible repeat (first | refine kN ?_ _ | refine kD ?_ | refine kA ?_ _)); exact BK156.out⟩, ⟨by repeat (first | (with_reducible first | exact HB.out | apply bA | apply bN | apply bE | refine bS ?_ GE150.out | refine bS ?_ GE156.out) | exact HB.out)⟩⟩
             ·rw [if_neg c28] at H
              exact absurd H (by simp)
            ·rw [if_neg c27] at H
             exact absurd H (by simp)
           ·rw [if_neg c26] at H
            exact absurd H (by simp)
          ·rw [if_neg c25] at H
           exact absurd H (by simp)
         ·rw [if_neg c23] at H
          exact absurd H (by simp)
        ·rw [if_neg c22] at H
         exact absurd H (by simp)
       ·rw [if_neg c21] at H
        have c21b0 : decide (x43_2 < (t159.length : Int)) = false := decide_eq_false c21
        clear c21
        by_cases c34 : x4_1.length < 2513169434916
        ·rw [if_pos c34] at H
         have LMc34 := aM c34
         clear c34
         obtain ⟨y167, hy167⟩ : ∃ y_ : List (S29), y_ = (x4_1 ++ [(⟨t157, t158, a0_2, a0_3, x157004_2⟩ : S29)]) := ⟨_, rfl⟩
         replace H : (impl_PassesOf.l0 k2 y167 t155 (wrap64 (x17_1 + 1)) a0_0 a0_1 a0_2 a0_3 l0_4) = some (r1, r2) := by first | (rw [hy167]; with_reducible exact H) | (have H2_ := (Option.bind_some _ _).symm.trans H; rw [hy167]; with_reducible exact H2_) | (have H2_ := (Option.bind_some _ _).symm.trans H; with_reducible exact H2_) | with_reducible exact H | (rw [hy167]; exact H) | exact H
         have Ny167 := aM hy167
         clear hy167
         have H' := aM H
         clear H
         have hnb35 := NB156_150.out
         have hnc35 := NB150_156.out
         obtain ⟨hcz36_0, hcz36_1, hcz36_2, hcz36_3, hcz36_4⟩ := blk_c5 BK156.out
         obtain ⟨hfz36_0, hfz36_1, hfz36_2, hfz36_3, hfz36_4⟩ := blk_f5 BK156.out
         obtain ⟨Ao38, co38, eo38⟩ := Kd.R_slice HO_157004.out
         subst eo38
         go_wp2_with (first | ((with_reducible refine gate_builtin (b := .append) (xs := #[.tmp 62, .tmp 64]) rfl ?_); at_builtin; refine Kd.S_append k29 (w0 := w) w.heap.size rfl (.tmp 62) (.tmp 64) 26 29 (.agg #[(.int .i64 0), (.int .i64 0), (.int .i64 0), (.int .i64 0), (.slice none 0 0)]) 56 rfl Try.underlying26 info29 rfl (by decide) (by omega) u4 x4_1 (⟨t157, t158, a0_2, a0_3, x157004_2⟩ : S29) [.int .i64 t157, .int .i64 t158, .int .i64 a0_2, .int .i64 a0_3, .slice Ao38 x157004_2.length co38] (fun k_ => some k_ ≠ (.slice Ao20 t159.length co20 : Value).ownBlock ∧ k_ ≠ gb150 ∧ k_ ≠ gb156) (fun k_ => some k_ = (.slice Ao38 x157004_2.length co38 : Value).ownBlock) rfl rfl ?aP (fun k_ hk_ => ((Kd.R_mono (ok' := fun k_ => ((fun k_ => some k_ ≠ (.slice Ao20 t159.length co20 : Value).ownBlock ∧ k_ ≠ gb150 ∧ k_ ≠ gb156)) k_ ∧ some k_ ≠ (u4 : Value).ownBlock) (Kd.R_types (Kd.R_types (Kd.R_apart' (HO_157004.out) (Kd.S_typed HO_4.out) (by decide)) BK150.out (by decide)) BK156.out (by decide)) (fun k_ hk => ⟨⟨hk.1.1.1, ⟨hk.1.2, hk.2⟩⟩, hk.1.1.2⟩))).1 k_ hk_.symm) ?aF ?aO ?aB ?aS ?aL ?_; (case aP => exact k29_mkM _ _ _ (⟨t157, t158, a0_2, a0_3, x157004_2⟩ : S29) (Kd.R_mono (Kd.R_tight rfl (Kd.R_mono (ok' := fun k_ => ((fun k_ => some k_ ≠ (.slice Ao20 t159.length co20 : Value).ownBlock ∧ k_ ≠ gb150 ∧ k_ ≠ gb156)) k_ ∧ some k_ ≠ (u4 : Value).ownBlock) (Kd.R_types (Kd.R_types (Kd.R_apart' (HO_157004.out) (Kd.S_typed HO_4.out) (by decide)) BK150.out (by decide)) BK156.out (by decide)) (fun k_ hk => ⟨⟨hk.1.1.1, ⟨hk.1.2, hk.2⟩⟩, hk.1.1.2⟩))) (fun _ h_ => h_))); (case aB => exact (by repeat (first | (with_reducible first | exact HB.out | apply bA | apply bN | apply bE | refine bS ?_ GE150.out | refine bS ?_ GE156.out) | exact HB.out))); (case aF => exact (fun k_ hk => ⟨Kd.fresh' (Kd.R_lt (by (with_reducible repeat (first | apply rA | apply rN | apply rD)); exact HO_41.out)) k_ hk, Kd.freshB (g := gb150) (o := .cells #[.int .i64 a0_0, .int .i64 a0_1, .int .i64 a0_2, .int .i64 a0_3, .slice A0_4 l0_4.length c0_4] 29 (0, 0)) (by (with_reducible repeat (first | refine kN ?_ _ | refine kD ?_ | refine kA ?_ _)); exact BK150.out) k_ hk, Kd.freshB (g := gb156) (o := .cells #[.int .i64 t157, .int .i64 t158, .int .i64 a0_2, .int .i64 a0_3, .slice Ao38 x157004_2.length co38] 29 (0, 0)) (by (with_reducible repeat (first | refine kN ?_ _ | refine kD ?_ | refine kA ?_ _)); exact BK156.out) k_ hk⟩)); (case aO => exact (by (with_reducible repeat (first | apply Kd.S_alloc | apply Kd.S_drewN | apply Kd.S_drew)); exact Kd.S_mono HO_4.out (fun k_ hk => ⟨⟨hk.1, ⟨hk.2.2.1, hk.2.2.2⟩⟩, fun e_ => hk.2.1 e_⟩))); (case aS => exact (bZ (by repeat (first | (with_reducible first | exact HB.out | apply bA | apply bN | apply bE | refine bS ?_ GE150.out | refine bS ?_ GE156.out) | exact HB.out)))); (case aL => have := LMc34.out; omega); intro v168 w37 ho hb hg hat; rw [← Ny167.out] at ho; have n0_ := aM (Kd.R_over' (by (with_reducible repeat (first | apply rA | apply rN | apply rD)); exact HO_41.out) (Kd.S_typed (by (with_reducible repeat (first | apply Kd.S_alloc | apply Kd.S_drewN | apply Kd.S_drew)); exact HO_4.out)) (by decide) hg); have n1_ := aM (blk_grown (g := gb150) (o := .cells #[.int .i64 a0_0, .int .i64 a0_1, .int .i64 a0_2, .int .i64 a0_3, .slice A0_4 l0_4.length c0_4] 29 (0, 0)) (by (with_reducible repeat (first | refine kN ?_ _ | refine kD ?_ | refine kA ?_ _)); exact BK150.out) hg (Kd.S_away HO_4.out (fun _ hk => hk.2.2.1))); have n2_ := aM (blk_grown (g := gb156) (o := .cells #[.int .i64 t157, .int .i64 t158, .int .i64 a0_2, .int .i64 a0_3, .slice Ao38 x157004_2.length co38] 29 (0, 0)) (by (with_reducible repeat (first | refine kN ?_ _ | refine kD ?_ | refine kA ?_ _)); exact BK156.out) hg (Kd.S_away HO_4.out (fun _ hk => hk.2.2.2))); have n3_ := aM (hb); have n4_ := aM (ho); clear HO_41; clear BK150; clear BK156; clear HB; clear HO_4; clear HO_157004; have HO_41 := n0_; have BK150 := n1_; have BK156 := n2_; have HB := n3_; have HO169 := n4_; clear n0_ n1_ n2_ n3_ n4_; clear ho hb hg hat))
         go_roundg k2
         case measure => have := HK1.out; have := HK2.out; omega
         case rel => exact ⟨(y167), (wrap64 (x17_1 + 1)), (by first | rfl | (simp; done) | (simp [*]; done)), H', ⟨by have := HK1.out; have := HK2.out; omega⟩, ⟨by (with_reducible repeat (first | apply Kd.S_alloc | apply Kd.S_drewN | apply Kd.S_drew)); exact Kd.S_mono HO169.out (fun _ hk => hk.2.1)⟩, ⟨by (with_reducible repeat (first | refine kN ?_ _ | refine kD ?_ | refine kA ?_ _)); exact BK150.out⟩, ⟨by repeat (first | (with_reducible first | exact HB.out | apply bA | apply bN | apply bE | refine bS ?_ GE150.out | refine bS ?_ GE156.out) | exact HB.out)⟩⟩
        ·rw [if_neg c34] at H
         exact absurd H (by simp)
    ·rw [if_neg c11] at H
     have c11b0 : decide (x17_1 < 7) = false := decide_eq_false c11
     clear c11
     simp only [Option.some.injEq, Prod.mk.injEq] at H
     obtain ⟨rfl, rfl⟩ := H
     go_wp2
     go_ret2
     exact ⟨_, by first | rfl | (simp [errW_none, errW_some] <;> rfl) | (simp [*, errW_none, errW_some] <;> rfl), by (with_reducible repeat (first | apply Kd.S_alloc | apply Kd.S_drewN | apply Kd.S_drew)); exact Kd.S_mono HO_4.out (fun _ hk => trivial), by repeat (first | (with_reducible first | exact HB.out | apply bA | apply bN | apply bE | refine bS ?_ GE150.out) | exact HB.out)⟩
 ·replace c3 := Bool.eq_false_iff.mpr c3
  subst c3
  have H1 : (some (([] : List (S29)), false)) = some (r1, r2) := by rw [if_neg (show ¬ (false = true) by decide)] at H; first | done | exact H
  clear H
  have H := H1
  clear H1
  simp only [Option.some.injEq, Prod.mk.injEq] at H
  obtain ⟨rfl, rfl⟩ := H
  go_enter Try.func15, Try.ntmps15
  go_wp2_with (first | ((with_reducible refine gate_dst (N := 1) rfl ?_); refine box_event ?hg (N := 1) ?hd (cs := #[.int .i64 a0_0, .int .i64 a0_1, .int .i64 a0_2, .int .i64 a0_3, .slice A0_4 l0_4.length c0_4]) (t := 29) ?hr ?_; (case hd => rfl); (case hg => rfl); (case hr => first | (go_simp; done) | (go_simp; rfl)); intro gb150 hg w39 hbox hb; have n0_ := aM (bT (by repeat (first | (with_reducible first | exact HB.out | apply bA | apply bN | apply bE) | exact HB.out)) hb); have n1_ := aM (hbox); have n2_ := aM ((by rw [hg]; exact (bZ (by repeat (first | (with_reducible first | exact HB.out | apply bA | apply bN | apply bE) | exact HB.out))) : w.heap.size ≤ gb150)); have n3_ := aM ((by rw [hg]; exact (bZ (by repeat (first | (with_reducible first | exact HB.out | apply bA | apply bN | apply bE) | exact HB.out))) : w.heap.size ≤ gb150)); clear HB; have HB := n0_; have BK150 := n1_; have GW150 := n2_; have GE150 := n3_; clear n0_ n1_ n2_ n3_; clear hb hbox hg; obtain ⟨hcz40_0, hcz40_1, hcz40_2, hcz40_3, hcz40_4⟩ := blk_c5 BK150.out; obtain ⟨hfz40_0, hfz40_1, hfz40_2, hfz40_3, hfz40_4⟩ := blk_f5 BK150.out) | ((with_reducible refine gate_callee (f := 64) rfl ?_); refine goesL_ (some 11) rfl rfl Try.func64 (by kernel_rfl) rfl #[.agg #[.int .i64 a0_0, .int .i64 a0_1, .int .i64 a0_2, .int .i64 a0_3, .slice A0_4 l0_4.length c0_4]] rfl (by (try simp only [lM, List.map_cons, List.map_nil]); first | done | rfl | (simp only [lD, lT]; rfl)) ?_; (with_reducible refine (impl_RasterOk.calls k a0_0 a0_1 a0_2 a0_3 _ _ l0_4 false _ ?side1 ?side2 A2.out).mono ?_); (case side1 => repeat (first | exact (Kd.C_below HR0_4.out HB.out) | (with_reducible refine cA ?_ _) | (with_reducible refine cN ?_ _) | (with_reducible refine cD ?_))); (case side2 => exact HC0_4.out); rintro e w41 ⟨rfl, hb⟩; refine ⟨_, rfl, ?_⟩; have n0_ := aM (kB (g := gb150) (o := .cells #[.int .i64 a0_0, .int .i64 a0_1, .int .i64 a0_2, .int .i64 a0_3, .slice A0_4 l0_4.length c0_4] 29 (0, 0)) (by (with_reducible repeat (first | refine kN ?_ _ | refine kD ?_ | refine kA ?_ _)); exact BK150.out) hb); have n1_ := aM (bT (by repeat (first | (with_reducible first | exact HB.out | apply bA | apply bN | apply bE | refine bS ?_ GE150.out) | exact HB.out)) hb); clear BK150; clear HB; have BK150 := n0_; have HB := n1_; clear n0_ n1_; (try clear hb); (try clear hb2); (try clear hk); (try clear hi)))
  go_ret2
  exact ⟨_, by first | rfl | (simp [errW_none, errW_some] <;> rfl) | (simp [*, errW_none, errW_some] <;> rfl), by first | exact Kd.S_nil _ _ _ _ _ | exact Kd.N_nil _ _ _ _ _ | exact Kd.V_nil _ _ _ _ _ | exact Kd.Q_nil _ _ _ _ _ | exact Kd.R_nil _ _ _ _ _, by repeat (first | (with_reducible first | exact HB.out | apply bA | apply bN | apply bE | refine bS ?_ GE150.out) | exact HB.out)⟩

/-! ### impl_byteText: function 75 -/
def impl_byteText.f (a0 : Int) : Option (ByteArray) := some (strOfNums (([(a0) % 256] : List Int)))
set_option maxHeartbeats 8000000 in
set_option maxRecDepth 100000 in
theorem impl_byteText.calls (a0 : Int) (r : ByteArray) (w : World) (h : impl_byteText.f a0 = some r) :
  Calls Try.prog 75 #[.int .i64 a0] w fun e w' => e = .returned (.string r) ∧ Below w.heap.size w w' := by
 have HB := aM (Below.refl w.heap.size w)
 have H : (some (strOfNums (([(a0) % 256] : List Int)))) = some r := h
 clear h
 obtain ⟨y170, hy170⟩ : ∃ y_ : List Int, y_ = (([(a0) % 256] : List Int)) := ⟨_, rfl⟩
 replace H : (some (strOfNums y170)) = some r := by first | (rw [hy170]; with_reducible exact H) | (have H2_ := (Option.bind_some _ _).symm.trans H; rw [hy170]; with_reducible exact H2_) | (have H2_ := (Option.bind_some _ _).symm.trans H; with_reducible exact H2_) | with_reducible exact H | (rw [hy170]; exact H) | exact H
 have Ny170 := aM hy170
 clear hy170
 obtain rfl := Option.some.inj H
 go_enter Try.func75, Try.ntmps75
 go_wp2_with (first | ((with_reducible refine gate_dst (N := 5) rfl ?_); refine Kd.R_lit (Kd.int .u8) _ 5 ?hg (N := 5) ?hd (xs := ([(a0) % 256] : List Int)) (inner := [.int .u8 ((a0) % 256)]) (ok := fun _ => True) (okp := fun _ => True) ?hr ?hp (fun _ hk => hk) trivial (Below.refl _ _) (Nat.le_refl _) (by simp) ?_; (case hd => rfl); (case hg => rfl); (case hr => first | (go_simp; done) | (go_simp; rfl)); (case hp => exact (Reps.one (show Kd.M (Kd.int .u8) _ _ _ ((a0) % 256) [.int .u8 ((a0) % 256)] from rfl) (Reps.none _ _))); intro v171 w2 ho3 hb hg_ hnew_; clear hg_ hnew_; (first | rw [← Ny170.out] at ho3 | (simp only [Int.reduceToNat] at ho3; rw [← Ny170.out] at ho3)); have n0_ := aM (Kd.R_lower ho3 (bZ (by repeat (first | (with_reducible first | exact HB.out | apply bA | apply bN | apply bE) | exact HB.out)))); have n1_ := aM (bT (by repeat (first | (with_reducible first | exact HB.out | apply bA | apply bN | apply bE) | exact HB.out)) hb); clear HB; have HO172 := n0_; have HB := n1_; clear n0_ n1_; clear hb ho3; have hcv4 := own_string (P := Try.prog) Try.underlying36 Try.underlying5 Try.underlying9 (Kd.own_of_R HO172.out)))
 go_ret
 exact ⟨by first | rfl | (simp [errW_none, errW_some] <;> rfl) | (simp [*, errW_none, errW_some] <;> rfl), by repeat (first | (with_reducible first | exact HB.out | apply bA | apply bN | apply bE) | exact HB.out)⟩

/-! ### impl_unitOf: function 157 -/
def impl_unitOf.f (k : Nat) (a0 : Int) (a1 : Int) : Option (Int) := (impl_ChannelsOf.f k a0).bind fun t173 => (some (mx 1 (wrap64 (Int.tdiv (wrap64 (t173 * a1)) 8))))
theorem impl_unitOf.mono : ∀ a0 a1 k, LeO (impl_unitOf.f k a0 a1) (impl_unitOf.f (k + 1) a0 a1) := by
 intro a0 a1 k
 unfold impl_unitOf.f
 repeat' first
   | (with_reducible exact impl_ChannelsOf.mono _ _)
   | (with_reducible exact LeO.refl _)
   | (with_reducible exact LeO.none _)
   | (with_reducible refine LeO.ite ?_ ?_)
   | (with_reducible refine LeO.bind ?_ (fun _ => ?_))
   | exact impl_ChannelsOf.mono _ _
   | exact LeO.none _
   | refine LeO.ite ?_ ?_
   | refine LeO.bind ?_ (fun _ => ?_)
set_option maxHeartbeats 8000000 in
set_option maxRecDepth 100000 in
theorem impl_unitOf.calls (k : Nat) (a0 : Int) (a1 : Int) (r : Int) (w : World) (h : impl_unitOf.f k a0 a1 = some r) :
  Calls Try.prog 157 #[.int .i64 a0, .int .i64 a1] w fun e w' => e = .returned (.int .i64 r) ∧ Below w.heap.size w w' := by
 have HB := aM (Below.refl w.heap.size w)
 have H : ((impl_ChannelsOf.f k a0).bind fun t173 => (some (mx 1 (wrap64 (Int.tdiv (wrap64 (t173 * a1)) 8))))) = some r := h
 clear h
 replace H := oB.mp H
 obtain ⟨t173, A30, H⟩ := H
 replace H : (some (mx 1 (wrap64 (Int.tdiv (wrap64 (t173 * a1)) 8)))) = some r := H
 have A3 := aM A30
 clear A30
 obtain ⟨ji4, hji4⟩ : ∃ j_ : Int, (mx 1 (wrap64 (Int.tdiv (wrap64 (t173 * a1)) 8))) = j_ := ⟨_, rfl⟩
 replace H : (some ji4) = some r := by first | (rw [hji4] at H; exact H) | (simp only [hji4] at H ⊢; exact H)
 (try rw [hji4] at A3)
 (try (have hji4l : 1 ≤ ji4 := by (rw [← hji4]; unfold mx; (repeat' split) <;> omega)))
 (try (have hji4m : 0 ≤ ji4 := by omega))
 have hji4_ : (if 1 < (wrap64 (Int.tdiv (wrap64 (t173 * a1)) 8)) then (wrap64 (Int.tdiv (wrap64 (t173 * a1)) 8)) else 1) = ji4 := hji4
 obtain rfl := Option.some.inj H
 go_enter Try.func157, Try.ntmps157
 go_wp2_with (first | ((with_reducible refine gate_callee (f := 65) rfl ?_); refine goesL_ (some 6) rfl rfl Try.func65 (by kernel_rfl) rfl #[.int .i64 a0] rfl (by (try simp only [lM, List.map_cons, List.map_nil]); first | done | rfl | (simp only [lD, lT]; rfl)) ?_; (with_reducible refine (impl_ChannelsOf.calls k a0 t173 _ A3.out).mono ?_); rintro e w' ⟨rfl, ⟨nd, rfl⟩⟩; refine ⟨_, rfl, ?_⟩))
 go_ret
 exact ⟨by first | rfl | (simp [errW_none, errW_some] <;> rfl) | (simp only [← hji4]; first | rfl | (simp [errW_none, errW_some] <;> rfl)) | (simp [*, errW_none, errW_some] <;> rfl), by repeat (first | (with_reducible first | exact HB.out | apply bA | apply bN | apply bE) | exact HB.out)⟩

/-! ### impl_up: function 165 -/
def impl_up.f (a0 : Int) : Option (Int) := some (wrap64 (Int.tdiv (wrap64 (a0 + 7)) 8))
set_option maxHeartbeats 8000000 in
set_option maxRecDepth 100000 in
theorem impl_up.calls (a0 : Int) (r : Int) (w : World) (h : impl_up.f a0 = some r) :
  Calls Try.prog 165 #[.int .i64 a0] w fun e w' => e = .returned (.int .i64 r) ∧ Drawn0 w w' := by
 have H : (some (wrap64 (Int.tdiv (wrap64 (a0 + 7)) 8))) = some r := h
 clear h
 obtain rfl := Option.some.inj H
 go_enter Try.func165, Try.ntmps165
 go_wp2
 go_ret
 exact ⟨by first | rfl | (simp; done) | (simp [*]; done), by repeat (first | exact Drawn0.refl _ | apply Drawn0.step)⟩

end Go.Proofs.Ytajnobmnkbkkgaa.PFnExactScanOf
