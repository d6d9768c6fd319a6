/- Walks of functions that the law FnExactPngOk reaches: each call comes to what the Lean function of its name tells. Written by p2.py, a program of this session, by way of the kit's print. -/
import Derived.Test.YtajnobmnkbkkgaaPFnExactPngOkx0
import Derived.Test.YtajnobmnkbkkgaaPFnExactPngOkx8
import Derived.Test.YtajnobmnkbkkgaaPFnExactPngOkx9
namespace Go.Proofs.Ytajnobmnkbkkgaa.PFnExactPngOk
open Go.RowKit Go.Proofs.YtajnobmnkbkkgaaW.PrintWords Go.Proofs.YtajnobmnkbkkgaaW.PrintLast Go.Proofs.YtajnobmnkbkkgaaW.PrintMore
attribute [local go_sem] max2_int min2_int max_two min_two max_three min_three max_four min_four   -- for this text's walks alone
set_option linter.unusedVariables false
set_option linter.unusedSimpArgs false

/-! ### impl_PngOk: function 42 -/
def impl_PngOk.j0 : Nat → Bool → Int → Int → Int → Int → Bool → List (S52) → List Int → Int → Int → Int → Int → List Int → List (S168) → Int → Int → Int → Int → Bool → Option (Bool)
 | 0, _, _, _, _, _, _, _, _, _, _, _, _, _, _, _, _, _, _, _ => none
 | k + 1, x44, x275000, x275001, x275002, x275003, x275004, x275005, x275006, x275007, x275008, x275009, x275010, x275011, x275012, x276000, x276001, x276002, x276003, x276004 => if x44 = true then (some false) else ((impl_tableOk.f k x276000 x276001 x276002 x276003 x276004 x275005).bind fun t279 => (if t279 = true then ((impl_ClearOk.f k x276000 x276001 x276002 x276003 x276004 (x275005.length : Int) x275006).bind fun t280 => (if t280 = true then ((impl_keptOk.f k x275012).bind fun t281 => (if t281 = true then (if x276003 = 3 then ((impl_inTable.f k x275000 x275001 x275002 x275003 x275004 x275005 x275006 x275007 x275008 x275009 x275010 x275011 x275012).bind fun t282 => (some t282)) else (some true)) else (some false))) else (some false))) else (some false)))
def impl_PngOk.f (k : Nat) (a0_0 : Int) (a0_1 : Int) (a0_2 : Int) (a0_3 : Int) (a0_4 : Bool) (l0_5 : List (S52)) (l0_6 : List Int) (a0_7 : Int) (a0_8 : Int) (a0_9 : Int) (a0_10 : Int) (l0_11 : List Int) (l0_12 : List (S168)) : Option (Bool) := (impl_HeadOk.f k a0_0 a0_1 a0_2 a0_3 a0_4).bind fun t277 => (if t277 = true then ((impl_RasterOk.f k a0_7 a0_8 a0_9 a0_10 l0_11).bind fun t278 => (if t278 = true then (if a0_7 = a0_0 then (if a0_8 = a0_1 then (if a0_9 = a0_3 then (impl_PngOk.j0 k (a0_10 != a0_2) a0_0 a0_1 a0_2 a0_3 a0_4 l0_5 l0_6 a0_7 a0_8 a0_9 a0_10 l0_11 l0_12 a0_0 a0_1 a0_2 a0_3 a0_4) else (impl_PngOk.j0 k true a0_0 a0_1 a0_2 a0_3 a0_4 l0_5 l0_6 a0_7 a0_8 a0_9 a0_10 l0_11 l0_12 a0_0 a0_1 a0_2 a0_3 a0_4)) else (impl_PngOk.j0 k true a0_0 a0_1 a0_2 a0_3 a0_4 l0_5 l0_6 a0_7 a0_8 a0_9 a0_10 l0_11 l0_12 a0_0 a0_1 a0_2 a0_3 a0_4)) else (impl_PngOk.j0 k true a0_0 a0_1 a0_2 a0_3 a0_4 l0_5 l0_6 a0_7 a0_8 a0_9 a0_10 l0_11 l0_12 a0_0 a0_1 a0_2 a0_3 a0_4)) else (impl_PngOk.j0 k true a0_0 a0_1 a0_2 a0_3 a0_4 l0_5 l0_6 a0_7 a0_8 a0_9 a0_10 l0_11 l0_12 a0_0 a0_1 a0_2 a0_3 a0_4))) else (impl_PngOk.j0 k true a0_0 a0_1 a0_2 a0_3 a0_4 l0_5 l0_6 a0_7 a0_8 a0_9 a0_10 l0_11 l0_12 a0_0 a0_1 a0_2 a0_3 a0_4))
theorem impl_PngOk.mono_l : ∀ k, (∀ y0 y1 y2 y3 y4 y5 y6 y7 y8 y9 y10 y11 y12 y13 y14 y15 y16 y17 y18, LeO (impl_PngOk.j0 k y0 y1 y2 y3 y4 y5 y6 y7 y8 y9 y10 y11 y12 y13 y14 y15 y16 y17 y18) (impl_PngOk.j0 (k + 1) y0 y1 y2 y3 y4 y5 y6 y7 y8 y9 y10 y11 y12 y13 y14 y15 y16 y17 y18))
 | 0 => fun _ _ _ _ _ _ _ _ _ _ _ _ _ _ _ _ _ _ _ r h => by simp [impl_PngOk.j0] at h
 | k + 1 => by
  have ih0 := impl_PngOk.mono_l k
  ·intro y0 y1 y2 y3 y4 y5 y6 y7 y8 y9 y10 y11 y12 y13 y14 y15 y16 y17 y18
   unfold impl_PngOk.j0
   repeat' first
   | (with_reducible exact ih0 _ _ _ _ _ _ _ _ _ _ _ _ _ _ _ _ _ _ _)
   | (with_reducible exact impl_ClearOk.mono _ _ _ _ _ _ _ _)
   | (with_reducible exact impl_HeadOk.mono _ _ _ _ _ _)
   | (with_reducible exact impl_RasterOk.mono _ _ _ _ _ _)
   | (with_reducible exact impl_inTable.mono _ _ _ _ _ _ _ _ _ _ _ _ _ _)
   | (with_reducible exact impl_keptOk.mono _ _)
   | (with_reducible exact impl_tableOk.mono _ _ _ _ _ _ _)
   | (with_reducible exact LeO.refl _)
   | (with_reducible exact LeO.none _)
   | (with_reducible refine LeO.ite ?_ ?_)
   | (with_reducible refine LeO.bind ?_ (fun _ => ?_))
   | exact ih0 _ _ _ _ _ _ _ _ _ _ _ _ _ _ _ _ _ _ _
   | exact impl_ClearOk.mono _ _ _ _ _ _ _ _
   | exact impl_HeadOk.mono _ _ _ _ _ _
   | exact impl_RasterOk.mono _ _ _ _ _ _
   | exact impl_inTable.mono _ _ _ _ _ _ _ _ _ _ _ _ _ _
   | exact impl_keptOk.mono _ _
   | exact impl_tableOk.mono _ _ _ _ _ _ _
   | exact LeO.none _
   | refine LeO.ite ?_ ?_
   | refine LeO.bind ?_ (fun _ => ?_)
theorem impl_PngOk.mono : ∀ a0 a1 a2 a3 a4 a5 a6 a7 a8 a9 a10 a11 a12 k, LeO (impl_PngOk.f k a0 a1 a2 a3 a4 a5 a6 a7 a8 a9 a10 a11 a12) (impl_PngOk.f (k + 1) a0 a1 a2 a3 a4 a5 a6 a7 a8 a9 a10 a11 a12) := by
 intro a0 a1 a2 a3 a4 a5 a6 a7 a8 a9 a10 a11 a12 k
 have ih0 := impl_PngOk.mono_l k
 unfold impl_PngOk.f
 repeat' first
   | (with_reducible exact ih0 _ _ _ _ _ _ _ _ _ _ _ _ _ _ _ _ _ _ _)
   | (with_reducible exact impl_ClearOk.mono _ _ _ _ _ _ _ _)
   | (with_reducible exact impl_HeadOk.mono _ _ _ _ _ _)
   | (with_reducible exact impl_RasterOk.mono _ _ _ _ _ _)
   | (with_reducible exact impl_inTable.mono _ _ _ _ _ _ _ _ _ _ _ _ _ _)
   | (with_reducible exact impl_keptOk.mono _ _)
   | (with_reducible exact impl_tableOk.mono _ _ _ _ _ _ _)
   | (with_reducible exact LeO.refl _)
   | (with_reducible exact LeO.none _)
   | (with_reducible refine LeO.ite ?_ ?_)
   | (with_reducible refine LeO.bind ?_ (fun _ => ?_))
   | exact ih0 _ _ _ _ _ _ _ _ _ _ _ _ _ _ _ _ _ _ _
   | exact impl_ClearOk.mono _ _ _ _ _ _ _ _
   | exact impl_HeadOk.mono _ _ _ _ _ _
   | exact impl_RasterOk.mono _ _ _ _ _ _
   | exact impl_inTable.mono _ _ _ _ _ _ _ _ _ _ _ _ _ _
   | exact impl_keptOk.mono _ _
   | exact impl_tableOk.mono _ _ _ _ _ _ _
   | exact LeO.none _
   | refine LeO.ite ?_ ?_
   | refine LeO.bind ?_ (fun _ => ?_)
def impl_PngOk.T1 : Bool × List (List Nat × List Nat) := (true, [([], []), ([0], [0]), ([], []), ([2], [2]), ([], []), ([], []), ([4, 1, 0, 1, 4, 5], [1, 4]), ([5, 3, 6, 0, 1, 2, 3, 4, 5, 6], [3, 5])])
def impl_PngOk.B1 : List Nat := [0, 1, 0, 4, 0, 0, 51, 127]
theorem impl_PngOk.tab1 : rtab .any (opsOf Try.f42 1) = impl_PngOk.T1 := by kernel_rfl
theorem impl_PngOk.bits1 : waitsOk impl_PngOk.T1.2 impl_PngOk.B1 = true := by kernel_rfl
set_option maxHeartbeats 8000000 in
set_option maxRecDepth 100000 in
theorem impl_PngOk.calls (k : Nat) (a0_0 : Int) (a0_1 : Int) (a0_2 : Int) (a0_3 : Int) (a0_4 : Bool) (A0_5 : Option Addr) (c0_5 : Nat) (l0_5 : List (S52)) (A0_6 : Option Addr) (c0_6 : Nat) (l0_6 : List Int) (a0_7 : Int) (a0_8 : Int) (a0_9 : Int) (a0_10 : Int) (A0_11 : Option Addr) (c0_11 : Nat) (l0_11 : List Int) (A0_12 : Option Addr) (c0_12 : Nat) (l0_12 : List (S168)) (r : Bool) (w : World) (hr0_5 : Kd.C k52 w A0_5 l0_5.length l0_5) (hc0_5 : l0_5.length ≤ c0_5) (hr0_6 : Kd.C (Kd.int .i64) w A0_6 l0_6.length l0_6) (hc0_6 : l0_6.length ≤ c0_6) (hr0_11 : Kd.C (Kd.int .i64) w A0_11 l0_11.length l0_11) (hc0_11 : l0_11.length ≤ c0_11) (hr0_12 : Kd.C k168 w A0_12 l0_12.length l0_12) (hc0_12 : l0_12.length ≤ c0_12) (h : impl_PngOk.f k a0_0 a0_1 a0_2 a0_3 a0_4 l0_5 l0_6 a0_7 a0_8 a0_9 a0_10 l0_11 l0_12 = some r) :
  Calls Try.prog 42 #[.agg #[.int .i64 a0_0, .int .i64 a0_1, .int .i64 a0_2, .int .i64 a0_3, .bool a0_4, .slice A0_5 l0_5.length c0_5, .slice A0_6 l0_6.length c0_6, .int .i64 a0_7, .int .i64 a0_8, .int .i64 a0_9, .int .i64 a0_10, .slice A0_11 l0_11.length c0_11, .slice A0_12 l0_12.length c0_12]] w fun e w' => e = .returned (.bool r) ∧ Below w.heap.size w w' := by
 have hu74 := Try.underlying74
 have hu39 := Try.underlying39
 have hu29 := Try.underlying29
 have HR0_5 := aM hr0_5
 have HC0_5 := aM hc0_5
 clear hr0_5 hc0_5
 have HR0_6 := aM hr0_6
 have HC0_6 := aM hc0_6
 clear hr0_6 hc0_6
 have HR0_11 := aM hr0_11
 have HC0_11 := aM hc0_11
 clear hr0_11 hc0_11
 have HR0_12 := aM hr0_12
 have HC0_12 := aM hc0_12
 clear hr0_12 hc0_12
 have HB := aM (Below.refl w.heap.size w)
 unfold impl_PngOk.f at h; have H := h
 clear h
 have HC2 := aM H
 clear H
 go_enter Try.func42, Try.ntmps42
 try go_wp2_with (first | ((with_reducible refine gate_dst (N := 1) rfl ?_); (try (refine gate_guard (by rfl) ?_; dsimp only)); refine box_event ?hg (N := 1) ?hd (cs := #[.int .i64 a0_0, .int .i64 a0_1, .int .i64 a0_2, .int .i64 a0_3, .bool a0_4, .slice A0_5 l0_5.length c0_5, .slice A0_6 l0_6.length c0_6, .int .i64 a0_7, .int .i64 a0_8, .int .i64 a0_9, .int .i64 a0_10, .slice A0_11 l0_11.length c0_11, .slice A0_12 l0_12.length c0_12]) (t := 74) ?hr ?_; (case hd => rfl); (case hg => rfl); (case hr => first | (go_simp; done) | (go_simp; rfl)); intro gb274 hg w3 hbox hb; have n0_ := aM (bT (by repeat (first | (with_reducible first | exact HB.out | apply bA | apply bN | apply bE) | exact HB.out)) hb); have n1_ := aM (hbox); have n2_ := aM ((by rw [hg]; exact (bZ (by repeat (first | (with_reducible first | exact HB.out | apply bA | apply bN | apply bE) | exact HB.out))) : w.heap.size ≤ gb274)); have n3_ := aM ((by rw [hg]; exact (bZ (by repeat (first | (with_reducible first | exact HB.out | apply bA | apply bN | apply bE) | exact HB.out))) : w.heap.size ≤ gb274)); clear HB; have HB := n0_; have BK274 := n1_; have GW274 := n2_; have GE274 := n3_; clear n0_ n1_ n2_ n3_; clear hb hbox hg))
 have n0_ := aM (kD BK274.out)
 have n1_ := aM (bE HB.out)
 clear BK274
 clear HB
 have BK274 := n0_
 have HB := n1_
 clear n0_ n1_
 refine start_ (n := 8) (S := fun w' => w'.cell? ⟨gb274, 0, none⟩ = some (.int .i64 a0_0) ∧ w'.cell? ⟨gb274, 1, none⟩ = some (.int .i64 a0_1) ∧ w'.cell? ⟨gb274, 2, none⟩ = some (.int .i64 a0_2) ∧ w'.cell? ⟨gb274, 3, none⟩ = some (.int .i64 a0_3) ∧ w'.cell? ⟨gb274, 4, none⟩ = some (.bool a0_4) ∧ w'.cell? ⟨gb274, 5, none⟩ = some (.slice A0_5 l0_5.length c0_5) ∧ w'.cell? ⟨gb274, 6, none⟩ = some (.slice A0_6 l0_6.length c0_6) ∧ w'.cell? ⟨gb274, 7, none⟩ = some (.int .i64 a0_7) ∧ w'.cell? ⟨gb274, 8, none⟩ = some (.int .i64 a0_8) ∧ w'.cell? ⟨gb274, 9, none⟩ = some (.int .i64 a0_9) ∧ w'.cell? ⟨gb274, 10, none⟩ = some (.int .i64 a0_10) ∧ w'.cell? ⟨gb274, 11, none⟩ = some (.slice A0_11 l0_11.length c0_11) ∧ w'.cell? ⟨gb274, 12, none⟩ = some (.slice A0_12 l0_12.length c0_12)) (ds := []) #[false, false, false, false, false, false, false, false] (by kernel_rfl) rfl rfl ⟨(blk_cell BK274.out 0).trans rfl, (blk_cell BK274.out 1).trans rfl, (blk_cell BK274.out 2).trans rfl, (blk_cell BK274.out 3).trans rfl, (blk_cell BK274.out 4).trans rfl, (blk_cell BK274.out 5).trans rfl, (blk_cell BK274.out 6).trans rfl, (blk_cell BK274.out 7).trans rfl, (blk_cell BK274.out 8).trans rfl, (blk_cell BK274.out 9).trans rfl, (blk_cell BK274.out 10).trans rfl, (blk_cell BK274.out 11).trans rfl, (blk_cell BK274.out 12).trans rfl⟩ (fun hHeld => ?_); refine with_tabW impl_PngOk.tab1 impl_PngOk.bits1 (fun HT_ HW_ => ?_)
 generalize w3.drew = w4 at BK274 HB hHeld ⊢
 refine pure_ (i := 0) (N := some 5) (v := ?_) (a' := ?_) #[true, false, false, false, false, false, false, false] rfl rfl (any_of HT_.out (by kernel_rfl)) (fun _ _ _ h => h) (Or.inl ⟨by rfl, ?_⟩) ?_ ?_
 rotate_left
 ·intro w'
  go_simp
  with_reducible rfl
 rotate_left
 ·simp only [Act.put, lI, lZ, lS, i64_w, i32_w]
  rfl
 refine pure_ (i := 2) (N := some 7) (v := ?_) (a' := ?_) #[true, false, true, false, false, false, false, false] rfl rfl (any_of HT_.out (by kernel_rfl)) (fun _ _ _ h => h) (Or.inl ⟨by rfl, ?_⟩) ?_ ?_
 rotate_left
 ·intro w'
  go_simp
  with_reducible rfl
 rotate_left
 ·simp only [Act.put, lI, lZ, lS, i64_w, i32_w]
  rfl
 refine take_ (i := 1) (N := some 6) (v := ?_) (a' := ?_) #[true, true, true, false, false, false, false, false] rfl rfl (take_ofW HT_.out HW_.out (by kernel_rfl)) (fun _ _ _ h => h) (Or.inl ⟨by rfl, ?_⟩) hHeld ?_ ?_
 rotate_left
 ·rintro w' ⟨s0, s1, s2, s3, s4, s5, s6, s7, s8, s9, s10, s11, s12⟩
  go_simp
  with_reducible rfl
 rotate_left
 ·simp only [Act.put, lI, lZ, lS, i64_w, i32_w]
  rfl
 refine take_ (i := 3) (N := some 8) (v := ?_) (a' := ?_) #[true, true, true, true, false, false, false, false] rfl rfl (take_ofW HT_.out HW_.out (by kernel_rfl)) (fun _ _ _ h => h) (Or.inl ⟨by rfl, ?_⟩) hHeld ?_ ?_
 rotate_left
 ·rintro w' ⟨s0, s1, s2, s3, s4, s5, s6, s7, s8, s9, s10, s11, s12⟩
  go_simp
  with_reducible rfl
 rotate_left
 ·simp only [Act.put, lI, lZ, lS, i64_w, i32_w]
  rfl
 refine join_ (σ := Nat × Nat) 2 #[true, true, true, true, true, true, false, false] (fun s_ => [(3, .pointer (some ⟨s_.1, 0, none⟩)), (4, .pointer (some ⟨s_.2, 0, none⟩))]) (fun s_ w' => (w'.cell? ⟨gb274, 0, none⟩ = some (.int .i64 a0_0) ∧ w'.cell? ⟨gb274, 1, none⟩ = some (.int .i64 a0_1) ∧ w'.cell? ⟨gb274, 2, none⟩ = some (.int .i64 a0_2) ∧ w'.cell? ⟨gb274, 3, none⟩ = some (.int .i64 a0_3) ∧ w'.cell? ⟨gb274, 4, none⟩ = some (.bool a0_4) ∧ w'.cell? ⟨gb274, 5, none⟩ = some (.slice A0_5 l0_5.length c0_5) ∧ w'.cell? ⟨gb274, 6, none⟩ = some (.slice A0_6 l0_6.length c0_6) ∧ w'.cell? ⟨gb274, 7, none⟩ = some (.int .i64 a0_7) ∧ w'.cell? ⟨gb274, 8, none⟩ = some (.int .i64 a0_8) ∧ w'.cell? ⟨gb274, 9, none⟩ = some (.int .i64 a0_9) ∧ w'.cell? ⟨gb274, 10, none⟩ = some (.int .i64 a0_10) ∧ w'.cell? ⟨gb274, 11, none⟩ = some (.slice A0_11 l0_11.length c0_11) ∧ w'.cell? ⟨gb274, 12, none⟩ = some (.slice A0_12 l0_12.length c0_12)) ∧ (w'.heap[gb274]? = some (.cells #[.int .i64 a0_0, .int .i64 a0_1, .int .i64 a0_2, .int .i64 a0_3, .bool a0_4, .slice A0_5 l0_5.length c0_5, .slice A0_6 l0_6.length c0_6, .int .i64 a0_7, .int .i64 a0_8, .int .i64 a0_9, .int .i64 a0_10, .slice A0_11 l0_11.length c0_11, .slice A0_12 l0_12.length c0_12] 74 (0, 0))) ∧ (w'.heap[s_.1]? = some (.cells #[.int .i64 0, .int .i64 0, .int .i64 0, .int .i64 0, .bool false] 39 (0, 0))) ∧ (w'.heap[s_.2]? = some (.cells #[.int .i64 0, .int .i64 0, .int .i64 0, .int .i64 0, .slice none 0 0] 29 (0, 0))) ∧ (w.heap.size ≤ s_.1) ∧ (w.heap.size ≤ s_.1) ∧ (gb274 ≠ s_.1) ∧ (s_.1 ≠ gb274) ∧ (s_.2 ≠ s_.1) ∧ (s_.1 ≠ s_.2) ∧ (w.heap.size ≤ s_.2) ∧ (w.heap.size ≤ s_.2) ∧ (gb274 ≠ s_.2) ∧ (s_.2 ≠ gb274) ∧ (Below w.heap.size w w')) ?_ ?_
 rotate_left
 ·intro hCont
  refine two_ (i := 4) (j := 5) (Ni := some 3) (Nj := some 4) #[true, true, true, true, true, false, false, false] #[true, true, true, true, false, true, false, false] rfl rfl rfl rfl (two_of HT_.out (by kernel_rfl)) (by decide) (by decide) (fun K hK => ?_) (fun K hK => ?_)
  ·skip
   refine box_step ?hg (N := 3) ?hd (cs := #[.int .i64 0, .int .i64 0, .int .i64 0, .int .i64 0, .bool false]) (t := 39) ?hr ?_; (case hd => rfl); (case hg => rfl); (case hr => first | (go_simp; done) | (go_simp; rfl))
   intro gb275 hg w5 hbox hb
   have n0_ := aM (kB (g := gb274) (o := .cells #[.int .i64 a0_0, .int .i64 a0_1, .int .i64 a0_2, .int .i64 a0_3, .bool a0_4, .slice A0_5 l0_5.length c0_5, .slice A0_6 l0_6.length c0_6, .int .i64 a0_7, .int .i64 a0_8, .int .i64 a0_9, .int .i64 a0_10, .slice A0_11 l0_11.length c0_11, .slice A0_12 l0_12.length c0_12] 74 (0, 0)) (by (with_reducible repeat (first | refine kN ?_ _ | refine kD ?_ | refine kA ?_ _)); exact BK274.out) hb)
   have n1_ := aM (bT (by repeat (first | (with_reducible first | exact HB.out | apply bA | apply bN | apply bE | refine bS ?_ GE274.out) | exact HB.out)) hb)
   have n2_ := aM (hbox)
   have n3_ := aM ((by rw [hg]; exact (bZ (by repeat (first | (with_reducible first | exact HB.out | apply bA | apply bN | apply bE | refine bS ?_ GE274.out) | exact HB.out))) : w.heap.size ≤ gb275))
   have n4_ := aM ((by rw [hg]; exact (bZ (by repeat (first | (with_reducible first | exact HB.out | apply bA | apply bN | apply bE | refine bS ?_ GE274.out) | exact HB.out))) : w.heap.size ≤ gb275))
   have n5_ := aM ((by rw [hg]; exact Nat.ne_of_lt (blk_lt (g := gb274) (o := .cells #[.int .i64 a0_0, .int .i64 a0_1, .int .i64 a0_2, .int .i64 a0_3, .bool a0_4, .slice A0_5 l0_5.length c0_5, .slice A0_6 l0_6.length c0_6, .int .i64 a0_7, .int .i64 a0_8, .int .i64 a0_9, .int .i64 a0_10, .slice A0_11 l0_11.length c0_11, .slice A0_12 l0_12.length c0_12] 74 (0, 0)) (by (with_reducible repeat (first | refine kN ?_ _ | refine kD ?_ | refine kA ?_ _)); exact BK274.out)) : gb274 ≠ gb275))
   have n6_ := aM ((by rw [hg]; exact Nat.ne_of_gt (blk_lt (g := gb274) (o := .cells #[.int .i64 a0_0, .int .i64 a0_1, .int .i64 a0_2, .int .i64 a0_3, .bool a0_4, .slice A0_5 l0_5.length c0_5, .slice A0_6 l0_6.length c0_6, .int .i64 a0_7, .int .i64 a0_8, .int .i64 a0_9, .int .i64 a0_10, .slice A0_11 l0_11.length c0_11, .slice A0_12 l0_12.length c0_12] 74 (0, 0)) (by (with_reducible repeat (first | refine kN ?_ _ | refine kD ?_ | refine kA ?_ _)); exact BK274.out)) : gb275 ≠ gb274))
   clear BK274
   clear HB
   have BK274 := n0_
   have HB := n1_
   have BK275 := n2_
   have GW275 := n3_
   have GE275 := n4_
   have NB274_275 := n5_
   have NB275_274 := n6_
   clear n0_ n1_ n2_ n3_ n4_ n5_ n6_
   clear hb hbox hg
   refine hK.out _ _ ⟨(blk_cell BK274.out 0).trans rfl, (blk_cell BK274.out 1).trans rfl, (blk_cell BK274.out 2).trans rfl, (blk_cell BK274.out 3).trans rfl, (blk_cell BK274.out 4).trans rfl, (blk_cell BK274.out 5).trans rfl, (blk_cell BK274.out 6).trans rfl, (blk_cell BK274.out 7).trans rfl, (blk_cell BK274.out 8).trans rfl, (blk_cell BK274.out 9).trans rfl, (blk_cell BK274.out 10).trans rfl, (blk_cell BK274.out 11).trans rfl, (blk_cell BK274.out 12).trans rfl⟩ (fun hHeld => ?_)
   clear hK K
   refine norm_ (a' := ?_) ?_ ?_
   rotate_left
   ·show Act.put _ (some 3) _ = _
    simp only [Act.put, lI, lZ, lS, i64_w, i32_w]
    rfl
   refine one_ (i := 5) (N := some 4) #[true, true, true, true, true, true, false, false] rfl rfl (one_of HT_.out (by kernel_rfl)) (by decide) (fun K hK => ?_)
   refine box_step ?hg (N := 4) ?hd (cs := #[.int .i64 0, .int .i64 0, .int .i64 0, .int .i64 0, .slice none 0 0]) (t := 29) ?hr ?_; (case hd => rfl); (case hg => rfl); (case hr => first | (go_simp; done) | (go_simp; rfl))
   intro gb276 hg w6 hbox hb
   have n0_ := aM (kB (g := gb274) (o := .cells #[.int .i64 a0_0, .int .i64 a0_1, .int .i64 a0_2, .int .i64 a0_3, .bool a0_4, .slice A0_5 l0_5.length c0_5, .slice A0_6 l0_6.length c0_6, .int .i64 a0_7, .int .i64 a0_8, .int .i64 a0_9, .int .i64 a0_10, .slice A0_11 l0_11.length c0_11, .slice A0_12 l0_12.length c0_12] 74 (0, 0)) (by (with_reducible repeat (first | refine kN ?_ _ | refine kD ?_ | refine kA ?_ _)); exact BK274.out) hb)
   have n1_ := aM (kB (g := gb275) (o := .cells #[.int .i64 0, .int .i64 0, .int .i64 0, .int .i64 0, .bool false] 39 (0, 0)) (by (with_reducible repeat (first | refine kN ?_ _ | refine kD ?_ | refine kA ?_ _)); exact BK275.out) hb)
   have n2_ := aM (bT (by repeat (first | (with_reducible first | exact HB.out | apply bA | apply bN | apply bE | refine bS ?_ GE274.out | refine bS ?_ GE275.out) | exact HB.out)) hb)
   have n3_ := aM (hbox)
   have n4_ := aM ((by rw [hg]; exact (bZ (by repeat (first | (with_reducible first | exact HB.out | apply bA | apply bN | apply bE | refine bS ?_ GE274.out | refine bS ?_ GE275.out) | exact HB.out))) : w.heap.size ≤ gb276))
   have n5_ := aM ((by rw [hg]; exact (bZ (by repeat (first | (with_reducible first | exact HB.out | apply bA | apply bN | apply bE | refine bS ?_ GE274.out | refine bS ?_ GE275.out) | exact HB.out))) : w.heap.size ≤ gb276))
   have n6_ := aM ((by rw [hg]; exact Nat.ne_of_lt (blk_lt (g := gb274) (o := .cells #[.int .i64 a0_0, .int .i64 a0_1, .int .i64 a0_2, .int .i64 a0_3, .bool a0_4, .slice A0_5 l0_5.length c0_5, .slice A0_6 l0_6.length c0_6, .int .i64 a0_7, .int .i64 a0_8, .int .i64 a0_9, .int .i64 a0_10, .slice A0_11 l0_11.length c0_11, .slice A0_12 l0_12.length c0_12] 74 (0, 0)) (by (with_reducible repeat (first | refine kN ?_ _ | refine kD ?_ | refine kA ?_ _)); exact BK274.out)) : gb274 ≠ gb276))
   have n7_ := aM ((by rw [hg]; exact Nat.ne_of_gt (blk_lt (g := gb274) (o := .cells #[.int .i64 a0_0, .int .i64 a0_1, .int .i64 a0_2, .int .i64 a0_3, .bool a0_4, .slice A0_5 l0_5.length c0_5, .slice A0_6 l0_6.length c0_6, .int .i64 a0_7, .int .i64 a0_8, .int .i64 a0_9, .int .i64 a0_10, .slice A0_11 l0_11.length c0_11, .slice A0_12 l0_12.length c0_12] 74 (0, 0)) (by (with_reducible repeat (first | refine kN ?_ _ | refine kD ?_ | refine kA ?_ _)); exact BK274.out)) : gb276 ≠ gb274))
   have n8_ := aM ((by rw [hg]; exact Nat.ne_of_lt (blk_lt (g := gb275) (o := .cells #[.int .i64 0, .int .i64 0, .int .i64 0, .int .i64 0, .bool false] 39 (0, 0)) (by (with_reducible repeat (first | refine kN ?_ _ | refine kD ?_ | refine kA ?_ _)); exact BK275.out)) : gb275 ≠ gb276))
   have n9_ := aM ((by rw [hg]; exact Nat.ne_of_gt (blk_lt (g := gb275) (o := .cells #[.int .i64 0, .int .i64 0, .int .i64 0, .int .i64 0, .bool false] 39 (0, 0)) (by (with_reducible repeat (first | refine kN ?_ _ | refine kD ?_ | refine kA ?_ _)); exact BK275.out)) : gb276 ≠ gb275))
   clear BK274
   clear BK275
   clear HB
   have BK274 := n0_
   have BK275 := n1_
   have HB := n2_
   have BK276 := n3_
   have GW276 := n4_
   have GE276 := n5_
   have NB274_276 := n6_
   have NB276_274 := n7_
   have NB275_276 := n8_
   have NB276_275 := n9_
   clear n0_ n1_ n2_ n3_ n4_ n5_ n6_ n7_ n8_ n9_
   clear hb hbox hg
   refine hK.out _ _ ⟨(blk_cell BK274.out 0).trans rfl, (blk_cell BK274.out 1).trans rfl, (blk_cell BK274.out 2).trans rfl, (blk_cell BK274.out 3).trans rfl, (blk_cell BK274.out 4).trans rfl, (blk_cell BK274.out 5).trans rfl, (blk_cell BK274.out 6).trans rfl, (blk_cell BK274.out 7).trans rfl, (blk_cell BK274.out 8).trans rfl, (blk_cell BK274.out 9).trans rfl, (blk_cell BK274.out 10).trans rfl, (blk_cell BK274.out 11).trans rfl, (blk_cell BK274.out 12).trans rfl⟩ (fun hHeld => ?_)
   clear hK K
   refine norm_ (a' := ?_) ?_ ?_
   rotate_left
   ·show Act.put _ (some 4) _ = _
    simp only [Act.put, lI, lZ, lS, i64_w, i32_w]
    rfl
   exact norm_ (by simp only [putAll, Act.put, lI, lZ, lS]) (hCont (gb275, gb276) _ ⟨hHeld, (by (with_reducible repeat (first | refine kN ?_ _ | refine kD ?_ | refine kA ?_ _)); exact BK274.out), (by (with_reducible repeat (first | refine kN ?_ _ | refine kD ?_ | refine kA ?_ _)); exact BK275.out), (by (with_reducible repeat (first | refine kN ?_ _ | refine kD ?_ | refine kA ?_ _)); exact BK276.out), GW275.out, GE275.out, NB274_275.out, NB275_274.out, NB276_275.out, NB275_276.out, GW276.out, GE276.out, NB274_276.out, NB276_274.out, (by repeat (first | (with_reducible first | exact HB.out | apply bA | apply bN | apply bE | refine bS ?_ GE274.out | refine bS ?_ GE275.out | refine bS ?_ GE276.out) | exact HB.out))⟩)
  ·skip
   refine box_step ?hg (N := 4) ?hd (cs := #[.int .i64 0, .int .i64 0, .int .i64 0, .int .i64 0, .slice none 0 0]) (t := 29) ?hr ?_; (case hd => rfl); (case hg => rfl); (case hr => first | (go_simp; done) | (go_simp; rfl))
   intro gb276 hg w5 hbox hb
   have n0_ := aM (kB (g := gb274) (o := .cells #[.int .i64 a0_0, .int .i64 a0_1, .int .i64 a0_2, .int .i64 a0_3, .bool a0_4, .slice A0_5 l0_5.length c0_5, .slice A0_6 l0_6.length c0_6, .int .i64 a0_7, .int .i64 a0_8, .int .i64 a0_9, .int .i64 a0_10, .slice A0_11 l0_11.length c0_11, .slice A0_12 l0_12.length c0_12] 74 (0, 0)) (by (with_reducible repeat (first | refine kN ?_ _ | refine kD ?_ | refine kA ?_ _)); exact BK274.out) hb)
   have n1_ := aM (bT (by repeat (first | (with_reducible first | exact HB.out | apply bA | apply bN | apply bE | refine bS ?_ GE274.out) | exact HB.out)) hb)
   have n2_ := aM (hbox)
   have n3_ := aM ((by rw [hg]; exact (bZ (by repeat (first | (with_reducible first | exact HB.out | apply bA | apply bN | apply bE | refine bS ?_ GE274.out) | exact HB.out))) : w.heap.size ≤ gb276))
   have n4_ := aM ((by rw [hg]; exact (bZ (by repeat (first | (with_reducible first | exact HB.out | apply bA | apply bN | apply bE | refine bS ?_ GE274.out) | exact HB.out))) : w.heap.size ≤ gb276))
   have n5_ := aM ((by rw [hg]; exact Nat.ne_of_lt (blk_lt (g := gb274) (o := .cells #[.int .i64 a0_0, .int .i64 a0_1, .int .i64 a0_2, .int .i64 a0_3, .bool a0_4, .slice A0_5 l0_5.length c0_5, .slice A0_6 l0_6.length c0_6, .int .i64 a0_7, .int .i64 a0_8, .int .i64 a0_9, .int .i64 a0_10, .slice A0_11 l0_11.length c0_11, .slice A0_12 l0_12.length c0_12] 74 (0, 0)) (by (with_reducible repeat (first | refine kN ?_ _ | refine kD ?_ | refine kA ?_ _)); exact BK274.out)) : gb274 ≠ gb276))
   have n6_ := aM ((by rw [hg]; exact Nat.ne_of_gt (blk_lt (g := gb274) (o := .cells #[.int .i64 a0_0, .int .i64 a0_1, .int .i64 a0_2, .int .i64 a0_3, .bool a0_4, .slice A0_5 l0_5.length c0_5, .slice A0_6 l0_6.length c0_6, .int .i64 a0_7, .int .i64 a0_8, .int .i64 a0_9, .int .i64 a0_10, .slice A0_11 l0_11.length c0_11, .slice A0_12 l0_12.length c0_12] 74 (0, 0)) (by (with_reducible repeat (first | refine kN ?_ _ | refine kD ?_ | refine kA ?_ _)); exact BK274.out)) : gb276 ≠ gb274))
   clear BK274
   clear HB
   have BK274 := n0_
   have HB := n1_
   have BK276 := n2_
   have GW276 := n3_
   have GE276 := n4_
   have NB274_276 := n5_
   have NB276_274 := n6_
   clear n0_ n1_ n2_ n3_ n4_ n5_ n6_
   clear hb hbox hg
   refine hK.out _ _ ⟨(blk_cell BK274.out 0).trans rfl, (blk_cell BK274.out 1).trans rfl, (blk_cell BK274.out 2).trans rfl, (blk_cell BK274.out 3).trans rfl, (blk_cell BK274.out 4).trans rfl, (blk_cell BK274.out 5).trans rfl, (blk_cell BK274.out 6).trans rfl, (blk_cell BK274.out 7).trans rfl, (blk_cell BK274.out 8).trans rfl, (blk_cell BK274.out 9).trans rfl, (blk_cell BK274.out 10).trans rfl, (blk_cell BK274.out 11).trans rfl, (blk_cell BK274.out 12).trans rfl⟩ (fun hHeld => ?_)
   clear hK K
   refine norm_ (a' := ?_) ?_ ?_
   rotate_left
   ·show Act.put _ (some 4) _ = _
    simp only [Act.put, lI, lZ, lS, i64_w, i32_w]
    rfl
   refine one_ (i := 4) (N := some 3) #[true, true, true, true, true, true, false, false] rfl rfl (one_of HT_.out (by kernel_rfl)) (by decide) (fun K hK => ?_)
   refine box_step ?hg (N := 3) ?hd (cs := #[.int .i64 0, .int .i64 0, .int .i64 0, .int .i64 0, .bool false]) (t := 39) ?hr ?_; (case hd => rfl); (case hg => rfl); (case hr => first | (go_simp; done) | (go_simp; rfl))
   intro gb275 hg w6 hbox hb
   have n0_ := aM (kB (g := gb274) (o := .cells #[.int .i64 a0_0, .int .i64 a0_1, .int .i64 a0_2, .int .i64 a0_3, .bool a0_4, .slice A0_5 l0_5.length c0_5, .slice A0_6 l0_6.length c0_6, .int .i64 a0_7, .int .i64 a0_8, .int .i64 a0_9, .int .i64 a0_10, .slice A0_11 l0_11.length c0_11, .slice A0_12 l0_12.length c0_12] 74 (0, 0)) (by (with_reducible repeat (first | refine kN ?_ _ | refine kD ?_ | refine kA ?_ _)); exact BK274.out) hb)
   have n1_ := aM (kB (g := gb276) (o := .cells #[.int .i64 0, .int .i64 0, .int .i64 0, .int .i64 0, .slice none 0 0] 29 (0, 0)) (by (with_reducible repeat (first | refine kN ?_ _ | refine kD ?_ | refine kA ?_ _)); exact BK276.out) hb)
   have n2_ := aM (bT (by repeat (first | (with_reducible first | exact HB.out | apply bA | apply bN | apply bE | refine bS ?_ GE274.out | refine bS ?_ GE276.out) | exact HB.out)) hb)
   have n3_ := aM (hbox)
   have n4_ := aM ((by rw [hg]; exact (bZ (by repeat (first | (with_reducible first | exact HB.out | apply bA | apply bN | apply bE | refine bS ?_ GE274.out | refine bS ?_ GE276.out) | exact HB.out))) : w.heap.size ≤ gb275))
   have n5_ := aM ((by rw [hg]; exact (bZ (by repeat (first | (with_reducible first | exact HB.out | apply bA | apply bN | apply bE | refine bS ?_ GE274.out | refine bS ?_ GE276.out) | exact HB.out))) : w.heap.size ≤ gb275))
   have n6_ := aM ((by rw [hg]; exact Nat.ne_of_lt (blk_lt (g := gb274) (o := .cells #[.int .i64 a0_0, .int .i64 a0_1, .int .i64 a0_2, .int .i64 a0_3, .bool a0_4, .slice A0_5 l0_5.length c0_5, .slice A0_6 l0_6.length c0_6, .int .i64 a0_7, .int .i64 a0_8, .int .i64 a0_9, .int .i64 a0_10, .slice A0_11 l0_11.length c0_11, .slice A0_12 l0_12.length c0_12] 74 (0, 0)) (by (with_reducible repeat (first | refine kN ?_ _ | refine kD ?_ | refine kA ?_ _)); exact BK274.out)) : gb274 ≠ gb275))
   have n7_ := aM ((by rw [hg]; exact Nat.ne_of_gt (blk_lt (g := gb274) (o := .cells #[.int .i64 a0_0, .int .i64 a0_1, .int .i64 a0_2, .int .i64 a0_3, .bool a0_4, .slice A0_5 l0_5.length c0_5, .slice A0_6 l0_6.length c0_6, .int .i64 a0_7, .int .i64 a0_8, .int .i64 a0_9, .int .i64 a0_10, .slice A0_11 l0_11.length c0_11, .slice A0_12 l0_12.length c0_12] 74 (0, 0)) (by (with_reducible repeat (first | refine kN ?_ _ | refine kD ?_ | refine kA ?_ _)); exact BK274.out)) : gb275 ≠ gb274))
   have n8_ := aM ((by rw [hg]; exact Nat.ne_of_lt (blk_lt (g := gb276) (o := .cells #[.int .i64 0, .int .i64 0, .int .i64 0, .int .i64 0, .slice none 0 0] 29 (0, 0)) (by (with_reducible repeat (first | refine kN ?_ _ | refine kD ?_ | refine kA ?_ _)); exact BK276.out)) : gb276 ≠ gb275))
   have n9_ := aM ((by rw [hg]; exact Nat.ne_of_gt (blk_lt (g := gb276) (o := .cells #[.int .i64 0, .int .i64 0, .int .i64 0, .int .i64 0, .slice none 0 0] 29 (0, 0)) (by (with_reducible repeat (first | refine kN ?_ _ | refine kD ?_ | refine kA ?_ _)); exact BK276.out)) : gb275 ≠ gb276))
   clear BK274
   clear BK276
   clear HB
   have BK274 := n0_
   have BK276 := n1_
   have HB := n2_
   have BK275 := n3_
   have GW275 := n4_
   have GE275 := n5_
   have NB274_275 := n6_
   have NB275_274 := n7_
   have NB276_275 := n8_
   have NB275_276 := n9_
   clear n0_ n1_ n2_ n3_ n4_ n5_ n6_ n7_ n8_ n9_
   clear hb hbox hg
   refine hK.out _ _ ⟨(blk_cell BK274.out 0).trans rfl, (blk_cell BK274.out 1).trans rfl, (blk_cell BK274.out 2).trans rfl, (blk_cell BK274.out 3).trans rfl, (blk_cell BK274.out 4).trans rfl, (blk_cell BK274.out 5).trans rfl, (blk_cell BK274.out 6).trans rfl, (blk_cell BK274.out 7).trans rfl, (blk_cell BK274.out 8).trans rfl, (blk_cell BK274.out 9).trans rfl, (blk_cell BK274.out 10).trans rfl, (blk_cell BK274.out 11).trans rfl, (blk_cell BK274.out 12).trans rfl⟩ (fun hHeld => ?_)
   clear hK K
   refine norm_ (a' := ?_) ?_ ?_
   rotate_left
   ·show Act.put _ (some 3) _ = _
    simp only [Act.put, lI, lZ, lS, i64_w, i32_w]
    rfl
   exact norm_ (by simp only [putAll, Act.put, lI, lZ, lS]) (hCont (gb275, gb276) _ ⟨hHeld, (by (with_reducible repeat (first | refine kN ?_ _ | refine kD ?_ | refine kA ?_ _)); exact BK274.out), (by (with_reducible repeat (first | refine kN ?_ _ | refine kD ?_ | refine kA ?_ _)); exact BK275.out), (by (with_reducible repeat (first | refine kN ?_ _ | refine kD ?_ | refine kA ?_ _)); exact BK276.out), GW275.out, GE275.out, NB274_275.out, NB275_274.out, NB276_275.out, NB275_276.out, GW276.out, GE276.out, NB274_276.out, NB276_274.out, (by repeat (first | (with_reducible first | exact HB.out | apply bA | apply bN | apply bE | refine bS ?_ GE274.out | refine bS ?_ GE276.out | refine bS ?_ GE275.out) | exact HB.out))⟩)
 rintro ⟨gb275, gb276⟩ w7 ⟨hS_, h0_, h1_, h2_, h3_, h4_, h5_, h6_, h7_, h8_, h9_, h10_, h11_, h12_, h13_⟩
 have n0_ : Aside0 (w7.heap[gb274]? = some (.cells #[.int .i64 a0_0, .int .i64 a0_1, .int .i64 a0_2, .int .i64 a0_3, .bool a0_4, .slice A0_5 l0_5.length c0_5, .slice A0_6 l0_6.length c0_6, .int .i64 a0_7, .int .i64 a0_8, .int .i64 a0_9, .int .i64 a0_10, .slice A0_11 l0_11.length c0_11, .slice A0_12 l0_12.length c0_12] 74 (0, 0))) := ⟨h0_⟩
 have n1_ : Aside0 (w7.heap[gb275]? = some (.cells #[.int .i64 0, .int .i64 0, .int .i64 0, .int .i64 0, .bool false] 39 (0, 0))) := ⟨h1_⟩
 have n2_ : Aside0 (w7.heap[gb276]? = some (.cells #[.int .i64 0, .int .i64 0, .int .i64 0, .int .i64 0, .slice none 0 0] 29 (0, 0))) := ⟨h2_⟩
 have n3_ : Aside0 (w.heap.size ≤ gb275) := ⟨h3_⟩
 have n4_ : Aside0 (w.heap.size ≤ gb275) := ⟨h4_⟩
 have n5_ : Aside0 (gb274 ≠ gb275) := ⟨h5_⟩
 have n6_ : Aside0 (gb275 ≠ gb274) := ⟨h6_⟩
 have n7_ : Aside0 (gb276 ≠ gb275) := ⟨h7_⟩
 have n8_ : Aside0 (gb275 ≠ gb276) := ⟨h8_⟩
 have n9_ : Aside0 (w.heap.size ≤ gb276) := ⟨h9_⟩
 have n10_ : Aside0 (w.heap.size ≤ gb276) := ⟨h10_⟩
 have n11_ : Aside0 (gb274 ≠ gb276) := ⟨h11_⟩
 have n12_ : Aside0 (gb276 ≠ gb274) := ⟨h12_⟩
 have n13_ : Aside0 (Below w.heap.size w w7) := ⟨h13_⟩
 clear BK274
 clear HB
 clear h0_ h1_ h2_ h3_ h4_ h5_ h6_ h7_ h8_ h9_ h10_ h11_ h12_ h13_
 have BK274 := n0_
 have BK275 := n1_
 have BK276 := n2_
 have GW275 := n3_
 have GE275 := n4_
 have NB274_275 := n5_
 have NB275_274 := n6_
 have NB276_275 := n7_
 have NB275_276 := n8_
 have GW276 := n9_
 have GE276 := n10_
 have NB274_276 := n11_
 have NB276_274 := n12_
 have HB := n13_
 clear n0_ n1_ n2_ n3_ n4_ n5_ n6_ n7_ n8_ n9_ n10_ n11_ n12_ n13_
 have hHeld : w7.cell? ⟨gb274, 0, none⟩ = some (.int .i64 a0_0) ∧ w7.cell? ⟨gb274, 1, none⟩ = some (.int .i64 a0_1) ∧ w7.cell? ⟨gb274, 2, none⟩ = some (.int .i64 a0_2) ∧ w7.cell? ⟨gb274, 3, none⟩ = some (.int .i64 a0_3) ∧ w7.cell? ⟨gb274, 4, none⟩ = some (.bool a0_4) ∧ w7.cell? ⟨gb274, 5, none⟩ = some (.slice A0_5 l0_5.length c0_5) ∧ w7.cell? ⟨gb274, 6, none⟩ = some (.slice A0_6 l0_6.length c0_6) ∧ w7.cell? ⟨gb274, 7, none⟩ = some (.int .i64 a0_7) ∧ w7.cell? ⟨gb274, 8, none⟩ = some (.int .i64 a0_8) ∧ w7.cell? ⟨gb274, 9, none⟩ = some (.int .i64 a0_9) ∧ w7.cell? ⟨gb274, 10, none⟩ = some (.int .i64 a0_10) ∧ w7.cell? ⟨gb274, 11, none⟩ = some (.slice A0_11 l0_11.length c0_11) ∧ w7.cell? ⟨gb274, 12, none⟩ = some (.slice A0_12 l0_12.length c0_12) := hS_
 refine norm_ (a' := ?_) ?_ ?_
 rotate_left
 ·simp only [putAll, Act.put, lI, lZ, lS]
  rfl
 refine one_ (i := 6) (N := none) #[true, true, true, true, true, true, true, false] rfl rfl (one_of HT_.out (by kernel_rfl)) (by decide) (fun K hK => ?_)
 have hs8 : w7.cell? ⟨gb275, 0, none⟩ = some (.int .i64 0) := (blk_cell BK275.out 0).trans rfl
 have hfs8 := blk_frozen BK275.out 0
 have hns8_0 := NB274_275.out
 have hns8_2 := NB276_275.out
 have hms8_0 := NB275_274.out
 have hms8_2 := NB275_276.out
 have hs9 : w7.cell? ⟨gb275, 1, none⟩ = some (.int .i64 0) := (blk_cell BK275.out 1).trans rfl
 have hfs9 := blk_frozen BK275.out 1
 have hns9_0 := NB274_275.out
 have hns9_2 := NB276_275.out
 have hms9_0 := NB275_274.out
 have hms9_2 := NB275_276.out
 have hs10 : w7.cell? ⟨gb275, 2, none⟩ = some (.int .i64 0) := (blk_cell BK275.out 2).trans rfl
 have hfs10 := blk_frozen BK275.out 2
 have hns10_0 := NB274_275.out
 have hns10_2 := NB276_275.out
 have hms10_0 := NB275_274.out
 have hms10_2 := NB275_276.out
 have hs11 : w7.cell? ⟨gb275, 3, none⟩ = some (.int .i64 0) := (blk_cell BK275.out 3).trans rfl
 have hfs11 := blk_frozen BK275.out 3
 have hns11_0 := NB274_275.out
 have hns11_2 := NB276_275.out
 have hms11_0 := NB275_274.out
 have hms11_2 := NB275_276.out
 have hs12 : w7.cell? ⟨gb275, 4, none⟩ = some (.bool false) := (blk_cell BK275.out 4).trans rfl
 have hfs12 := blk_frozen BK275.out 4
 have hns12_0 := NB274_275.out
 have hns12_2 := NB276_275.out
 have hms12_0 := NB275_274.out
 have hms12_2 := NB275_276.out
 refine skip_ (w1 := ?_) (by rfl) rfl ?_ ?_
 rotate_left
 ·go_simp
  rfl
 refine hK.out _ _ ⟨((cell_far (p := ⟨gb275, _, none⟩) NB274_275.out _).trans (((cell_far (p := ⟨gb275, _, none⟩) NB274_275.out _).trans (((cell_far (p := ⟨gb275, _, none⟩) NB274_275.out _).trans (((cell_far (p := ⟨gb275, _, none⟩) NB274_275.out _).trans (((cell_far (p := ⟨gb275, _, none⟩) NB274_275.out _).trans (hHeld.1)))))))))), ((cell_far (p := ⟨gb275, _, none⟩) NB274_275.out _).trans (((cell_far (p := ⟨gb275, _, none⟩) NB274_275.out _).trans (((cell_far (p := ⟨gb275, _, none⟩) NB274_275.out _).trans (((cell_far (p := ⟨gb275, _, none⟩) NB274_275.out _).trans (((cell_far (p := ⟨gb275, _, none⟩) NB274_275.out _).trans (hHeld.2.1)))))))))), ((cell_far (p := ⟨gb275, _, none⟩) NB274_275.out _).trans (((cell_far (p := ⟨gb275, _, none⟩) NB274_275.out _).trans (((cell_far (p := ⟨gb275, _, none⟩) NB274_275.out _).trans (((cell_far (p := ⟨gb275, _, none⟩) NB274_275.out _).trans (((cell_far (p := ⟨gb275, _, none⟩) NB274_275.out _).trans (hHeld.2.2.1)))))))))), ((cell_far (p := ⟨gb275, _, none⟩) NB274_275.out _).trans (((cell_far (p := ⟨gb275, _, none⟩) NB274_275.out _).trans (((cell_far (p := ⟨gb275, _, none⟩) NB274_275.out _).trans (((cell_far (p := ⟨gb275, _, none⟩) NB274_275.out _).trans (((cell_far (p := ⟨gb275, _, none⟩) NB274_275.out _).trans (hHeld.2.2.2.1)))))))))), ((cell_far (p := ⟨gb275, _, none⟩) NB274_275.out _).trans (((cell_far (p := ⟨gb275, _, none⟩) NB274_275.out _).trans (((cell_far (p := ⟨gb275, _, none⟩) NB274_275.out _).trans (((cell_far (p := ⟨gb275, _, none⟩) NB274_275.out _).trans (((cell_far (p := ⟨gb275, _, none⟩) NB274_275.out _).trans (hHeld.2.2.2.2.1)))))))))), ((cell_far (p := ⟨gb275, _, none⟩) NB274_275.out _).trans (((cell_far (p := ⟨gb275, _, none⟩) NB274_275.out _).trans (((cell_far (p := ⟨gb275, _, none⟩) NB274_275.out _).trans (((cell_far (p := ⟨gb275, _, none⟩) NB274_275.out _).trans (((cell_far (p := ⟨gb275, _, none⟩) NB274_275.out _).trans (hHeld.2.2.2.2.2.1)))))))))), ((cell_far (p := ⟨gb275, _, none⟩) NB274_275.out _).trans (((cell_far (p := ⟨gb275, _, none⟩) NB274_275.out _).trans (((cell_far (p := ⟨gb275, _, none⟩) NB274_275.out _).trans (((cell_far (p := ⟨gb275, _, none⟩) NB274_275.out _).trans (((cell_far (p := ⟨gb275, _, none⟩) NB274_275.out _).trans (hHeld.2.2.2.2.2.2.1)))))))))), ((cell_far (p := ⟨gb275, _, none⟩) NB274_275.out _).trans (((cell_far (p := ⟨gb275, _, none⟩) NB274_275.out _).trans (((cell_far (p := ⟨gb275, _, none⟩) NB274_275.out _).trans (((cell_far (p := ⟨gb275, _, none⟩) NB274_275.out _).trans (((cell_far (p := ⟨gb275, _, none⟩) NB274_275.out _).trans (hHeld.2.2.2.2.2.2.2.1)))))))))), ((cell_far (p := ⟨gb275, _, none⟩) NB274_275.out _).trans (((cell_far (p := ⟨gb275, _, none⟩) NB274_275.out _).trans (((cell_far (p := ⟨gb275, _, none⟩) NB274_275.out _).trans (((cell_far (p := ⟨gb275, _, none⟩) NB274_275.out _).trans (((cell_far (p := ⟨gb275, _, none⟩) NB274_275.out _).trans (hHeld.2.2.2.2.2.2.2.2.1)))))))))), ((cell_far (p := ⟨gb275, _, none⟩) NB274_275.out _).trans (((cell_far (p := ⟨gb275, _, none⟩) NB274_275.out _).trans (((cell_far (p := ⟨gb275, _, none⟩) NB274_275.out _).trans (((cell_far (p := ⟨gb275, _, none⟩) NB274_275.out _).trans (((cell_far (p := ⟨gb275, _, none⟩) NB274_275.out _).trans (hHeld.2.2.2.2.2.2.2.2.2.1)))))))))), ((cell_far (p := ⟨gb275, _, none⟩) NB274_275.out _).trans (((cell_far (p := ⟨gb275, _, none⟩) NB274_275.out _).trans (((cell_far (p := ⟨gb275, _, none⟩) NB274_275.out _).trans (((cell_far (p := ⟨gb275, _, none⟩) NB274_275.out _).trans (((cell_far (p := ⟨gb275, _, none⟩) NB274_275.out _).trans (hHeld.2.2.2.2.2.2.2.2.2.2.1)))))))))), ((cell_far (p := ⟨gb275, _, none⟩) NB274_275.out _).trans (((cell_far (p := ⟨gb275, _, none⟩) NB274_275.out _).trans (((cell_far (p := ⟨gb275, _, none⟩) NB274_275.out _).trans (((cell_far (p := ⟨gb275, _, none⟩) NB274_275.out _).trans (((cell_far (p := ⟨gb275, _, none⟩) NB274_275.out _).trans (hHeld.2.2.2.2.2.2.2.2.2.2.2.1)))))))))), ((cell_far (p := ⟨gb275, _, none⟩) NB274_275.out _).trans (((cell_far (p := ⟨gb275, _, none⟩) NB274_275.out _).trans (((cell_far (p := ⟨gb275, _, none⟩) NB274_275.out _).trans (((cell_far (p := ⟨gb275, _, none⟩) NB274_275.out _).trans (((cell_far (p := ⟨gb275, _, none⟩) NB274_275.out _).trans (hHeld.2.2.2.2.2.2.2.2.2.2.2.2))))))))))⟩ (fun hHeld => ?_)
 clear hK K
 refine one_ (i := 7) (N := none) #[true, true, true, true, true, true, true, true] rfl rfl (one_of HT_.out (by kernel_rfl)) (by decide) (fun K hK => ?_)
 have hs13 : w7.cell? ⟨gb276, 0, none⟩ = some (.int .i64 0) := (blk_cell BK276.out 0).trans rfl
 have hfs13 := blk_frozen BK276.out 0
 have hns13_0 := NB274_276.out
 have hns13_1 := NB275_276.out
 have hms13_0 := NB276_274.out
 have hms13_1 := NB276_275.out
 have hs14 : w7.cell? ⟨gb276, 1, none⟩ = some (.int .i64 0) := (blk_cell BK276.out 1).trans rfl
 have hfs14 := blk_frozen BK276.out 1
 have hns14_0 := NB274_276.out
 have hns14_1 := NB275_276.out
 have hms14_0 := NB276_274.out
 have hms14_1 := NB276_275.out
 have hs15 : w7.cell? ⟨gb276, 2, none⟩ = some (.int .i64 0) := (blk_cell BK276.out 2).trans rfl
 have hfs15 := blk_frozen BK276.out 2
 have hns15_0 := NB274_276.out
 have hns15_1 := NB275_276.out
 have hms15_0 := NB276_274.out
 have hms15_1 := NB276_275.out
 have hs16 : w7.cell? ⟨gb276, 3, none⟩ = some (.int .i64 0) := (blk_cell BK276.out 3).trans rfl
 have hfs16 := blk_frozen BK276.out 3
 have hns16_0 := NB274_276.out
 have hns16_1 := NB275_276.out
 have hms16_0 := NB276_274.out
 have hms16_1 := NB276_275.out
 have hs17 : w7.cell? ⟨gb276, 4, none⟩ = some (.slice none 0 0) := (blk_cell BK276.out 4).trans rfl
 have hfs17 := blk_frozen BK276.out 4
 have hns17_0 := NB274_276.out
 have hns17_1 := NB275_276.out
 have hms17_0 := NB276_274.out
 have hms17_1 := NB276_275.out
 refine skip_ (w1 := ?_) (by rfl) rfl ?_ ?_
 rotate_left
 ·go_simp
  rfl
 refine hK.out _ _ ⟨((cell_far (p := ⟨gb276, _, none⟩) NB274_276.out _).trans (((cell_far (p := ⟨gb276, _, none⟩) NB274_276.out _).trans (((cell_far (p := ⟨gb276, _, none⟩) NB274_276.out _).trans (((cell_far (p := ⟨gb276, _, none⟩) NB274_276.out _).trans (((cell_far (p := ⟨gb276, _, none⟩) NB274_276.out _).trans (hHeld.1)))))))))), ((cell_far (p := ⟨gb276, _, none⟩) NB274_276.out _).trans (((cell_far (p := ⟨gb276, _, none⟩) NB274_276.out _).trans (((cell_far (p := ⟨gb276, _, none⟩) NB274_276.out _).trans (((cell_far (p := ⟨gb276, _, none⟩) NB274_276.out _).trans (((cell_far (p := ⟨gb276, _, none⟩) NB274_276.out _).trans (hHeld.2.1)))))))))), ((cell_far (p := ⟨gb276, _, none⟩) NB274_276.out _).trans (((cell_far (p := ⟨gb276, _, none⟩) NB274_276.out _).trans (((cell_far (p := ⟨gb276, _, none⟩) NB274_276.out _).trans (((cell_far (p := ⟨gb276, _, none⟩) NB274_276.out _).trans (((cell_far (p := ⟨gb276, _, none⟩) NB274_276.out _).trans (hHeld.2.2.1)))))))))), ((cell_far (p := ⟨gb276, _, none⟩) NB274_276.out _).trans (((cell_far (p := ⟨gb276, _, none⟩) NB274_276.out _).trans (((cell_far (p := ⟨gb276, _, none⟩) NB274_276.out _).trans (((cell_far (p := ⟨gb276, _, none⟩) NB274_276.out _).trans (((cell_far (p := ⟨gb276, _, none⟩) NB274_276.out _).trans (hHeld.2.2.2.1)))))))))), ((cell_far (p := ⟨gb276, _, none⟩) NB274_276.out _).trans (((cell_far (p := ⟨gb276, _, none⟩) NB274_276.out _).trans (((cell_far (p := ⟨gb276, _, none⟩) NB274_276.out _).trans (((cell_far (p := ⟨gb276, _, none⟩) NB274_276.out _).trans (((cell_far (p := ⟨gb276, _, none⟩) NB274_276.out _).trans (hHeld.2.2.2.2.1)))))))))), ((cell_far (p := ⟨gb276, _, none⟩) NB274_276.out _).trans (((cell_far (p := ⟨gb276, _, none⟩) NB274_276.out _).trans (((cell_far (p := ⟨gb276, _, none⟩) NB274_276.out _).trans (((cell_far (p := ⟨gb276, _, none⟩) NB274_276.out _).trans (((cell_far (p := ⟨gb276, _, none⟩) NB274_276.out _).trans (hHeld.2.2.2.2.2.1)))))))))), ((cell_far (p := ⟨gb276, _, none⟩) NB274_276.out _).trans (((cell_far (p := ⟨gb276, _, none⟩) NB274_276.out _).trans (((cell_far (p := ⟨gb276, _, none⟩) NB274_276.out _).trans (((cell_far (p := ⟨gb276, _, none⟩) NB274_276.out _).trans (((cell_far (p := ⟨gb276, _, none⟩) NB274_276.out _).trans (hHeld.2.2.2.2.2.2.1)))))))))), ((cell_far (p := ⟨gb276, _, none⟩) NB274_276.out _).trans (((cell_far (p := ⟨gb276, _, none⟩) NB274_276.out _).trans (((cell_far (p := ⟨gb276, _, none⟩) NB274_276.out _).trans (((cell_far (p := ⟨gb276, _, none⟩) NB274_276.out _).trans (((cell_far (p := ⟨gb276, _, none⟩) NB274_276.out _).trans (hHeld.2.2.2.2.2.2.2.1)))))))))), ((cell_far (p := ⟨gb276, _, none⟩) NB274_276.out _).trans (((cell_far (p := ⟨gb276, _, none⟩) NB274_276.out _).trans (((cell_far (p := ⟨gb276, _, none⟩) NB274_276.out _).trans (((cell_far (p := ⟨gb276, _, none⟩) NB274_276.out _).trans (((cell_far (p := ⟨gb276, _, none⟩) NB274_276.out _).trans (hHeld.2.2.2.2.2.2.2.2.1)))))))))), ((cell_far (p := ⟨gb276, _, none⟩) NB274_276.out _).trans (((cell_far (p := ⟨gb276, _, none⟩) NB274_276.out _).trans (((cell_far (p := ⟨gb276, _, none⟩) NB274_276.out _).trans (((cell_far (p := ⟨gb276, _, none⟩) NB274_276.out _).trans (((cell_far (p := ⟨gb276, _, none⟩) NB274_276.out _).trans (hHeld.2.2.2.2.2.2.2.2.2.1)))))))))), ((cell_far (p := ⟨gb276, _, none⟩) NB274_276.out _).trans (((cell_far (p := ⟨gb276, _, none⟩) NB274_276.out _).trans (((cell_far (p := ⟨gb276, _, none⟩) NB274_276.out _).trans (((cell_far (p := ⟨gb276, _, none⟩) NB274_276.out _).trans (((cell_far (p := ⟨gb276, _, none⟩) NB274_276.out _).trans (hHeld.2.2.2.2.2.2.2.2.2.2.1)))))))))), ((cell_far (p := ⟨gb276, _, none⟩) NB274_276.out _).trans (((cell_far (p := ⟨gb276, _, none⟩) NB274_276.out _).trans (((cell_far (p := ⟨gb276, _, none⟩) NB274_276.out _).trans (((cell_far (p := ⟨gb276, _, none⟩) NB274_276.out _).trans (((cell_far (p := ⟨gb276, _, none⟩) NB274_276.out _).trans (hHeld.2.2.2.2.2.2.2.2.2.2.2.1)))))))))), ((cell_far (p := ⟨gb276, _, none⟩) NB274_276.out _).trans (((cell_far (p := ⟨gb276, _, none⟩) NB274_276.out _).trans (((cell_far (p := ⟨gb276, _, none⟩) NB274_276.out _).trans (((cell_far (p := ⟨gb276, _, none⟩) NB274_276.out _).trans (((cell_far (p := ⟨gb276, _, none⟩) NB274_276.out _).trans (hHeld.2.2.2.2.2.2.2.2.2.2.2.2))))))))))⟩ (fun hHeld => ?_)
 clear hK K
 refine done_ (done_of HT_.out (by kernel_rfl)) ?_
 go_upto_region 2 with (fail)
 go_cut [44] (fun v44 wc => ∃ (kq : Nat) (x44_1 : Bool), v44 = .bool x44_1 ∧ Aside0 (impl_PngOk.j0 kq x44_1 a0_0 a0_1 a0_2 a0_3 a0_4 l0_5 l0_6 a0_7 a0_8 a0_9 a0_10 l0_11 l0_12 a0_0 a0_1 a0_2 a0_3 a0_4 = some r) ∧ Aside0 (kq ≤ k) ∧ Aside0 (wc.heap[gb274]? = some (.cells #[.int .i64 a0_0, .int .i64 a0_1, .int .i64 a0_2, .int .i64 a0_3, .bool a0_4, (.slice A0_5 l0_5.length c0_5), (.slice A0_6 l0_6.length c0_6), .int .i64 a0_7, .int .i64 a0_8, .int .i64 a0_9, .int .i64 a0_10, (.slice A0_11 l0_11.length c0_11), (.slice A0_12 l0_12.length c0_12)] 74 (0, 0))) ∧ Aside0 (wc.heap[gb275]? = some (.cells #[.int .i64 a0_0, .int .i64 a0_1, .int .i64 a0_2, .int .i64 a0_3, .bool a0_4] 39 (0, 0))) ∧ Aside0 (wc.heap[gb276]? = some (.cells #[.int .i64 a0_7, .int .i64 a0_8, .int .i64 a0_9, .int .i64 a0_10, (.slice A0_11 l0_11.length c0_11)] 29 (0, 0))) ∧ Aside0 (Below w.heap.size w wc))
 case first =>
  have H := HC2.out
  clear HC2
  replace H := oB.mp H
  obtain ⟨t277, A180, H⟩ := H
  try dsimp -simprocs only at H
  have A18 := aM A180
  clear A180
  by_cases c19 : t277 = true
  ·subst c19
   have H1 : ((impl_RasterOk.f k a0_7 a0_8 a0_9 a0_10 l0_11).bind fun t278 => (if t278 = true then (if a0_7 = a0_0 then (if a0_8 = a0_1 then (if a0_9 = a0_3 then (impl_PngOk.j0 k (a0_10 != a0_2) a0_0 a0_1 a0_2 a0_3 a0_4 l0_5 l0_6 a0_7 a0_8 a0_9 a0_10 l0_11 l0_12 a0_0 a0_1 a0_2 a0_3 a0_4) else (impl_PngOk.j0 k true a0_0 a0_1 a0_2 a0_3 a0_4 l0_5 l0_6 a0_7 a0_8 a0_9 a0_10 l0_11 l0_12 a0_0 a0_1 a0_2 a0_3 a0_4)) else (impl_PngOk.j0 k true a0_0 a0_1 a0_2 a0_3 a0_4 l0_5 l0_6 a0_7 a0_8 a0_9 a0_10 l0_11 l0_12 a0_0 a0_1 a0_2 a0_3 a0_4)) else (impl_PngOk.j0 k true a0_0 a0_1 a0_2 a0_3 a0_4 l0_5 l0_6 a0_7 a0_8 a0_9 a0_10 l0_11 l0_12 a0_0 a0_1 a0_2 a0_3 a0_4)) else (impl_PngOk.j0 k true a0_0 a0_1 a0_2 a0_3 a0_4 l0_5 l0_6 a0_7 a0_8 a0_9 a0_10 l0_11 l0_12 a0_0 a0_1 a0_2 a0_3 a0_4))) = some r := by rw [if_pos rfl] at H; first | done | exact H
   clear H
   have H := H1
   clear H1
   replace H := oB.mp H
   obtain ⟨t278, A200, H⟩ := H
   try dsimp -simprocs only at H
   have A20 := aM A200
   clear A200
   by_cases c21 : t278 = true
   ·subst c21
    have H1 : (if a0_7 = a0_0 then (if a0_8 = a0_1 then (if a0_9 = a0_3 then (impl_PngOk.j0 k (a0_10 != a0_2) a0_0 a0_1 a0_2 a0_3 a0_4 l0_5 l0_6 a0_7 a0_8 a0_9 a0_10 l0_11 l0_12 a0_0 a0_1 a0_2 a0_3 a0_4) else (impl_PngOk.j0 k true a0_0 a0_1 a0_2 a0_3 a0_4 l0_5 l0_6 a0_7 a0_8 a0_9 a0_10 l0_11 l0_12 a0_0 a0_1 a0_2 a0_3 a0_4)) else (impl_PngOk.j0 k true a0_0 a0_1 a0_2 a0_3 a0_4 l0_5 l0_6 a0_7 a0_8 a0_9 a0_10 l0_11 l0_12 a0_0 a0_1 a0_2 a0_3 a0_4)) else (impl_PngOk.j0 k true a0_0 a0_1 a0_2 a0_3 a0_4 l0_5 l0_6 a0_7 a0_8 a0_9 a0_10 l0_11 l0_12 a0_0 a0_1 a0_2 a0_3 a0_4)) = some r := by rw [if_pos rfl] at H; first | done | exact H
    clear H
    have H := H1
    clear H1
    by_cases c22 : a0_7 = a0_0
    ·rw [if_pos c22] at H
     have c22b0 : (a0_7 == a0_0) = true := beq_iff_eq.mpr c22
     have c22b1 : (a0_7 != a0_0) = false := bne_eq_false_iff_eq.mpr c22
     clear c22
     (first | rw [c22b0] | (simp only [i64_w, i32_w]; rw [c22b0]) | skip)
     by_cases c23 : a0_8 = a0_1
     ·rw [if_pos c23] at H
      have c23b0 : (a0_8 == a0_1) = true := beq_iff_eq.mpr c23
      have c23b1 : (a0_8 != a0_1) = false := bne_eq_false_iff_eq.mpr c23
      clear c23
      by_cases c24 : a0_9 = a0_3
      ·rw [if_pos c24] at H
       have c24b0 : (a0_9 == a0_3) = true := beq_iff_eq.mpr c24
       have c24b1 : (a0_9 != a0_3) = false := bne_eq_false_iff_eq.mpr c24
       clear c24
       have H' := aM H
       clear H
       have hnb25 := NB275_274.out
       have hnc25 := NB274_275.out
       have hnb26 := NB275_276.out
       have hnc26 := NB276_275.out
       obtain ⟨hcz27_0, hcz27_1, hcz27_2, hcz27_3, hcz27_4⟩ := blk_c5 BK275.out
       obtain ⟨hfz27_0, hfz27_1, hfz27_2, hfz27_3, hfz27_4⟩ := blk_f5 BK275.out
       go_wp2_with (first | ((with_reducible refine gate_callee (f := 73) rfl ?_); refine goesL_ (some 10) rfl rfl Try.func73 (by kernel_rfl) rfl #[.agg #[.int .i64 a0_0, .int .i64 a0_1, .int .i64 a0_2, .int .i64 a0_3, .bool a0_4]] rfl (by (try simp only [lM, List.map_cons, List.map_nil]); first | done | rfl | (simp only [lD, lT]; rfl)) ?_; (with_reducible refine (impl_HeadOk.calls k a0_0 a0_1 a0_2 a0_3 a0_4 true _ A18.out).mono ?_); rintro e w28 ⟨rfl, hb⟩; refine ⟨_, rfl, ?_⟩; have n0_ := aM (kB (g := gb274) (o := .cells #[.int .i64 a0_0, .int .i64 a0_1, .int .i64 a0_2, .int .i64 a0_3, .bool a0_4, .slice A0_5 l0_5.length c0_5, .slice A0_6 l0_6.length c0_6, .int .i64 a0_7, .int .i64 a0_8, .int .i64 a0_9, .int .i64 a0_10, .slice A0_11 l0_11.length c0_11, .slice A0_12 l0_12.length c0_12] 74 (0, 0)) (by (with_reducible repeat (first | refine kN ?_ _ | refine kD ?_ | refine kA ?_ _)); refine kF ?_ NB274_276.out _; (with_reducible repeat (first | refine kN ?_ _ | refine kD ?_ | refine kA ?_ _)); refine kF ?_ NB274_276.out _; (with_reducible repeat (first | refine kN ?_ _ | refine kD ?_ | refine kA ?_ _)); refine kF ?_ NB274_276.out _; (with_reducible repeat (first | refine kN ?_ _ | refine kD ?_ | refine kA ?_ _)); refine kF ?_ NB274_276.out _; (with_reducible repeat (first | refine kN ?_ _ | refine kD ?_ | refine kA ?_ _)); refine kF ?_ NB274_276.out _; (with_reducible repeat (first | refine kN ?_ _ | refine kD ?_ | refine kA ?_ _)); refine kF ?_ NB274_275.out _; (with_reducible repeat (first | refine kN ?_ _ | refine kD ?_ | refine kA ?_ _)); refine kF ?_ NB274_275.out _; (with_reducible repeat (first | refine kN ?_ _ | refine kD ?_ | refine kA ?_ _)); refine kF ?_ NB274_275.out _; (with_reducible repeat (first | refine kN ?_ _ | refine kD ?_ | refine kA ?_ _)); refine kF ?_ NB274_275.out _; (with_reducible repeat (first | refine kN ?_ _ | refine kD ?_ | refine kA ?_ _)); refine kF ?_ NB274_275.out _; (with_reducible repeat (first | refine kN ?_ _ | refine kD ?_ | refine kA ?_ _)); exact BK274.out) hb); have n1_ := aM (kB (g := gb275) (o := .cells #[.int .i64 a0_0, .int .i64 a0_1, .int .i64 a0_2, .int .i64 a0_3, .bool a0_4] 39 (0, 0)) (by (with_reducible repeat (first | refine kN ?_ _ | refine kD ?_ | refine kA ?_ _)); refine kF ?_ NB275_276.out _; (with_reducible repeat (first | refine kN ?_ _ | refine kD ?_ | refine kA ?_ _)); refine kF ?_ NB275_276.out _; (with_reducible repeat (first | refine kN ?_ _ | refine kD ?_ | refine kA ?_ _)); refine kF ?_ NB275_276.out _; (with_reducible repeat (first | refine kN ?_ _ | refine kD ?_ | refine kA ?_ _)); refine kF ?_ NB275_276.out _; (with_reducible repeat (first | refine kN ?_ _ | refine kD ?_ | refine kA ?_ _)); refine kF ?_ NB275_276.out _; (with_reducible repeat (first | refine kN ?_ _ | refine kD ?_ | refine kA ?_ _)); refine blk_put (cs := #[.int .i64 a0_0, .int .i64 a0_1, .int .i64 a0_2, .int .i64 a0_3, .bool false]) ?_ 4 _ rfl; (with_reducible repeat (first | refine kN ?_ _ | refine kD ?_ | refine kA ?_ _)); refine blk_put (cs := #[.int .i64 a0_0, .int .i64 a0_1, .int .i64 a0_2, .int .i64 0, .bool false]) ?_ 3 _ rfl; (with_reducible repeat (first | refine kN ?_ _ | refine kD ?_ | refine kA ?_ _)); refine blk_put (cs := #[.int .i64 a0_0, .int .i64 a0_1, .int .i64 0, .int .i64 0, .bool false]) ?_ 2 _ rfl; (with_reducible repeat (first | refine kN ?_ _ | refine kD ?_ | refine kA ?_ _)); refine blk_put (cs := #[.int .i64 a0_0, .int .i64 0, .int .i64 0, .int .i64 0, .bool false]) ?_ 1 _ rfl; (with_reducible repeat (first | refine kN ?_ _ | refine kD ?_ | refine kA ?_ _)); refine blk_put (cs := #[.int .i64 0, .int .i64 0, .int .i64 0, .int .i64 0, .bool false]) ?_ 0 _ rfl; (with_reducible repeat (first | refine kN ?_ _ | refine kD ?_ | refine kA ?_ _)); exact BK275.out) hb); have n2_ := aM (kB (g := gb276) (o := .cells #[.int .i64 a0_7, .int .i64 a0_8, .int .i64 a0_9, .int .i64 a0_10, .slice A0_11 l0_11.length c0_11] 29 (0, 0)) (by (with_reducible repeat (first | refine kN ?_ _ | refine kD ?_ | refine kA ?_ _)); refine blk_put (cs := #[.int .i64 a0_7, .int .i64 a0_8, .int .i64 a0_9, .int .i64 a0_10, .slice none 0 0]) ?_ 4 _ rfl; (with_reducible repeat (first | refine kN ?_ _ | refine kD ?_ | refine kA ?_ _)); refine blk_put (cs := #[.int .i64 a0_7, .int .i64 a0_8, .int .i64 a0_9, .int .i64 0, .slice none 0 0]) ?_ 3 _ rfl; (with_reducible repeat (first | refine kN ?_ _ | refine kD ?_ | refine kA ?_ _)); refine blk_put (cs := #[.int .i64 a0_7, .int .i64 a0_8, .int .i64 0, .int .i64 0, .slice none 0 0]) ?_ 2 _ rfl; (with_reducible repeat (first | refine kN ?_ _ | refine kD ?_ | refine kA ?_ _)); refine blk_put (cs := #[.int .i64 a0_7, .int .i64 0, .int .i64 0, .int .i64 0, .slice none 0 0]) ?_ 1 _ rfl; (with_reducible repeat (first | refine kN ?_ _ | refine kD ?_ | refine kA ?_ _)); refine blk_put (cs := #[.int .i64 0, .int .i64 0, .int .i64 0, .int .i64 0, .slice none 0 0]) ?_ 0 _ rfl; (with_reducible repeat (first | refine kN ?_ _ | refine kD ?_ | refine kA ?_ _)); refine kF ?_ NB276_275.out _; (with_reducible repeat (first | refine kN ?_ _ | refine kD ?_ | refine kA ?_ _)); refine kF ?_ NB276_275.out _; (with_reducible repeat (first | refine kN ?_ _ | refine kD ?_ | refine kA ?_ _)); refine kF ?_ NB276_275.out _; (with_reducible repeat (first | refine kN ?_ _ | refine kD ?_ | refine kA ?_ _)); refine kF ?_ NB276_275.out _; (with_reducible repeat (first | refine kN ?_ _ | refine kD ?_ | refine kA ?_ _)); refine kF ?_ NB276_275.out _; (with_reducible repeat (first | refine kN ?_ _ | refine kD ?_ | refine kA ?_ _)); exact BK276.out) hb); have n3_ := aM (bT (by repeat (first | (with_reducible first | exact HB.out | apply bA | apply bN | apply bE | refine bS ?_ GE274.out | refine bS ?_ GE275.out | refine bS ?_ GE276.out) | exact HB.out)) hb); clear BK274; clear BK275; clear BK276; clear HB; have BK274 := n0_; have BK275 := n1_; have BK276 := n2_; have HB := n3_; clear n0_ n1_ n2_ n3_; (try clear hb); (try clear hb2); (try clear hk); (try clear hi); have hnb29 := NB276_274.out; have hnc29 := NB274_276.out; obtain ⟨hcz30_0, hcz30_1, hcz30_2, hcz30_3, hcz30_4⟩ := blk_c5 BK276.out; obtain ⟨hfz30_0, hfz30_1, hfz30_2, hfz30_3, hfz30_4⟩ := blk_f5 BK276.out) | (go_at_call 64; (with_reducible refine (impl_RasterOk.calls k a0_7 a0_8 a0_9 a0_10 _ _ l0_11 true _ ?side1 ?side2 A20.out).mono ?_); (case side1 => repeat (first | exact (cB HR0_11.out HB.out) | (with_reducible refine cA ?_ _) | (with_reducible refine cN ?_ _) | (with_reducible refine cD ?_))); (case side2 => exact HC0_11.out); rintro e w31 ⟨rfl, hb⟩; have n0_ := aM (kB (g := gb274) (o := .cells #[.int .i64 a0_0, .int .i64 a0_1, .int .i64 a0_2, .int .i64 a0_3, .bool a0_4, .slice A0_5 l0_5.length c0_5, .slice A0_6 l0_6.length c0_6, .int .i64 a0_7, .int .i64 a0_8, .int .i64 a0_9, .int .i64 a0_10, .slice A0_11 l0_11.length c0_11, .slice A0_12 l0_12.length c0_12] 74 (0, 0)) (by (with_reducible repeat (first | refine kN ?_ _ | refine kD ?_ | refine kA ?_ _)); exact BK274.out) hb); have n1_ := aM (kB (g := gb275) (o := .cells #[.int .i64 a0_0, .int .i64 a0_1, .int .i64 a0_2, .int .i64 a0_3, .bool a0_4] 39 (0, 0)) (by (with_reducible repeat (first | refine kN ?_ _ | refine kD ?_ | refine kA ?_ _)); exact BK275.out) hb); have n2_ := aM (kB (g := gb276) (o := .cells #[.int .i64 a0_7, .int .i64 a0_8, .int .i64 a0_9, .int .i64 a0_10, .slice A0_11 l0_11.length c0_11] 29 (0, 0)) (by (with_reducible repeat (first | refine kN ?_ _ | refine kD ?_ | refine kA ?_ _)); exact BK276.out) hb); have n3_ := aM (bT (by repeat (first | (with_reducible first | exact HB.out | apply bA | apply bN | apply bE | refine bS ?_ GE274.out | refine bS ?_ GE275.out | refine bS ?_ GE276.out) | exact HB.out)) hb); clear BK274; clear BK275; clear BK276; clear HB; have BK274 := n0_; have BK275 := n1_; have BK276 := n2_; have HB := n3_; clear n0_ n1_ n2_ n3_; (try clear hb); (try clear hb2); (try clear hk); (try clear hi); obtain ⟨hcz32_0, hcz32_1, hcz32_2, hcz32_3, hcz32_4⟩ := blk_c5 BK276.out; obtain ⟨hfz32_0, hfz32_1, hfz32_2, hfz32_3, hfz32_4⟩ := blk_f5 BK276.out; obtain ⟨hcz33_0, hcz33_1, hcz33_2, hcz33_3, hcz33_4⟩ := blk_c5 BK275.out; obtain ⟨hfz33_0, hfz33_1, hfz33_2, hfz33_3, hfz33_4⟩ := blk_f5 BK275.out))
       go_meet
       case rel => exact ⟨_, ((a0_10 != a0_2)), (by first | rfl | (simp; done) | (simp [*]; done)), H', ⟨by first | omega | exact Nat.le_refl _⟩, ⟨by (with_reducible repeat (first | refine kN ?_ _ | refine kD ?_ | refine kA ?_ _)); exact BK274.out⟩, ⟨by (with_reducible repeat (first | refine kN ?_ _ | refine kD ?_ | refine kA ?_ _)); exact BK275.out⟩, ⟨by (with_reducible repeat (first | refine kN ?_ _ | refine kD ?_ | refine kA ?_ _)); exact BK276.out⟩, ⟨by repeat (first | (with_reducible first | exact HB.out | apply bA | apply bN | apply bE | refine bS ?_ GE274.out | refine bS ?_ GE275.out | refine bS ?_ GE276.out) | exact HB.out)⟩⟩
      ·rw [if_neg c24] at H
       have c24b0 : (a0_9 == a0_3) = false := beq_eq_false_iff_ne.mpr c24
       have c24b1 : (a0_9 != a0_3) = true := bne_iff_ne.mpr c24
       have H' := aM H
       clear H
       have hnb34 := NB275_274.out
       have hnc34 := NB274_275.out
       have hnb35 := NB275_276.out
       have hnc35 := NB276_275.out
       obtain ⟨hcz36_0, hcz36_1, hcz36_2, hcz36_3, hcz36_4⟩ := blk_c5 BK275.out
       obtain ⟨hfz36_0, hfz36_1, hfz36_2, hfz36_3, hfz36_4⟩ := blk_f5 BK275.out
       go_wp2_with (first | ((with_reducible refine gate_callee (f := 73) rfl ?_); refine goesL_ (some 10) rfl rfl Try.func73 (by kernel_rfl) rfl #[.agg #[.int .i64 a0_0, .int .i64 a0_1, .int .i64 a0_2, .int .i64 a0_3, .bool a0_4]] rfl (by (try simp only [lM, List.map_cons, List.map_nil]); first | done | rfl | (simp only [lD, lT]; rfl)) ?_; (with_reducible refine (impl_HeadOk.calls k a0_0 a0_1 a0_2 a0_3 a0_4 true _ A18.out).mono ?_); rintro e w37 ⟨rfl, hb⟩; refine ⟨_, rfl, ?_⟩; have n0_ := aM (kB (g := gb274) (o := .cells #[.int .i64 a0_0, .int .i64 a0_1, .int .i64 a0_2, .int .i64 a0_3, .bool a0_4, .slice A0_5 l0_5.length c0_5, .slice A0_6 l0_6.length c0_6, .int .i64 a0_7, .int .i64 a0_8, .int .i64 a0_9, .int .i64 a0_10, .slice A0_11 l0_11.length c0_11, .slice A0_12 l0_12.length c0_12] 74 (0, 0)) (by (with_reducible repeat (first | refine kN ?_ _ | refine kD ?_ | refine kA ?_ _)); refine kF ?_ NB274_276.out _; (with_reducible repeat (first | refine kN ?_ _ | refine kD ?_ | refine kA ?_ _)); refine kF ?_ NB274_276.out _; (with_reducible repeat (first | refine kN ?_ _ | refine kD ?_ | refine kA ?_ _)); refine kF ?_ NB274_276.out _; (with_reducible repeat (first | refine kN ?_ _ | refine kD ?_ | refine kA ?_ _)); refine kF ?_ NB274_276.out _; (with_reducible repeat (first | refine kN ?_ _ | refine kD ?_ | refine kA ?_ _)); refine kF ?_ NB274_276.out _; (with_reducible repeat (first | refine kN ?_ _ | refine kD ?_ | refine kA ?_ _)); refine kF ?_ NB274_275.out _; (with_reducible repeat (first | refine kN ?_ _ | refine kD ?_ | refine kA ?_ _)); refine kF ?_ NB274_275.out _; (with_reducible repeat (first | refine kN ?_ _ | refine kD ?_ | refine kA ?_ _)); refine kF ?_ NB274_275.out _; (with_reducible repeat (first | refine kN ?_ _ | refine kD ?_ | refine kA ?_ _)); refine kF ?_ NB274_275.out _; (with_reducible repeat (first | refine kN ?_ _ | refine kD ?_ | refine kA ?_ _)); refine kF ?_ NB274_275.out _; (with_reducible repeat (first | refine kN ?_ _ | refine kD ?_ | refine kA ?_ _)); exact BK274.out) hb); have n1_ := aM (kB (g := gb275) (o := .cells #[.int .i64 a0_0, .int .i64 a0_1, .int .i64 a0_2, .int .i64 a0_3, .bool a0_4] 39 (0, 0)) (by (with_reducible repeat (first | refine kN ?_ _ | refine kD ?_ | refine kA ?_ _)); refine kF ?_ NB275_276.out _; (with_reducible repeat (first | refine kN ?_ _ | refine kD ?_ | refine kA ?_ _)); refine kF ?_ NB275_276.out _; (with_reducible repeat (first | refine kN ?_ _ | refine kD ?_ | refine kA ?_ _)); refine kF ?_ NB275_276.out _; (with_reducible repeat (first | refine kN ?_ _ | refine kD ?_ | refine kA ?_ _)); refine kF ?_ NB275_276.out _; (with_reducible repeat (first | refine kN ?_ _ | refine kD ?_ | refine kA ?_ _)); refine kF ?_ NB275_276.out _; (with_reducible repeat (first | refine kN ?_ _ | refine kD ?_ | refine kA ?_ _)); refine blk_put (cs := #[.int .i64 a0_0, .int .i64 a0_1, .int .i64 a0_2, .int .i64 a0_3, .bool false]) ?_ 4 _ rfl; (with_reducible repeat (first | refine kN ?_ _ | refine kD ?_ | refine kA ?_ _)); refine blk_put (cs := #[.int .i64 a0_0, .int .i64 a0_1, .int .i64 a0_2, .int .i64 0, .bool false]) ?_ 3 _ rfl; (with_reducible repeat (first | refine kN ?_ _ | refine kD ?_ | refine kA ?_ _)); refine blk_put (cs := #[.int .i64 a0_0, .int .i64 a0_1, .int .i64 0, .int .i64 0, .bool false]) ?_ 2 _ rfl; (with_reducible repeat (first | refine kN ?_ _ | refine kD ?_ | refine kA ?_ _)); refine blk_put (cs := #[.int .i64 a0_0, .int .i64 0, .int .i64 0, .int .i64 0, .bool false]) ?_ 1 _ rfl; (with_reducible repeat (first | refine kN ?_ _ | refine kD ?_ | refine kA ?_ _)); refine blk_put (cs := #[.int .i64 0, .int .i64 0, .int .i64 0, .int .i64 0, .bool false]) ?_ 0 _ rfl; (with_reducible repeat (first | refine kN ?_ _ | refine kD ?_ | refine kA ?_ _)); exact BK275.out) hb); have n2_ := aM (kB (g := gb276) (o := .cells #[.int .i64 a0_7, .int .i64 a0_8, .int .i64 a0_9, .int .i64 a0_10, .slice A0_11 l0_11.length c0_11] 29 (0, 0)) (by (with_reducible repeat (first | refine kN ?_ _ | refine kD ?_ | refine kA ?_ _)); refine blk_put (cs := #[.int .i64 a0_7, .int .i64 a0_8, .int .i64 a0_9, .int .i64 a0_10, .slice none 0 0]) ?_ 4 _ rfl; (with_reducible repeat (first | refine kN ?_ _ | refine kD ?_ | refine kA ?_ _)); refine blk_put (cs := #[.int .i64 a0_7, .int .i64 a0_8, .int .i64 a0_9, .int .i64 0, .slice none 0 0]) ?_ 3 _ rfl; (with_reducible repeat (first | refine kN ?_ _ | refine kD ?_ | refine kA ?_ _)); refine blk_put (cs := #[.int .i64 a0_7, .int .i64 a0_8, .int .i64 0, .int .i64 0, .slice none 0 0]) ?_ 2 _ rfl; (with_reducible repeat (first | refine kN ?_ _ | refine kD ?_ | refine kA ?_ _)); refine blk_put (cs := #[.int .i64 a0_7, .int .i64 0, .int .i64 0, .int .i64 0, .slice none 0 0]) ?_ 1 _ rfl; (with_reducible repeat (first | refine kN ?_ _ | refine kD ?_ | refine kA ?_ _)); refine blk_put (cs := #[.int .i64 0, .int .i64 0, .int .i64 0, .int .i64 0, .slice none 0 0]) ?_ 0 _ rfl; (with_reducible repeat (first | refine kN ?_ _ | refine kD ?_ | refine kA ?_ _)); refine kF ?_ NB276_275.out _; (with_reducible repeat (first | refine kN ?_ _ | refine kD ?_ | refine kA ?_ _)); refine kF ?_ NB276_275.out _; (with_reducible repeat (first | refine kN ?_ _ | refine kD ?_ | refine kA ?_ _)); refine kF ?_ NB276_275.out _; (with_reducible repeat (first | refine kN ?_ _ | refine kD ?_ | refine kA ?_ _)); refine kF ?_ NB276_275.out _; (with_reducible repeat (first | refine kN ?_ _ | refine kD ?_ | refine kA ?_ _)); refine kF ?_ NB276_275.out _; (with_reducible repeat (first | refine kN ?_ _ | refine kD ?_ | refine kA ?_ _)); exact BK276.out) hb); have n3_ := aM (bT (by repeat (first | (with_reducible first | exact HB.out | apply bA | apply bN | apply bE | refine bS ?_ GE274.out | refine bS ?_ GE275.out | refine bS ?_ GE276.out) | exact HB.out)) hb); clear BK274; clear BK275; clear BK276; clear HB; have BK274 := n0_; have BK275 := n1_; have BK276 := n2_; have HB := n3_; clear n0_ n1_ n2_ n3_; (try clear hb); (try clear hb2); (try clear hk); (try clear hi); have hnb38 := NB276_274.out; have hnc38 := NB274_276.out; obtain ⟨hcz39_0, hcz39_1, hcz39_2, hcz39_3, hcz39_4⟩ := blk_c5 BK276.out; obtain ⟨hfz39_0, hfz39_1, hfz39_2, hfz39_3, hfz39_4⟩ := blk_f5 BK276.out) | (go_at_call 64; (with_reducible refine (impl_RasterOk.calls k a0_7 a0_8 a0_9 a0_10 _ _ l0_11 true _ ?side1 ?side2 A20.out).mono ?_); (case side1 => repeat (first | exact (cB HR0_11.out HB.out) | (with_reducible refine cA ?_ _) | (with_reducible refine cN ?_ _) | (with_reducible refine cD ?_))); (case side2 => exact HC0_11.out); rintro e w40 ⟨rfl, hb⟩; have n0_ := aM (kB (g := gb274) (o := .cells #[.int .i64 a0_0, .int .i64 a0_1, .int .i64 a0_2, .int .i64 a0_3, .bool a0_4, .slice A0_5 l0_5.length c0_5, .slice A0_6 l0_6.length c0_6, .int .i64 a0_7, .int .i64 a0_8, .int .i64 a0_9, .int .i64 a0_10, .slice A0_11 l0_11.length c0_11, .slice A0_12 l0_12.length c0_12] 74 (0, 0)) (by (with_reducible repeat (first | refine kN ?_ _ | refine kD ?_ | refine kA ?_ _)); exact BK274.out) hb); have n1_ := aM (kB (g := gb275) (o := .cells #[.int .i64 a0_0, .int .i64 a0_1, .int .i64 a0_2, .int .i64 a0_3, .bool a0_4] 39 (0, 0)) (by (with_reducible repeat (first | refine kN ?_ _ | refine kD ?_ | refine kA ?_ _)); exact BK275.out) hb); have n2_ := aM (kB (g := gb276) (o := .cells #[.int .i64 a0_7, .int .i64 a0_8, .int .i64 a0_9, .int .i64 a0_10, .slice A0_11 l0_11.length c0_11] 29 (0, 0)) (by (with_reducible repeat (first | refine kN ?_ _ | refine kD ?_ | refine kA ?_ _)); exact BK276.out) hb); have n3_ := aM (bT (by repeat (first | (with_reducible first | exact HB.out | apply bA | apply bN | apply bE | refine bS ?_ GE274.out | refine bS ?_ GE275.out | refine bS ?_ GE276.out) | exact HB.out)) hb); clear BK274; clear BK275; clear BK276; clear HB; have BK274 := n0_; have BK275 := n1_; have BK276 := n2_; have HB := n3_; clear n0_ n1_ n2_ n3_; (try clear hb); (try clear hb2); (try clear hk); (try clear hi); obtain ⟨hcz41_0, hcz41_1, hcz41_2, hcz41_3, hcz41_4⟩ := blk_c5 BK276.out; obtain ⟨hfz41_0, hfz41_1, hfz41_2, hfz41_3, hfz41_4⟩ := blk_f5 BK276.out; obtain ⟨hcz42_0, hcz42_1, hcz42_2, hcz42_3, hcz42_4⟩ := blk_c5 BK275.out; obtain ⟨hfz42_0, hfz42_1, hfz42_2, hfz42_3, hfz42_4⟩ := blk_f5 BK275.out))
       go_meet
       case rel => exact ⟨_, (true), (by first | rfl | (simp; done) | (simp [*]; done)), H', ⟨by first | omega | exact Nat.le_refl _⟩, ⟨by (with_reducible repeat (first | refine kN ?_ _ | refine kD ?_ | refine kA ?_ _)); exact BK274.out⟩, ⟨by (with_reducible repeat (first | refine kN ?_ _ | refine kD ?_ | refine kA ?_ _)); exact BK275.out⟩, ⟨by (with_reducible repeat (first | refine kN ?_ _ | refine kD ?_ | refine kA ?_ _)); exact BK276.out⟩, ⟨by repeat (first | (with_reducible first | exact HB.out | apply bA | apply bN | apply bE | refine bS ?_ GE274.out | refine bS ?_ GE275.out | refine bS ?_ GE276.out) | exact HB.out)⟩⟩
     ·rw [if_neg c23] at H
      have c23b0 : (a0_8 == a0_1) = false := beq_eq_false_iff_ne.mpr c23
      have c23b1 : (a0_8 != a0_1) = true := bne_iff_ne.mpr c23
      have H' := aM H
      clear H
      have hnb43 := NB275_274.out
      have hnc43 := NB274_275.out
      have hnb44 := NB275_276.out
      have hnc44 := NB276_275.out
      obtain ⟨hcz45_0, hcz45_1, hcz45_2, hcz45_3, hcz45_4⟩ := blk_c5 BK275.out
      obtain ⟨hfz45_0, hfz45_1, hfz45_2, hfz45_3, hfz45_4⟩ := blk_f5 BK275.out
      go_wp2_with (first | ((with_reducible refine gate_callee (f := 73) rfl ?_); refine goesL_ (some 10) rfl rfl Try.func73 (by kernel_rfl) rfl #[.agg #[.int .i64 a0_0, .int .i64 a0_1, .int .i64 a0_2, .int .i64 a0_3, .bool a0_4]] rfl (by (try simp only [lM, List.map_cons, List.map_nil]); first | done | rfl | (simp only [lD, lT]; rfl)) ?_; (with_reducible refine (impl_HeadOk.calls k a0_0 a0_1 a0_2 a0_3 a0_4 true _ A18.out).mono ?_); rintro e w46 ⟨rfl, hb⟩; refine ⟨_, rfl, ?_⟩; have n0_ := aM (kB (g := gb274) (o := .cells #[.int .i64 a0_0, .int .i64 a0_1, .int .i64 a0_2, .int .i64 a0_3, .bool a0_4, .slice A0_5 l0_5.length c0_5, .slice A0_6 l0_6.length c0_6, .int .i64 a0_7, .int .i64 a0_8, .int .i64 a0_9, .int .i64 a0_10, .slice A0_11 l0_11.length c0_11, .slice A0_12 l0_12.length c0_12] 74 (0, 0)) (by (with_reducible repeat (first | refine kN ?_ _ | refine kD ?_ | refine kA ?_ _)); refine kF ?_ NB274_276.out _; (with_reducible repeat (first | refine kN ?_ _ | refine kD ?_ | refine kA ?_ _)); refine kF ?_ NB274_276.out _; (with_reducible repeat (first | refine kN ?_ _ | refine kD ?_ | refine kA ?_ _)); refine kF ?_ NB274_276.out _; (with_reducible repeat (first | refine kN ?_ _ | refine kD ?_ | refine kA ?_ _)); refine kF ?_ NB274_276.out _; (with_reducible repeat (first | refine kN ?_ _ | refine kD ?_ | refine kA ?_ _)); refine kF ?_ NB274_276.out _; (with_reducible repeat (first | refine kN ?_ _ | refine kD ?_ | refine kA ?_ _)); refine kF ?_ NB274_275.out _; (with_reducible repeat (first | refine kN ?_ _ | refine kD ?_ | refine kA ?_ _)); refine kF ?_ NB274_275.out _; (with_reducible repeat (first | refine kN ?_ _ | refine kD ?_ | refine kA ?_ _)); refine kF ?_ NB274_275.out _; (with_reducible repeat (first | refine kN ?_ _ | refine kD ?_ | refine kA ?_ _)); refine kF ?_ NB274_275.out _; (with_reducible repeat (first | refine kN ?_ _ | refine kD ?_ | refine kA ?_ _)); refine kF ?_ NB274_275.out _; (with_reducible repeat (first | refine kN ?_ _ | refine kD ?_ | refine kA ?_ _)); exact BK274.out) hb); have n1_ := aM (kB (g := gb275) (o := .cells #[.int .i64 a0_0, .int .i64 a0_1, .int .i64 a0_2, .int .i64 a0_3, .bool a0_4] 39 (0, 0)) (by (with_reducible repeat (first | refine kN ?_ _ | refine kD ?_ | refine kA ?_ _)); refine kF ?_ NB275_276.out _; (with_reducible repeat (first | refine kN ?_ _ | refine kD ?_ | refine kA ?_ _)); refine kF ?_ NB275_276.out _; (with_reducible repeat (first | refine kN ?_ _ | refine kD ?_ | refine kA ?_ _)); refine kF ?_ NB275_276.out _; (with_reducible repeat (first | refine kN ?_ _ | refine kD ?_ | refine kA ?_ _)); refine kF ?_ NB275_276.out _; (with_reducible repeat (first | refine kN ?_ _ | refine kD ?_ | refine kA ?_ _)); refine kF ?_ NB275_276.out _; (with_reducible repeat (first | refine kN ?_ _ | refine kD ?_ | refine kA ?_ _)); refine blk_put (cs := #[.int .i64 a0_0, .int .i64 a0_1, .int .i64 a0_2, .int .i64 a0_3, .bool false]) ?_ 4 _ rfl; (with_reducible repeat (first | refine kN ?_ _ | refine kD ?_ | refine kA ?_ _)); refine blk_put (cs := #[.int .i64 a0_0, .int .i64 a0_1, .int .i64 a0_2, .int .i64 0, .bool false]) ?_ 3 _ rfl; (with_reducible repeat (first | refine kN ?_ _ | refine kD ?_ | refine kA ?_ _)); refine blk_put (cs := #[.int .i64 a0_0, .int .i64 a0_1, .int .i64 0, .int .i64 0, .bool false]) ?_ 2 _ rfl; (with_reducible repeat (first | refine kN ?_ _ | refine kD ?_ | refine kA ?_ _)); refine blk_put (cs := #[.int .i64 a0_0, .int .i64 0, .int .i64 0, .int .i64 0, .bool false]) ?_ 1 _ rfl; (with_reducible repeat (first | refine kN ?_ _ | refine kD ?_ | refine kA ?_ _)); refine blk_put (cs := #[.int .i64 0, .int .i64 0, .int .i64 0, .int .i64 0, .bool false]) ?_ 0 _ rfl; (with_reducible repeat (first | refine kN ?_ _ | refine kD ?_ | refine kA ?_ _)); exact BK275.out) hb); have n2_ := aM (kB (g := gb276) (o := .cells #[.int .i64 a0_7, .int .i64 a0_8, .int .i64 a0_9, .int .i64 a0_10, .slice A0_11 l0_11.length c0_11] 29 (0, 0)) (by (with_reducible repeat (first | refine kN ?_ _ | refine kD ?_ | refine kA ?_ _)); refine blk_put (cs := #[.int .i64 a0_7, .int .i64 a0_8, .int .i64 a0_9, .int .i64 a0_10, .slice none 0 0]) ?_ 4 _ rfl; (with_reducible repeat (first | refine kN ?_ _ | refine kD ?_ | refine kA ?_ _)); refine blk_put (cs := #[.int .i64 a0_7, .int .i64 a0_8, .int .i64 a0_9, .int .i64 0, .slice none 0 0]) ?_ 3 _ rfl; (with_reducible repeat (first | refine kN ?_ _ | refine kD ?_ | refine kA ?_ _)); refine blk_put (cs := #[.int .i64 a0_7, .int .i64 a0_8, .int .i64 0, .int .i64 0, .slice none 0 0]) ?_ 2 _ rfl; (with_reducible repeat (first | refine kN ?_ _ | refine kD ?_ | refine kA ?_ _)); refine blk_put (cs := #[.int .i64 a0_7, .int .i64 0, .int .i64 0, .int .i64 0, .slice none 0 0]) ?_ 1 _ rfl; (with_reducible repeat (first | refine kN ?_ _ | refine kD ?_ | refine kA ?_ _)); refine blk_put (cs := #[.int .i64 0, .int .i64 0, .int .i64 0, .int .i64 0, .slice none 0 0]) ?_ 0 _ rfl; (with_reducible repeat (first | refine kN ?_ _ | refine kD ?_ | refine kA ?_ _)); refine kF ?_ NB276_275.out _; (with_reducible repeat (first | refine kN ?_ _ | refine kD ?_ | refine kA ?_ _)); refine kF ?_ NB276_275.out _; (with_reducible repeat (first | refine kN ?_ _ | refine kD ?_ | refine kA ?_ _)); refine kF ?_ NB276_275.out _; (with_reducible repeat (first | refine kN ?_ _ | refine kD ?_ | refine kA ?_ _)); refine kF ?_ NB276_275.out _; (with_reducible repeat (first | refine kN ?_ _ | refine kD ?_ | refine kA ?_ _)); refine kF ?_ NB276_275.out _; (with_reducible repeat (first | refine kN ?_ _ | refine kD ?_ | refine kA ?_ _)); exact BK276.out) hb); have n3_ := aM (bT (by repeat (first | (with_reducible first | exact HB.out | apply bA | apply bN | apply bE | refine bS ?_ GE274.out | refine bS ?_ GE275.out | refine bS ?_ GE276.out) | exact HB.out)) hb); clear BK274; clear BK275; clear BK276; clear HB; have BK274 := n0_; have BK275 := n1_; have BK276 := n2_; have HB := n3_; clear n0_ n1_ n2_ n3_; (try clear hb); (try clear hb2); (try clear hk); (try clear hi); have hnb47 := NB276_274.out; have hnc47 := NB274_276.out; obtain ⟨hcz48_0, hcz48_1, hcz48_2, hcz48_3, hcz48_4⟩ := blk_c5 BK276.out; obtain ⟨hfz48_0, hfz48_1, hfz48_2, hfz48_3, hfz48_4⟩ := blk_f5 BK276.out) | (go_at_call 64; (with_reducible refine (impl_RasterOk.calls k a0_7 a0_8 a0_9 a0_10 _ _ l0_11 true _ ?side1 ?side2 A20.out).mono ?_); (case side1 => repeat (first | exact (cB HR0_11.out HB.out) | (with_reducible refine cA ?_ _) | (with_reducible refine cN ?_ _) | (with_reducible refine cD ?_))); (case side2 => exact HC0_11.out); rintro e w49 ⟨rfl, hb⟩; have n0_ := aM (kB (g := gb274) (o := .cells #[.int .i64 a0_0, .int .i64 a0_1, .int .i64 a0_2, .int .i64 a0_3, .bool a0_4, .slice A0_5 l0_5.length c0_5, .slice A0_6 l0_6.length c0_6, .int .i64 a0_7, .int .i64 a0_8, .int .i64 a0_9, .int .i64 a0_10, .slice A0_11 l0_11.length c0_11, .slice A0_12 l0_12.length c0_12] 74 (0, 0)) (by (with_reducible repeat (first | refine kN ?_ _ | refine kD ?_ | refine kA ?_ _)); exact BK274.out) hb); have n1_ := aM (kB (g := gb275) (o := .cells #[.int .i64 a0_0, .int .i64 a0_1, .int .i64 a0_2, .int .i64 a0_3, .bool a0_4] 39 (0, 0)) (by (with_reducible repeat (first | refine kN ?_ _ | refine kD ?_ | refine kA ?_ _)); exact BK275.out) hb); have n2_ := aM (kB (g := gb276) (o := .cells #[.int .i64 a0_7, .int .i64 a0_8, .int .i64 a0_9, .int .i64 a0_10, .slice A0_11 l0_11.length c0_11] 29 (0, 0)) (by (with_reducible repeat (first | refine kN ?_ _ | refine kD ?_ | refine kA ?_ _)); exact BK276.out) hb); have n3_ := aM (bT (by repeat (first | (with_reducible first | exact HB.out | apply bA | apply bN | apply bE | refine bS ?_ GE274.out | refine bS ?_ GE275.out | refine bS ?_ GE276.out) | exact HB.out)) hb); clear BK274; clear BK275; clear BK276; clear HB; have BK274 := n0_; have BK275 := n1_; have BK276 := n2_; have HB := n3_; clear n0_ n1_ n2_ n3_; (try clear hb); (try clear hb2); (try clear hk); (try clear hi); obtain ⟨hcz50_0, hcz50_1, hcz50_2, hcz50_3, hcz50_4⟩ := blk_c5 BK276.out; obtain ⟨hfz50_0, hfz50_1, hfz50_2, hfz50_3, hfz50_4⟩ := blk_f5 BK276.out; obtain ⟨hcz51_0, hcz51_1, hcz51_2, hcz51_3, hcz51_4⟩ := blk_c5 BK275.out; obtain ⟨hfz51_0, hfz51_1, hfz51_2, hfz51_3, hfz51_4⟩ := blk_f5 BK275.out))
      go_meet
      case rel => exact ⟨_, (true), (by first | rfl | (simp; done) | (simp [*]; done)), H', ⟨by first | omega | exact Nat.le_refl _⟩, ⟨by (with_reducible repeat (first | refine kN ?_ _ | refine kD ?_ | refine kA ?_ _)); exact BK274.out⟩, ⟨by (with_reducible repeat (first | refine kN ?_ _ | refine kD ?_ | refine kA ?_ _)); exact BK275.out⟩, ⟨by (with_reducible repeat (first | refine kN ?_ _ | refine kD ?_ | refine kA ?_ _)); exact BK276.out⟩, ⟨by repeat (first | (with_reducible first | exact HB.out | apply bA | apply bN | apply bE | refine bS ?_ GE274.out | refine bS ?_ GE275.out | refine bS ?_ GE276.out) | exact HB.out)⟩⟩
    ·rw [if_neg c22] at H
     have c22b0 : (a0_7 == a0_0) = false := beq_eq_false_iff_ne.mpr c22
     have c22b1 : (a0_7 != a0_0) = true := bne_iff_ne.mpr c22
     (first | rw [c22b0] | (simp only [i64_w, i32_w]; rw [c22b0]) | skip)
     have H' := aM H
     clear H
     have hnb52 := NB275_274.out
     have hnc52 := NB274_275.out
     have hnb53 := NB275_276.out
     have hnc53 := NB276_275.out
     obtain ⟨hcz54_0, hcz54_1, hcz54_2, hcz54_3, hcz54_4⟩ := blk_c5 BK275.out
     obtain ⟨hfz54_0, hfz54_1, hfz54_2, hfz54_3, hfz54_4⟩ := blk_f5 BK275.out
     go_wp2_with (first | ((with_reducible refine gate_callee (f := 73) rfl ?_); refine goesL_ (some 10) rfl rfl Try.func73 (by kernel_rfl) rfl #[.agg #[.int .i64 a0_0, .int .i64 a0_1, .int .i64 a0_2, .int .i64 a0_3, .bool a0_4]] rfl (by (try simp only [lM, List.map_cons, List.map_nil]); first | done | rfl | (simp only [lD, lT]; rfl)) ?_; (with_reducible refine (impl_HeadOk.calls k a0_0 a0_1 a0_2 a0_3 a0_4 true _ A18.out).mono ?_); rintro e w55 ⟨rfl, hb⟩; refine ⟨_, rfl, ?_⟩; have n0_ := aM (kB (g := gb274) (o := .cells #[.int .i64 a0_0, .int .i64 a0_1, .int .i64 a0_2, .int .i64 a0_3, .bool a0_4, .slice A0_5 l0_5.length c0_5, .slice A0_6 l0_6.length c0_6, .int .i64 a0_7, .int .i64 a0_8, .int .i64 a0_9, .int .i64 a0_10, .slice A0_11 l0_11.length c0_11, .slice A0_12 l0_12.length c0_12] 74 (0, 0)) (by (with_reducible repeat (first | refine kN ?_ _ | refine kD ?_ | refine kA ?_ _)); refine kF ?_ NB274_276.out _; (with_reducible repeat (first | refine kN ?_ _ | refine kD ?_ | refine kA ?_ _)); refine kF ?_ NB274_276.out _; (with_reducible repeat (first | refine kN ?_ _ | refine kD ?_ | refine kA ?_ _)); refine kF ?_ NB274_276.out _; (with_reducible repeat (first | refine kN ?_ _ | refine kD ?_ | refine kA ?_ _)); refine kF ?_ NB274_276.out _; (with_reducible repeat (first | refine kN ?_ _ | refine kD ?_ | refine kA ?_ _)); refine kF ?_ NB274_276.out _; (with_reducible repeat (first | refine kN ?_ _ | refine kD ?_ | refine kA ?_ _)); refine kF ?_ NB274_275.out _; (with_reducible repeat (first | refine kN ?_ _ | refine kD ?_ | refine kA ?_ _)); refine kF ?_ NB274_275.out _; (with_reducible repeat (first | refine kN ?_ _ | refine kD ?_ | refine kA ?_ _)); refine kF ?_ NB274_275.out _; (with_reducible repeat (first | refine kN ?_ _ | refine kD ?_ | refine kA ?_ _)); refine kF ?_ NB274_275.out _; (with_reducible repeat (first | refine kN ?_ _ | refine kD ?_ | refine kA ?_ _)); refine kF ?_ NB274_275.out _; (with_reducible repeat (first | refine kN ?_ _ | refine kD ?_ | refine kA ?_ _)); exact BK274.out) hb); have n1_ := aM (kB (g := gb275) (o := .cells #[.int .i64 a0_0, .int .i64 a0_1, .int .i64 a0_2, .int .i64 a0_3, .bool a0_4] 39 (0, 0)) (by (with_reducible repeat (first | refine kN ?_ _ | refine kD ?_ | refine kA ?_ _)); refine kF ?_ NB275_276.out _; (with_reducible repeat (first | refine kN ?_ _ | refine kD ?_ | refine kA ?_ _)); refine kF ?_ NB275_276.out _; (with_reducible repeat (first | refine kN ?_ _ | refine kD ?_ | refine kA ?_ _)); refine kF ?_ NB275_276.out _; (with_reducible repeat (first | refine kN ?_ _ | refine kD ?_ | refine kA ?_ _)); refine kF ?_ NB275_276.out _; (with_reducible repeat (first | refine kN ?_ _ | refine kD ?_ | refine kA ?_ _)); refine kF ?_ NB275_276.out _; (with_reducible repeat (first | refine kN ?_ _ | refine kD ?_ | refine kA ?_ _)); refine blk_put (cs := #[.int .i64 a0_0, .int .i64 a0_1, .int .i64 a0_2, .int .i64 a0_3, .bool false]) ?_ 4 _ rfl; (with_reducible repeat (first | refine kN ?_ _ | refine kD ?_ | refine kA ?_ _)); refine blk_put (cs := #[.int .i64 a0_0, .int .i64 a0_1, .int .i64 a0_2, .int .i64 0, .bool false]) ?_ 3 _ rfl; (with_reducible repeat (first | refine kN ?_ _ | refine kD ?_ | refine kA ?_ _)); refine blk_put (cs := #[.int .i64 a0_0, .int .i64 a0_1, .int .i64 0, .int .i64 0, .bool false]) ?_ 2 _ rfl; (with_reducible repeat (first | refine kN ?_ _ | refine kD ?_ | refine kA ?_ _)); refine blk_put (cs := #[.int .i64 a0_0, .int .i64 0, .int .i64 0, .int .i64 0, .bool false]) ?_ 1 _ rfl; (with_reducible repeat (first | refine kN ?_ _ | refine kD ?_ | refine kA ?_ _)); refine blk_put (cs := #[.int .i64 0, .int .i64 0, .int .i64 0, .int .i64 0, .bool false]) ?_ 0 _ rfl; (with_reducible repeat (first | refine kN ?_ _ | refine kD ?_ | refine kA ?_ _)); exact BK275.out) hb); have n2_ := aM (kB (g := gb276) (o := .cells #[.int .i64 a0_7, .int .i64 a0_8, .int .i64 a0_9, .int .i64 a0_10, .slice A0_11 l0_11.length c0_11] 29 (0, 0)) (by (with_reducible repeat (first | refine kN ?_ _ | refine kD ?_ | refine kA ?_ _)); refine blk_put (cs := #[.int .i64 a0_7, .int .i64 a0_8, .int .i64 a0_9, .int .i64 a0_10, .slice none 0 0]) ?_ 4 _ rfl; (with_reducible repeat (first | refine kN ?_ _ | refine kD ?_ | refine kA ?_ _)); refine blk_put (cs := #[.int .i64 a0_7, .int .i64 a0_8, .int .i64 a0_9, .int .i64 0, .slice none 0 0]) ?_ 3 _ rfl; (with_reducible repeat (first | refine kN ?_ _ | refine kD ?_ | refine kA ?_ _)); refine blk_put (cs := #[.int .i64 a0_7, .int .i64 a0_8, .int .i64 0, .int .i64 0, .slice none 0 0]) ?_ 2 _ rfl; (with_reducible repeat (first | refine kN ?_ _ | refine kD ?_ | refine kA ?_ _)); refine blk_put (cs := #[.int .i64 a0_7, .int .i64 0, .int .i64 0, .int .i64 0, .slice none 0 0]) ?_ 1 _ rfl; (with_reducible repeat (first | refine kN ?_ _ | refine kD ?_ | refine kA ?_ _)); refine blk_put (cs := #[.int .i64 0, .int .i64 0, .int .i64 0, .int .i64 0, .slice none 0 0]) ?_ 0 _ rfl; (with_reducible repeat (first | refine kN ?_ _ | refine kD ?_ | refine kA ?_ _)); refine kF ?_ NB276_275.out _; (with_reducible repeat (first | refine kN ?_ _ | refine kD ?_ | refine kA ?_ _)); refine kF ?_ NB276_275.out _; (with_reducible repeat (first | refine kN ?_ _ | refine kD ?_ | refine kA ?_ _)); refine kF ?_ NB276_275.out _; (with_reducible repeat (first | refine kN ?_ _ | refine kD ?_ | refine kA ?_ _)); refine kF ?_ NB276_275.out _; (with_reducible repeat (first | refine kN ?_ _ | refine kD ?_ | refine kA ?_ _)); refine kF ?_ NB276_275.out _; (with_reducible repeat (first | refine kN ?_ _ | refine kD ?_ | refine kA ?_ _)); exact BK276.out) hb); have n3_ := aM (bT (by repeat (first | (with_reducible first | exact HB.out | apply bA | apply bN | apply bE | refine bS ?_ GE274.out | refine bS ?_ GE275.out | refine bS ?_ GE276.out) | exact HB.out)) hb); clear BK274; clear BK275; clear BK276; clear HB; have BK274 := n0_; have BK275 := n1_; have BK276 := n2_; have HB := n3_; clear n0_ n1_ n2_ n3_; (try clear hb); (try clear hb2); (try clear hk); (try clear hi); have hnb56 := NB276_274.out; have hnc56 := NB274_276.out; obtain ⟨hcz57_0, hcz57_1, hcz57_2, hcz57_3, hcz57_4⟩ := blk_c5 BK276.out; obtain ⟨hfz57_0, hfz57_1, hfz57_2, hfz57_3, hfz57_4⟩ := blk_f5 BK276.out) | (go_at_call 64; (with_reducible refine (impl_RasterOk.calls k a0_7 a0_8 a0_9 a0_10 _ _ l0_11 true _ ?side1 ?side2 A20.out).mono ?_); (case side1 => repeat (first | exact (cB HR0_11.out HB.out) | (with_reducible refine cA ?_ _) | (with_reducible refine cN ?_ _) | (with_reducible refine cD ?_))); (case side2 => exact HC0_11.out); rintro e w58 ⟨rfl, hb⟩; have n0_ := aM (kB (g := gb274) (o := .cells #[.int .i64 a0_0, .int .i64 a0_1, .int .i64 a0_2, .int .i64 a0_3, .bool a0_4, .slice A0_5 l0_5.length c0_5, .slice A0_6 l0_6.length c0_6, .int .i64 a0_7, .int .i64 a0_8, .int .i64 a0_9, .int .i64 a0_10, .slice A0_11 l0_11.length c0_11, .slice A0_12 l0_12.length c0_12] 74 (0, 0)) (by (with_reducible repeat (first | refine kN ?_ _ | refine kD ?_ | refine kA ?_ _)); exact BK274.out) hb); have n1_ := aM (kB (g := gb275) (o := .cells #[.int .i64 a0_0, .int .i64 a0_1, .int .i64 a0_2, .int .i64 a0_3, .bool a0_4] 39 (0, 0)) (by (with_reducible repeat (first | refine kN ?_ _ | refine kD ?_ | refine kA ?_ _)); exact BK275.out) hb); have n2_ := aM (kB (g := gb276) (o := .cells #[.int .i64 a0_7, .int .i64 a0_8, .int .i64 a0_9, .int .i64 a0_10, .slice A0_11 l0_11.length c0_11] 29 (0, 0)) (by (with_reducible repeat (first | refine kN ?_ _ | refine kD ?_ | refine kA ?_ _)); exact BK276.out) hb); have n3_ := aM (bT (by repeat (first | (with_reducible first | exact HB.out | apply bA | apply bN | apply bE | refine bS ?_ GE274.out | refine bS ?_ GE275.out | refine bS ?_ GE276.out) | exact HB.out)) hb); clear BK274; clear BK275; clear BK276; clear HB; have BK274 := n0_; have BK275 := n1_; have BK276 := n2_; have HB := n3_; clear n0_ n1_ n2_ n3_; (try clear hb); (try clear hb2); (try clear hk); (try clear hi); obtain ⟨hcz59_0, hcz59_1, hcz59_2, hcz59_3, hcz59_4⟩ := blk_c5 BK276.out; obtain ⟨hfz59_0, hfz59_1, hfz59_2, hfz59_3, hfz59_4⟩ := blk_f5 BK276.out; obtain ⟨hcz60_0, hcz60_1, hcz60_2, hcz60_3, hcz60_4⟩ := blk_c5 BK275.out; obtain ⟨hfz60_0, hfz60_1, hfz60_2, hfz60_3, hfz60_4⟩ := blk_f5 BK275.out))
     go_meet
     case rel => exact ⟨_, (true), (by first | rfl | (simp; done) | (simp [*]; done)), H', ⟨by first | omega | exact Nat.le_refl _⟩, ⟨by (with_reducible repeat (first | refine kN ?_ _ | refine kD ?_ | refine kA ?_ _)); exact BK274.out⟩, ⟨by (with_reducible repeat (first | refine kN ?_ _ | refine kD ?_ | refine kA ?_ _)); exact BK275.out⟩, ⟨by (with_reducible repeat (first | refine kN ?_ _ | refine kD ?_ | refine kA ?_ _)); exact BK276.out⟩, ⟨by repeat (first | (with_reducible first | exact HB.out | apply bA | apply bN | apply bE | refine bS ?_ GE274.out | refine bS ?_ GE275.out | refine bS ?_ GE276.out) | exact HB.out)⟩⟩
   ·replace c21 := Bool.eq_false_iff.mpr c21
    subst c21
    have H1 : (impl_PngOk.j0 k true a0_0 a0_1 a0_2 a0_3 a0_4 l0_5 l0_6 a0_7 a0_8 a0_9 a0_10 l0_11 l0_12 a0_0 a0_1 a0_2 a0_3 a0_4) = some r := by rw [if_neg (show ¬ (false = true) by decide)] at H; first | done | exact H
    clear H
    have H := H1
    clear H1
    have H' := aM H
    clear H
    have hnb61 := NB275_274.out
    have hnc61 := NB274_275.out
    have hnb62 := NB275_276.out
    have hnc62 := NB276_275.out
    obtain ⟨hcz63_0, hcz63_1, hcz63_2, hcz63_3, hcz63_4⟩ := blk_c5 BK275.out
    obtain ⟨hfz63_0, hfz63_1, hfz63_2, hfz63_3, hfz63_4⟩ := blk_f5 BK275.out
    go_wp2_with (first | ((with_reducible refine gate_callee (f := 73) rfl ?_); refine goesL_ (some 10) rfl rfl Try.func73 (by kernel_rfl) rfl #[.agg #[.int .i64 a0_0, .int .i64 a0_1, .int .i64 a0_2, .int .i64 a0_3, .bool a0_4]] rfl (by (try simp only [lM, List.map_cons, List.map_nil]); first | done | rfl | (simp only [lD, lT]; rfl)) ?_; (with_reducible refine (impl_HeadOk.calls k a0_0 a0_1 a0_2 a0_3 a0_4 true _ A18.out).mono ?_); rintro e w64 ⟨rfl, hb⟩; refine ⟨_, rfl, ?_⟩; have n0_ := aM (kB (g := gb274) (o := .cells #[.int .i64 a0_0, .int .i64 a0_1, .int .i64 a0_2, .int .i64 a0_3, .bool a0_4, .slice A0_5 l0_5.length c0_5, .slice A0_6 l0_6.length c0_6, .int .i64 a0_7, .int .i64 a0_8, .int .i64 a0_9, .int .i64 a0_10, .slice A0_11 l0_11.length c0_11, .slice A0_12 l0_12.length c0_12] 74 (0, 0)) (by (with_reducible repeat (first | refine kN ?_ _ | refine kD ?_ | refine kA ?_ _)); refine kF ?_ NB274_276.out _; (with_reducible repeat (first | refine kN ?_ _ | refine kD ?_ | refine kA ?_ _)); refine kF ?_ NB274_276.out _; (with_reducible repeat (first | refine kN ?_ _ | refine kD ?_ | refine kA ?_ _)); refine kF ?_ NB274_276.out _; (with_reducible repeat (first | refine kN ?_ _ | refine kD ?_ | refine kA ?_ _)); refine kF ?_ NB274_276.out _; (with_reducible repeat (first | refine kN ?_ _ | refine kD ?_ | refine kA ?_ _)); refine kF ?_ NB274_276.out _; (with_reducible repeat (first | refine kN ?_ _ | refine kD ?_ | refine kA ?_ _)); refine kF ?_ NB274_275.out _; (with_reducible repeat (first | refine kN ?_ _ | refine kD ?_ | refine kA ?_ _)); refine kF ?_ NB274_275.out _; (with_reducible repeat (first | refine kN ?_ _ | refine kD ?_ | refine kA ?_ _)); refine kF ?_ NB274_275.out _; (with_reducible repeat (first | refine kN ?_ _ | refine kD ?_ | refine kA ?_ _)); refine kF ?_ NB274_275.out _; (with_reducible repeat (first | refine kN ?_ _ | refine kD ?_ | refine kA ?_ _)); refine kF ?_ NB274_275.out _; (with_reducible repeat (first | refine kN ?_ _ | refine kD ?_ | refine kA ?_ _)); exact BK274.out) hb); have n1_ := aM (kB (g := gb275) (o := .cells #[.int .i64 a0_0, .int .i64 a0_1, .int .i64 a0_2, .int .i64 a0_3, .bool a0_4] 39 (0, 0)) (by (with_reducible repeat (first | refine kN ?_ _ | refine kD ?_ | refine kA ?_ _)); refine kF ?_ NB275_276.out _; (with_reducible repeat (first | refine kN ?_ _ | refine kD ?_ | refine kA ?_ _)); refine kF ?_ NB275_276.out _; (with_reducible repeat (first | refine kN ?_ _ | refine kD ?_ | refine kA ?_ _)); refine kF ?_ NB275_276.out _; (with_reducible repeat (first | refine kN ?_ _ | refine kD ?_ | refine kA ?_ _)); refine kF ?_ NB275_276.out _; (with_reducible repeat (first | refine kN ?_ _ | refine kD ?_ | refine kA ?_ _)); refine kF ?_ NB275_276.out _; (with_reducible repeat (first | refine kN ?_ _ | refine kD ?_ | refine kA ?_ _)); refine blk_put (cs := #[.int .i64 a0_0, .int .i64 a0_1, .int .i64 a0_2, .int .i64 a0_3, .bool false]) ?_ 4 _ rfl; (with_reducible repeat (first | refine kN ?_ _ | refine kD ?_ | refine kA ?_ _)); refine blk_put (cs := #[.int .i64 a0_0, .int .i64 a0_1, .int .i64 a0_2, .int .i64 0, .bool false]) ?_ 3 _ rfl; (with_reducible repeat (first | refine kN ?_ _ | refine kD ?_ | refine kA ?_ _)); refine blk_put (cs := #[.int .i64 a0_0, .int .i64 a0_1, .int .i64 0, .int .i64 0, .bool false]) ?_ 2 _ rfl; (with_reducible repeat (first | refine kN ?_ _ | refine kD ?_ | refine kA ?_ _)); refine blk_put (cs := #[.int .i64 a0_0, .int .i64 0, .int .i64 0, .int .i64 0, .bool false]) ?_ 1 _ rfl; (with_reducible repeat (first | refine kN ?_ _ | refine kD ?_ | refine kA ?_ _)); refine blk_put (cs := #[.int .i64 0, .int .i64 0, .int .i64 0, .int .i64 0, .bool false]) ?_ 0 _ rfl; (with_reducible repeat (first | refine kN ?_ _ | refine kD ?_ | refine kA ?_ _)); exact BK275.out) hb); have n2_ := aM (kB (g := gb276) (o := .cells #[.int .i64 a0_7, .int .i64 a0_8, .int .i64 a0_9, .int .i64 a0_10, .slice A0_11 l0_11.length c0_11] 29 (0, 0)) (by (with_reducible repeat (first | refine kN ?_ _ | refine kD ?_ | refine kA ?_ _)); refine blk_put (cs := #[.int .i64 a0_7, .int .i64 a0_8, .int .i64 a0_9, .int .i64 a0_10, .slice none 0 0]) ?_ 4 _ rfl; (with_reducible repeat (first | refine kN ?_ _ | refine kD ?_ | refine kA ?_ _)); refine blk_put (cs := #[.int .i64 a0_7, .int .i64 a0_8, .int .i64 a0_9, .int .i64 0, .slice none 0 0]) ?_ 3 _ rfl; (with_reducible repeat (first | refine kN ?_ _ | refine kD ?_ | refine kA ?_ _)); refine blk_put (cs := #[.int .i64 a0_7, .int .i64 a0_8, .int .i64 0, .int .i64 0, .slice none 0 0]) ?_ 2 _ rfl; (with_reducible repeat (first | refine kN ?_ _ | refine kD ?_ | refine kA ?_ _)); refine blk_put (cs := #[.int .i64 a0_7, .int .i64 0, .int .i64 0, .int .i64 0, .slice none 0 0]) ?_ 1 _ rfl; (with_reducible repeat (first | refine kN ?_ _ | refine kD ?_ | refine kA ?_ _)); refine blk_put (cs := #[.int .i64 0, .int .i64 0, .int .i64 0, .int .i64 0, .slice none 0 0]) ?_ 0 _ rfl; (with_reducible repeat (first | refine kN ?_ _ | refine kD ?_ | refine kA ?_ _)); refine kF ?_ NB276_275.out _; (with_reducible repeat (first | refine kN ?_ _ | refine kD ?_ | refine kA ?_ _)); refine kF ?_ NB276_275.out _; (with_reducible repeat (first | refine kN ?_ _ | refine kD ?_ | refine kA ?_ _)); refine kF ?_ NB276_275.out _; (with_reducible repeat (first | refine kN ?_ _ | refine kD ?_ | refine kA ?_ _)); refine kF ?_ NB276_275.out _; (with_reducible repeat (first | refine kN ?_ _ | refine kD ?_ | refine kA ?_ _)); refine kF ?_ NB276_275.out _; (with_reducible repeat (first | refine kN ?_ _ | refine kD ?_ | refine kA ?_ _)); exact BK276.out) hb); have n3_ := aM (bT (by repeat (first | (with_reducible first | exact HB.out | apply bA | apply bN | apply bE | refine bS ?_ GE274.out | refine bS ?_ GE275.out | refine bS ?_ GE276.out) | exact HB.out)) hb); clear BK274; clear BK275; clear BK276; clear HB; have BK274 := n0_; have BK275 := n1_; have BK276 := n2_; have HB := n3_; clear n0_ n1_ n2_ n3_; (try clear hb); (try clear hb2); (try clear hk); (try clear hi); have hnb65 := NB276_274.out; have hnc65 := NB274_276.out; obtain ⟨hcz66_0, hcz66_1, hcz66_2, hcz66_3, hcz66_4⟩ := blk_c5 BK276.out; obtain ⟨hfz66_0, hfz66_1, hfz66_2, hfz66_3, hfz66_4⟩ := blk_f5 BK276.out) | (go_at_call 64; (with_reducible refine (impl_RasterOk.calls k a0_7 a0_8 a0_9 a0_10 _ _ l0_11 false _ ?side1 ?side2 A20.out).mono ?_); (case side1 => repeat (first | exact (cB HR0_11.out HB.out) | (with_reducible refine cA ?_ _) | (with_reducible refine cN ?_ _) | (with_reducible refine cD ?_))); (case side2 => exact HC0_11.out); rintro e w67 ⟨rfl, hb⟩; have n0_ := aM (kB (g := gb274) (o := .cells #[.int .i64 a0_0, .int .i64 a0_1, .int .i64 a0_2, .int .i64 a0_3, .bool a0_4, .slice A0_5 l0_5.length c0_5, .slice A0_6 l0_6.length c0_6, .int .i64 a0_7, .int .i64 a0_8, .int .i64 a0_9, .int .i64 a0_10, .slice A0_11 l0_11.length c0_11, .slice A0_12 l0_12.length c0_12] 74 (0, 0)) (by (with_reducible repeat (first | refine kN ?_ _ | refine kD ?_ | refine kA ?_ _)); exact BK274.out) hb); have n1_ := aM (kB (g := gb275) (o := .cells #[.int .i64 a0_0, .int .i64 a0_1, .int .i64 a0_2, .int .i64 a0_3, .bool a0_4] 39 (0, 0)) (by (with_reducible repeat (first | refine kN ?_ _ | refine kD ?_ | refine kA ?_ _)); exact BK275.out) hb); have n2_ := aM (kB (g := gb276) (o := .cells #[.int .i64 a0_7, .int .i64 a0_8, .int .i64 a0_9, .int .i64 a0_10, .slice A0_11 l0_11.length c0_11] 29 (0, 0)) (by (with_reducible repeat (first | refine kN ?_ _ | refine kD ?_ | refine kA ?_ _)); exact BK276.out) hb); have n3_ := aM (bT (by repeat (first | (with_reducible first | exact HB.out | apply bA | apply bN | apply bE | refine bS ?_ GE274.out | refine bS ?_ GE275.out | refine bS ?_ GE276.out) | exact HB.out)) hb); clear BK274; clear BK275; clear BK276; clear HB; have BK274 := n0_; have BK275 := n1_; have BK276 := n2_; have HB := n3_; clear n0_ n1_ n2_ n3_; (try clear hb); (try clear hb2); (try clear hk); (try clear hi)))
    go_meet
    case rel => exact ⟨_, (true), (by first | rfl | (simp; done) | (simp [*]; done)), H', ⟨by first | omega | exact Nat.le_refl _⟩, ⟨by (with_reducible repeat (first | refine kN ?_ _ | refine kD ?_ | refine kA ?_ _)); exact BK274.out⟩, ⟨by (with_reducible repeat (first | refine kN ?_ _ | refine kD ?_ | refine kA ?_ _)); exact BK275.out⟩, ⟨by (with_reducible repeat (first | refine kN ?_ _ | refine kD ?_ | refine kA ?_ _)); exact BK276.out⟩, ⟨by repeat (first | (with_reducible first | exact HB.out | apply bA | apply bN | apply bE | refine bS ?_ GE274.out | refine bS ?_ GE275.out | refine bS ?_ GE276.out) | exact HB.out)⟩⟩
  ·replace c19 := Bool.eq_false_iff.mpr c19
   subst c19
   have H1 : (impl_PngOk.j0 k true a0_0 a0_1 a0_2 a0_3 a0_4 l0_5 l0_6 a0_7 a0_8 a0_9 a0_10 l0_11 l0_12 a0_0 a0_1 a0_2 a0_3 a0_4) = some r := by rw [if_neg (show ¬ (false = true) by decide)] at H; first | done | exact H
   clear H
   have H := H1
   clear H1
   have H' := aM H
   clear H
   have hnb68 := NB275_274.out
   have hnc68 := NB274_275.out
   have hnb69 := NB275_276.out
   have hnc69 := NB276_275.out
   obtain ⟨hcz70_0, hcz70_1, hcz70_2, hcz70_3, hcz70_4⟩ := blk_c5 BK275.out
   obtain ⟨hfz70_0, hfz70_1, hfz70_2, hfz70_3, hfz70_4⟩ := blk_f5 BK275.out
   go_wp2_with (first | ((with_reducible refine gate_callee (f := 73) rfl ?_); refine goesL_ (some 10) rfl rfl Try.func73 (by kernel_rfl) rfl #[.agg #[.int .i64 a0_0, .int .i64 a0_1, .int .i64 a0_2, .int .i64 a0_3, .bool a0_4]] rfl (by (try simp only [lM, List.map_cons, List.map_nil]); first | done | rfl | (simp only [lD, lT]; rfl)) ?_; (with_reducible refine (impl_HeadOk.calls k a0_0 a0_1 a0_2 a0_3 a0_4 false _ A18.out).mono ?_); rintro e w71 ⟨rfl, hb⟩; refine ⟨_, rfl, ?_⟩; have n0_ := aM (kB (g := gb274) (o := .cells #[.int .i64 a0_0, .int .i64 a0_1, .int .i64 a0_2, .int .i64 a0_3, .bool a0_4, .slice A0_5 l0_5.length c0_5, .slice A0_6 l0_6.length c0_6, .int .i64 a0_7, .int .i64 a0_8, .int .i64 a0_9, .int .i64 a0_10, .slice A0_11 l0_11.length c0_11, .slice A0_12 l0_12.length c0_12] 74 (0, 0)) (by (with_reducible repeat (first | refine kN ?_ _ | refine kD ?_ | refine kA ?_ _)); refine kF ?_ NB274_276.out _; (with_reducible repeat (first | refine kN ?_ _ | refine kD ?_ | refine kA ?_ _)); refine kF ?_ NB274_276.out _; (with_reducible repeat (first | refine kN ?_ _ | refine kD ?_ | refine kA ?_ _)); refine kF ?_ NB274_276.out _; (with_reducible repeat (first | refine kN ?_ _ | refine kD ?_ | refine kA ?_ _)); refine kF ?_ NB274_276.out _; (with_reducible repeat (first | refine kN ?_ _ | refine kD ?_ | refine kA ?_ _)); refine kF ?_ NB274_276.out _; (with_reducible repeat (first | refine kN ?_ _ | refine kD ?_ | refine kA ?_ _)); refine kF ?_ NB274_275.out _; (with_reducible repeat (first | refine kN ?_ _ | refine kD ?_ | refine kA ?_ _)); refine kF ?_ NB274_275.out _; (with_reducible repeat (first | refine kN ?_ _ | refine kD ?_ | refine kA ?_ _)); refine kF ?_ NB274_275.out _; (with_reducible repeat (first | refine kN ?_ _ | refine kD ?_ | refine kA ?_ _)); refine kF ?_ NB274_275.out _; (with_reducible repeat (first | refine kN ?_ _ | refine kD ?_ | refine kA ?_ _)); refine kF ?_ NB274_275.out _; (with_reducible repeat (first | refine kN ?_ _ | refine kD ?_ | refine kA ?_ _)); exact BK274.out) hb); have n1_ := aM (kB (g := gb275) (o := .cells #[.int .i64 a0_0, .int .i64 a0_1, .int .i64 a0_2, .int .i64 a0_3, .bool a0_4] 39 (0, 0)) (by (with_reducible repeat (first | refine kN ?_ _ | refine kD ?_ | refine kA ?_ _)); refine kF ?_ NB275_276.out _; (with_reducible repeat (first | refine kN ?_ _ | refine kD ?_ | refine kA ?_ _)); refine kF ?_ NB275_276.out _; (with_reducible repeat (first | refine kN ?_ _ | refine kD ?_ | refine kA ?_ _)); refine kF ?_ NB275_276.out _; (with_reducible repeat (first | refine kN ?_ _ | refine kD ?_ | refine kA ?_ _)); refine kF ?_ NB275_276.out _; (with_reducible repeat (first | refine kN ?_ _ | refine kD ?_ | refine kA ?_ _)); refine kF ?_ NB275_276.out _; (with_reducible repeat (first | refine kN ?_ _ | refine kD ?_ | refine kA ?_ _)); refine blk_put (cs := #[.int .i64 a0_0, .int .i64 a0_1, .int .i64 a0_2, .int .i64 a0_3, .bool false]) ?_ 4 _ rfl; (with_reducible repeat (first | refine kN ?_ _ | refine kD ?_ | refine kA ?_ _)); refine blk_put (cs := #[.int .i64 a0_0, .int .i64 a0_1, .int .i64 a0_2, .int .i64 0, .bool false]) ?_ 3 _ rfl; (with_reducible repeat (first | refine kN ?_ _ | refine kD ?_ | refine kA ?_ _)); refine blk_put (cs := #[.int .i64 a0_0, .int .i64 a0_1, .int .i64 0, .int .i64 0, .bool false]) ?_ 2 _ rfl; (with_reducible repeat (first | refine kN ?_ _ | refine kD ?_ | refine kA ?_ _)); refine blk_put (cs := #[.int .i64 a0_0, .int .i64 0, .int .i64 0, .int .i64 0, .bool false]) ?_ 1 _ rfl; (with_reducible repeat (first | refine kN ?_ _ | refine kD ?_ | refine kA ?_ _)); refine blk_put (cs := #[.int .i64 0, .int .i64 0, .int .i64 0, .int .i64 0, .bool false]) ?_ 0 _ rfl; (with_reducible repeat (first | refine kN ?_ _ | refine kD ?_ | refine kA ?_ _)); exact BK275.out) hb); have n2_ := aM (kB (g := gb276) (o := .cells #[.int .i64 a0_7, .int .i64 a0_8, .int .i64 a0_9, .int .i64 a0_10, .slice A0_11 l0_11.length c0_11] 29 (0, 0)) (by (with_reducible repeat (first | refine kN ?_ _ | refine kD ?_ | refine kA ?_ _)); refine blk_put (cs := #[.int .i64 a0_7, .int .i64 a0_8, .int .i64 a0_9, .int .i64 a0_10, .slice none 0 0]) ?_ 4 _ rfl; (with_reducible repeat (first | refine kN ?_ _ | refine kD ?_ | refine kA ?_ _)); refine blk_put (cs := #[.int .i64 a0_7, .int .i64 a0_8, .int .i64 a0_9, .int .i64 0, .slice none 0 0]) ?_ 3 _ rfl; (with_reducible repeat (first | refine kN ?_ _ | refine kD ?_ | refine kA ?_ _)); refine blk_put (cs := #[.int .i64 a0_7, .int .i64 a0_8, .int .i64 0, .int .i64 0, .slice none 0 0]) ?_ 2 _ rfl; (with_reducible repeat (first | refine kN ?_ _ | refine kD ?_ | refine kA ?_ _)); refine blk_put (cs := #[.int .i64 a0_7, .int .i64 0, .int .i64 0, .int .i64 0, .slice none 0 0]) ?_ 1 _ rfl; (with_reducible repeat (first | refine kN ?_ _ | refine kD ?_ | refine kA ?_ _)); refine blk_put (cs := #[.int .i64 0, .int .i64 0, .int .i64 0, .int .i64 0, .slice none 0 0]) ?_ 0 _ rfl; (with_reducible repeat (first | refine kN ?_ _ | refine kD ?_ | refine kA ?_ _)); refine kF ?_ NB276_275.out _; (with_reducible repeat (first | refine kN ?_ _ | refine kD ?_ | refine kA ?_ _)); refine kF ?_ NB276_275.out _; (with_reducible repeat (first | refine kN ?_ _ | refine kD ?_ | refine kA ?_ _)); refine kF ?_ NB276_275.out _; (with_reducible repeat (first | refine kN ?_ _ | refine kD ?_ | refine kA ?_ _)); refine kF ?_ NB276_275.out _; (with_reducible repeat (first | refine kN ?_ _ | refine kD ?_ | refine kA ?_ _)); refine kF ?_ NB276_275.out _; (with_reducible repeat (first | refine kN ?_ _ | refine kD ?_ | refine kA ?_ _)); exact BK276.out) hb); have n3_ := aM (bT (by repeat (first | (with_reducible first | exact HB.out | apply bA | apply bN | apply bE | refine bS ?_ GE274.out | refine bS ?_ GE275.out | refine bS ?_ GE276.out) | exact HB.out)) hb); clear BK274; clear BK275; clear BK276; clear HB; have BK274 := n0_; have BK275 := n1_; have BK276 := n2_; have HB := n3_; clear n0_ n1_ n2_ n3_; (try clear hb); (try clear hb2); (try clear hk); (try clear hi)))
   go_meet
   case rel => exact ⟨_, (true), (by first | rfl | (simp; done) | (simp [*]; done)), H', ⟨by first | omega | exact Nat.le_refl _⟩, ⟨by (with_reducible repeat (first | refine kN ?_ _ | refine kD ?_ | refine kA ?_ _)); exact BK274.out⟩, ⟨by (with_reducible repeat (first | refine kN ?_ _ | refine kD ?_ | refine kA ?_ _)); exact BK275.out⟩, ⟨by (with_reducible repeat (first | refine kN ?_ _ | refine kD ?_ | refine kA ?_ _)); exact BK276.out⟩, ⟨by repeat (first | (with_reducible first | exact HB.out | apply bA | apply bN | apply bE | refine bS ?_ GE274.out | refine bS ?_ GE275.out | refine bS ?_ GE276.out) | exact HB.out)⟩⟩
 case rest =>
  clear HC2
  try clear c1
  try clear c2
  try clear p2
  try clear c3
  try clear c4
  try clear c5
  try clear c6
  try clear c7
  try clear c19
  try clear c21
  try clear c22
  try clear c22b0
  try clear c22b1
  try clear c23
  try clear c23b0
  try clear c23b1
  try clear c24
  try clear c24b0
  try clear c24b1
  try clear c25
  try clear c26
  try clear c29
  try clear c34
  try clear c35
  try clear c38
  try clear c42
  try clear c43
  try clear c44
  try clear c47
  try clear c52
  try clear c53
  try clear c56
  try clear c61
  try clear c62
  try clear c65
  try clear c68
  try clear c69
  try clear hcz27_0
  try clear hcz27_1
  try clear hcz27_2
  try clear hcz27_3
  try clear hcz27_4
  try clear hcz30_0
  try clear hcz30_1
  try clear hcz30_2
  try clear hcz30_3
  try clear hcz30_4
  try clear hcz32_0
  try clear hcz32_1
  try clear hcz32_2
  try clear hcz32_3
  try clear hcz32_4
  try clear hcz33_0
  try clear hcz33_1
  try clear hcz33_2
  try clear hcz33_3
  try clear hcz33_4
  try clear hcz36_0
  try clear hcz36_1
  try clear hcz36_2
  try clear hcz36_3
  try clear hcz36_4
  try clear hcz39_0
  try clear hcz39_1
  try clear hcz39_2
  try clear hcz39_3
  try clear hcz39_4
  try clear hcz41_0
  try clear hcz41_1
  try clear hcz41_2
  try clear hcz41_3
  try clear hcz41_4
  try clear hcz42_0
  try clear hcz42_1
  try clear hcz42_2
  try clear hcz42_3
  try clear hcz42_4
  try clear hcz45_0
  try clear hcz45_1
  try clear hcz45_2
  try clear hcz45_3
  try clear hcz45_4
  try clear hcz48_0
  try clear hcz48_1
  try clear hcz48_2
  try clear hcz48_3
  try clear hcz48_4
  try clear hcz50_0
  try clear hcz50_1
  try clear hcz50_2
  try clear hcz50_3
  try clear hcz50_4
  try clear hcz51_0
  try clear hcz51_1
  try clear hcz51_2
  try clear hcz51_3
  try clear hcz51_4
  try clear hcz54_0
  try clear hcz54_1
  try clear hcz54_2
  try clear hcz54_3
  try clear hcz54_4
  try clear hcz57_0
  try clear hcz57_1
  try clear hcz57_2
  try clear hcz57_3
  try clear hcz57_4
  try clear hcz59_0
  try clear hcz59_1
  try clear hcz59_2
  try clear hcz59_3
  try clear hcz59_4
  try clear hcz60_0
  try clear hcz60_1
  try clear hcz60_2
  try clear hcz60_3
  try clear hcz60_4
  try clear hcz63_0
  try clear hcz63_1
  try clear hcz63_2
  try clear hcz63_3
  try clear hcz63_4
  try clear hcz66_0
  try clear hcz66_1
  try clear hcz66_2
  try clear hcz66_3
  try clear hcz66_4
  try clear hcz70_0
  try clear hcz70_1
  try clear hcz70_2
  try clear hcz70_3
  try clear hcz70_4
  try clear hfz27_0
  try clear hfz27_1
  try clear hfz27_2
  try clear hfz27_3
  try clear hfz27_4
  try clear hfz30_0
  try clear hfz30_1
  try clear hfz30_2
  try clear hfz30_3
  try clear hfz30_4
  try clear hfz32_0
  try clear hfz32_1
  try clear hfz32_2
  try clear hfz32_3
  try clear hfz32_4
  try clear hfz33_0
  try clear hfz33_1
  try clear hfz33_2
  try clear hfz33_3
  try clear hfz33_4
  try clear hfz36_0
  try clear hfz36_1
  try clear hfz36_2
  try clear hfz36_3
  try clear hfz36_4
  try clear hfz39_0
  try clear hfz39_1
  try clear hfz39_2
  try clear hfz39_3
  try clear hfz39_4
  try clear hfz41_0
  try clear hfz41_1
  try clear hfz41_2
  try clear hfz41_3
  try clear hfz41_4
  try clear hfz42_0
  try clear hfz42_1
  try clear hfz42_2
  try clear hfz42_3
  try clear hfz42_4
  try clear hfz45_0
  try clear hfz45_1
  try clear hfz45_2
  try clear hfz45_3
  try clear hfz45_4
  try clear hfz48_0
  try clear hfz48_1
  try clear hfz48_2
  try clear hfz48_3
  try clear hfz48_4
  try clear hfz50_0
  try clear hfz50_1
  try clear hfz50_2
  try clear hfz50_3
  try clear hfz50_4
  try clear hfz51_0
  try clear hfz51_1
  try clear hfz51_2
  try clear hfz51_3
  try clear hfz51_4
  try clear hfz54_0
  try clear hfz54_1
  try clear hfz54_2
  try clear hfz54_3
  try clear hfz54_4
  try clear hfz57_0
  try clear hfz57_1
  try clear hfz57_2
  try clear hfz57_3
  try clear hfz57_4
  try clear hfz59_0
  try clear hfz59_1
  try clear hfz59_2
  try clear hfz59_3
  try clear hfz59_4
  try clear hfz60_0
  try clear hfz60_1
  try clear hfz60_2
  try clear hfz60_3
  try clear hfz60_4
  try clear hfz63_0
  try clear hfz63_1
  try clear hfz63_2
  try clear hfz63_3
  try clear hfz63_4
  try clear hfz66_0
  try clear hfz66_1
  try clear hfz66_2
  try clear hfz66_3
  try clear hfz66_4
  try clear hfz70_0
  try clear hfz70_1
  try clear hfz70_2
  try clear hfz70_3
  try clear hfz70_4
  obtain ⟨kq, x44_1, rfl, HA, HJ1, BK274, BK275, BK276, HB⟩ := hcut
  cases kq with
  | zero => exact absurd HA.out (by simp [impl_PngOk.j0])
  | succ kj1 =>
   have H := HA.out
   clear HA
   simp only [impl_PngOk.j0] at H
   by_cases c72 : x44_1 = true
   ·subst c72
    have H1 : (some false) = some r := by rw [if_pos rfl] at H; first | done | exact H
    clear H
    have H := H1
    clear H1
    obtain rfl := Option.some.inj H
    go_wp2
    go_ret
    exact ⟨by first | rfl | (simp [errW_none, errW_some] <;> rfl) | (simp [*, errW_none, errW_some] <;> rfl), by repeat (first | (with_reducible first | exact HB.out | apply bA | apply bN | apply bE | refine bS ?_ GE274.out | refine bS ?_ GE275.out | refine bS ?_ GE276.out) | exact HB.out)⟩
   ·replace c72 := Bool.eq_false_iff.mpr c72
    subst c72
    have H1 : ((impl_tableOk.f kj1 a0_0 a0_1 a0_2 a0_3 a0_4 l0_5).bind fun t279 => (if t279 = true then ((impl_ClearOk.f kj1 a0_0 a0_1 a0_2 a0_3 a0_4 (l0_5.length : Int) l0_6).bind fun t280 => (if t280 = true then ((impl_keptOk.f kj1 l0_12).bind fun t281 => (if t281 = true then (if a0_3 = 3 then ((impl_inTable.f kj1 a0_0 a0_1 a0_2 a0_3 a0_4 l0_5 l0_6 a0_7 a0_8 a0_9 a0_10 l0_11 l0_12).bind fun t282 => (some t282)) else (some true)) else (some false))) else (some false))) else (some false))) = some r := by rw [if_neg (show ¬ (false = true) by decide)] at H; first | done | exact H
    clear H
    have H := H1
    clear H1
    replace H := oB.mp H
    obtain ⟨t279, A730, H⟩ := H
    try dsimp -simprocs only at H
    have A73 := aM A730
    clear A730
    by_cases c74 : t279 = true
    ·subst c74
     have H1 : ((impl_ClearOk.f kj1 a0_0 a0_1 a0_2 a0_3 a0_4 (l0_5.length : Int) l0_6).bind fun t280 => (if t280 = true then ((impl_keptOk.f kj1 l0_12).bind fun t281 => (if t281 = true then (if a0_3 = 3 then ((impl_inTable.f kj1 a0_0 a0_1 a0_2 a0_3 a0_4 l0_5 l0_6 a0_7 a0_8 a0_9 a0_10 l0_11 l0_12).bind fun t282 => (some t282)) else (some true)) else (some false))) else (some false))) = some r := by rw [if_pos rfl] at H; first | done | exact H
     clear H
     have H := H1
     clear H1
     replace H := oB.mp H
     obtain ⟨t280, A750, H⟩ := H
     try dsimp -simprocs only at H
     have A75 := aM A750
     clear A750
     by_cases c76 : t280 = true
     ·subst c76
      have H1 : ((impl_keptOk.f kj1 l0_12).bind fun t281 => (if t281 = true then (if a0_3 = 3 then ((impl_inTable.f kj1 a0_0 a0_1 a0_2 a0_3 a0_4 l0_5 l0_6 a0_7 a0_8 a0_9 a0_10 l0_11 l0_12).bind fun t282 => (some t282)) else (some true)) else (some false))) = some r := by rw [if_pos rfl] at H; first | done | exact H
      clear H
      have H := H1
      clear H1
      replace H := oB.mp H
      obtain ⟨t281, A770, H⟩ := H
      replace H : (if t281 = true then (if a0_3 = 3 then ((impl_inTable.f kj1 a0_0 a0_1 a0_2 a0_3 a0_4 l0_5 l0_6 a0_7 a0_8 a0_9 a0_10 l0_11 l0_12).bind fun t282 => (some t282)) else (some true)) else (some false)) = some r := H
      have A77 := aM A770
      clear A770
      by_cases c78 : t281 = true
      ·subst c78
       have H1 : (if a0_3 = 3 then ((impl_inTable.f kj1 a0_0 a0_1 a0_2 a0_3 a0_4 l0_5 l0_6 a0_7 a0_8 a0_9 a0_10 l0_11 l0_12).bind fun t282 => (some t282)) else (some true)) = some r := by rw [if_pos rfl] at H; first | done | exact H
       clear H
       have H := H1
       clear H1
       by_cases c79 : a0_3 = 3
       ·rw [if_pos c79] at H
        have c79b0 : (a0_3 == 3) = true := beq_iff_eq.mpr c79
        have c79b1 : (a0_3 != 3) = false := bne_eq_false_iff_eq.mpr c79
        clear c79
        replace H := oB.mp H
        obtain ⟨t282, A800, H⟩ := H
        replace H : (some t282) = some r := H
        have A80 := aM A800
        clear A800
        obtain rfl := Option.some.inj H
        have hnb81 := NB275_274.out
        have hnc81 := NB274_275.out
        have hnb82 := NB275_276.out
        have hnc82 := NB276_275.out
        obtain ⟨hcz83_0, hcz83_1, hcz83_2, hcz83_3, hcz83_4⟩ := blk_c5 BK275.out
        obtain ⟨hfz83_0, hfz83_1, hfz83_2, hfz83_3, hfz83_4⟩ := blk_f5 BK275.out
        have hnb84 := NB274_276.out
        have hnc84 := NB276_274.out
        obtain ⟨hcz85_0, hcz85_1, hcz85_2, hcz85_3, hcz85_4, hcz85_5, hcz85_6, hcz85_7, hcz85_8, hcz85_9, hcz85_10, hcz85_11, hcz85_12⟩ := blk_c13 BK274.out
        obtain ⟨hfz85_0, hfz85_1, hfz85_2, hfz85_3, hfz85_4, hfz85_5, hfz85_6, hfz85_7, hfz85_8, hfz85_9, hfz85_10, hfz85_11, hfz85_12⟩ := blk_f13 BK274.out
        go_wp2_with (first | ((with_reducible refine gate_callee (f := 103) rfl ?_); refine goesL_ (some 48) rfl rfl Try.func103 (by kernel_rfl) rfl #[.agg #[.int .i64 a0_0, .int .i64 a0_1, .int .i64 a0_2, .int .i64 a0_3, .bool a0_4], .slice A0_5 l0_5.length c0_5] rfl (by (try simp only [lM, List.map_cons, List.map_nil]); first | done | rfl | (simp only [lD, lT]; rfl)) ?_; (with_reducible refine (impl_tableOk.calls kj1 a0_0 a0_1 a0_2 a0_3 a0_4 _ _ l0_5 true _ ?side1 ?side2 A73.out).mono ?_); (case side1 => repeat (first | exact (cB HR0_5.out HB.out) | (with_reducible refine cA ?_ _) | (with_reducible refine cN ?_ _) | (with_reducible refine cD ?_))); (case side2 => exact HC0_5.out); rintro e w86 ⟨rfl, hb⟩; refine ⟨_, rfl, ?_⟩; have n0_ := aM (kB (g := gb274) (o := .cells #[.int .i64 a0_0, .int .i64 a0_1, .int .i64 a0_2, .int .i64 a0_3, .bool a0_4, .slice A0_5 l0_5.length c0_5, .slice A0_6 l0_6.length c0_6, .int .i64 a0_7, .int .i64 a0_8, .int .i64 a0_9, .int .i64 a0_10, .slice A0_11 l0_11.length c0_11, .slice A0_12 l0_12.length c0_12] 74 (0, 0)) (by (with_reducible repeat (first | refine kN ?_ _ | refine kD ?_ | refine kA ?_ _)); exact BK274.out) hb); have n1_ := aM (kB (g := gb275) (o := .cells #[.int .i64 a0_0, .int .i64 a0_1, .int .i64 a0_2, .int .i64 a0_3, .bool a0_4] 39 (0, 0)) (by (with_reducible repeat (first | refine kN ?_ _ | refine kD ?_ | refine kA ?_ _)); exact BK275.out) hb); have n2_ := aM (kB (g := gb276) (o := .cells #[.int .i64 a0_7, .int .i64 a0_8, .int .i64 a0_9, .int .i64 a0_10, .slice A0_11 l0_11.length c0_11] 29 (0, 0)) (by (with_reducible repeat (first | refine kN ?_ _ | refine kD ?_ | refine kA ?_ _)); exact BK276.out) hb); have n3_ := aM (bT (by repeat (first | (with_reducible first | exact HB.out | apply bA | apply bN | apply bE | refine bS ?_ GE274.out | refine bS ?_ GE275.out | refine bS ?_ GE276.out) | exact HB.out)) hb); clear BK274; clear BK275; clear BK276; clear HB; have BK274 := n0_; have BK275 := n1_; have BK276 := n2_; have HB := n3_; clear n0_ n1_ n2_ n3_; (try clear hb); (try clear hb2); (try clear hk); (try clear hi); obtain ⟨hcz87_0, hcz87_1, hcz87_2, hcz87_3, hcz87_4⟩ := blk_c5 BK275.out; obtain ⟨hfz87_0, hfz87_1, hfz87_2, hfz87_3, hfz87_4⟩ := blk_f5 BK275.out; obtain ⟨hcz88_0, hcz88_1, hcz88_2, hcz88_3, hcz88_4, hcz88_5, hcz88_6, hcz88_7, hcz88_8, hcz88_9, hcz88_10, hcz88_11, hcz88_12⟩ := blk_c13 BK274.out; obtain ⟨hfz88_0, hfz88_1, hfz88_2, hfz88_3, hfz88_4, hfz88_5, hfz88_6, hfz88_7, hfz88_8, hfz88_9, hfz88_10, hfz88_11, hfz88_12⟩ := blk_f13 BK274.out) | (go_at_call 84; (with_reducible refine (impl_ClearOk.calls kj1 a0_0 a0_1 a0_2 a0_3 a0_4 (l0_5.length : Int) _ _ l0_6 true _ ?side1 ?side2 A75.out).mono ?_); (case side1 => repeat (first | exact (cB HR0_6.out HB.out) | (with_reducible refine cA ?_ _) | (with_reducible refine cN ?_ _) | (with_reducible refine cD ?_))); (case side2 => exact HC0_6.out); rintro e w89 ⟨rfl, hb⟩; have n0_ := aM (kB (g := gb274) (o := .cells #[.int .i64 a0_0, .int .i64 a0_1, .int .i64 a0_2, .int .i64 a0_3, .bool a0_4, .slice A0_5 l0_5.length c0_5, .slice A0_6 l0_6.length c0_6, .int .i64 a0_7, .int .i64 a0_8, .int .i64 a0_9, .int .i64 a0_10, .slice A0_11 l0_11.length c0_11, .slice A0_12 l0_12.length c0_12] 74 (0, 0)) (by (with_reducible repeat (first | refine kN ?_ _ | refine kD ?_ | refine kA ?_ _)); exact BK274.out) hb); have n1_ := aM (kB (g := gb275) (o := .cells #[.int .i64 a0_0, .int .i64 a0_1, .int .i64 a0_2, .int .i64 a0_3, .bool a0_4] 39 (0, 0)) (by (with_reducible repeat (first | refine kN ?_ _ | refine kD ?_ | refine kA ?_ _)); exact BK275.out) hb); have n2_ := aM (kB (g := gb276) (o := .cells #[.int .i64 a0_7, .int .i64 a0_8, .int .i64 a0_9, .int .i64 a0_10, .slice A0_11 l0_11.length c0_11] 29 (0, 0)) (by (with_reducible repeat (first | refine kN ?_ _ | refine kD ?_ | refine kA ?_ _)); exact BK276.out) hb); have n3_ := aM (bT (by repeat (first | (with_reducible first | exact HB.out | apply bA | apply bN | apply bE | refine bS ?_ GE274.out | refine bS ?_ GE275.out | refine bS ?_ GE276.out) | exact HB.out)) hb); clear BK274; clear BK275; clear BK276; clear HB; have BK274 := n0_; have BK275 := n1_; have BK276 := n2_; have HB := n3_; clear n0_ n1_ n2_ n3_; (try clear hb); (try clear hb2); (try clear hk); (try clear hi); obtain ⟨hcz90_0, hcz90_1, hcz90_2, hcz90_3, hcz90_4, hcz90_5, hcz90_6, hcz90_7, hcz90_8, hcz90_9, hcz90_10, hcz90_11, hcz90_12⟩ := blk_c13 BK274.out; obtain ⟨hfz90_0, hfz90_1, hfz90_2, hfz90_3, hfz90_4, hfz90_5, hfz90_6, hfz90_7, hfz90_8, hfz90_9, hfz90_10, hfz90_11, hfz90_12⟩ := blk_f13 BK274.out) | (go_at_call 104; (with_reducible refine (impl_keptOk.calls kj1 _ _ l0_12 true _ ?side1 ?side2 A77.out).mono ?_); (case side1 => repeat (first | exact (cB HR0_12.out HB.out) | (with_reducible refine cA ?_ _) | (with_reducible refine cN ?_ _) | (with_reducible refine cD ?_))); (case side2 => exact HC0_12.out); rintro e w91 ⟨rfl, hb⟩; have n0_ := aM (kB (g := gb274) (o := .cells #[.int .i64 a0_0, .int .i64 a0_1, .int .i64 a0_2, .int .i64 a0_3, .bool a0_4, .slice A0_5 l0_5.length c0_5, .slice A0_6 l0_6.length c0_6, .int .i64 a0_7, .int .i64 a0_8, .int .i64 a0_9, .int .i64 a0_10, .slice A0_11 l0_11.length c0_11, .slice A0_12 l0_12.length c0_12] 74 (0, 0)) (by (with_reducible repeat (first | refine kN ?_ _ | refine kD ?_ | refine kA ?_ _)); exact BK274.out) hb); have n1_ := aM (kB (g := gb275) (o := .cells #[.int .i64 a0_0, .int .i64 a0_1, .int .i64 a0_2, .int .i64 a0_3, .bool a0_4] 39 (0, 0)) (by (with_reducible repeat (first | refine kN ?_ _ | refine kD ?_ | refine kA ?_ _)); exact BK275.out) hb); have n2_ := aM (kB (g := gb276) (o := .cells #[.int .i64 a0_7, .int .i64 a0_8, .int .i64 a0_9, .int .i64 a0_10, .slice A0_11 l0_11.length c0_11] 29 (0, 0)) (by (with_reducible repeat (first | refine kN ?_ _ | refine kD ?_ | refine kA ?_ _)); exact BK276.out) hb); have n3_ := aM (bT (by repeat (first | (with_reducible first | exact HB.out | apply bA | apply bN | apply bE | refine bS ?_ GE274.out | refine bS ?_ GE275.out | refine bS ?_ GE276.out) | exact HB.out)) hb); clear BK274; clear BK275; clear BK276; clear HB; have BK274 := n0_; have BK275 := n1_; have BK276 := n2_; have HB := n3_; clear n0_ n1_ n2_ n3_; (try clear hb); (try clear hb2); (try clear hk); (try clear hi); obtain ⟨hcz92_0, hcz92_1, hcz92_2, hcz92_3, hcz92_4⟩ := blk_c5 BK275.out; obtain ⟨hfz92_0, hfz92_1, hfz92_2, hfz92_3, hfz92_4⟩ := blk_f5 BK275.out; obtain ⟨hcz93_0, hcz93_1, hcz93_2, hcz93_3, hcz93_4, hcz93_5, hcz93_6, hcz93_7, hcz93_8, hcz93_9, hcz93_10, hcz93_11, hcz93_12⟩ := blk_c13 BK274.out; obtain ⟨hfz93_0, hfz93_1, hfz93_2, hfz93_3, hfz93_4, hfz93_5, hfz93_6, hfz93_7, hfz93_8, hfz93_9, hfz93_10, hfz93_11, hfz93_12⟩ := blk_f13 BK274.out) | (go_at_call 105; (with_reducible refine (impl_inTable.calls kj1 a0_0 a0_1 a0_2 a0_3 a0_4 _ _ l0_5 _ _ l0_6 a0_7 a0_8 a0_9 a0_10 _ _ l0_11 _ _ l0_12 t282 _ ?side1 ?side2 ?side3 ?side4 ?side5 ?side6 ?side7 ?side8 A80.out).mono ?_); (case side1 => repeat (first | exact (cB HR0_5.out HB.out) | (with_reducible refine cA ?_ _) | (with_reducible refine cN ?_ _) | (with_reducible refine cD ?_))); (case side2 => exact HC0_5.out); (case side3 => repeat (first | exact (cB HR0_6.out HB.out) | (with_reducible refine cA ?_ _) | (with_reducible refine cN ?_ _) | (with_reducible refine cD ?_))); (case side4 => exact HC0_6.out); (case side5 => repeat (first | exact (cB HR0_11.out HB.out) | (with_reducible refine cA ?_ _) | (with_reducible refine cN ?_ _) | (with_reducible refine cD ?_))); (case side6 => exact HC0_11.out); (case side7 => repeat (first | exact (cB HR0_12.out HB.out) | (with_reducible refine cA ?_ _) | (with_reducible refine cN ?_ _) | (with_reducible refine cD ?_))); (case side8 => exact HC0_12.out); rintro e w94 ⟨rfl, hb⟩; have n0_ := aM (kB (g := gb274) (o := .cells #[.int .i64 a0_0, .int .i64 a0_1, .int .i64 a0_2, .int .i64 a0_3, .bool a0_4, .slice A0_5 l0_5.length c0_5, .slice A0_6 l0_6.length c0_6, .int .i64 a0_7, .int .i64 a0_8, .int .i64 a0_9, .int .i64 a0_10, .slice A0_11 l0_11.length c0_11, .slice A0_12 l0_12.length c0_12] 74 (0, 0)) (by (with_reducible repeat (first | refine kN ?_ _ | refine kD ?_ | refine kA ?_ _)); exact BK274.out) hb); have n1_ := aM (kB (g := gb275) (o := .cells #[.int .i64 a0_0, .int .i64 a0_1, .int .i64 a0_2, .int .i64 a0_3, .bool a0_4] 39 (0, 0)) (by (with_reducible repeat (first | refine kN ?_ _ | refine kD ?_ | refine kA ?_ _)); exact BK275.out) hb); have n2_ := aM (kB (g := gb276) (o := .cells #[.int .i64 a0_7, .int .i64 a0_8, .int .i64 a0_9, .int .i64 a0_10, .slice A0_11 l0_11.length c0_11] 29 (0, 0)) (by (with_reducible repeat (first | refine kN ?_ _ | refine kD ?_ | refine kA ?_ _)); exact BK276.out) hb); have n3_ := aM (bT (by repeat (first | (with_reducible first | exact HB.out | apply bA | apply bN | apply bE | refine bS ?_ GE274.out | refine bS ?_ GE275.out | refine bS ?_ GE276.out) | exact HB.out)) hb); clear BK274; clear BK275; clear BK276; clear HB; have BK274 := n0_; have BK275 := n1_; have BK276 := n2_; have HB := n3_; clear n0_ n1_ n2_ n3_; (try clear hb); (try clear hb2); (try clear hk); (try clear hi)))
        go_ret
        exact ⟨by first | rfl | (simp [errW_none, errW_some] <;> rfl) | (simp [*, errW_none, errW_some] <;> rfl), by repeat (first | (with_reducible first | exact HB.out | apply bA | apply bN | apply bE | refine bS ?_ GE274.out | refine bS ?_ GE275.out | refine bS ?_ GE276.out) | exact HB.out)⟩
       ·rw [if_neg c79] at H
        have c79b0 : (a0_3 == 3) = false := beq_eq_false_iff_ne.mpr c79
        have c79b1 : (a0_3 != 3) = true := bne_iff_ne.mpr c79
        obtain rfl := Option.some.inj H
        have hnb95 := NB275_274.out
        have hnc95 := NB274_275.out
        have hnb96 := NB275_276.out
        have hnc96 := NB276_275.out
        obtain ⟨hcz97_0, hcz97_1, hcz97_2, hcz97_3, hcz97_4⟩ := blk_c5 BK275.out
        obtain ⟨hfz97_0, hfz97_1, hfz97_2, hfz97_3, hfz97_4⟩ := blk_f5 BK275.out
        have hnb98 := NB274_276.out
        have hnc98 := NB276_274.out
        obtain ⟨hcz99_0, hcz99_1, hcz99_2, hcz99_3, hcz99_4, hcz99_5, hcz99_6, hcz99_7, hcz99_8, hcz99_9, hcz99_10, hcz99_11, hcz99_12⟩ := blk_c13 BK274.out
        obtain ⟨hfz99_0, hfz99_1, hfz99_2, hfz99_3, hfz99_4, hfz99_5, hfz99_6, hfz99_7, hfz99_8, hfz99_9, hfz99_10, hfz99_11, hfz99_12⟩ := blk_f13 BK274.out
        go_wp2_with (first | ((with_reducible refine gate_callee (f := 103) rfl ?_); refine goesL_ (some 48) rfl rfl Try.func103 (by kernel_rfl) rfl #[.agg #[.int .i64 a0_0, .int .i64 a0_1, .int .i64 a0_2, .int .i64 a0_3, .bool a0_4], .slice A0_5 l0_5.length c0_5] rfl (by (try simp only [lM, List.map_cons, List.map_nil]); first | done | rfl | (simp only [lD, lT]; rfl)) ?_; (with_reducible refine (impl_tableOk.calls kj1 a0_0 a0_1 a0_2 a0_3 a0_4 _ _ l0_5 true _ ?side1 ?side2 A73.out).mono ?_); (case side1 => repeat (first | exact (cB HR0_5.out HB.out) | (with_reducible refine cA ?_ _) | (with_reducible refine cN ?_ _) | (with_reducible refine cD ?_))); (case side2 => exact HC0_5.out); rintro e w100 ⟨rfl, hb⟩; refine ⟨_, rfl, ?_⟩; have n0_ := aM (kB (g := gb274) (o := .cells #[.int .i64 a0_0, .int .i64 a0_1, .int .i64 a0_2, .int .i64 a0_3, .bool a0_4, .slice A0_5 l0_5.length c0_5, .slice A0_6 l0_6.length c0_6, .int .i64 a0_7, .int .i64 a0_8, .int .i64 a0_9, .int .i64 a0_10, .slice A0_11 l0_11.length c0_11, .slice A0_12 l0_12.length c0_12] 74 (0, 0)) (by (with_reducible repeat (first | refine kN ?_ _ | refine kD ?_ | refine kA ?_ _)); exact BK274.out) hb); have n1_ := aM (kB (g := gb275) (o := .cells #[.int .i64 a0_0, .int .i64 a0_1, .int .i64 a0_2, .int .i64 a0_3, .bool a0_4] 39 (0, 0)) (by (with_reducible repeat (first | refine kN ?_ _ | refine kD ?_ | refine kA ?_ _)); exact BK275.out) hb); have n2_ := aM (kB (g := gb276) (o := .cells #[.int .i64 a0_7, .int .i64 a0_8, .int .i64 a0_9, .int .i64 a0_10, .slice A0_11 l0_11.length c0_11] 29 (0, 0)) (by (with_reducible repeat (first | refine kN ?_ _ | refine kD ?_ | refine kA ?_ _)); exact BK276.out) hb); have n3_ := aM (bT (by repeat (first | (with_reducible first | exact HB.out | apply bA | apply bN | apply bE | refine bS ?_ GE274.out | refine bS ?_ GE275.out | refine bS ?_ GE276.out) | exact HB.out)) hb); clear BK274; clear BK275; clear BK276; clear HB; have BK274 := n0_; have BK275 := n1_; have BK276 := n2_; have HB := n3_; clear n0_ n1_ n2_ n3_; (try clear hb); (try clear hb2); (try clear hk); (try clear hi); obtain ⟨hcz101_0, hcz101_1, hcz101_2, hcz101_3, hcz101_4⟩ := blk_c5 BK275.out; obtain ⟨hfz101_0, hfz101_1, hfz101_2, hfz101_3, hfz101_4⟩ := blk_f5 BK275.out; obtain ⟨hcz102_0, hcz102_1, hcz102_2, hcz102_3, hcz102_4, hcz102_5, hcz102_6, hcz102_7, hcz102_8, hcz102_9, hcz102_10, hcz102_11, hcz102_12⟩ := blk_c13 BK274.out; obtain ⟨hfz102_0, hfz102_1, hfz102_2, hfz102_3, hfz102_4, hfz102_5, hfz102_6, hfz102_7, hfz102_8, hfz102_9, hfz102_10, hfz102_11, hfz102_12⟩ := blk_f13 BK274.out) | (go_at_call 84; (with_reducible refine (impl_ClearOk.calls kj1 a0_0 a0_1 a0_2 a0_3 a0_4 (l0_5.length : Int) _ _ l0_6 true _ ?side1 ?side2 A75.out).mono ?_); (case side1 => repeat (first | exact (cB HR0_6.out HB.out) | (with_reducible refine cA ?_ _) | (with_reducible refine cN ?_ _) | (with_reducible refine cD ?_))); (case side2 => exact HC0_6.out); rintro e w103 ⟨rfl, hb⟩; have n0_ := aM (kB (g := gb274) (o := .cells #[.int .i64 a0_0, .int .i64 a0_1, .int .i64 a0_2, .int .i64 a0_3, .bool a0_4, .slice A0_5 l0_5.length c0_5, .slice A0_6 l0_6.length c0_6, .int .i64 a0_7, .int .i64 a0_8, .int .i64 a0_9, .int .i64 a0_10, .slice A0_11 l0_11.length c0_11, .slice A0_12 l0_12.length c0_12] 74 (0, 0)) (by (with_reducible repeat (first | refine kN ?_ _ | refine kD ?_ | refine kA ?_ _)); exact BK274.out) hb); have n1_ := aM (kB (g := gb275) (o := .cells #[.int .i64 a0_0, .int .i64 a0_1, .int .i64 a0_2, .int .i64 a0_3, .bool a0_4] 39 (0, 0)) (by (with_reducible repeat (first | refine kN ?_ _ | refine kD ?_ | refine kA ?_ _)); exact BK275.out) hb); have n2_ := aM (kB (g := gb276) (o := .cells #[.int .i64 a0_7, .int .i64 a0_8, .int .i64 a0_9, .int .i64 a0_10, .slice A0_11 l0_11.length c0_11] 29 (0, 0)) (by (with_reducible repeat (first | refine kN ?_ _ | refine kD ?_ | refine kA ?_ _)); exact BK276.out) hb); have n3_ := aM (bT (by repeat (first | (with_reducible first | exact HB.out | apply bA | apply bN | apply bE | refine bS ?_ GE274.out | refine bS ?_ GE275.out | refine bS ?_ GE276.out) | exact HB.out)) hb); clear BK274; clear BK275; clear BK276; clear HB; have BK274 := n0_; have BK275 := n1_; have BK276 := n2_; have HB := n3_; clear n0_ n1_ n2_ n3_; (try clear hb); (try clear hb2); (try clear hk); (try clear hi); obtain ⟨hcz104_0, hcz104_1, hcz104_2, hcz104_3, hcz104_4, hcz104_5, hcz104_6, hcz104_7, hcz104_8, hcz104_9, hcz104_10, hcz104_11, hcz104_12⟩ := blk_c13 BK274.out; obtain ⟨hfz104_0, hfz104_1, hfz104_2, hfz104_3, hfz104_4, hfz104_5, hfz104_6, hfz104_7, hfz104_8, hfz104_9, hfz104_10, hfz104_11, hfz104_12⟩ := blk_f13 BK274.out) | (go_at_call 104; (with_reducible refine (impl_keptOk.calls kj1 _ _ l0_12 true _ ?side1 ?side2 A77.out).mono ?_); (case side1 => repeat (first | exact (cB HR0_12.out HB.out) | (with_reducible refine cA ?_ _) | (with_reducible refine cN ?_ _) | (with_reducible refine cD ?_))); (case side2 => exact HC0_12.out); rintro e w105 ⟨rfl, hb⟩; have n0_ := aM (kB (g := gb274) (o := .cells #[.int .i64 a0_0, .int .i64 a0_1, .int .i64 a0_2, .int .i64 a0_3, .bool a0_4, .slice A0_5 l0_5.length c0_5, .slice A0_6 l0_6.length c0_6, .int .i64 a0_7, .int .i64 a0_8, .int .i64 a0_9, .int .i64 a0_10, .slice A0_11 l0_11.length c0_11, .slice A0_12 l0_12.length c0_12] 74 (0, 0)) (by (with_reducible repeat (first | refine kN ?_ _ | refine kD ?_ | refine kA ?_ _)); exact BK274.out) hb); have n1_ := aM (kB (g := gb275) (o := .cells #[.int .i64 a0_0, .int .i64 a0_1, .int .i64 a0_2, .int .i64 a0_3, .bool a0_4] 39 (0, 0)) (by (with_reducible repeat (first | refine kN ?_ _ | refine kD ?_ | refine kA ?_ _)); exact BK275.out) hb); have n2_ := aM (kB (g := gb276) (o := .cells #[.int .i64 a0_7, .int .i64 a0_8, .int .i64 a0_9, .int .i64 a0_10, .slice A0_11 l0_11.length c0_11] 29 (0, 0)) (by (with_reducible repeat (first | refine kN ?_ _ | refine kD ?_ | refine kA ?_ _)); exact BK276.out) hb); have n3_ := aM (bT (by repeat (first | (with_reducible first | exact HB.out | apply bA | apply bN | apply bE | refine bS ?_ GE274.out | refine bS ?_ GE275.out | refine bS ?_ GE276.out) | exact HB.out)) hb); clear BK274; clear BK275; clear BK276; clear HB; have BK274 := n0_; have BK275 := n1_; have BK276 := n2_; have HB := n3_; clear n0_ n1_ n2_ n3_; (try clear hb); (try clear hb2); (try clear hk); (try clear hi); obtain ⟨hcz106_0, hcz106_1, hcz106_2, hcz106_3, hcz106_4⟩ := blk_c5 BK275.out; obtain ⟨hfz106_0, hfz106_1, hfz106_2, hfz106_3, hfz106_4⟩ := blk_f5 BK275.out))
        go_ret
        exact ⟨by first | rfl | (simp [errW_none, errW_some] <;> rfl) | (simp [*, errW_none, errW_some] <;> rfl), by repeat (first | (with_reducible first | exact HB.out | apply bA | apply bN | apply bE | refine bS ?_ GE274.out | refine bS ?_ GE275.out | refine bS ?_ GE276.out) | exact HB.out)⟩
      ·replace c78 := Bool.eq_false_iff.mpr c78
       subst c78
       have H1 : (some false) = some r := by rw [if_neg (show ¬ (false = true) by decide)] at H; first | done | exact H
       clear H
       have H := H1
       clear H1
       obtain rfl := Option.some.inj H
       have hnb107 := NB275_274.out
       have hnc107 := NB274_275.out
       have hnb108 := NB275_276.out
       have hnc108 := NB276_275.out
       obtain ⟨hcz109_0, hcz109_1, hcz109_2, hcz109_3, hcz109_4⟩ := blk_c5 BK275.out
       obtain ⟨hfz109_0, hfz109_1, hfz109_2, hfz109_3, hfz109_4⟩ := blk_f5 BK275.out
       have hnb110 := NB274_276.out
       have hnc110 := NB276_274.out
       obtain ⟨hcz111_0, hcz111_1, hcz111_2, hcz111_3, hcz111_4, hcz111_5, hcz111_6, hcz111_7, hcz111_8, hcz111_9, hcz111_10, hcz111_11, hcz111_12⟩ := blk_c13 BK274.out
       obtain ⟨hfz111_0, hfz111_1, hfz111_2, hfz111_3, hfz111_4, hfz111_5, hfz111_6, hfz111_7, hfz111_8, hfz111_9, hfz111_10, hfz111_11, hfz111_12⟩ := blk_f13 BK274.out
       go_wp2_with (first | ((with_reducible refine gate_callee (f := 103) rfl ?_); refine goesL_ (some 48) rfl rfl Try.func103 (by kernel_rfl) rfl #[.agg #[.int .i64 a0_0, .int .i64 a0_1, .int .i64 a0_2, .int .i64 a0_3, .bool a0_4], .slice A0_5 l0_5.length c0_5] rfl (by (try simp only [lM, List.map_cons, List.map_nil]); first | done | rfl | (simp only [lD, lT]; rfl)) ?_; (with_reducible refine (impl_tableOk.calls kj1 a0_0 a0_1 a0_2 a0_3 a0_4 _ _ l0_5 true _ ?side1 ?side2 A73.out).mono ?_); (case side1 => repeat (first | exact (cB HR0_5.out HB.out) | (with_reducible refine cA ?_ _) | (with_reducible refine cN ?_ _) | (with_reducible refine cD ?_))); (case side2 => exact HC0_5.out); rintro e w112 ⟨rfl, hb⟩; refine ⟨_, rfl, ?_⟩; have n0_ := aM (kB (g := gb274) (o := .cells #[.int .i64 a0_0, .int .i64 a0_1, .int .i64 a0_2, .int .i64 a0_3, .bool a0_4, .slice A0_5 l0_5.length c0_5, .slice A0_6 l0_6.length c0_6, .int .i64 a0_7, .int .i64 a0_8, .int .i64 a0_9, .int .i64 a0_10, .slice A0_11 l0_11.length c0_11, .slice A0_12 l0_12.length c0_12] 74 (0, 0)) (by (with_reducible repeat (first | refine kN ?_ _ | refine kD ?_ | refine kA ?_ _)); exact BK274.out) hb); have n1_ := aM (kB (g := gb275) (o := .cells #[.int .i64 a0_0, .int .i64 a0_1, .int .i64 a0_2, .int .i64 a0_3, .bool a0_4] 39 (0, 0)) (by (with_reducible repeat (first | refine kN ?_ _ | refine kD ?_ | refine kA ?_ _)); exact BK275.out) hb); have n2_ := aM (kB (g := gb276) (o := .cells #[.int .i64 a0_7, .int .i64 a0_8, .int .i64 a0_9, .int .i64 a0_10, .slice A0_11 l0_11.length c0_11] 29 (0, 0)) (by (with_reducible repeat (first | refine kN ?_ _ | refine kD ?_ | refine kA ?_ _)); exact BK276.out) hb); have n3_ := aM (bT (by repeat (first | (with_reducible first | exact HB.out | apply bA | apply bN | apply bE | refine bS ?_ GE274.out | refine bS ?_ GE275.out | refine bS ?_ GE276.out) | exact HB.out)) hb); clear BK274; clear BK275; clear BK276; clear HB; have BK274 := n0_; have BK275 := n1_; have BK276 := n2_; have HB := n3_; clear n0_ n1_ n2_ n3_; (try clear hb); (try clear hb2); (try clear hk); (try clear hi); obtain ⟨hcz113_0, hcz113_1, hcz113_2, hcz113_3, hcz113_4⟩ := blk_c5 BK275.out; obtain ⟨hfz113_0, hfz113_1, hfz113_2, hfz113_3, hfz113_4⟩ := blk_f5 BK275.out; obtain ⟨hcz114_0, hcz114_1, hcz114_2, hcz114_3, hcz114_4, hcz114_5, hcz114_6, hcz114_7, hcz114_8, hcz114_9, hcz114_10, hcz114_11, hcz114_12⟩ := blk_c13 BK274.out; obtain ⟨hfz114_0, hfz114_1, hfz114_2, hfz114_3, hfz114_4, hfz114_5, hfz114_6, hfz114_7, hfz114_8, hfz114_9, hfz114_10, hfz114_11, hfz114_12⟩ := blk_f13 BK274.out) | (go_at_call 84; (with_reducible refine (impl_ClearOk.calls kj1 a0_0 a0_1 a0_2 a0_3 a0_4 (l0_5.length : Int) _ _ l0_6 true _ ?side1 ?side2 A75.out).mono ?_); (case side1 => repeat (first | exact (cB HR0_6.out HB.out) | (with_reducible refine cA ?_ _) | (with_reducible refine cN ?_ _) | (with_reducible refine cD ?_))); (case side2 => exact HC0_6.out); rintro e w115 ⟨rfl, hb⟩; have n0_ := aM (kB (g := gb274) (o := .cells #[.int .i64 a0_0, .int .i64 a0_1, .int .i64 a0_2, .int .i64 a0_3, .bool a0_4, .slice A0_5 l0_5.length c0_5, .slice A0_6 l0_6.length c0_6, .int .i64 a0_7, .int .i64 a0_8, .int .i64 a0_9, .int .i64 a0_10, .slice A0_11 l0_11.length c0_11, .slice A0_12 l0_12.length c0_12] 74 (0, 0)) (by (with_reducible repeat (first | refine kN ?_ _ | refine kD ?_ | refine kA ?_ _)); exact BK274.out) hb); have n1_ := aM (kB (g := gb275) (o := .cells #[.int .i64 a0_0, .int .i64 a0_1, .int .i64 a0_2, .int .i64 a0_3, .bool a0_4] 39 (0, 0)) (by (with_reducible repeat (first | refine kN ?_ _ | refine kD ?_ | refine kA ?_ _)); exact BK275.out) hb); have n2_ := aM (kB (g := gb276) (o := .cells #[.int .i64 a0_7, .int .i64 a0_8, .int .i64 a0_9, .int .i64 a0_10, .slice A0_11 l0_11.length c0_11] 29 (0, 0)) (by (with_reducible repeat (first | refine kN ?_ _ | refine kD ?_ | refine kA ?_ _)); exact BK276.out) hb); have n3_ := aM (bT (by repeat (first | (with_reducible first | exact HB.out | apply bA | apply bN | apply bE | refine bS ?_ GE274.out | refine bS ?_ GE275.out | refine bS ?_ GE276.out) | exact HB.out)) hb); clear BK274; clear BK275; clear BK276; clear HB; have BK274 := n0_; have BK275 := n1_; have BK276 := n2_; have HB := n3_; clear n0_ n1_ n2_ n3_; (try clear hb); (try clear hb2); (try clear hk); (try clear hi); obtain ⟨hcz116_0, hcz116_1, hcz116_2, hcz116_3, hcz116_4, hcz116_5, hcz116_6, hcz116_7, hcz116_8, hcz116_9, hcz116_10, hcz116_11, hcz116_12⟩ := blk_c13 BK274.out; obtain ⟨hfz116_0, hfz116_1, hfz116_2, hfz116_3, hfz116_4, hfz116_5, hfz116_6, hfz116_7, hfz116_8, hfz116_9, hfz116_10, hfz116_11, hfz116_12⟩ := blk_f13 BK274.out) | (go_at_call 104; (with_reducible refine (impl_keptOk.calls kj1 _ _ l0_12 false _ ?side1 ?side2 A77.out).mono ?_); (case side1 => repeat (first | exact (cB HR0_12.out HB.out) | (with_reducible refine cA ?_ _) | (with_reducible refine cN ?_ _) | (with_reducible refine cD ?_))); (case side2 => exact HC0_12.out); rintro e w117 ⟨rfl, hb⟩; have n0_ := aM (kB (g := gb274) (o := .cells #[.int .i64 a0_0, .int .i64 a0_1, .int .i64 a0_2, .int .i64 a0_3, .bool a0_4, .slice A0_5 l0_5.length c0_5, .slice A0_6 l0_6.length c0_6, .int .i64 a0_7, .int .i64 a0_8, .int .i64 a0_9, .int .i64 a0_10, .slice A0_11 l0_11.length c0_11, .slice A0_12 l0_12.length c0_12] 74 (0, 0)) (by (with_reducible repeat (first | refine kN ?_ _ | refine kD ?_ | refine kA ?_ _)); exact BK274.out) hb); have n1_ := aM (kB (g := gb275) (o := .cells #[.int .i64 a0_0, .int .i64 a0_1, .int .i64 a0_2, .int .i64 a0_3, .bool a0_4] 39 (0, 0)) (by (with_reducible repeat (first | refine kN ?_ _ | refine kD ?_ | refine kA ?_ _)); exact BK275.out) hb); have n2_ := aM (kB (g := gb276) (o := .cells #[.int .i64 a0_7, .int .i64 a0_8, .int .i64 a0_9, .int .i64 a0_10, .slice A0_11 l0_11.length c0_11] 29 (0, 0)) (by (with_reducible repeat (first | refine kN ?_ _ | refine kD ?_ | refine kA ?_ _)); exact BK276.out) hb); have n3_ := aM (bT (by repeat (first | (with_reducible first | exact HB.out | apply bA | apply bN | apply bE | refine bS ?_ GE274.out | refine bS ?_ GE275.out | refine bS ?_ GE276.out) | exact HB.out)) hb); clear BK274; clear BK275; clear BK276; clear HB; have BK274 := n0_; have BK275 := n1_; have BK276 := n2_; have HB := n3_; clear n0_ n1_ n2_ n3_; (try clear hb); (try clear hb2); (try clear hk); (try clear hi)))
       go_ret
       exact ⟨by first | rfl | (simp [errW_none, errW_some] <;> rfl) | (simp [*, errW_none, errW_some] <;> rfl), by repeat (first | (with_reducible first | exact HB.out | apply bA | apply bN | apply bE | refine bS ?_ GE274.out | refine bS ?_ GE275.out | refine bS ?_ GE276.out) | exact HB.out)⟩
     ·replace c76 := Bool.eq_false_iff.mpr c76
      subst c76
      have H1 : (some false) = some r := by rw [if_neg (show ¬ (false = true) by decide)] at H; first | done | exact H
      clear H
      have H := H1
      clear H1
      obtain rfl := Option.some.inj H
      have hnb118 := NB275_274.out
      have hnc118 := NB274_275.out
      have hnb119 := NB275_276.out
      have hnc119 := NB276_275.out
      obtain ⟨hcz120_0, hcz120_1, hcz120_2, hcz120_3, hcz120_4⟩ := blk_c5 BK275.out
      obtain ⟨hfz120_0, hfz120_1, hfz120_2, hfz120_3, hfz120_4⟩ := blk_f5 BK275.out
      have hnb121 := NB274_276.out
      have hnc121 := NB276_274.out
      obtain ⟨hcz122_0, hcz122_1, hcz122_2, hcz122_3, hcz122_4, hcz122_5, hcz122_6, hcz122_7, hcz122_8, hcz122_9, hcz122_10, hcz122_11, hcz122_12⟩ := blk_c13 BK274.out
      obtain ⟨hfz122_0, hfz122_1, hfz122_2, hfz122_3, hfz122_4, hfz122_5, hfz122_6, hfz122_7, hfz122_8, hfz122_9, hfz122_10, hfz122_11, hfz122_12⟩ := blk_f13 BK274.out
      go_wp2_with (first | ((with_reducible refine gate_callee (f := 103) rfl ?_); refine goesL_ (some 48) rfl rfl Try.func103 (by kernel_rfl) rfl #[.agg #[.int .i64 a0_0, .int .i64 a0_1, .int .i64 a0_2, .int .i64 a0_3, .bool a0_4], .slice A0_5 l0_5.length c0_5] rfl (by (try simp only [lM, List.map_cons, List.map_nil]); first | done | rfl | (simp only [lD, lT]; rfl)) ?_; (with_reducible refine (impl_tableOk.calls kj1 a0_0 a0_1 a0_2 a0_3 a0_4 _ _ l0_5 true _ ?side1 ?side2 A73.out).mono ?_); (case side1 => repeat (first | exact (cB HR0_5.out HB.out) | (with_reducible refine cA ?_ _) | (with_reducible refine cN ?_ _) | (with_reducible refine cD ?_))); (case side2 => exact HC0_5.out); rintro e w123 ⟨rfl, hb⟩; refine ⟨_, rfl, ?_⟩; have n0_ := aM (kB (g := gb274) (o := .cells #[.int .i64 a0_0, .int .i64 a0_1, .int .i64 a0_2, .int .i64 a0_3, .bool a0_4, .slice A0_5 l0_5.length c0_5, .slice A0_6 l0_6.length c0_6, .int .i64 a0_7, .int .i64 a0_8, .int .i64 a0_9, .int .i64 a0_10, .slice A0_11 l0_11.length c0_11, .slice A0_12 l0_12.length c0_12] 74 (0, 0)) (by (with_reducible repeat (first | refine kN ?_ _ | refine kD ?_ | refine kA ?_ _)); exact BK274.out) hb); have n1_ := aM (kB (g := gb275) (o := .cells #[.int .i64 a0_0, .int .i64 a0_1, .int .i64 a0_2, .int .i64 a0_3, .bool a0_4] 39 (0, 0)) (by (with_reducible repeat (first | refine kN ?_ _ | refine kD ?_ | refine kA ?_ _)); exact BK275.out) hb); have n2_ := aM (kB (g := gb276) (o := .cells #[.int .i64 a0_7, .int .i64 a0_8, .int .i64 a0_9, .int .i64 a0_10, .slice A0_11 l0_11.length c0_11] 29 (0, 0)) (by (with_reducible repeat (first | refine kN ?_ _ | refine kD ?_ | refine kA ?_ _)); exact BK276.out) hb); have n3_ := aM (bT (by repeat (first | (with_reducible first | exact HB.out | apply bA | apply bN | apply bE | refine bS ?_ GE274.out | refine bS ?_ GE275.out | refine bS ?_ GE276.out) | exact HB.out)) hb); clear BK274; clear BK275; clear BK276; clear HB; have BK274 := n0_; have BK275 := n1_; have BK276 := n2_; have HB := n3_; clear n0_ n1_ n2_ n3_; (try clear hb); (try clear hb2); (try clear hk); (try clear hi); obtain ⟨hcz124_0, hcz124_1, hcz124_2, hcz124_3, hcz124_4⟩ := blk_c5 BK275.out; obtain ⟨hfz124_0, hfz124_1, hfz124_2, hfz124_3, hfz124_4⟩ := blk_f5 BK275.out; obtain ⟨hcz125_0, hcz125_1, hcz125_2, hcz125_3, hcz125_4, hcz125_5, hcz125_6, hcz125_7, hcz125_8, hcz125_9, hcz125_10, hcz125_11, hcz125_12⟩ := blk_c13 BK274.out; obtain ⟨hfz125_0, hfz125_1, hfz125_2, hfz125_3, hfz125_4, hfz125_5, hfz125_6, hfz125_7, hfz125_8, hfz125_9, hfz125_10, hfz125_11, hfz125_12⟩ := blk_f13 BK274.out) | (go_at_call 84; (with_reducible refine (impl_ClearOk.calls kj1 a0_0 a0_1 a0_2 a0_3 a0_4 (l0_5.length : Int) _ _ l0_6 false _ ?side1 ?side2 A75.out).mono ?_); (case side1 => repeat (first | exact (cB HR0_6.out HB.out) | (with_reducible refine cA ?_ _) | (with_reducible refine cN ?_ _) | (with_reducible refine cD ?_))); (case side2 => exact HC0_6.out); rintro e w126 ⟨rfl, hb⟩; have n0_ := aM (kB (g := gb274) (o := .cells #[.int .i64 a0_0, .int .i64 a0_1, .int .i64 a0_2, .int .i64 a0_3, .bool a0_4, .slice A0_5 l0_5.length c0_5, .slice A0_6 l0_6.length c0_6, .int .i64 a0_7, .int .i64 a0_8, .int .i64 a0_9, .int .i64 a0_10, .slice A0_11 l0_11.length c0_11, .slice A0_12 l0_12.length c0_12] 74 (0, 0)) (by (with_reducible repeat (first | refine kN ?_ _ | refine kD ?_ | refine kA ?_ _)); exact BK274.out) hb); have n1_ := aM (kB (g := gb275) (o := .cells #[.int .i64 a0_0, .int .i64 a0_1, .int .i64 a0_2, .int .i64 a0_3, .bool a0_4] 39 (0, 0)) (by (with_reducible repeat (first | refine kN ?_ _ | refine kD ?_ | refine kA ?_ _)); exact BK275.out) hb); have n2_ := aM (kB (g := gb276) (o := .cells #[.int .i64 a0_7, .int .i64 a0_8, .int .i64 a0_9, .int .i64 a0_10, .slice A0_11 l0_11.length c0_11] 29 (0, 0)) (by (with_reducible repeat (first | refine kN ?_ _ | refine kD ?_ | refine kA ?_ _)); exact BK276.out) hb); have n3_ := aM (bT (by repeat (first | (with_reducible first | exact HB.out | apply bA | apply bN | apply bE | refine bS ?_ GE274.out | refine bS ?_ GE275.out | refine bS ?_ GE276.out) | exact HB.out)) hb); clear BK274; clear BK275; clear BK276; clear HB; have BK274 := n0_; have BK275 := n1_; have BK276 := n2_; have HB := n3_; clear n0_ n1_ n2_ n3_; (try clear hb); (try clear hb2); (try clear hk); (try clear hi)))
      go_ret
      exact ⟨by first | rfl | (simp [errW_none, errW_some] <;> rfl) | (simp [*, errW_none, errW_some] <;> rfl), by repeat (first | (with_reducible first | exact HB.out | apply bA | apply bN | apply bE | refine bS ?_ GE274.out | refine bS ?_ GE275.out | refine bS ?_ GE276.out) | exact HB.out)⟩
    ·replace c74 := Bool.eq_false_iff.mpr c74
     subst c74
     have H1 : (some false) = some r := by rw [if_neg (show ¬ (false = true) by decide)] at H; first | done | exact H
     clear H
     have H := H1
     clear H1
     obtain rfl := Option.some.inj H
     have hnb127 := NB275_274.out
     have hnc127 := NB274_275.out
     have hnb128 := NB275_276.out
     have hnc128 := NB276_275.out
     obtain ⟨hcz129_0, hcz129_1, hcz129_2, hcz129_3, hcz129_4⟩ := blk_c5 BK275.out
     obtain ⟨hfz129_0, hfz129_1, hfz129_2, hfz129_3, hfz129_4⟩ := blk_f5 BK275.out
     have hnb130 := NB274_276.out
     have hnc130 := NB276_274.out
     obtain ⟨hcz131_0, hcz131_1, hcz131_2, hcz131_3, hcz131_4, hcz131_5, hcz131_6, hcz131_7, hcz131_8, hcz131_9, hcz131_10, hcz131_11, hcz131_12⟩ := blk_c13 BK274.out
     obtain ⟨hfz131_0, hfz131_1, hfz131_2, hfz131_3, hfz131_4, hfz131_5, hfz131_6, hfz131_7, hfz131_8, hfz131_9, hfz131_10, hfz131_11, hfz131_12⟩ := blk_f13 BK274.out
     go_wp2_with (first | ((with_reducible refine gate_callee (f := 103) rfl ?_); refine goesL_ (some 48) rfl rfl Try.func103 (by kernel_rfl) rfl #[.agg #[.int .i64 a0_0, .int .i64 a0_1, .int .i64 a0_2, .int .i64 a0_3, .bool a0_4], .slice A0_5 l0_5.length c0_5] rfl (by (try simp only [lM, List.map_cons, List.map_nil]); first | done | rfl | (simp only [lD, lT]; rfl)) ?_; (with_reducible refine (impl_tableOk.calls kj1 a0_0 a0_1 a0_2 a0_3 a0_4 _ _ l0_5 false _ ?side1 ?side2 A73.out).mono ?_); (case side1 => repeat (first | exact (cB HR0_5.out HB.out) | (with_reducible refine cA ?_ _) | (with_reducible refine cN ?_ _) | (with_reducible refine cD ?_))); (case side2 => exact HC0_5.out); rintro e w132 ⟨rfl, hb⟩; refine ⟨_, rfl, ?_⟩; have n0_ := aM (kB (g := gb274) (o := .cells #[.int .i64 a0_0, .int .i64 a0_1, .int .i64 a0_2, .int .i64 a0_3, .bool a0_4, .slice A0_5 l0_5.length c0_5, .slice A0_6 l0_6.length c0_6, .int .i64 a0_7, .int .i64 a0_8, .int .i64 a0_9, .int .i64 a0_10, .slice A0_11 l0_11.length c0_11, .slice A0_12 l0_12.length c0_12] 74 (0, 0)) (by (with_reducible repeat (first | refine kN ?_ _ | refine kD ?_ | refine kA ?_ _)); exact BK274.out) hb); have n1_ := aM (kB (g := gb275) (o := .cells #[.int .i64 a0_0, .int .i64 a0_1, .int .i64 a0_2, .int .i64 a0_3, .bool a0_4] 39 (0, 0)) (by (with_reducible repeat (first | refine kN ?_ _ | refine kD ?_ | refine kA ?_ _)); exact BK275.out) hb); have n2_ := aM (kB (g := gb276) (o := .cells #[.int .i64 a0_7, .int .i64 a0_8, .int .i64 a0_9, .int .i64 a0_10, .slice A0_11 l0_11.length c0_11] 29 (0, 0)) (by (with_reducible repeat (first | refine kN ?_ _ | refine kD ?_ | refine kA ?_ _)); exact BK276.out) hb); have n3_ := aM (bT (by repeat (first | (with_reducible first | exact HB.out | apply bA | apply bN | apply bE | refine bS ?_ GE274.out | refine bS ?_ GE275.out | refine bS ?_ GE276.out) | exact HB.out)) hb); clear BK274; clear BK275; clear BK276; clear HB; have BK274 := n0_; have BK275 := n1_; have BK276 := n2_; have HB := n3_; clear n0_ n1_ n2_ n3_; (try clear hb); (try clear hb2); (try clear hk); (try clear hi)))
     go_ret
     exact ⟨by first | rfl | (simp [errW_none, errW_some] <;> rfl) | (simp [*, errW_none, errW_some] <;> rfl), by repeat (first | (with_reducible first | exact HB.out | apply bA | apply bN | apply bE | refine bS ?_ GE274.out | refine bS ?_ GE275.out | refine bS ?_ GE276.out) | exact HB.out)⟩

end Go.Proofs.Ytajnobmnkbkkgaa.PFnExactPngOk
