/- Walks of functions that the law FnExactScanOf reaches: each call comes to what the Lean function of its name tells. Written by p2.py, a program of this session, by way of the kit's print. -/
import Derived.Test.YtajnobmnkbkkgaaPFnExactScanOfx0
import Derived.Test.YtajnobmnkbkkgaaPFnExactScanOfx13
namespace Go.Proofs.Ytajnobmnkbkkgaa.PFnExactScanOf
open Go.RowKit Go.Proofs.YtajnobmnkbkkgaaW.PrintWords Go.Proofs.YtajnobmnkbkkgaaW.PrintLast Go.Proofs.YtajnobmnkbkkgaaW.PrintMore
attribute [local go_sem] max2_int min2_int max_two min_two max_three min_three max_four min_four   -- for this text's walks alone
set_option linter.unusedVariables false
set_option linter.unusedSimpArgs false

/-! ### spec_FilterRow: function 173 -/
def spec_FilterRow.l0 : Nat → Int → ByteArray → ByteArray → Int → List Int → Int → Option (ByteArray × Bool)
 | 0, _, _, _, _, _, _ => none
 | k + 1, x0, x1, x2, x3, x10, x11 => if x11 < (x1.size : Int) then (if 0 ≤ x11 then (if x1.size ≤ 9223372036854775807 then ((spec_l13Says.f k x0 (bytesOf x1) x2 x3 x11).bind fun t349 => (if x10.length < 140737488355328 then (spec_FilterRow.l0 k x0 x1 x2 x3 (x10 ++ [(wrap64 ((wrap64 ((wrap64 (bt x1 x11)) + 256)) - t349)) % 256]) (wrap64 (x11 + 1))) else (none))) else (none)) else (none)) else (some (strOfNums x10, true))
def spec_FilterRow.f (k : Nat) (a0 : Int) (a1 : ByteArray) (a2 : ByteArray) (a3 : Int) : Option (ByteArray × Bool) := (spec_l13Ok.f a0 a1 a2 a3).bind fun t342 => (if t342 = true then (spec_FilterRow.l0 k a0 a1 a2 a3 (([] : List Int)) 0) else (some ((⟨#[]⟩ : ByteArray), false)))
theorem spec_FilterRow.mono_l : ∀ k, (∀ y0 y1 y2 y3 y4 y5, LeO (spec_FilterRow.l0 k y0 y1 y2 y3 y4 y5) (spec_FilterRow.l0 (k + 1) y0 y1 y2 y3 y4 y5))
 | 0 => fun _ _ _ _ _ _ r h => by simp [spec_FilterRow.l0] at h
 | k + 1 => by
  have ih0 := spec_FilterRow.mono_l k
  ·intro y0 y1 y2 y3 y4 y5
   unfold spec_FilterRow.l0
   repeat' first
   | (with_reducible exact ih0 _ _ _ _ _ _)
   | (with_reducible exact spec_l13Says.mono _ _ _ _ _ _)
   | (with_reducible exact LeO.refl _)
   | (with_reducible exact LeO.none _)
   | (with_reducible refine LeO.ite ?_ ?_)
   | (with_reducible refine LeO.bind ?_ (fun _ => ?_))
   | exact ih0 _ _ _ _ _ _
   | exact spec_l13Says.mono _ _ _ _ _ _
   | exact LeO.none _
   | refine LeO.ite ?_ ?_
   | refine LeO.bind ?_ (fun _ => ?_)
theorem spec_FilterRow.mono : ∀ a0 a1 a2 a3 k, LeO (spec_FilterRow.f k a0 a1 a2 a3) (spec_FilterRow.f (k + 1) a0 a1 a2 a3) := by
 intro a0 a1 a2 a3 k
 have ih0 := spec_FilterRow.mono_l k
 unfold spec_FilterRow.f
 repeat' first
   | (with_reducible exact ih0 _ _ _ _ _ _)
   | (with_reducible exact spec_l13Says.mono _ _ _ _ _ _)
   | (with_reducible exact LeO.refl _)
   | (with_reducible exact LeO.none _)
   | (with_reducible refine LeO.ite ?_ ?_)
   | (with_reducible refine LeO.bind ?_ (fun _ => ?_))
   | exact ih0 _ _ _ _ _ _
   | exact spec_l13Says.mono _ _ _ _ _ _
   | exact LeO.none _
   | refine LeO.ite ?_ ?_
   | refine LeO.bind ?_ (fun _ => ?_)
def spec_FilterRow.T7 : Bool × List (List Nat × List Nat) := (true, [([], []), ([], []), ([], []), ([1, 2], [1, 2]), ([3], [3]), ([4], [4]), ([], []), ([], []), ([7], [7]), ([], []), ([], []), ([], []), ([6, 8, 9, 10, 11], [6, 8, 9, 10, 11]), ([5, 12], [5, 12]), ([13], [13]), ([14], [14]), ([0, 15, 12], [0, 15]), ([16, 16, 0, 1, 2, 3, 4, 5, 6, 7, 8, 9, 10, 11, 12, 13, 14, 15, 16], [0, 16])])
def spec_FilterRow.B7 : List Nat := [0, 0, 0, 6, 14, 30, 0, 0, 128, 0, 0, 0, 4032, 8190, 16382, 32766, 65535, 131071]
theorem spec_FilterRow.tab7 : rtab .any (opsOf Try.f173 7) = spec_FilterRow.T7 := by kernel_rfl
theorem spec_FilterRow.bits7 : waitsOk spec_FilterRow.T7.2 spec_FilterRow.B7 = true := by kernel_rfl
set_option maxHeartbeats 8000000 in
set_option maxRecDepth 100000 in
theorem spec_FilterRow.calls (k : Nat) (a0 : Int) (a1 : ByteArray) (a2 : ByteArray) (a3 : Int) (r1 : ByteArray) (r2 : Bool) (w : World) (h : spec_FilterRow.f k a0 a1 a2 a3 = some (r1, r2)) :
  Calls Try.prog 173 #[.int .i64 a0, .string a1, .string a2, .int .i64 a3] w fun e w' => e = .returned (.tuple #[.string r1, .bool r2]) ∧ Below w.heap.size w w' := by
 have HB := aM (Below.refl w.heap.size w)
 have H : ((spec_l13Ok.f a0 a1 a2 a3).bind fun t342 => (if t342 = true then (spec_FilterRow.l0 k a0 a1 a2 a3 (([] : List Int)) 0) else (some ((⟨#[]⟩ : ByteArray), false)))) = some (r1, r2) := h
 clear h
 replace H := oB.mp H
 obtain ⟨t342, A50, H⟩ := H
 replace H : (if t342 = true then (spec_FilterRow.l0 k a0 a1 a2 a3 (([] : List Int)) 0) else (some ((⟨#[]⟩ : ByteArray), false))) = some (r1, r2) := H
 have A5 := aM A50
 clear A50
 by_cases c6 : t342 = true
 ·subst c6
  have H1 : (spec_FilterRow.l0 k a0 a1 a2 a3 (([] : List Int)) 0) = some (r1, r2) := by rw [if_pos rfl] at H; first | done | exact H
  clear H
  have H := H1
  clear H1
  obtain ⟨y343, hy343⟩ : ∃ y_ : List Int, y_ = (([] : List Int)) := ⟨_, rfl⟩
  replace H : (spec_FilterRow.l0 k a0 a1 a2 a3 y343 0) = some (r1, r2) := by first | (rw [hy343]; with_reducible exact H) | (have H2_ := (Option.bind_some _ _).symm.trans H; rw [hy343]; with_reducible exact H2_) | (have H2_ := (Option.bind_some _ _).symm.trans H; with_reducible exact H2_) | with_reducible exact H | (rw [hy343]; exact H) | exact H
  have Ny343 := aM hy343
  clear hy343
  have H' := aM H
  clear H
  go_enter Try.func173, Try.ntmps173
  go_wp2_with (first | ((with_reducible refine gate_callee (f := 174) rfl ?_); refine goesL_ (some 16) rfl rfl Try.func174 (by kernel_rfl) rfl #[.int .i64 a0, .string a1, .string a2, .int .i64 a3] rfl (by (try simp only [lM, List.map_cons, List.map_nil]); first | done | rfl | (simp only [lD, lT]; rfl)) ?_; (with_reducible refine (spec_l13Ok.calls a0 a1 a2 a3 true _ A5.out).mono ?_); rintro e w' ⟨rfl, ⟨nd, rfl⟩⟩; refine ⟨_, rfl, ?_⟩) | ((with_reducible refine gate_dst (N := 18) rfl ?_); refine Kd.R_lit (Kd.int .u8) _ 5 ?hg (N := 18) ?hd (xs := ([] : List Int)) (inner := []) (ok := fun _ => True) (okp := fun _ => True) ?hr ?hp (fun _ hk => hk) trivial (Below.refl _ _) (Nat.le_refl _) (by simp) ?_; (case hd => rfl); (case hg => rfl); (case hr => first | (go_simp; done) | (go_simp; rfl)); (case hp => exact (Reps.none _ _)); intro v344 w7 ho8 hb hg_ hnew_; clear hg_ hnew_; (first | rw [← Ny343.out] at ho8 | (simp only [Int.reduceToNat] at ho8; rw [← Ny343.out] at ho8)); have n0_ := aM (Kd.R_lower ho8 (bZ (by repeat (first | (with_reducible first | exact HB.out | apply bA | apply bN | apply bE) | exact HB.out)))); have n1_ := aM (bT (by repeat (first | (with_reducible first | exact HB.out | apply bA | apply bN | apply bE) | exact HB.out)) hb); clear HB; have HO345 := n0_; have HB := n1_; clear n0_ n1_; clear hb ho8))
  go_loopg [10, 11] k (fun kq v10 v11 w' => ∃ (x10_1 : List Int) (x11_1 : Int), v11 = .int .i64 x11_1 ∧ Aside0 (spec_FilterRow.l0 kq a0 a1 a2 a3 x10_1 x11_1 = some (r1, r2)) ∧ Aside0 (kq ≤ k) ∧ Aside0 (Kd.R (Kd.int .u8) 5 w' w.heap.size (fun _ => True) v10 x10_1) ∧ Aside0 (Below w.heap.size w w'))
  case atStart => exact ⟨(y343), (0), (by first | rfl | (simp; done) | (simp [*]; done)), H', ⟨Nat.le_refl _⟩, ⟨by (with_reducible repeat (first | apply rA | apply rN | apply rD)); exact HO345.out⟩, ⟨by repeat (first | (with_reducible first | exact HB.out | apply bA | apply bN | apply bE) | exact HB.out)⟩⟩
  case round =>
   clear H'
   try clear c1
   try clear p2
   try clear c6
   obtain ⟨x10_1, x11_1, rfl, HA, HK1, HO_10, HB⟩ := hrel
   cases gk with
   | zero => exact absurd HA.out (by simp [spec_FilterRow.l0])
   | succ k1 =>
    have H := HA.out
    clear HA
    simp only [spec_FilterRow.l0] at H
    by_cases c9 : x11_1 < (a1.size : Int)
    ·rw [if_pos c9] at H
     have c9b0 : decide (x11_1 < (a1.size : Int)) = true := decide_eq_true c9
     clear c9
     by_cases c10 : 0 ≤ x11_1
     ·rw [if_pos c10] at H
      have c10b0 : decide (0 ≤ x11_1) = true := decide_eq_true c10
      clear c10
      by_cases c12 : a1.size ≤ 9223372036854775807
      ·rw [if_pos c12] at H
       have c12b0 := eq_true c12
       have c12b1 : decide (a1.size ≤ 9223372036854775807) = true := decide_eq_true c12
       try have c12b2 : (9223372036854775807 < a1.size) = False := eq_false (Nat.not_lt.2 c12)
       clear c12
       obtain ⟨y346, hy346⟩ : ∃ y_ : List Int, y_ = (bytesOf a1) := ⟨_, rfl⟩
       replace H : ((spec_l13Says.f k1 a0 y346 a2 a3 x11_1).bind fun t349 => (if x10_1.length < 140737488355328 then (spec_FilterRow.l0 k1 a0 a1 a2 a3 (x10_1 ++ [(wrap64 ((wrap64 ((wrap64 (bt a1 x11_1)) + 256)) - t349)) % 256]) (wrap64 (x11_1 + 1))) else (none))) = some (r1, r2) := by first | (rw [hy346]; with_reducible exact H) | (have H2_ := (Option.bind_some _ _).symm.trans H; rw [hy346]; with_reducible exact H2_) | (have H2_ := (Option.bind_some _ _).symm.trans H; with_reducible exact H2_) | with_reducible exact H | (rw [hy346]; exact H) | exact H
       have Ny346 := aM hy346
       clear hy346
       replace H := oB.mp H
       obtain ⟨t349, A130, H⟩ := H
       replace H : (if x10_1.length < 140737488355328 then (spec_FilterRow.l0 k1 a0 a1 a2 a3 (x10_1 ++ [(wrap64 ((wrap64 ((wrap64 (bt a1 x11_1)) + 256)) - t349)) % 256]) (wrap64 (x11_1 + 1))) else (none)) = some (r1, r2) := H
       have A13 := aM A130
       clear A130
       by_cases c14 : x10_1.length < 140737488355328
       ·rw [if_pos c14] at H
        have LMc14 := aM c14
        clear c14
        obtain ⟨y350, hy350⟩ : ∃ y_ : List Int, y_ = (x10_1 ++ [(wrap64 ((wrap64 ((wrap64 (bt a1 x11_1)) + 256)) - t349)) % 256]) := ⟨_, rfl⟩
        replace H : (spec_FilterRow.l0 k1 a0 a1 a2 a3 y350 (wrap64 (x11_1 + 1))) = some (r1, r2) := by first | (rw [hy350]; with_reducible exact H) | (have H2_ := (Option.bind_some _ _).symm.trans H; rw [hy350]; with_reducible exact H2_) | (have H2_ := (Option.bind_some _ _).symm.trans H; with_reducible exact H2_) | with_reducible exact H | (rw [hy350]; exact H) | exact H
        have Ny350 := aM hy350
        clear hy350
        have H' := aM H
        clear H
        try go_wp2
        have n0_ := aM (rD HO_10.out)
        have n1_ := aM (bE HB.out)
        clear HO_10
        clear HB
        have HO_10 := n0_
        have HB := n1_
        clear n0_ n1_
        have p11 : 0 ≤ (x11_1 : Int) := oD (by first | (with_reducible assumption) | assumption)
        have q11 : x11_1 < (a1.size : Int) := oD (by first | (with_reducible assumption) | assumption)
        have hx11 := bt_at a1 x11_1
        replace p11 := eq_true p11
        replace q11 := eq_true q11
        refine start_ (n := 18) (S := fun w' => True) (ds := []) #[false, false, false, false, false, false, false, false, false, false, false, false, false, false, false, false, false, false] (by kernel_rfl) rfl rfl trivial (fun hHeld => ?_); refine with_tabW spec_FilterRow.tab7 spec_FilterRow.bits7 (fun HT_ HW_ => ?_)
        generalize wr.drew = w15 at HO_10 HB hHeld ⊢
        refine pure_ (i := 0) (N := some 25) (v := ?_) (a' := ?_) #[true, false, false, false, false, false, false, false, false, false, false, false, false, false, false, false, false, false] rfl rfl (any_of HT_.out (by kernel_rfl)) (fun _ _ _ h => h) (Or.inl ⟨by rfl, ?_⟩) ?_ ?_
        rotate_left
        ·intro w'
         go_simp
         with_reducible rfl
        rotate_left
        ·simp only [Act.put, lI, lZ, lS, i64_w, i32_w]
         rfl
        refine pure_ (i := 1) (N := some 26) (v := ?_) (a' := ?_) #[true, true, false, false, false, false, false, false, false, false, false, false, false, false, false, false, false, false] rfl rfl (any_of HT_.out (by kernel_rfl)) (fun _ _ _ h => h) (Or.inl ⟨by rfl, ?_⟩) ?_ ?_
        rotate_left
        ·intro w'
         go_simp
         with_reducible rfl
        rotate_left
        ·simp only [Act.put, lI, lZ, lS, i64_w, i32_w]
         rfl
        refine pure_ (i := 2) (N := some 27) (v := ?_) (a' := ?_) #[true, true, true, false, false, false, false, false, false, false, false, false, false, false, false, false, false, false] rfl rfl (any_of HT_.out (by kernel_rfl)) (fun _ _ _ h => h) (Or.inl ⟨by rfl, ?_⟩) ?_ ?_
        rotate_left
        ·intro w'
         go_simp
         with_reducible rfl
        rotate_left
        ·simp only [Act.put, lI, lZ, lS, i64_w, i32_w]
         rfl
        refine pure_ (i := 6) (N := some 31) (v := ?_) (a' := ?_) #[true, true, true, false, false, false, true, false, false, false, false, false, false, false, false, false, false, false] rfl rfl (any_of HT_.out (by kernel_rfl)) (fun _ _ _ h => h) (Or.inl ⟨by rfl, ?_⟩) ?_ ?_
        rotate_left
        ·intro w'
         go_simp
         with_reducible rfl
        rotate_left
        ·simp only [Act.put, lI, lZ, lS, i64_w, i32_w]
         rfl
        refine pure_ (i := 7) (N := some 32) (v := ?_) (a' := ?_) #[true, true, true, false, false, false, true, true, false, false, false, false, false, false, false, false, false, false] rfl rfl (any_of HT_.out (by kernel_rfl)) (fun _ _ _ h => h) (Or.inl ⟨by rfl, ?_⟩) ?_ ?_
        rotate_left
        ·intro w'
         go_simp
         with_reducible rfl
        rotate_left
        ·simp only [Act.put, lI, lZ, lS, i64_w, i32_w]
         rfl
        refine pure_ (i := 9) (N := some 34) (v := ?_) (a' := ?_) #[true, true, true, false, false, false, true, true, false, true, false, false, false, false, false, false, false, false] rfl rfl (any_of HT_.out (by kernel_rfl)) (fun _ _ _ h => h) (Or.inl ⟨by rfl, ?_⟩) ?_ ?_
        rotate_left
        ·intro w'
         go_simp
         with_reducible rfl
        rotate_left
        ·simp only [Act.put, lI, lZ, lS, i64_w, i32_w]
         rfl
        refine pure_ (i := 10) (N := some 35) (v := ?_) (a' := ?_) #[true, true, true, false, false, false, true, true, false, true, true, false, false, false, false, false, false, false] rfl rfl (any_of HT_.out (by kernel_rfl)) (fun _ _ _ h => h) (Or.inl ⟨by rfl, ?_⟩) ?_ ?_
        rotate_left
        ·intro w'
         go_simp
         with_reducible rfl
        rotate_left
        ·simp only [Act.put, lI, lZ, lS, i64_w, i32_w]
         rfl
        refine pure_ (i := 11) (N := some 36) (v := ?_) (a' := ?_) #[true, true, true, false, false, false, true, true, false, true, true, true, false, false, false, false, false, false] rfl rfl (any_of HT_.out (by kernel_rfl)) (fun _ _ _ h => h) (Or.inl ⟨by rfl, ?_⟩) ?_ ?_
        rotate_left
        ·intro w'
         go_simp
         with_reducible rfl
        rotate_left
        ·simp only [Act.put, lI, lZ, lS, i64_w, i32_w]
         rfl
        refine take_ (i := 3) (N := some 28) (v := ?_) (a' := ?_) #[true, true, true, true, false, false, true, true, false, true, true, true, false, false, false, false, false, false] rfl rfl (take_ofW HT_.out HW_.out (by kernel_rfl)) (fun _ _ _ h => h) (Or.inl ⟨by rfl, ?_⟩) hHeld ?_ ?_
        rotate_left
        ·intro w' _
         go_simp
         with_reducible rfl
        rotate_left
        ·simp only [Act.put, lI, lZ, lS, i64_w, i32_w]
         rfl
        refine pure_ (i := 4) (N := some 29) (v := ?_) (a' := ?_) #[true, true, true, true, true, false, true, true, false, true, true, true, false, false, false, false, false, false] rfl rfl (any_of HT_.out (by kernel_rfl)) (fun _ _ _ h => h) (Or.inl ⟨by rfl, ?_⟩) ?_ ?_
        rotate_left
        ·intro w'
         go_simp
         with_reducible rfl
        rotate_left
        ·simp only [Act.put, lI, lZ, lS, i64_w, i32_w]
         rfl
        refine pure_ (i := 5) (N := some 30) (v := ?_) (a' := ?_) #[true, true, true, true, true, true, true, true, false, true, true, true, false, false, false, false, false, false] rfl rfl (any_of HT_.out (by kernel_rfl)) (fun _ _ _ h => h) (Or.inl ⟨by rfl, ?_⟩) ?_ ?_
        rotate_left
        ·intro w'
         go_simp
         with_reducible rfl
        rotate_left
        ·simp only [Act.put, lI, lZ, lS, i64_w, i32_w]
         rfl
        refine one_ (i := 8) (N := some 33) #[true, true, true, true, true, true, true, true, true, true, true, true, false, false, false, false, false, false] rfl rfl (one_of HT_.out (by kernel_rfl)) (by decide) (fun K hK => ?_)
        refine Kd.V_conv_step ?hg (N := 33) ?hd rfl Try.underlying9 Try.underlying36 Try.underlying5 (s := a1) rfl (oD (by first | (with_reducible assumption) | assumption)) (ok := fun k_ => w15.heap.size ≤ k_) (Nat.le_refl _) ?_; (case hd => rfl); (case hg => rfl)
        intro v347 w16 ho17 hb hg_ hnew_
        clear hg_ hnew_
        (first | rw [← Ny346.out] at ho17 | (simp only [Int.reduceToNat] at ho17; rw [← Ny346.out] at ho17))
        have n0_ := aM (Kd.R_below (by (with_reducible repeat (first | apply rA | apply rN | apply rD)); exact HO_10.out) hb)
        have n1_ := aM (Kd.V_lower (Kd.V_mono (ok' := fun k_ => some k_ ≠ (u10 : Value).ownBlock) ho17 (fun k_ hk_ => (Kd.fresh' (Kd.R_lt (by (with_reducible repeat (first | apply rA | apply rN | apply rD)); exact HO_10.out)) k_ hk_))) (bZ (by repeat (first | (with_reducible first | exact HB.out | apply bA | apply bN | apply bE) | exact HB.out))))
        have n2_ := aM (bT (by repeat (first | (with_reducible first | exact HB.out | apply bA | apply bN | apply bE) | exact HB.out)) hb)
        clear HO_10
        clear HB
        have HO_10 := n0_
        have HO348 := n1_
        have HB := n2_
        clear n0_ n1_ n2_
        clear hb ho17
        obtain ⟨Ao18, co18, eo18⟩ := Kd.V_slice HO348.out
        (first | subst eo18 | (injection eo18 with f1_ f2_ f3_; have f4_ := f1_.symm; have f5_ := f3_.symm; clear f1_ f2_ f3_; subst f4_; subst f5_))
        refine hK.out _ _ trivial (fun hHeld => ?_)
        clear hK K
        refine norm_ (a' := ?_) ?_ ?_
        rotate_left
        ·show Act.put _ (some 33) _ = _
         simp only [Act.put, lI, lZ, lS, i64_w, i32_w]
         rfl
        refine one_ (i := 12) (N := some 37) #[true, true, true, true, true, true, true, true, true, true, true, true, true, false, false, false, false, false] rfl rfl (one_of HT_.out (by kernel_rfl)) (by decide) (fun K hK => ?_)
        refine goes_ Try.func175 (by kernel_rfl) rfl #[.int .i64 a0, .slice Ao18 y346.length co18, .string a2, .int .i64 a3, .int .i64 x11_1] (by rfl) rfl rfl (by (try simp only [lM, List.map_cons, List.map_nil]); first | done | rfl | (simp only [lD, lT]; rfl)) ?_
        with_reducible refine (spec_l13Says.calls k1 a0 _ _ y346 a2 a3 x11_1 t349 _ ?side1 ?side2 A13.out).mono ?_
        (case side1 => repeat (first | exact (Kd.V_reads' HO348.out).2.2 | (with_reducible refine cA ?_ _) | (with_reducible refine cN ?_ _) | (with_reducible refine cD ?_)))
        (case side2 => exact (Kd.V_reads' HO348.out).2.1)
        rintro e w' ⟨rfl, ⟨nd, rfl⟩⟩
        refine ⟨_, rfl, ?_⟩
        refine hK.out _ _ trivial (fun hHeld => ?_)
        clear hK K
        refine norm_ (a' := ?_) ?_ ?_
        rotate_left
        ·show Act.put _ (some 37) _ = _
         simp only [Act.put, lI, lZ, lS, i64_w, i32_w]
         rfl
        refine pure_ (i := 13) (N := some 38) (v := ?_) (a' := ?_) #[true, true, true, true, true, true, true, true, true, true, true, true, true, true, false, false, false, false] rfl rfl (any_of HT_.out (by kernel_rfl)) (fun _ _ _ h => h) (Or.inl ⟨by rfl, ?_⟩) ?_ ?_
        rotate_left
        ·intro w'
         go_simp
         with_reducible rfl
        rotate_left
        ·simp only [Act.put, lI, lZ, lS, i64_w, i32_w]
         rfl
        refine pure_ (i := 14) (N := some 39) (v := ?_) (a' := ?_) #[true, true, true, true, true, true, true, true, true, true, true, true, true, true, true, false, false, false] rfl rfl (any_of HT_.out (by kernel_rfl)) (fun _ _ _ h => h) (Or.inl ⟨by rfl, ?_⟩) ?_ ?_
        rotate_left
        ·intro w'
         go_simp
         with_reducible rfl
        rotate_left
        ·simp only [Act.put, lI, lZ, lS, i64_w, i32_w]
         rfl
        refine one_ (i := 15) (N := some 40) #[true, true, true, true, true, true, true, true, true, true, true, true, true, true, true, true, false, false] rfl rfl (one_of HT_.out (by kernel_rfl)) (by decide) (fun K hK => ?_)
        refine value_ (w1 := ?_) (v := ?_) (by rfl) rfl ?_ ?_
        rotate_left 2
        ·go_simp
         constructor
         ·rfl
         ·rfl
        refine hK.out _ _ trivial (fun hHeld => ?_)
        clear hK K
        refine norm_ (a' := ?_) ?_ ?_
        rotate_left
        ·show Act.put _ (some 40) _ = _
         simp only [Act.put, lI, lZ, lS, i64_w, i32_w]
         rfl
        refine one_ (i := 16) (N := some 41) #[true, true, true, true, true, true, true, true, true, true, true, true, true, true, true, true, true, false] rfl rfl (one_of HT_.out (by kernel_rfl)) (by decide) (fun K hK => ?_)
        refine Kd.R_append_step (Kd.int .u8) (w0 := w) w.heap.size (by rfl) (.tmp 25) (.tmp 40) 36 5 (.int .u8 0) 1 rfl Try.underlying36 info5 rfl (by decide) (by omega) u10 x10_1 ((wrap64 ((wrap64 ((wrap64 (bt a1 x11_1)) + 256)) - t349)) % 256) [.int .u8 ((wrap64 ((wrap64 ((wrap64 (bt a1 x11_1)) + 256)) - t349)) % 256)] (fun _ => True) (fun _ => False) rfl rfl ?aP (fun _ hk => hk.elim) ?aF ?aO ?aB ?aS ?aL ?_
        (case aP => exact rfl)
        (case aB => exact (by repeat (first | (with_reducible first | exact HB.out | apply bA | apply bN | apply bE) | exact HB.out)))
        (case aF => exact (fun _ _ => trivial))
        (case aO => exact (by (with_reducible repeat (first | apply rA | apply rN | apply rD)); exact HO_10.out))
        (case aS => exact (bZ (by repeat (first | (with_reducible first | exact HB.out | apply bA | apply bN | apply bE) | exact HB.out))))
        (case aL => have := LMc14.out; omega)
        intro v351 w19 ho hb hg hat
        rw [← Ny350.out] at ho
        have n0_ := aM (Kd.V_afterv (ok := (fun _ => True)) (by (with_reducible repeat (first | apply Kd.V_alloc | apply Kd.V_drewN | apply Kd.V_drew)); exact Kd.V_mono HO348.out (fun _ hk => ⟨trivial, hk⟩)) hg hat)
        have n1_ := aM (hb)
        have n2_ := aM (ho)
        clear HO348
        clear HB
        clear HO_10
        have HO348 := n0_
        have HB := n1_
        have HO352 := n2_
        clear n0_ n1_ n2_
        clear ho hb hg hat
        refine hK.out _ _ trivial (fun hHeld => ?_)
        clear hK K
        refine norm_ (a' := ?_) ?_ ?_
        rotate_left
        ·show Act.put _ (some 41) _ = _
         simp only [Act.put, lI, lZ, lS, i64_w, i32_w]
         rfl
        refine pure_ (i := 17) (N := some 10) (v := ?_) (a' := ?_) #[true, true, true, true, true, true, true, true, true, true, true, true, true, true, true, true, true, true] rfl rfl (any_of HT_.out (by kernel_rfl)) (fun _ _ _ h => h) (Or.inl ⟨by rfl, ?_⟩) ?_ ?_
        rotate_left
        ·intro w'
         go_simp
         with_reducible rfl
        rotate_left
        ·simp only [Act.put, lI, lZ, lS, i64_w, i32_w]
         rfl
        refine done_ (done_of HT_.out (by kernel_rfl)) ?_
        try go_wp2
        go_roundg k1
        case measure => have := HK1.out; omega
        case rel => exact ⟨(y350), (wrap64 (x11_1 + 1)), (by first | rfl | (simp; done) | (simp [*]; done)), H', ⟨by have := HK1.out; omega⟩, ⟨by (with_reducible repeat (first | apply rA | apply rN | apply rD)); exact HO352.out⟩, ⟨by repeat (first | (with_reducible first | exact HB.out | apply bA | apply bN | apply bE) | exact HB.out)⟩⟩
       ·rw [if_neg c14] at H
        exact absurd H (by simp)
      ·rw [if_neg c12] at H
       exact absurd H (by simp)
     ·rw [if_neg c10] at H
      exact absurd H (by simp)
    ·rw [if_neg c9] at H
     have c9b0 : decide (x11_1 < (a1.size : Int)) = false := decide_eq_false c9
     clear c9
     simp only [Option.some.injEq, Prod.mk.injEq] at H
     obtain ⟨rfl, rfl⟩ := H
     have hcv20 := own_string (P := Try.prog) Try.underlying36 Try.underlying5 Try.underlying9 (Kd.own_of_R HO_10.out)
     go_wp2
     go_ret2
     exact ⟨by first | rfl | (simp [errW_none, errW_some] <;> rfl) | (simp [*, errW_none, errW_some] <;> rfl), by repeat (first | (with_reducible first | exact HB.out | apply bA | apply bN | apply bE) | exact HB.out)⟩
 ·replace c6 := Bool.eq_false_iff.mpr c6
  subst c6
  have H1 : (some ((⟨#[]⟩ : ByteArray), false)) = some (r1, r2) := by rw [if_neg (show ¬ (false = true) by decide)] at H; first | done | exact H
  clear H
  have H := H1
  clear H1
  simp only [Option.some.injEq, Prod.mk.injEq] at H
  obtain ⟨rfl, rfl⟩ := H
  go_enter Try.func173, Try.ntmps173
  go_wp2_with (first | ((with_reducible refine gate_callee (f := 174) rfl ?_); refine goesL_ (some 16) rfl rfl Try.func174 (by kernel_rfl) rfl #[.int .i64 a0, .string a1, .string a2, .int .i64 a3] rfl (by (try simp only [lM, List.map_cons, List.map_nil]); first | done | rfl | (simp only [lD, lT]; rfl)) ?_; (with_reducible refine (spec_l13Ok.calls a0 a1 a2 a3 false _ A5.out).mono ?_); rintro e w' ⟨rfl, ⟨nd, rfl⟩⟩; refine ⟨_, rfl, ?_⟩))
  go_ret2
  exact ⟨by first | rfl | (simp [errW_none, errW_some] <;> rfl) | (simp [*, errW_none, errW_some] <;> rfl), by repeat (first | (with_reducible first | exact HB.out | apply bA | apply bN | apply bE) | exact HB.out)⟩

/-! ### spec_RowWeight: function 190 -/
def spec_RowWeight.l0 : Nat → ByteArray → Int → Int → Option (Int)
 | 0, _, _, _ => none
 | k + 1, x0, x3, x4 => if x4 < (x0.size : Int) then (if 0 ≤ x4 then (if (wrap64 (bt x0 x4)) > 127 then (spec_RowWeight.l0 k x0 (wrap64 (x3 + (wrap64 (256 - (wrap64 (bt x0 x4)))))) (wrap64 (x4 + 1))) else (spec_RowWeight.l0 k x0 (wrap64 (x3 + (wrap64 (bt x0 x4)))) (wrap64 (x4 + 1)))) else (none)) else (some x3)
def spec_RowWeight.f (k : Nat) (a0 : ByteArray) : Option (Int) := if (a0.size : Int) > 200 then (some (-1)) else (spec_RowWeight.l0 k a0 0 0)
theorem spec_RowWeight.mono_l : ∀ k, (∀ y0 y1 y2, LeO (spec_RowWeight.l0 k y0 y1 y2) (spec_RowWeight.l0 (k + 1) y0 y1 y2))
 | 0 => fun _ _ _ r h => by simp [spec_RowWeight.l0] at h
 | k + 1 => by
  have ih0 := spec_RowWeight.mono_l k
  ·intro y0 y1 y2
   unfold spec_RowWeight.l0
   repeat' first
   | (with_reducible exact ih0 _ _ _)
   | (with_reducible exact LeO.refl _)
   | (with_reducible exact LeO.none _)
   | (with_reducible refine LeO.ite ?_ ?_)
   | (with_reducible refine LeO.bind ?_ (fun _ => ?_))
   | exact ih0 _ _ _
   | exact LeO.none _
   | refine LeO.ite ?_ ?_
   | refine LeO.bind ?_ (fun _ => ?_)
theorem spec_RowWeight.mono : ∀ a0 k, LeO (spec_RowWeight.f k a0) (spec_RowWeight.f (k + 1) a0) := by
 intro a0 k
 have ih0 := spec_RowWeight.mono_l k
 unfold spec_RowWeight.f
 repeat' first
   | (with_reducible exact ih0 _ _ _)
   | (with_reducible exact LeO.refl _)
   | (with_reducible exact LeO.none _)
   | (with_reducible refine LeO.ite ?_ ?_)
   | (with_reducible refine LeO.bind ?_ (fun _ => ?_))
   | exact ih0 _ _ _
   | exact LeO.none _
   | refine LeO.ite ?_ ?_
   | refine LeO.bind ?_ (fun _ => ?_)
set_option maxHeartbeats 8000000 in
set_option maxRecDepth 100000 in
theorem spec_RowWeight.calls (k : Nat) (a0 : ByteArray) (r : Int) (w : World) (h : spec_RowWeight.f k a0 = some r) :
  Calls Try.prog 190 #[.string a0] w fun e w' => e = .returned (.int .i64 r) ∧ Drawn0 w w' := by
 have H : (if (a0.size : Int) > 200 then (some (-1)) else (spec_RowWeight.l0 k a0 0 0)) = some r := h
 clear h
 by_cases c2 : (a0.size : Int) > 200
 ·rw [if_pos c2] at H
  have c2b0 : decide (200 < (a0.size : Int)) = true := decide_eq_true c2
  have c2b1 : decide (200 < a0.size) = true := decide_eq_true (by omega)
  clear c2
  obtain rfl := Option.some.inj H
  go_enter Try.func190, Try.ntmps190
  go_wp2
  go_ret
  exact ⟨by first | rfl | (simp; done) | (simp [*]; done), by repeat (first | exact Drawn0.refl _ | apply Drawn0.step)⟩
 ·rw [if_neg c2] at H
  have c2b0 : decide (200 < (a0.size : Int)) = false := decide_eq_false c2
  have c2b1 : decide (200 < a0.size) = false := decide_eq_false (by omega)
  clear c2
  have H' := aM H
  clear H
  go_enter Try.func190, Try.ntmps190
  go_wp2
  go_loopg [3, 4] k (fun kq v3 v4 w' => ∃ (x3_1 : Int) (x4_1 : Int), v3 = .int .i64 x3_1 ∧ v4 = .int .i64 x4_1 ∧ Aside0 (spec_RowWeight.l0 kq a0 x3_1 x4_1 = some r) ∧ Aside0 (kq ≤ k) ∧ Drawn0 w w')
  case atStart => exact ⟨(0), (0), (by first | rfl | (simp; done) | (simp [*]; done)), (by first | rfl | (simp; done) | (simp [*]; done)), H', ⟨Nat.le_refl _⟩, by repeat (first | exact Drawn0.refl _ | apply Drawn0.step)⟩
  case round =>
   clear H'
   try clear c1
   try clear c2
   try clear c2b0
   try clear c2b1
   try clear p2
   obtain ⟨x3_1, x4_1, rfl, rfl, HA, HK1, ⟨m1, rfl⟩⟩ := hrel
   cases gk with
   | zero => exact absurd HA.out (by simp [spec_RowWeight.l0])
   | succ k1 =>
    have H := HA.out
    clear HA
    simp only [spec_RowWeight.l0] at H
    by_cases c3 : x4_1 < (a0.size : Int)
    ·rw [if_pos c3] at H
     have c3b0 : decide (x4_1 < (a0.size : Int)) = true := decide_eq_true c3
     clear c3
     by_cases c4 : 0 ≤ x4_1
     ·rw [if_pos c4] at H
      have c4b0 : decide (0 ≤ x4_1) = true := decide_eq_true c4
      clear c4
      by_cases c6 : (wrap64 (bt a0 x4_1)) > 127
      ·rw [if_pos c6] at H
       have c6b0 : decide (127 < (wrap64 (bt a0 x4_1))) = true := decide_eq_true c6
       clear c6
       have H' := aM H
       clear H
       have p5 : 0 ≤ (x4_1 : Int) := oD (by first | (with_reducible assumption) | assumption)
       have q5 : x4_1 < (a0.size : Int) := oD (by first | (with_reducible assumption) | assumption)
       have hx5 := bt_at a0 x4_1
       replace p5 := eq_true p5
       replace q5 := eq_true q5
       go_wp2
       go_roundg k1
       case measure => have := HK1.out; omega
       case rel => exact ⟨(wrap64 (x3_1 + (wrap64 (256 - (wrap64 (bt a0 x4_1)))))), (wrap64 (x4_1 + 1)), (by first | rfl | (simp; done) | (simp [*]; done)), (by first | rfl | (simp; done) | (simp [*]; done)), H', ⟨by have := HK1.out; omega⟩, by repeat (first | exact Drawn0.refl _ | apply Drawn0.step)⟩
      ·rw [if_neg c6] at H
       have c6b0 : decide (127 < (wrap64 (bt a0 x4_1))) = false := decide_eq_false c6
       clear c6
       have H' := aM H
       clear H
       have p5 : 0 ≤ (x4_1 : Int) := oD (by first | (with_reducible assumption) | assumption)
       have q5 : x4_1 < (a0.size : Int) := oD (by first | (with_reducible assumption) | assumption)
       have hx5 := bt_at a0 x4_1
       replace p5 := eq_true p5
       replace q5 := eq_true q5
       go_wp2
       go_roundg k1
       case measure => have := HK1.out; omega
       case rel => exact ⟨(wrap64 (x3_1 + (wrap64 (bt a0 x4_1)))), (wrap64 (x4_1 + 1)), (by first | rfl | (simp; done) | (simp [*]; done)), (by first | rfl | (simp; done) | (simp [*]; done)), H', ⟨by have := HK1.out; omega⟩, by repeat (first | exact Drawn0.refl _ | apply Drawn0.step)⟩
     ·rw [if_neg c4] at H
      exact absurd H (by simp)
    ·rw [if_neg c3] at H
     have c3b0 : decide (x4_1 < (a0.size : Int)) = false := decide_eq_false c3
     clear c3
     obtain rfl := Option.some.inj H
     go_wp2
     go_ret
     exact ⟨by first | rfl | (simp; done) | (simp [*]; done), by repeat (first | exact Drawn0.refl _ | apply Drawn0.step)⟩

/-! ### spec_BestFilter: function 172 -/
def spec_BestFilter.l0 : Nat → ByteArray → ByteArray → Int → Int → Int → Int → Option (Int × Bool)
 | 0, _, _, _, _, _, _ => none
 | k + 1, x0, x1, x2, x8, x9, x10 => if x10 < 5 then ((spec_FilterRow.f k x10 x0 x1 x2).bind fun bt353 => (if bt353.2 = true then (if x9 < 0 then ((spec_RowWeight.f k bt353.1).bind fun t355 => (spec_BestFilter.l0 k x0 x1 x2 x10 t355 (wrap64 (x10 + 1)))) else ((spec_RowWeight.f k bt353.1).bind fun t356 => (if t356 < x9 then ((spec_RowWeight.f k bt353.1).bind fun t357 => (spec_BestFilter.l0 k x0 x1 x2 x10 t357 (wrap64 (x10 + 1)))) else (spec_BestFilter.l0 k x0 x1 x2 x8 x9 (wrap64 (x10 + 1)))))) else (some (0, false)))) else (some (x8, true))
def spec_BestFilter.f (k : Nat) (a0 : ByteArray) (a1 : ByteArray) (a2 : Int) : Option (Int × Bool) := spec_BestFilter.l0 k a0 a1 a2 0 (-1) 0
theorem spec_BestFilter.mono_l : ∀ k, (∀ y0 y1 y2 y3 y4 y5, LeO (spec_BestFilter.l0 k y0 y1 y2 y3 y4 y5) (spec_BestFilter.l0 (k + 1) y0 y1 y2 y3 y4 y5))
 | 0 => fun _ _ _ _ _ _ r h => by simp [spec_BestFilter.l0] at h
 | k + 1 => by
  have ih0 := spec_BestFilter.mono_l k
  ·intro y0 y1 y2 y3 y4 y5
   unfold spec_BestFilter.l0
   repeat' first
   | (with_reducible exact ih0 _ _ _ _ _ _)
   | (with_reducible exact spec_FilterRow.mono _ _ _ _ _)
   | (with_reducible exact spec_RowWeight.mono _ _)
   | (with_reducible exact LeO.refl _)
   | (with_reducible exact LeO.none _)
   | (with_reducible refine LeO.ite ?_ ?_)
   | (with_reducible refine LeO.bind ?_ (fun _ => ?_))
   | exact ih0 _ _ _ _ _ _
   | exact spec_FilterRow.mono _ _ _ _ _
   | exact spec_RowWeight.mono _ _
   | exact LeO.none _
   | refine LeO.ite ?_ ?_
   | refine LeO.bind ?_ (fun _ => ?_)
theorem spec_BestFilter.mono : ∀ a0 a1 a2 k, LeO (spec_BestFilter.f k a0 a1 a2) (spec_BestFilter.f (k + 1) a0 a1 a2) := by
 intro a0 a1 a2 k
 have ih0 := spec_BestFilter.mono_l k
 unfold spec_BestFilter.f
 repeat' first
   | (with_reducible exact ih0 _ _ _ _ _ _)
   | (with_reducible exact spec_FilterRow.mono _ _ _ _ _)
   | (with_reducible exact spec_RowWeight.mono _ _)
   | (with_reducible exact LeO.refl _)
   | (with_reducible exact LeO.none _)
   | (with_reducible refine LeO.ite ?_ ?_)
   | (with_reducible refine LeO.bind ?_ (fun _ => ?_))
   | exact ih0 _ _ _ _ _ _
   | exact spec_FilterRow.mono _ _ _ _ _
   | exact spec_RowWeight.mono _ _
   | exact LeO.none _
   | refine LeO.ite ?_ ?_
   | refine LeO.bind ?_ (fun _ => ?_)
set_option maxHeartbeats 8000000 in
set_option maxRecDepth 100000 in
theorem spec_BestFilter.calls (k : Nat) (a0 : ByteArray) (a1 : ByteArray) (a2 : Int) (r1 : Int) (r2 : Bool) (w : World) (h : spec_BestFilter.f k a0 a1 a2 = some (r1, r2)) :
  Calls Try.prog 172 #[.string a0, .string a1, .int .i64 a2] w fun e w' => e = .returned (.tuple #[.int .i64 r1, .bool r2]) ∧ Below w.heap.size w w' := by
 have HB := aM (Below.refl w.heap.size w)
 have H : (spec_BestFilter.l0 k a0 a1 a2 0 (-1) 0) = some (r1, r2) := h
 clear h
 have H' := aM H
 clear H
 go_enter Try.func172, Try.ntmps172
 go_wp2
 go_loopg [8, 9, 10] k (fun kq v8 v9 v10 w' => ∃ (x8_1 : Int) (x9_1 : Int) (x10_1 : Int), v8 = .int .i64 x8_1 ∧ v9 = .int .i64 x9_1 ∧ v10 = .int .i64 x10_1 ∧ Aside0 (spec_BestFilter.l0 kq a0 a1 a2 x8_1 x9_1 x10_1 = some (r1, r2)) ∧ Aside0 (kq ≤ k) ∧ Aside0 (Below w.heap.size w w'))
 case atStart => exact ⟨(0), ((-1)), (0), (by first | rfl | (simp; done) | (simp [*]; done)), (by first | rfl | (simp; done) | (simp [*]; done)), (by first | rfl | (simp; done) | (simp [*]; done)), H', ⟨Nat.le_refl _⟩, ⟨by repeat (first | (with_reducible first | exact HB.out | apply bA | apply bN | apply bE) | exact HB.out)⟩⟩
 case round =>
  clear H'
  try clear c1
  try clear p2
  obtain ⟨x8_1, x9_1, x10_1, rfl, rfl, rfl, HA, HK1, HB⟩ := hrel
  cases gk with
  | zero => exact absurd HA.out (by simp [spec_BestFilter.l0])
  | succ k1 =>
   have H := HA.out
   clear HA
   simp only [spec_BestFilter.l0] at H
   by_cases c4 : x10_1 < 5
   ·rw [if_pos c4] at H
    have c4b0 : decide (x10_1 < 5) = true := decide_eq_true c4
    clear c4
    replace H := oB.mp H
    obtain ⟨⟨t353, t354⟩, A50, H⟩ := H
    try dsimp only at H
    have A5 := aM A50
    clear A50
    by_cases c6 : t354 = true
    ·subst c6
     have H1 : (if x9_1 < 0 then ((spec_RowWeight.f k1 t353).bind fun t355 => (spec_BestFilter.l0 k1 a0 a1 a2 x10_1 t355 (wrap64 (x10_1 + 1)))) else ((spec_RowWeight.f k1 t353).bind fun t356 => (if t356 < x9_1 then ((spec_RowWeight.f k1 t353).bind fun t357 => (spec_BestFilter.l0 k1 a0 a1 a2 x10_1 t357 (wrap64 (x10_1 + 1)))) else (spec_BestFilter.l0 k1 a0 a1 a2 x8_1 x9_1 (wrap64 (x10_1 + 1)))))) = some (r1, r2) := by rw [if_pos rfl] at H; first | done | exact H
     clear H
     have H := H1
     clear H1
     by_cases c7 : x9_1 < 0
     ·rw [if_pos c7] at H
      have c7b0 : decide (x9_1 < 0) = true := decide_eq_true c7
      clear c7
      replace H := oB.mp H
      obtain ⟨t355, A80, H⟩ := H
      replace H : (spec_BestFilter.l0 k1 a0 a1 a2 x10_1 t355 (wrap64 (x10_1 + 1))) = some (r1, r2) := H
      have A8 := aM A80
      clear A80
      have H' := aM H
      clear H
      go_wp2_with (first | ((with_reducible refine gate_callee (f := 173) rfl ?_); refine goesL_ (some 22) rfl rfl Try.func173 (by kernel_rfl) rfl #[.int .i64 x10_1, .string a0, .string a1, .int .i64 a2] rfl (by (try simp only [lM, List.map_cons, List.map_nil]); first | done | rfl | (simp only [lD, lT]; rfl)) ?_; (with_reducible refine (spec_FilterRow.calls k1 x10_1 a0 a1 a2 t353 true _ A5.out).mono ?_); rintro e w9 ⟨rfl, hb⟩; refine ⟨_, rfl, ?_⟩; have n0_ := aM (bT (by repeat (first | (with_reducible first | exact HB.out | apply bA | apply bN | apply bE) | exact HB.out)) hb); clear HB; have HB := n0_; clear n0_; (try clear hb); (try clear hb2); (try clear hk); (try clear hi)) | ((with_reducible refine gate_callee (f := 190) rfl ?_); refine goesL_ (some 37) rfl rfl Try.func190 (by kernel_rfl) rfl #[.string t353] rfl (by (try simp only [lM, List.map_cons, List.map_nil]); first | done | rfl | (simp only [lD, lT]; rfl)) ?_; (with_reducible refine (spec_RowWeight.calls k1 t353 t355 _ A8.out).mono ?_); rintro e w' ⟨rfl, ⟨nd, rfl⟩⟩; refine ⟨_, rfl, ?_⟩))
      go_roundg k1
      case measure => have := HK1.out; omega
      case rel => exact ⟨(x10_1), (t355), (wrap64 (x10_1 + 1)), (by first | rfl | (simp; done) | (simp [*]; done)), (by first | rfl | (simp; done) | (simp [*]; done)), (by first | rfl | (simp; done) | (simp [*]; done)), H', ⟨by have := HK1.out; omega⟩, ⟨by repeat (first | (with_reducible first | exact HB.out | apply bA | apply bN | apply bE) | exact HB.out)⟩⟩
     ·rw [if_neg c7] at H
      have c7b0 : decide (x9_1 < 0) = false := decide_eq_false c7
      clear c7
      replace H := oB.mp H
      obtain ⟨t356, A100, H⟩ := H
      replace H : (if t356 < x9_1 then ((spec_RowWeight.f k1 t353).bind fun t357 => (spec_BestFilter.l0 k1 a0 a1 a2 x10_1 t357 (wrap64 (x10_1 + 1)))) else (spec_BestFilter.l0 k1 a0 a1 a2 x8_1 x9_1 (wrap64 (x10_1 + 1)))) = some (r1, r2) := H
      have A10 := aM A100
      clear A100
      by_cases c11 : t356 < x9_1
      ·rw [if_pos c11] at H
       have c11b0 : decide (t356 < x9_1) = true := decide_eq_true c11
       clear c11
       replace H := oB.mp H
       obtain ⟨t357, A120, H⟩ := H
       replace H : (spec_BestFilter.l0 k1 a0 a1 a2 x10_1 t357 (wrap64 (x10_1 + 1))) = some (r1, r2) := H
       have A12 := aM A120
       clear A120
       have H' := aM H
       clear H
       go_wp2_with (first | ((with_reducible refine gate_callee (f := 173) rfl ?_); refine goesL_ (some 22) rfl rfl Try.func173 (by kernel_rfl) rfl #[.int .i64 x10_1, .string a0, .string a1, .int .i64 a2] rfl (by (try simp only [lM, List.map_cons, List.map_nil]); first | done | rfl | (simp only [lD, lT]; rfl)) ?_; (with_reducible refine (spec_FilterRow.calls k1 x10_1 a0 a1 a2 t353 true _ A5.out).mono ?_); rintro e w13 ⟨rfl, hb⟩; refine ⟨_, rfl, ?_⟩; have n0_ := aM (bT (by repeat (first | (with_reducible first | exact HB.out | apply bA | apply bN | apply bE) | exact HB.out)) hb); clear HB; have HB := n0_; clear n0_; (try clear hb); (try clear hb2); (try clear hk); (try clear hi)) | (go_at_call 190; (with_reducible refine (spec_RowWeight.calls k1 t353 t356 _ A10.out).mono ?_); rintro e w' ⟨rfl, ⟨nd, rfl⟩⟩) | ((with_reducible refine gate_callee (f := 190) rfl ?_); refine goesL_ (some 37) rfl rfl Try.func190 (by kernel_rfl) rfl #[.string t353] rfl (by (try simp only [lM, List.map_cons, List.map_nil]); first | done | rfl | (simp only [lD, lT]; rfl)) ?_; (with_reducible refine (spec_RowWeight.calls k1 t353 t357 _ A12.out).mono ?_); rintro e w' ⟨rfl, ⟨nd, rfl⟩⟩; refine ⟨_, rfl, ?_⟩))
       go_roundg k1
       case measure => have := HK1.out; omega
       case rel => exact ⟨(x10_1), (t357), (wrap64 (x10_1 + 1)), (by first | rfl | (simp; done) | (simp [*]; done)), (by first | rfl | (simp; done) | (simp [*]; done)), (by first | rfl | (simp; done) | (simp [*]; done)), H', ⟨by have := HK1.out; omega⟩, ⟨by repeat (first | (with_reducible first | exact HB.out | apply bA | apply bN | apply bE) | exact HB.out)⟩⟩
      ·rw [if_neg c11] at H
       have c11b0 : decide (t356 < x9_1) = false := decide_eq_false c11
       clear c11
       have H' := aM H
       clear H
       go_wp2_with (first | ((with_reducible refine gate_callee (f := 173) rfl ?_); refine goesL_ (some 22) rfl rfl Try.func173 (by kernel_rfl) rfl #[.int .i64 x10_1, .string a0, .string a1, .int .i64 a2] rfl (by (try simp only [lM, List.map_cons, List.map_nil]); first | done | rfl | (simp only [lD, lT]; rfl)) ?_; (with_reducible refine (spec_FilterRow.calls k1 x10_1 a0 a1 a2 t353 true _ A5.out).mono ?_); rintro e w14 ⟨rfl, hb⟩; refine ⟨_, rfl, ?_⟩; have n0_ := aM (bT (by repeat (first | (with_reducible first | exact HB.out | apply bA | apply bN | apply bE) | exact HB.out)) hb); clear HB; have HB := n0_; clear n0_; (try clear hb); (try clear hb2); (try clear hk); (try clear hi)) | (go_at_call 190; (with_reducible refine (spec_RowWeight.calls k1 t353 t356 _ A10.out).mono ?_); rintro e w' ⟨rfl, ⟨nd, rfl⟩⟩))
       go_roundg k1
       case measure => have := HK1.out; omega
       case rel => exact ⟨(x8_1), (x9_1), (wrap64 (x10_1 + 1)), (by first | rfl | (simp; done) | (simp [*]; done)), (by first | rfl | (simp; done) | (simp [*]; done)), (by first | rfl | (simp; done) | (simp [*]; done)), H', ⟨by have := HK1.out; omega⟩, ⟨by repeat (first | (with_reducible first | exact HB.out | apply bA | apply bN | apply bE) | exact HB.out)⟩⟩
    ·replace c6 := Bool.eq_false_iff.mpr c6
     subst c6
     have H1 : (some (0, false)) = some (r1, r2) := by rw [if_neg (show ¬ (false = true) by decide)] at H; first | done | exact H
     clear H
     have H := H1
     clear H1
     simp only [Option.some.injEq, Prod.mk.injEq] at H
     obtain ⟨rfl, rfl⟩ := H
     go_wp2_with (first | ((with_reducible refine gate_callee (f := 173) rfl ?_); refine goesL_ (some 22) rfl rfl Try.func173 (by kernel_rfl) rfl #[.int .i64 x10_1, .string a0, .string a1, .int .i64 a2] rfl (by (try simp only [lM, List.map_cons, List.map_nil]); first | done | rfl | (simp only [lD, lT]; rfl)) ?_; (with_reducible refine (spec_FilterRow.calls k1 x10_1 a0 a1 a2 t353 false _ A5.out).mono ?_); rintro e w15 ⟨rfl, hb⟩; refine ⟨_, rfl, ?_⟩; have n0_ := aM (bT (by repeat (first | (with_reducible first | exact HB.out | apply bA | apply bN | apply bE) | exact HB.out)) hb); clear HB; have HB := n0_; clear n0_; (try clear hb); (try clear hb2); (try clear hk); (try clear hi)))
     go_ret2
     exact ⟨by first | rfl | (simp [errW_none, errW_some] <;> rfl) | (simp [*, errW_none, errW_some] <;> rfl), by repeat (first | (with_reducible first | exact HB.out | apply bA | apply bN | apply bE) | exact HB.out)⟩
   ·rw [if_neg c4] at H
    have c4b0 : decide (x10_1 < 5) = false := decide_eq_false c4
    clear c4
    simp only [Option.some.injEq, Prod.mk.injEq] at H
    obtain ⟨rfl, rfl⟩ := H
    go_wp2
    go_ret2
    exact ⟨by first | rfl | (simp [errW_none, errW_some] <;> rfl) | (simp [*, errW_none, errW_some] <;> rfl), by repeat (first | (with_reducible first | exact HB.out | apply bA | apply bN | apply bE) | exact HB.out)⟩

end Go.Proofs.Ytajnobmnkbkkgaa.PFnExactScanOf
