/- Walks of functions that the law FnHeads reaches: each call comes to what the Lean function of its name tells. Written by p2.py, a program of this session, by way of the kit's print. -/
import Derived.Test.YtajnobmnkbkkgaaPFnHeadsx0
import Derived.Test.YtajnobmnkbkkgaaPFnHeadsx5
namespace Go.Proofs.Ytajnobmnkbkkgaa.PFnHeads
open Go.RowKit Go.Proofs.YtajnobmnkbkkgaaW.PrintWords Go.Proofs.YtajnobmnkbkkgaaW.PrintLast Go.Proofs.YtajnobmnkbkkgaaW.PrintMore
attribute [local go_sem] max2_int min2_int max_two min_two max_three min_three max_four min_four   -- for this text's walks alone
set_option linter.unusedVariables false
set_option linter.unusedSimpArgs false

/-! ### impl_ReadHead: function 25 -/
def impl_ReadHead.f (k : Nat) (a0 : ByteArray) : Option (Int × Int × Int × Int × Bool × Bool) := if (a0.size : Int) = 13 then (if 8 < (a0.size : Int) then (if 9 < (a0.size : Int) then (if 12 < (a0.size : Int) then ((impl_ReadBig.f k a0 0 4).bind fun bt232 => ((impl_ReadBig.f k a0 4 4).bind fun bt234 => ((impl_HeadText.f k bt232.1 bt234.1 (wrap64 (bt a0 8)) (wrap64 (bt a0 9)) ((bt a0 12) == 1)).bind fun bt236 => (if bt236.2 = true then (if bt236.1.toList = a0.toList then (some (bt232.1, bt234.1, wrap64 (bt a0 8), wrap64 (bt a0 9), ((bt a0 12) == 1), true)) else (some (0, 0, 0, 0, false, false))) else (some (0, 0, 0, 0, false, false)))))) else (none)) else (none)) else (none)) else (some (0, 0, 0, 0, false, false))
theorem impl_ReadHead.mono : ∀ a0 k, LeO (impl_ReadHead.f k a0) (impl_ReadHead.f (k + 1) a0) := by
 intro a0 k
 unfold impl_ReadHead.f
 repeat' first
   | (with_reducible exact impl_HeadText.mono _ _ _ _ _ _)
   | (with_reducible exact impl_ReadBig.mono _ _ _ _)
   | (with_reducible exact LeO.refl _)
   | (with_reducible exact LeO.none _)
   | (with_reducible refine LeO.ite ?_ ?_)
   | (with_reducible refine LeO.bind ?_ (fun _ => ?_))
   | exact impl_HeadText.mono _ _ _ _ _ _
   | exact impl_ReadBig.mono _ _ _ _
   | exact LeO.none _
   | refine LeO.ite ?_ ?_
   | refine LeO.bind ?_ (fun _ => ?_)
def impl_ReadHead.T3 : Bool × List (List Nat × List Nat) := (true, [([], []), ([0], [0]), ([1], [1]), ([], []), ([3], [3]), ([4], [4]), ([], []), ([6], [6]), ([7], [7]), ([2, 5, 8], [2, 5, 8]), ([], []), ([10, 9, 0, 1, 2, 3, 4, 5, 6, 7, 8, 9, 10], [9, 10])])
def impl_ReadHead.B3 : List Nat := [0, 1, 3, 0, 8, 24, 0, 64, 192, 511, 0, 2047]
theorem impl_ReadHead.tab3 : rtab .any (opsOf Try.f25 3) = impl_ReadHead.T3 := by kernel_rfl
theorem impl_ReadHead.bits3 : waitsOk impl_ReadHead.T3.2 impl_ReadHead.B3 = true := by kernel_rfl
set_option maxHeartbeats 8000000 in
set_option maxRecDepth 100000 in
theorem impl_ReadHead.calls (k : Nat) (a0 : ByteArray) (r1 : Int) (r2 : Int) (r3 : Int) (r4 : Int) (r5 : Bool) (r6 : Bool) (w : World) (h : impl_ReadHead.f k a0 = some (r1, r2, r3, r4, r5, r6)) :
  Calls Try.prog 25 #[.string a0] w fun e w' => e = .returned (.tuple #[.agg #[.int .i64 r1, .int .i64 r2, .int .i64 r3, .int .i64 r4, .bool r5], .bool r6]) ∧ Below w.heap.size w w' := by
 have hu39 := Try.underlying39
 have HB := aM (Below.refl w.heap.size w)
 unfold impl_ReadHead.f at h; have H := h
 clear h
 by_cases c2 : (a0.size : Int) = 13
 ·rw [if_pos c2] at H
  have c2b0 : ((a0.size : Int) == 13) = true := beq_iff_eq.mpr c2
  have c2b1 : ((a0.size : Int) != 13) = false := bne_eq_false_iff_eq.mpr c2
  clear c2
  by_cases c3 : 8 < (a0.size : Int)
  ·rw [if_pos c3] at H
   have c3b0 : decide (8 < (a0.size : Int)) = true := decide_eq_true c3
   have c3b1 : decide (8 < a0.size) = true := decide_eq_true (by omega)
   clear c3
   by_cases c5 : 9 < (a0.size : Int)
   ·rw [if_pos c5] at H
    have c5b0 : decide (9 < (a0.size : Int)) = true := decide_eq_true c5
    have c5b1 : decide (9 < a0.size) = true := decide_eq_true (by omega)
    clear c5
    by_cases c7 : 12 < (a0.size : Int)
    ·rw [if_pos c7] at H
     have c7b0 : decide (12 < (a0.size : Int)) = true := decide_eq_true c7
     have c7b1 : decide (12 < a0.size) = true := decide_eq_true (by omega)
     clear c7
     replace H := oB.mp H
     obtain ⟨⟨t232, t233⟩, A90, H⟩ := H
     try dsimp only at H
     have A9 := aM A90
     clear A90
     replace H := oB.mp H
     obtain ⟨⟨t234, t235⟩, A100, H⟩ := H
     try dsimp only at H
     have A10 := aM A100
     clear A100
     replace H := oB.mp H
     obtain ⟨⟨t236, t237⟩, A110, H⟩ := H
     try dsimp only at H
     have A11 := aM A110
     clear A110
     by_cases c12 : t237 = true
     ·subst c12
      have H1 : (if t236.toList = a0.toList then (some (t232, t234, wrap64 (bt a0 8), wrap64 (bt a0 9), ((bt a0 12) == 1), true)) else (some (0, 0, 0, 0, false, false))) = some (r1, r2, r3, r4, r5, r6) := by rw [if_pos rfl] at H; first | done | exact H
      clear H
      have H := H1
      clear H1
      by_cases c13 : t236.toList = a0.toList
      ·rw [if_pos c13] at H
       have c13b0 : (t236.toList == a0.toList) = true := beq_iff_eq.mpr c13
       have c13b1 : (t236.toList != a0.toList) = false := bne_eq_false_iff_eq.mpr c13
       clear c13
       simp only [Option.some.injEq, Prod.mk.injEq] at H
       obtain ⟨rfl, rfl, rfl, rfl, rfl, rfl⟩ := H
       go_enter Try.func25, Try.ntmps25
       try go_wp2_with (first | ((with_reducible refine gate_dst (N := 2) rfl ?_); refine box_event ?hg (N := 2) ?hd (cs := #[.int .i64 0, .int .i64 0, .int .i64 0, .int .i64 0, .bool false]) (t := 39) ?hr ?_; (case hd => rfl); (case hg => rfl); (case hr => first | (go_simp; done) | (go_simp; rfl)); intro gb230 hg w14 hbox hb; have n0_ := aM (bT (by repeat (first | (with_reducible first | exact HB.out | apply bA | apply bN | apply bE) | exact HB.out)) hb); have n1_ := aM (hbox); have n2_ := aM ((by rw [hg]; exact (bZ (by repeat (first | (with_reducible first | exact HB.out | apply bA | apply bN | apply bE) | exact HB.out))) : w.heap.size ≤ gb230)); have n3_ := aM ((by rw [hg]; exact (bZ (by repeat (first | (with_reducible first | exact HB.out | apply bA | apply bN | apply bE) | exact HB.out))) : w.heap.size ≤ gb230)); clear HB; have HB := n0_; have BK230 := n1_; have GW230 := n2_; have GE230 := n3_; clear n0_ n1_ n2_ n3_; clear hb hbox hg))
       have n0_ := aM (kD BK230.out)
       have n1_ := aM (bE HB.out)
       clear BK230
       clear HB
       have BK230 := n0_
       have HB := n1_
       clear n0_ n1_
       have p4 : 0 ≤ (8 : Int) := (by omega)
       have q4 : 8 < a0.size := (by have : (8 : Int) < (a0.size : Int) := oD (by first | (with_reducible assumption) | assumption); omega)
       have hx4 : ∀ h : 8 < a0.size, ((a0[8]'h).toNat : Int) = bt a0 8 := bt_at a0 8
       clear p4
       have qi4 : (8 < (a0.size : Int)) = True := eq_true (oD (by first | (with_reducible assumption) | assumption))
       replace q4 := eq_true q4
       have p6 : 0 ≤ (9 : Int) := (by omega)
       have q6 : 9 < a0.size := (by have : (9 : Int) < (a0.size : Int) := oD (by first | (with_reducible assumption) | assumption); omega)
       have hx6 : ∀ h : 9 < a0.size, ((a0[9]'h).toNat : Int) = bt a0 9 := bt_at a0 9
       clear p6
       have qi6 : (9 < (a0.size : Int)) = True := eq_true (oD (by first | (with_reducible assumption) | assumption))
       replace q6 := eq_true q6
       have p8 : 0 ≤ (12 : Int) := (by omega)
       have q8 : 12 < a0.size := (by have : (12 : Int) < (a0.size : Int) := oD (by first | (with_reducible assumption) | assumption); omega)
       have hx8 : ∀ h : 12 < a0.size, ((a0[12]'h).toNat : Int) = bt a0 12 := bt_at a0 12
       clear p8
       have qi8 : (12 < (a0.size : Int)) = True := eq_true (oD (by first | (with_reducible assumption) | assumption))
       replace q8 := eq_true q8
       refine start_ (n := 12) (S := fun w' => True) (ds := []) #[false, false, false, false, false, false, false, false, false, false, false, false] (by kernel_rfl) rfl rfl trivial (fun hHeld => ?_); refine with_tabW impl_ReadHead.tab3 impl_ReadHead.bits3 (fun HT_ HW_ => ?_)
       generalize w14.drew = w15 at BK230 HB hHeld ⊢
       refine pure_ (i := 0) (N := some 11) (v := ?_) (a' := ?_) #[true, false, false, false, false, false, false, false, false, false, false, false] rfl rfl (any_of HT_.out (by kernel_rfl)) (fun _ _ _ h => h) (Or.inl ⟨by rfl, ?_⟩) ?_ ?_
       rotate_left
       ·intro w'
        go_simp
        with_reducible rfl
       rotate_left
       ·simp only [Act.put, lI, lZ, lS, i64_w, i32_w]
        rfl
       refine pure_ (i := 3) (N := some 14) (v := ?_) (a' := ?_) #[true, false, false, true, false, false, false, false, false, false, false, false] rfl rfl (any_of HT_.out (by kernel_rfl)) (fun _ _ _ h => h) (Or.inl ⟨by rfl, ?_⟩) ?_ ?_
       rotate_left
       ·intro w'
        go_simp
        with_reducible rfl
       rotate_left
       ·simp only [Act.put, lI, lZ, lS, i64_w, i32_w]
        rfl
       refine pure_ (i := 6) (N := some 17) (v := ?_) (a' := ?_) #[true, false, false, true, false, false, true, false, false, false, false, false] rfl rfl (any_of HT_.out (by kernel_rfl)) (fun _ _ _ h => h) (Or.inl ⟨by rfl, ?_⟩) ?_ ?_
       rotate_left
       ·intro w'
        go_simp
        with_reducible rfl
       rotate_left
       ·simp only [Act.put, lI, lZ, lS, i64_w, i32_w]
        rfl
       refine take_ (i := 1) (N := some 12) (v := ?_) (a' := ?_) #[true, true, false, true, false, false, true, false, false, false, false, false] rfl rfl (take_ofW HT_.out HW_.out (by kernel_rfl)) (fun _ _ _ h => h) (Or.inl ⟨by rfl, ?_⟩) hHeld ?_ ?_
       rotate_left
       ·intro w' _
        go_simp
        with_reducible rfl
       rotate_left
       ·simp only [Act.put, lI, lZ, lS, i64_w, i32_w]
        rfl
       refine pure_ (i := 2) (N := some 13) (v := ?_) (a' := ?_) #[true, true, true, true, false, false, true, false, false, false, false, false] rfl rfl (any_of HT_.out (by kernel_rfl)) (fun _ _ _ h => h) (Or.inl ⟨by rfl, ?_⟩) ?_ ?_
       rotate_left
       ·intro w'
        go_simp
        with_reducible rfl
       rotate_left
       ·simp only [Act.put, lI, lZ, lS, i64_w, i32_w]
        rfl
       refine take_ (i := 4) (N := some 15) (v := ?_) (a' := ?_) #[true, true, true, true, true, false, true, false, false, false, false, false] rfl rfl (take_ofW HT_.out HW_.out (by kernel_rfl)) (fun _ _ _ h => h) (Or.inl ⟨by rfl, ?_⟩) hHeld ?_ ?_
       rotate_left
       ·intro w' _
        go_simp
        with_reducible rfl
       rotate_left
       ·simp only [Act.put, lI, lZ, lS, i64_w, i32_w]
        rfl
       refine pure_ (i := 5) (N := some 16) (v := ?_) (a' := ?_) #[true, true, true, true, true, true, true, false, false, false, false, false] rfl rfl (any_of HT_.out (by kernel_rfl)) (fun _ _ _ h => h) (Or.inl ⟨by rfl, ?_⟩) ?_ ?_
       rotate_left
       ·intro w'
        go_simp
        with_reducible rfl
       rotate_left
       ·simp only [Act.put, lI, lZ, lS, i64_w, i32_w]
        rfl
       refine take_ (i := 7) (N := some 18) (v := ?_) (a' := ?_) #[true, true, true, true, true, true, true, true, false, false, false, false] rfl rfl (take_ofW HT_.out HW_.out (by kernel_rfl)) (fun _ _ _ h => h) (Or.inl ⟨by rfl, ?_⟩) hHeld ?_ ?_
       rotate_left
       ·intro w' _
        go_simp
        with_reducible rfl
       rotate_left
       ·simp only [Act.put, lI, lZ, lS, i64_w, i32_w]
        rfl
       refine pure_ (i := 8) (N := some 19) (v := ?_) (a' := ?_) #[true, true, true, true, true, true, true, true, true, false, false, false] rfl rfl (any_of HT_.out (by kernel_rfl)) (fun _ _ _ h => h) (Or.inl ⟨by rfl, ?_⟩) ?_ ?_
       rotate_left
       ·intro w'
        go_simp
        with_reducible rfl
       rotate_left
       ·simp only [Act.put, lI, lZ, lS, i64_w, i32_w]
        rfl
       refine pure_ (i := 9) (N := some 20) (v := ?_) (a' := ?_) #[true, true, true, true, true, true, true, true, true, true, false, false] rfl rfl (any_of HT_.out (by kernel_rfl)) (fun _ _ _ h => h) (Or.inl ⟨by rfl, ?_⟩) ?_ ?_
       rotate_left
       ·intro w'
        go_simp
        with_reducible rfl
       rotate_left
       ·simp only [Act.put, lI, lZ, lS, i64_w, i32_w]
        rfl
       refine one_ (i := 10) (N := some 4) #[true, true, true, true, true, true, true, true, true, true, true, false] rfl rfl (one_of HT_.out (by kernel_rfl)) (by decide) (fun K hK => ?_)
       refine box_step ?hg (N := 4) ?hd (cs := #[.int .i64 0, .int .i64 0, .int .i64 0, .int .i64 0, .bool false]) (t := 39) ?hr ?_; (case hd => rfl); (case hg => rfl); (case hr => first | (go_simp; done) | (go_simp; rfl))
       intro gb231 hg w16 hbox hb
       have n0_ := aM (kB (g := gb230) (o := .cells #[.int .i64 0, .int .i64 0, .int .i64 0, .int .i64 0, .bool false] 39 (0, 0)) (by (with_reducible repeat (first | refine kN ?_ _ | refine kD ?_ | refine kA ?_ _)); exact BK230.out) hb)
       have n1_ := aM (bT (by repeat (first | (with_reducible first | exact HB.out | apply bA | apply bN | apply bE | refine bS ?_ GE230.out) | exact HB.out)) hb)
       have n2_ := aM (hbox)
       have n3_ := aM ((by rw [hg]; exact (bZ (by repeat (first | (with_reducible first | exact HB.out | apply bA | apply bN | apply bE | refine bS ?_ GE230.out) | exact HB.out))) : w.heap.size ≤ gb231))
       have n4_ := aM ((by rw [hg]; exact (bZ (by repeat (first | (with_reducible first | exact HB.out | apply bA | apply bN | apply bE | refine bS ?_ GE230.out) | exact HB.out))) : w.heap.size ≤ gb231))
       have n5_ := aM ((by rw [hg]; exact Nat.ne_of_lt (blk_lt (g := gb230) (o := .cells #[.int .i64 0, .int .i64 0, .int .i64 0, .int .i64 0, .bool false] 39 (0, 0)) (by (with_reducible repeat (first | refine kN ?_ _ | refine kD ?_ | refine kA ?_ _)); exact BK230.out)) : gb230 ≠ gb231))
       have n6_ := aM ((by rw [hg]; exact Nat.ne_of_gt (blk_lt (g := gb230) (o := .cells #[.int .i64 0, .int .i64 0, .int .i64 0, .int .i64 0, .bool false] 39 (0, 0)) (by (with_reducible repeat (first | refine kN ?_ _ | refine kD ?_ | refine kA ?_ _)); exact BK230.out)) : gb231 ≠ gb230))
       clear BK230
       clear HB
       have BK230 := n0_
       have HB := n1_
       have BK231 := n2_
       have GW231 := n3_
       have GE231 := n4_
       have NB230_231 := n5_
       have NB231_230 := n6_
       clear n0_ n1_ n2_ n3_ n4_ n5_ n6_
       clear hb hbox hg
       refine hK.out _ _ trivial (fun hHeld => ?_)
       clear hK K
       refine norm_ (a' := ?_) ?_ ?_
       rotate_left
       ·show Act.put _ (some 4) _ = _
        simp only [Act.put, lI, lZ, lS, i64_w, i32_w]
        rfl
       refine one_ (i := 11) (N := none) #[true, true, true, true, true, true, true, true, true, true, true, true] rfl rfl (one_of HT_.out (by kernel_rfl)) (by decide) (fun K hK => ?_)
       have hs17 : w16.cell? ⟨gb231, 0, none⟩ = some (.int .i64 0) := (blk_cell BK231.out 0).trans rfl
       have hfs17 := blk_frozen BK231.out 0
       have hns17_0 := NB230_231.out
       have hms17_0 := NB231_230.out
       have hs18 : w16.cell? ⟨gb231, 1, none⟩ = some (.int .i64 0) := (blk_cell BK231.out 1).trans rfl
       have hfs18 := blk_frozen BK231.out 1
       have hns18_0 := NB230_231.out
       have hms18_0 := NB231_230.out
       have hs19 : w16.cell? ⟨gb231, 2, none⟩ = some (.int .i64 0) := (blk_cell BK231.out 2).trans rfl
       have hfs19 := blk_frozen BK231.out 2
       have hns19_0 := NB230_231.out
       have hms19_0 := NB231_230.out
       have hs20 : w16.cell? ⟨gb231, 3, none⟩ = some (.int .i64 0) := (blk_cell BK231.out 3).trans rfl
       have hfs20 := blk_frozen BK231.out 3
       have hns20_0 := NB230_231.out
       have hms20_0 := NB231_230.out
       have hs21 : w16.cell? ⟨gb231, 4, none⟩ = some (.bool false) := (blk_cell BK231.out 4).trans rfl
       have hfs21 := blk_frozen BK231.out 4
       have hns21_0 := NB230_231.out
       have hms21_0 := NB231_230.out
       refine skip_ (w1 := ?_) (by rfl) rfl ?_ ?_
       rotate_left
       ·go_simp
        rfl
       refine hK.out _ _ trivial (fun hHeld => ?_)
       clear hK K
       refine done_ (done_of HT_.out (by kernel_rfl)) ?_
       have ZM_ := aM trivial
       try go_wp2_with (first | ((with_reducible refine gate_callee (f := 79) rfl ?_); refine goesL_ (some 23) rfl rfl Try.func79 (by kernel_rfl) rfl #[.string a0, .int .i64 0, .int .i64 4] rfl (by (try simp only [lM, List.map_cons, List.map_nil]); first | done | rfl | (simp only [lD, lT]; rfl)) ?_; (with_reducible refine (impl_ReadBig.calls k a0 0 4 t232 t233 _ A9.out).mono ?_); rintro e w' ⟨rfl, ⟨nd, rfl⟩⟩; refine ⟨_, rfl, ?_⟩; have hnb22 := NB231_230.out; have hnc22 := NB230_231.out; obtain ⟨hcz23_0, hcz23_1, hcz23_2, hcz23_3, hcz23_4⟩ := blk_c5 BK231.out; obtain ⟨hfz23_0, hfz23_1, hfz23_2, hfz23_3, hfz23_4⟩ := blk_f5 BK231.out) | ((with_reducible refine gate_callee (f := 79) rfl ?_); refine goesL_ (some 29) rfl rfl Try.func79 (by kernel_rfl) rfl #[.string a0, .int .i64 4, .int .i64 4] rfl (by (try simp only [lM, List.map_cons, List.map_nil]); first | done | rfl | (simp only [lD, lT]; rfl)) ?_; (with_reducible refine (impl_ReadBig.calls k a0 4 4 t234 t235 _ A10.out).mono ?_); rintro e w' ⟨rfl, ⟨nd, rfl⟩⟩; refine ⟨_, rfl, ?_⟩) | ((with_reducible refine gate_dst (N := 34) rfl ?_); clear ZM_; refine letter_ (w0 := w) (B := w.heap.size) (g1 := gb230) (o1 := .cells #[.int .i64 0, .int .i64 0, .int .i64 0, .int .i64 0, .bool false] 39 (0, 0)) (g2 := gb231) (o2 := .cells #[.int .i64 t232, .int .i64 t234, .int .i64 (wrap64 (bt a0 8)), .int .i64 (wrap64 (bt a0 9)), .bool ((bt a0 12) == 1)] 39 (0, 0)) ?hx1_ ?hx2_ ?hx3_ ?_; (case hx1_ => (with_reducible repeat (first | refine kN ?_ _ | refine kD ?_ | refine kA ?_ _)); refine kF ?_ NB230_231.out _; (with_reducible repeat (first | refine kN ?_ _ | refine kD ?_ | refine kA ?_ _)); refine kF ?_ NB230_231.out _; (with_reducible repeat (first | refine kN ?_ _ | refine kD ?_ | refine kA ?_ _)); refine kF ?_ NB230_231.out _; (with_reducible repeat (first | refine kN ?_ _ | refine kD ?_ | refine kA ?_ _)); refine kF ?_ NB230_231.out _; (with_reducible repeat (first | refine kN ?_ _ | refine kD ?_ | refine kA ?_ _)); refine kF ?_ NB230_231.out _; (with_reducible repeat (first | refine kN ?_ _ | refine kD ?_ | refine kA ?_ _)); refine kF ?_ NB230_231.out _; (with_reducible repeat (first | refine kN ?_ _ | refine kD ?_ | refine kA ?_ _)); refine kF ?_ NB230_231.out _; (with_reducible repeat (first | refine kN ?_ _ | refine kD ?_ | refine kA ?_ _)); exact BK230.out); (case hx2_ => (with_reducible repeat (first | refine kN ?_ _ | refine kD ?_ | refine kA ?_ _)); refine blk_put (cs := #[.int .i64 t232, .int .i64 0, .int .i64 (wrap64 (bt a0 8)), .int .i64 (wrap64 (bt a0 9)), .bool ((bt a0 12) == 1)]) ?_ 1 _ rfl; (with_reducible repeat (first | refine kN ?_ _ | refine kD ?_ | refine kA ?_ _)); refine blk_put (cs := #[.int .i64 0, .int .i64 0, .int .i64 (wrap64 (bt a0 8)), .int .i64 (wrap64 (bt a0 9)), .bool ((bt a0 12) == 1)]) ?_ 0 _ rfl; (with_reducible repeat (first | refine kN ?_ _ | refine kD ?_ | refine kA ?_ _)); refine blk_put (cs := #[.int .i64 0, .int .i64 0, .int .i64 (wrap64 (bt a0 8)), .int .i64 (wrap64 (bt a0 9)), .bool false]) ?_ 4 _ rfl; (with_reducible repeat (first | refine kN ?_ _ | refine kD ?_ | refine kA ?_ _)); refine blk_put (cs := #[.int .i64 0, .int .i64 0, .int .i64 (wrap64 (bt a0 8)), .int .i64 0, .bool false]) ?_ 3 _ rfl; (with_reducible repeat (first | refine kN ?_ _ | refine kD ?_ | refine kA ?_ _)); refine blk_put (cs := #[.int .i64 0, .int .i64 0, .int .i64 0, .int .i64 0, .bool false]) ?_ 2 _ rfl; (with_reducible repeat (first | refine kN ?_ _ | refine kD ?_ | refine kA ?_ _)); refine blk_put (cs := #[.int .i64 0, .int .i64 0, .int .i64 0, .int .i64 0, .bool false]) ?_ 1 _ rfl; (with_reducible repeat (first | refine kN ?_ _ | refine kD ?_ | refine kA ?_ _)); refine blk_put (cs := #[.int .i64 0, .int .i64 0, .int .i64 0, .int .i64 0, .bool false]) ?_ 0 _ rfl; (with_reducible repeat (first | refine kN ?_ _ | refine kD ?_ | refine kA ?_ _)); exact BK231.out); (case hx3_ => repeat (first | (with_reducible first | exact HB.out | apply bA | apply bN | apply bE | refine bS ?_ GE230.out | refine bS ?_ GE231.out) | exact HB.out)); intro wl_ b1_ b2_ b3_; clear BK230 BK231 HB; have BK230 := aM b1_; have BK231 := aM b2_; have HB := aM b3_; clear b1_ b2_ b3_; obtain ⟨ly1_, ly2_, ly3_, ly4_, ly5_⟩ := blk_c5 BK230.out; obtain ⟨lz1_, lz2_, lz3_, lz4_, lz5_⟩ := blk_c5 BK231.out) | ((with_reducible refine gate_callee (f := 23) rfl ?_); refine goesL_ (some 35) rfl rfl Try.func23 (by kernel_rfl) rfl #[.agg #[.int .i64 t232, .int .i64 t234, .int .i64 (wrap64 (bt a0 8)), .int .i64 (wrap64 (bt a0 9)), .bool ((bt a0 12) == 1)]] rfl (by (try simp only [lM, List.map_cons, List.map_nil]); first | done | rfl | (simp only [lD, lT]; rfl)) ?_; (with_reducible refine (impl_HeadText.calls k t232 t234 (wrap64 (bt a0 8)) (wrap64 (bt a0 9)) ((bt a0 12) == 1) t236 true _ A11.out).mono ?_); rintro e w24 ⟨rfl, hb⟩; refine ⟨_, rfl, ?_⟩; have n0_ := aM (kB BK230.out hb); have n1_ := aM (kB BK231.out hb); have n2_ := aM (bT HB.out hb); clear BK230; clear BK231; clear HB; have BK230 := n0_; have BK231 := n1_; have HB := n2_; clear n0_ n1_ n2_; (try clear hb); (try clear hb2); (try clear hk); (try clear hi); obtain ⟨hcz25_0, hcz25_1, hcz25_2, hcz25_3, hcz25_4⟩ := blk_c5 BK231.out; obtain ⟨hfz25_0, hfz25_1, hfz25_2, hfz25_3, hfz25_4⟩ := blk_f5 BK231.out; obtain ⟨hcz26_0, hcz26_1, hcz26_2, hcz26_3, hcz26_4⟩ := blk_c5 BK230.out; obtain ⟨hfz26_0, hfz26_1, hfz26_2, hfz26_3, hfz26_4⟩ := blk_f5 BK230.out))
       refine bodyPost_ret (results_ct rfl _ _ gb230 39 #[.int .i64 t232, .int .i64 t234, .int .i64 (wrap64 (bt a0 8)), .int .i64 (wrap64 (bt a0 9)), .bool ((bt a0 12) == 1)] (0, 0) _ rfl (by (with_reducible repeat (first | refine kN ?_ _ | refine kD ?_ | refine kA ?_ _)); refine blk_put (cs := #[.int .i64 t232, .int .i64 t234, .int .i64 (wrap64 (bt a0 8)), .int .i64 (wrap64 (bt a0 9)), .bool false]) ?_ 4 _ rfl; (with_reducible repeat (first | refine kN ?_ _ | refine kD ?_ | refine kA ?_ _)); refine blk_put (cs := #[.int .i64 t232, .int .i64 t234, .int .i64 (wrap64 (bt a0 8)), .int .i64 0, .bool false]) ?_ 3 _ rfl; (with_reducible repeat (first | refine kN ?_ _ | refine kD ?_ | refine kA ?_ _)); refine blk_put (cs := #[.int .i64 t232, .int .i64 t234, .int .i64 0, .int .i64 0, .bool false]) ?_ 2 _ rfl; (with_reducible repeat (first | refine kN ?_ _ | refine kD ?_ | refine kA ?_ _)); refine blk_put (cs := #[.int .i64 t232, .int .i64 0, .int .i64 0, .int .i64 0, .bool false]) ?_ 1 _ rfl; (with_reducible repeat (first | refine kN ?_ _ | refine kD ?_ | refine kA ?_ _)); refine blk_put (cs := #[.int .i64 0, .int .i64 0, .int .i64 0, .int .i64 0, .bool false]) ?_ 0 _ rfl; (with_reducible repeat (first | refine kN ?_ _ | refine kD ?_ | refine kA ?_ _)); exact BK230.out) Try.underlying39 rfl (by kernel_rfl)) rfl ?_
       exact ⟨by first | rfl | (simp [errW_none, errW_some] <;> rfl) | (simp [*, errW_none, errW_some] <;> rfl), by repeat (first | (with_reducible first | exact HB.out | apply bA | apply bN | apply bE | refine bS ?_ GE230.out | refine bS ?_ GE231.out) | exact HB.out)⟩
      ·rw [if_neg c13] at H
       have c13b0 : (t236.toList == a0.toList) = false := beq_eq_false_iff_ne.mpr c13
       have c13b1 : (t236.toList != a0.toList) = true := bne_iff_ne.mpr c13
       simp only [Option.some.injEq, Prod.mk.injEq] at H
       obtain ⟨rfl, rfl, rfl, rfl, rfl, rfl⟩ := H
       go_enter Try.func25, Try.ntmps25
       try go_wp2_with (first | ((with_reducible refine gate_dst (N := 2) rfl ?_); refine box_event ?hg (N := 2) ?hd (cs := #[.int .i64 0, .int .i64 0, .int .i64 0, .int .i64 0, .bool false]) (t := 39) ?hr ?_; (case hd => rfl); (case hg => rfl); (case hr => first | (go_simp; done) | (go_simp; rfl)); intro gb230 hg w27 hbox hb; have n0_ := aM (bT (by repeat (first | (with_reducible first | exact HB.out | apply bA | apply bN | apply bE) | exact HB.out)) hb); have n1_ := aM (hbox); have n2_ := aM ((by rw [hg]; exact (bZ (by repeat (first | (with_reducible first | exact HB.out | apply bA | apply bN | apply bE) | exact HB.out))) : w.heap.size ≤ gb230)); have n3_ := aM ((by rw [hg]; exact (bZ (by repeat (first | (with_reducible first | exact HB.out | apply bA | apply bN | apply bE) | exact HB.out))) : w.heap.size ≤ gb230)); clear HB; have HB := n0_; have BK230 := n1_; have GW230 := n2_; have GE230 := n3_; clear n0_ n1_ n2_ n3_; clear hb hbox hg))
       have n0_ := aM (kD BK230.out)
       have n1_ := aM (bE HB.out)
       clear BK230
       clear HB
       have BK230 := n0_
       have HB := n1_
       clear n0_ n1_
       have p4 : 0 ≤ (8 : Int) := (by omega)
       have q4 : 8 < a0.size := (by have : (8 : Int) < (a0.size : Int) := oD (by first | (with_reducible assumption) | assumption); omega)
       have hx4 : ∀ h : 8 < a0.size, ((a0[8]'h).toNat : Int) = bt a0 8 := bt_at a0 8
       clear p4
       have qi4 : (8 < (a0.size : Int)) = True := eq_true (oD (by first | (with_reducible assumption) | assumption))
       replace q4 := eq_true q4
       have p6 : 0 ≤ (9 : Int) := (by omega)
       have q6 : 9 < a0.size := (by have : (9 : Int) < (a0.size : Int) := oD (by first | (with_reducible assumption) | assumption); omega)
       have hx6 : ∀ h : 9 < a0.size, ((a0[9]'h).toNat : Int) = bt a0 9 := bt_at a0 9
       clear p6
       have qi6 : (9 < (a0.size : Int)) = True := eq_true (oD (by first | (with_reducible assumption) | assumption))
       replace q6 := eq_true q6
       have p8 : 0 ≤ (12 : Int) := (by omega)
       have q8 : 12 < a0.size := (by have : (12 : Int) < (a0.size : Int) := oD (by first | (with_reducible assumption) | assumption); omega)
       have hx8 : ∀ h : 12 < a0.size, ((a0[12]'h).toNat : Int) = bt a0 12 := bt_at a0 12
       clear p8
       have qi8 : (12 < (a0.size : Int)) = True := eq_true (oD (by first | (with_reducible assumption) | assumption))
       replace q8 := eq_true q8
       refine start_ (n := 12) (S := fun w' => True) (ds := []) #[false, false, false, false, false, false, false, false, false, false, false, false] (by kernel_rfl) rfl rfl trivial (fun hHeld => ?_); refine with_tabW impl_ReadHead.tab3 impl_ReadHead.bits3 (fun HT_ HW_ => ?_)
       generalize w27.drew = w28 at BK230 HB hHeld ⊢
       refine pure_ (i := 0) (N := some 11) (v := ?_) (a' := ?_) #[true, false, false, false, false, false, false, false, false, false, false, false] rfl rfl (any_of HT_.out (by kernel_rfl)) (fun _ _ _ h => h) (Or.inl ⟨by rfl, ?_⟩) ?_ ?_
       rotate_left
       ·intro w'
        go_simp
        with_reducible rfl
       rotate_left
       ·simp only [Act.put, lI, lZ, lS, i64_w, i32_w]
        rfl
       refine pure_ (i := 3) (N := some 14) (v := ?_) (a' := ?_) #[true, false, false, true, false, false, false, false, false, false, false, false] rfl rfl (any_of HT_.out (by kernel_rfl)) (fun _ _ _ h => h) (Or.inl ⟨by rfl, ?_⟩) ?_ ?_
       rotate_left
       ·intro w'
        go_simp
        with_reducible rfl
       rotate_left
       ·simp only [Act.put, lI, lZ, lS, i64_w, i32_w]
        rfl
       refine pure_ (i := 6) (N := some 17) (v := ?_) (a' := ?_) #[true, false, false, true, false, false, true, false, false, false, false, false] rfl rfl (any_of HT_.out (by kernel_rfl)) (fun _ _ _ h => h) (Or.inl ⟨by rfl, ?_⟩) ?_ ?_
       rotate_left
       ·intro w'
        go_simp
        with_reducible rfl
       rotate_left
       ·simp only [Act.put, lI, lZ, lS, i64_w, i32_w]
        rfl
       refine take_ (i := 1) (N := some 12) (v := ?_) (a' := ?_) #[true, true, false, true, false, false, true, false, false, false, false, false] rfl rfl (take_ofW HT_.out HW_.out (by kernel_rfl)) (fun _ _ _ h => h) (Or.inl ⟨by rfl, ?_⟩) hHeld ?_ ?_
       rotate_left
       ·intro w' _
        go_simp
        with_reducible rfl
       rotate_left
       ·simp only [Act.put, lI, lZ, lS, i64_w, i32_w]
        rfl
       refine pure_ (i := 2) (N := some 13) (v := ?_) (a' := ?_) #[true, true, true, true, false, false, true, false, false, false, false, false] rfl rfl (any_of HT_.out (by kernel_rfl)) (fun _ _ _ h => h) (Or.inl ⟨by rfl, ?_⟩) ?_ ?_
       rotate_left
       ·intro w'
        go_simp
        with_reducible rfl
       rotate_left
       ·simp only [Act.put, lI, lZ, lS, i64_w, i32_w]
        rfl
       refine take_ (i := 4) (N := some 15) (v := ?_) (a' := ?_) #[true, true, true, true, true, false, true, false, false, false, false, false] rfl rfl (take_ofW HT_.out HW_.out (by kernel_rfl)) (fun _ _ _ h => h) (Or.inl ⟨by rfl, ?_⟩) hHeld ?_ ?_
       rotate_left
       ·intro w' _
        go_simp
        with_reducible rfl
       rotate_left
       ·simp only [Act.put, lI, lZ, lS, i64_w, i32_w]
        rfl
       refine pure_ (i := 5) (N := some 16) (v := ?_) (a' := ?_) #[true, true, true, true, true, true, true, false, false, false, false, false] rfl rfl (any_of HT_.out (by kernel_rfl)) (fun _ _ _ h => h) (Or.inl ⟨by rfl, ?_⟩) ?_ ?_
       rotate_left
       ·intro w'
        go_simp
        with_reducible rfl
       rotate_left
       ·simp only [Act.put, lI, lZ, lS, i64_w, i32_w]
        rfl
       refine take_ (i := 7) (N := some 18) (v := ?_) (a' := ?_) #[true, true, true, true, true, true, true, true, false, false, false, false] rfl rfl (take_ofW HT_.out HW_.out (by kernel_rfl)) (fun _ _ _ h => h) (Or.inl ⟨by rfl, ?_⟩) hHeld ?_ ?_
       rotate_left
       ·intro w' _
        go_simp
        with_reducible rfl
       rotate_left
       ·simp only [Act.put, lI, lZ, lS, i64_w, i32_w]
        rfl
       refine pure_ (i := 8) (N := some 19) (v := ?_) (a' := ?_) #[true, true, true, true, true, true, true, true, true, false, false, false] rfl rfl (any_of HT_.out (by kernel_rfl)) (fun _ _ _ h => h) (Or.inl ⟨by rfl, ?_⟩) ?_ ?_
       rotate_left
       ·intro w'
        go_simp
        with_reducible rfl
       rotate_left
       ·simp only [Act.put, lI, lZ, lS, i64_w, i32_w]
        rfl
       refine pure_ (i := 9) (N := some 20) (v := ?_) (a' := ?_) #[true, true, true, true, true, true, true, true, true, true, false, false] rfl rfl (any_of HT_.out (by kernel_rfl)) (fun _ _ _ h => h) (Or.inl ⟨by rfl, ?_⟩) ?_ ?_
       rotate_left
       ·intro w'
        go_simp
        with_reducible rfl
       rotate_left
       ·simp only [Act.put, lI, lZ, lS, i64_w, i32_w]
        rfl
       refine one_ (i := 10) (N := some 4) #[true, true, true, true, true, true, true, true, true, true, true, false] rfl rfl (one_of HT_.out (by kernel_rfl)) (by decide) (fun K hK => ?_)
       refine box_step ?hg (N := 4) ?hd (cs := #[.int .i64 0, .int .i64 0, .int .i64 0, .int .i64 0, .bool false]) (t := 39) ?hr ?_; (case hd => rfl); (case hg => rfl); (case hr => first | (go_simp; done) | (go_simp; rfl))
       intro gb231 hg w29 hbox hb
       have n0_ := aM (kB (g := gb230) (o := .cells #[.int .i64 0, .int .i64 0, .int .i64 0, .int .i64 0, .bool false] 39 (0, 0)) (by (with_reducible repeat (first | refine kN ?_ _ | refine kD ?_ | refine kA ?_ _)); exact BK230.out) hb)
       have n1_ := aM (bT (by repeat (first | (with_reducible first | exact HB.out | apply bA | apply bN | apply bE | refine bS ?_ GE230.out) | exact HB.out)) hb)
       have n2_ := aM (hbox)
       have n3_ := aM ((by rw [hg]; exact (bZ (by repeat (first | (with_reducible first | exact HB.out | apply bA | apply bN | apply bE | refine bS ?_ GE230.out) | exact HB.out))) : w.heap.size ≤ gb231))
       have n4_ := aM ((by rw [hg]; exact (bZ (by repeat (first | (with_reducible first | exact HB.out | apply bA | apply bN | apply bE | refine bS ?_ GE230.out) | exact HB.out))) : w.heap.size ≤ gb231))
       have n5_ := aM ((by rw [hg]; exact Nat.ne_of_lt (blk_lt (g := gb230) (o := .cells #[.int .i64 0, .int .i64 0, .int .i64 0, .int .i64 0, .bool false] 39 (0, 0)) (by (with_reducible repeat (first | refine kN ?_ _ | refine kD ?_ | refine kA ?_ _)); exact BK230.out)) : gb230 ≠ gb231))
       have n6_ := aM ((by rw [hg]; exact Nat.ne_of_gt (blk_lt (g := gb230) (o := .cells #[.int .i64 0, .int .i64 0, .int .i64 0, .int .i64 0, .bool false] 39 (0, 0)) (by (with_reducible repeat (first | refine kN ?_ _ | refine kD ?_ | refine kA ?_ _)); exact BK230.out)) : gb231 ≠ gb230))
       clear BK230
       clear HB
       have BK230 := n0_
       have HB := n1_
       have BK231 := n2_
       have GW231 := n3_
       have GE231 := n4_
       have NB230_231 := n5_
       have NB231_230 := n6_
       clear n0_ n1_ n2_ n3_ n4_ n5_ n6_
       clear hb hbox hg
       refine hK.out _ _ trivial (fun hHeld => ?_)
       clear hK K
       refine norm_ (a' := ?_) ?_ ?_
       rotate_left
       ·show Act.put _ (some 4) _ = _
        simp only [Act.put, lI, lZ, lS, i64_w, i32_w]
        rfl
       refine one_ (i := 11) (N := none) #[true, true, true, true, true, true, true, true, true, true, true, true] rfl rfl (one_of HT_.out (by kernel_rfl)) (by decide) (fun K hK => ?_)
       have hs30 : w29.cell? ⟨gb231, 0, none⟩ = some (.int .i64 0) := (blk_cell BK231.out 0).trans rfl
       have hfs30 := blk_frozen BK231.out 0
       have hns30_0 := NB230_231.out
       have hms30_0 := NB231_230.out
       have hs31 : w29.cell? ⟨gb231, 1, none⟩ = some (.int .i64 0) := (blk_cell BK231.out 1).trans rfl
       have hfs31 := blk_frozen BK231.out 1
       have hns31_0 := NB230_231.out
       have hms31_0 := NB231_230.out
       have hs32 : w29.cell? ⟨gb231, 2, none⟩ = some (.int .i64 0) := (blk_cell BK231.out 2).trans rfl
       have hfs32 := blk_frozen BK231.out 2
       have hns32_0 := NB230_231.out
       have hms32_0 := NB231_230.out
       have hs33 : w29.cell? ⟨gb231, 3, none⟩ = some (.int .i64 0) := (blk_cell BK231.out 3).trans rfl
       have hfs33 := blk_frozen BK231.out 3
       have hns33_0 := NB230_231.out
       have hms33_0 := NB231_230.out
       have hs34 : w29.cell? ⟨gb231, 4, none⟩ = some (.bool false) := (blk_cell BK231.out 4).trans rfl
       have hfs34 := blk_frozen BK231.out 4
       have hns34_0 := NB230_231.out
       have hms34_0 := NB231_230.out
       refine skip_ (w1 := ?_) (by rfl) rfl ?_ ?_
       rotate_left
       ·go_simp
        rfl
       refine hK.out _ _ trivial (fun hHeld => ?_)
       clear hK K
       refine done_ (done_of HT_.out (by kernel_rfl)) ?_
       have ZM_ := aM trivial
       try go_wp2_with (first | ((with_reducible refine gate_callee (f := 79) rfl ?_); refine goesL_ (some 23) rfl rfl Try.func79 (by kernel_rfl) rfl #[.string a0, .int .i64 0, .int .i64 4] rfl (by (try simp only [lM, List.map_cons, List.map_nil]); first | done | rfl | (simp only [lD, lT]; rfl)) ?_; (with_reducible refine (impl_ReadBig.calls k a0 0 4 t232 t233 _ A9.out).mono ?_); rintro e w' ⟨rfl, ⟨nd, rfl⟩⟩; refine ⟨_, rfl, ?_⟩; have hnb35 := NB231_230.out; have hnc35 := NB230_231.out; obtain ⟨hcz36_0, hcz36_1, hcz36_2, hcz36_3, hcz36_4⟩ := blk_c5 BK231.out; obtain ⟨hfz36_0, hfz36_1, hfz36_2, hfz36_3, hfz36_4⟩ := blk_f5 BK231.out) | ((with_reducible refine gate_callee (f := 79) rfl ?_); refine goesL_ (some 29) rfl rfl Try.func79 (by kernel_rfl) rfl #[.string a0, .int .i64 4, .int .i64 4] rfl (by (try simp only [lM, List.map_cons, List.map_nil]); first | done | rfl | (simp only [lD, lT]; rfl)) ?_; (with_reducible refine (impl_ReadBig.calls k a0 4 4 t234 t235 _ A10.out).mono ?_); rintro e w' ⟨rfl, ⟨nd, rfl⟩⟩; refine ⟨_, rfl, ?_⟩) | ((with_reducible refine gate_dst (N := 34) rfl ?_); clear ZM_; refine letter_ (w0 := w) (B := w.heap.size) (g1 := gb230) (o1 := .cells #[.int .i64 0, .int .i64 0, .int .i64 0, .int .i64 0, .bool false] 39 (0, 0)) (g2 := gb231) (o2 := .cells #[.int .i64 t232, .int .i64 t234, .int .i64 (wrap64 (bt a0 8)), .int .i64 (wrap64 (bt a0 9)), .bool ((bt a0 12) == 1)] 39 (0, 0)) ?hx1_ ?hx2_ ?hx3_ ?_; (case hx1_ => (with_reducible repeat (first | refine kN ?_ _ | refine kD ?_ | refine kA ?_ _)); refine kF ?_ NB230_231.out _; (with_reducible repeat (first | refine kN ?_ _ | refine kD ?_ | refine kA ?_ _)); refine kF ?_ NB230_231.out _; (with_reducible repeat (first | refine kN ?_ _ | refine kD ?_ | refine kA ?_ _)); refine kF ?_ NB230_231.out _; (with_reducible repeat (first | refine kN ?_ _ | refine kD ?_ | refine kA ?_ _)); refine kF ?_ NB230_231.out _; (with_reducible repeat (first | refine kN ?_ _ | refine kD ?_ | refine kA ?_ _)); refine kF ?_ NB230_231.out _; (with_reducible repeat (first | refine kN ?_ _ | refine kD ?_ | refine kA ?_ _)); refine kF ?_ NB230_231.out _; (with_reducible repeat (first | refine kN ?_ _ | refine kD ?_ | refine kA ?_ _)); refine kF ?_ NB230_231.out _; (with_reducible repeat (first | refine kN ?_ _ | refine kD ?_ | refine kA ?_ _)); exact BK230.out); (case hx2_ => (with_reducible repeat (first | refine kN ?_ _ | refine kD ?_ | refine kA ?_ _)); refine blk_put (cs := #[.int .i64 t232, .int .i64 0, .int .i64 (wrap64 (bt a0 8)), .int .i64 (wrap64 (bt a0 9)), .bool ((bt a0 12) == 1)]) ?_ 1 _ rfl; (with_reducible repeat (first | refine kN ?_ _ | refine kD ?_ | refine kA ?_ _)); refine blk_put (cs := #[.int .i64 0, .int .i64 0, .int .i64 (wrap64 (bt a0 8)), .int .i64 (wrap64 (bt a0 9)), .bool ((bt a0 12) == 1)]) ?_ 0 _ rfl; (with_reducible repeat (first | refine kN ?_ _ | refine kD ?_ | refine kA ?_ _)); refine blk_put (cs := #[.int .i64 0, .int .i64 0, .int .i64 (wrap64 (bt a0 8)), .int .i64 (wrap64 (bt a0 9)), .bool false]) ?_ 4 _ rfl; (with_reducible repeat (first | refine kN ?_ _ | refine kD ?_ | refine kA ?_ _)); refine blk_put (cs := #[.int .i64 0, .int .i64 0, .int .i64 (wrap64 (bt a0 8)), .int .i64 0, .bool false]) ?_ 3 _ rfl; (with_reducible repeat (first | refine kN ?_ _ | refine kD ?_ | refine kA ?_ _)); refine blk_put (cs := #[.int .i64 0, .int .i64 0, .int .i64 0, .int .i64 0, .bool false]) ?_ 2 _ rfl; (with_reducible repeat (first | refine kN ?_ _ | refine kD ?_ | refine kA ?_ _)); refine blk_put (cs := #[.int .i64 0, .int .i64 0, .int .i64 0, .int .i64 0, .bool false]) ?_ 1 _ rfl; (with_reducible repeat (first | refine kN ?_ _ | refine kD ?_ | refine kA ?_ _)); refine blk_put (cs := #[.int .i64 0, .int .i64 0, .int .i64 0, .int .i64 0, .bool false]) ?_ 0 _ rfl; (with_reducible repeat (first | refine kN ?_ _ | refine kD ?_ | refine kA ?_ _)); exact BK231.out); (case hx3_ => repeat (first | (with_reducible first | exact HB.out | apply bA | apply bN | apply bE | refine bS ?_ GE230.out | refine bS ?_ GE231.out) | exact HB.out)); intro wl_ b1_ b2_ b3_; clear BK230 BK231 HB; have BK230 := aM b1_; have BK231 := aM b2_; have HB := aM b3_; clear b1_ b2_ b3_; obtain ⟨ly1_, ly2_, ly3_, ly4_, ly5_⟩ := blk_c5 BK230.out; obtain ⟨lz1_, lz2_, lz3_, lz4_, lz5_⟩ := blk_c5 BK231.out) | ((with_reducible refine gate_callee (f := 23) rfl ?_); refine goesL_ (some 35) rfl rfl Try.func23 (by kernel_rfl) rfl #[.agg #[.int .i64 t232, .int .i64 t234, .int .i64 (wrap64 (bt a0 8)), .int .i64 (wrap64 (bt a0 9)), .bool ((bt a0 12) == 1)]] rfl (by (try simp only [lM, List.map_cons, List.map_nil]); first | done | rfl | (simp only [lD, lT]; rfl)) ?_; (with_reducible refine (impl_HeadText.calls k t232 t234 (wrap64 (bt a0 8)) (wrap64 (bt a0 9)) ((bt a0 12) == 1) t236 true _ A11.out).mono ?_); rintro e w37 ⟨rfl, hb⟩; refine ⟨_, rfl, ?_⟩; have n0_ := aM (kB BK230.out hb); have n1_ := aM (kB BK231.out hb); have n2_ := aM (bT HB.out hb); clear BK230; clear BK231; clear HB; have BK230 := n0_; have BK231 := n1_; have HB := n2_; clear n0_ n1_ n2_; (try clear hb); (try clear hb2); (try clear hk); (try clear hi); obtain ⟨hcz38_0, hcz38_1, hcz38_2, hcz38_3, hcz38_4⟩ := blk_c5 BK230.out; obtain ⟨hfz38_0, hfz38_1, hfz38_2, hfz38_3, hfz38_4⟩ := blk_f5 BK230.out))
       refine bodyPost_ret (results_ct rfl _ _ gb230 39 #[.int .i64 0, .int .i64 0, .int .i64 0, .int .i64 0, .bool false] (0, 0) _ rfl (by (with_reducible repeat (first | refine kN ?_ _ | refine kD ?_ | refine kA ?_ _)); refine blk_put (cs := #[.int .i64 0, .int .i64 0, .int .i64 0, .int .i64 0, .bool false]) ?_ 4 _ rfl; (with_reducible repeat (first | refine kN ?_ _ | refine kD ?_ | refine kA ?_ _)); refine blk_put (cs := #[.int .i64 0, .int .i64 0, .int .i64 0, .int .i64 0, .bool false]) ?_ 3 _ rfl; (with_reducible repeat (first | refine kN ?_ _ | refine kD ?_ | refine kA ?_ _)); refine blk_put (cs := #[.int .i64 0, .int .i64 0, .int .i64 0, .int .i64 0, .bool false]) ?_ 2 _ rfl; (with_reducible repeat (first | refine kN ?_ _ | refine kD ?_ | refine kA ?_ _)); refine blk_put (cs := #[.int .i64 0, .int .i64 0, .int .i64 0, .int .i64 0, .bool false]) ?_ 1 _ rfl; (with_reducible repeat (first | refine kN ?_ _ | refine kD ?_ | refine kA ?_ _)); refine blk_put (cs := #[.int .i64 0, .int .i64 0, .int .i64 0, .int .i64 0, .bool false]) ?_ 0 _ rfl; (with_reducible repeat (first | refine kN ?_ _ | refine kD ?_ | refine kA ?_ _)); exact BK230.out) Try.underlying39 rfl (by kernel_rfl)) rfl ?_
       exact ⟨by first | rfl | (simp [errW_none, errW_some] <;> rfl) | (simp [*, errW_none, errW_some] <;> rfl), by repeat (first | (with_reducible first | exact HB.out | apply bA | apply bN | apply bE | refine bS ?_ GE230.out | refine bS ?_ GE231.out) | exact HB.out)⟩
     ·replace c12 := Bool.eq_false_iff.mpr c12
      subst c12
      have H1 : (some (0, 0, 0, 0, false, false)) = some (r1, r2, r3, r4, r5, r6) := by rw [if_neg (show ¬ (false = true) by decide)] at H; first | done | exact H
      clear H
      have H := H1
      clear H1
      simp only [Option.some.injEq, Prod.mk.injEq] at H
      obtain ⟨rfl, rfl, rfl, rfl, rfl, rfl⟩ := H
      go_enter Try.func25, Try.ntmps25
      try go_wp2_with (first | ((with_reducible refine gate_dst (N := 2) rfl ?_); refine box_event ?hg (N := 2) ?hd (cs := #[.int .i64 0, .int .i64 0, .int .i64 0, .int .i64 0, .bool false]) (t := 39) ?hr ?_; (case hd => rfl); (case hg => rfl); (case hr => first | (go_simp; done) | (go_simp; rfl)); intro gb230 hg w39 hbox hb; have n0_ := aM (bT (by repeat (first | (with_reducible first | exact HB.out | apply bA | apply bN | apply bE) | exact HB.out)) hb); have n1_ := aM (hbox); have n2_ := aM ((by rw [hg]; exact (bZ (by repeat (first | (with_reducible first | exact HB.out | apply bA | apply bN | apply bE) | exact HB.out))) : w.heap.size ≤ gb230)); have n3_ := aM ((by rw [hg]; exact (bZ (by repeat (first | (with_reducible first | exact HB.out | apply bA | apply bN | apply bE) | exact HB.out))) : w.heap.size ≤ gb230)); clear HB; have HB := n0_; have BK230 := n1_; have GW230 := n2_; have GE230 := n3_; clear n0_ n1_ n2_ n3_; clear hb hbox hg))
      have n0_ := aM (kD BK230.out)
      have n1_ := aM (bE HB.out)
      clear BK230
      clear HB
      have BK230 := n0_
      have HB := n1_
      clear n0_ n1_
      have p4 : 0 ≤ (8 : Int) := (by omega)
      have q4 : 8 < a0.size := (by have : (8 : Int) < (a0.size : Int) := oD (by first | (with_reducible assumption) | assumption); omega)
      have hx4 : ∀ h : 8 < a0.size, ((a0[8]'h).toNat : Int) = bt a0 8 := bt_at a0 8
      clear p4
      have qi4 : (8 < (a0.size : Int)) = True := eq_true (oD (by first | (with_reducible assumption) | assumption))
      replace q4 := eq_true q4
      have p6 : 0 ≤ (9 : Int) := (by omega)
      have q6 : 9 < a0.size := (by have : (9 : Int) < (a0.size : Int) := oD (by first | (with_reducible assumption) | assumption); omega)
      have hx6 : ∀ h : 9 < a0.size, ((a0[9]'h).toNat : Int) = bt a0 9 := bt_at a0 9
      clear p6
      have qi6 : (9 < (a0.size : Int)) = True := eq_true (oD (by first | (with_reducible assumption) | assumption))
      replace q6 := eq_true q6
      have p8 : 0 ≤ (12 : Int) := (by omega)
      have q8 : 12 < a0.size := (by have : (12 : Int) < (a0.size : Int) := oD (by first | (with_reducible assumption) | assumption); omega)
      have hx8 : ∀ h : 12 < a0.size, ((a0[12]'h).toNat : Int) = bt a0 12 := bt_at a0 12
      clear p8
      have qi8 : (12 < (a0.size : Int)) = True := eq_true (oD (by first | (with_reducible assumption) | assumption))
      replace q8 := eq_true q8
      refine start_ (n := 12) (S := fun w' => True) (ds := []) #[false, false, false, false, false, false, false, false, false, false, false, false] (by kernel_rfl) rfl rfl trivial (fun hHeld => ?_); refine with_tabW impl_ReadHead.tab3 impl_ReadHead.bits3 (fun HT_ HW_ => ?_)
      generalize w39.drew = w40 at BK230 HB hHeld ⊢
      refine pure_ (i := 0) (N := some 11) (v := ?_) (a' := ?_) #[true, false, false, false, false, false, false, false, false, false, false, false] rfl rfl (any_of HT_.out (by kernel_rfl)) (fun _ _ _ h => h) (Or.inl ⟨by rfl, ?_⟩) ?_ ?_
      rotate_left
      ·intro w'
       go_simp
       with_reducible rfl
      rotate_left
      ·simp only [Act.put, lI, lZ, lS, i64_w, i32_w]
       rfl
      refine pure_ (i := 3) (N := some 14) (v := ?_) (a' := ?_) #[true, false, false, true, false, false, false, false, false, false, false, false] rfl rfl (any_of HT_.out (by kernel_rfl)) (fun _ _ _ h => h) (Or.inl ⟨by rfl, ?_⟩) ?_ ?_
      rotate_left
      ·intro w'
       go_simp
       with_reducible rfl
      rotate_left
      ·simp only [Act.put, lI, lZ, lS, i64_w, i32_w]
       rfl
      refine pure_ (i := 6) (N := some 17) (v := ?_) (a' := ?_) #[true, false, false, true, false, false, true, false, false, false, false, false] rfl rfl (any_of HT_.out (by kernel_rfl)) (fun _ _ _ h => h) (Or.inl ⟨by rfl, ?_⟩) ?_ ?_
      rotate_left
      ·intro w'
       go_simp
       with_reducible rfl
      rotate_left
      ·simp only [Act.put, lI, lZ, lS, i64_w, i32_w]
       rfl
      refine take_ (i := 1) (N := some 12) (v := ?_) (a' := ?_) #[true, true, false, true, false, false, true, false, false, false, false, false] rfl rfl (take_ofW HT_.out HW_.out (by kernel_rfl)) (fun _ _ _ h => h) (Or.inl ⟨by rfl, ?_⟩) hHeld ?_ ?_
      rotate_left
      ·intro w' _
       go_simp
       with_reducible rfl
      rotate_left
      ·simp only [Act.put, lI, lZ, lS, i64_w, i32_w]
       rfl
      refine pure_ (i := 2) (N := some 13) (v := ?_) (a' := ?_) #[true, true, true, true, false, false, true, false, false, false, false, false] rfl rfl (any_of HT_.out (by kernel_rfl)) (fun _ _ _ h => h) (Or.inl ⟨by rfl, ?_⟩) ?_ ?_
      rotate_left
      ·intro w'
       go_simp
       with_reducible rfl
      rotate_left
      ·simp only [Act.put, lI, lZ, lS, i64_w, i32_w]
       rfl
      refine take_ (i := 4) (N := some 15) (v := ?_) (a' := ?_) #[true, true, true, true, true, false, true, false, false, false, false, false] rfl rfl (take_ofW HT_.out HW_.out (by kernel_rfl)) (fun _ _ _ h => h) (Or.inl ⟨by rfl, ?_⟩) hHeld ?_ ?_
      rotate_left
      ·intro w' _
       go_simp
       with_reducible rfl
      rotate_left
      ·simp only [Act.put, lI, lZ, lS, i64_w, i32_w]
       rfl
      refine pure_ (i := 5) (N := some 16) (v := ?_) (a' := ?_) #[true, true, true, true, true, true, true, false, false, false, false, false] rfl rfl (any_of HT_.out (by kernel_rfl)) (fun _ _ _ h => h) (Or.inl ⟨by rfl, ?_⟩) ?_ ?_
      rotate_left
      ·intro w'
       go_simp
       with_reducible rfl
      rotate_left
      ·simp only [Act.put, lI, lZ, lS, i64_w, i32_w]
       rfl
      refine take_ (i := 7) (N := some 18) (v := ?_) (a' := ?_) #[true, true, true, true, true, true, true, true, false, false, false, false] rfl rfl (take_ofW HT_.out HW_.out (by kernel_rfl)) (fun _ _ _ h => h) (Or.inl ⟨by rfl, ?_⟩) hHeld ?_ ?_
      rotate_left
      ·intro w' _
       go_simp
       with_reducible rfl
      rotate_left
      ·simp only [Act.put, lI, lZ, lS, i64_w, i32_w]
       rfl
      refine pure_ (i := 8) (N := some 19) (v := ?_) (a' := ?_) #[true, true, true, true, true, true, true, true, true, false, false, false] rfl rfl (any_of HT_.out (by kernel_rfl)) (fun _ _ _ h => h) (Or.inl ⟨by rfl, ?_⟩) ?_ ?_
      rotate_left
      ·intro w'
       go_simp
       with_reducible rfl
      rotate_left
      ·simp only [Act.put, lI, lZ, lS, i64_w, i32_w]
       rfl
      refine pure_ (i := 9) (N := some 20) (v := ?_) (a' := ?_) #[true, true, true, true, true, true, true, true, true, true, false, false] rfl rfl (any_of HT_.out (by kernel_rfl)) (fun _ _ _ h => h) (Or.inl ⟨by rfl, ?_⟩) ?_ ?_
      rotate_left
      ·intro w'
       go_simp
       with_reducible rfl
      rotate_left
      ·simp only [Act.put, lI, lZ, lS, i64_w, i32_w]
       rfl
      refine one_ (i := 10) (N := some 4) #[true, true, true, true, true, true, true, true, true, true, true, false] rfl rfl (one_of HT_.out (by kernel_rfl)) (by decide) (fun K hK => ?_)
      refine box_step ?hg (N := 4) ?hd (cs := #[.int .i64 0, .int .i64 0, .int .i64 0, .int .i64 0, .bool false]) (t := 39) ?hr ?_; (case hd => rfl); (case hg => rfl); (case hr => first | (go_simp; done) | (go_simp; rfl))
      intro gb231 hg w41 hbox hb
      have n0_ := aM (kB (g := gb230) (o := .cells #[.int .i64 0, .int .i64 0, .int .i64 0, .int .i64 0, .bool false] 39 (0, 0)) (by (with_reducible repeat (first | refine kN ?_ _ | refine kD ?_ | refine kA ?_ _)); exact BK230.out) hb)
      have n1_ := aM (bT (by repeat (first | (with_reducible first | exact HB.out | apply bA | apply bN | apply bE | refine bS ?_ GE230.out) | exact HB.out)) hb)
      have n2_ := aM (hbox)
      have n3_ := aM ((by rw [hg]; exact (bZ (by repeat (first | (with_reducible first | exact HB.out | apply bA | apply bN | apply bE | refine bS ?_ GE230.out) | exact HB.out))) : w.heap.size ≤ gb231))
      have n4_ := aM ((by rw [hg]; exact (bZ (by repeat (first | (with_reducible first | exact HB.out | apply bA | apply bN | apply bE | refine bS ?_ GE230.out) | exact HB.out))) : w.heap.size ≤ gb231))
      have n5_ := aM ((by rw [hg]; exact Nat.ne_of_lt (blk_lt (g := gb230) (o := .cells #[.int .i64 0, .int .i64 0, .int .i64 0, .int .i64 0, .bool false] 39 (0, 0)) (by (with_reducible repeat (first | refine kN ?_ _ | refine kD ?_ | refine kA ?_ _)); exact BK230.out)) : gb230 ≠ gb231))
      have n6_ := aM ((by rw [hg]; exact Nat.ne_of_gt (blk_lt (g := gb230) (o := .cells #[.int .i64 0, .int .i64 0, .int .i64 0, .int .i64 0, .bool false] 39 (0, 0)) (by (with_reducible repeat (first | refine kN ?_ _ | refine kD ?_ | refine kA ?_ _)); exact BK230.out)) : gb231 ≠ gb230))
      clear BK230
      clear HB
      have BK230 := n0_
      have HB := n1_
      have BK231 := n2_
      have GW231 := n3_
      have GE231 := n4_
      have NB230_231 := n5_
      have NB231_230 := n6_
      clear n0_ n1_ n2_ n3_ n4_ n5_ n6_
      clear hb hbox hg
      refine hK.out _ _ trivial (fun hHeld => ?_)
      clear hK K
      refine norm_ (a' := ?_) ?_ ?_
      rotate_left
      ·show Act.put _ (some 4) _ = _
       simp only [Act.put, lI, lZ, lS, i64_w, i32_w]
       rfl
      refine one_ (i := 11) (N := none) #[true, true, true, true, true, true, true, true, true, true, true, true] rfl rfl (one_of HT_.out (by kernel_rfl)) (by decide) (fun K hK => ?_)
      have hs42 : w41.cell? ⟨gb231, 0, none⟩ = some (.int .i64 0) := (blk_cell BK231.out 0).trans rfl
      have hfs42 := blk_frozen BK231.out 0
      have hns42_0 := NB230_231.out
      have hms42_0 := NB231_230.out
      have hs43 : w41.cell? ⟨gb231, 1, none⟩ = some (.int .i64 0) := (blk_cell BK231.out 1).trans rfl
      have hfs43 := blk_frozen BK231.out 1
      have hns43_0 := NB230_231.out
      have hms43_0 := NB231_230.out
      have hs44 : w41.cell? ⟨gb231, 2, none⟩ = some (.int .i64 0) := (blk_cell BK231.out 2).trans rfl
      have hfs44 := blk_frozen BK231.out 2
      have hns44_0 := NB230_231.out
      have hms44_0 := NB231_230.out
      have hs45 : w41.cell? ⟨gb231, 3, none⟩ = some (.int .i64 0) := (blk_cell BK231.out 3).trans rfl
      have hfs45 := blk_frozen BK231.out 3
      have hns45_0 := NB230_231.out
      have hms45_0 := NB231_230.out
      have hs46 : w41.cell? ⟨gb231, 4, none⟩ = some (.bool false) := (blk_cell BK231.out 4).trans rfl
      have hfs46 := blk_frozen BK231.out 4
      have hns46_0 := NB230_231.out
      have hms46_0 := NB231_230.out
      refine skip_ (w1 := ?_) (by rfl) rfl ?_ ?_
      rotate_left
      ·go_simp
       rfl
      refine hK.out _ _ trivial (fun hHeld => ?_)
      clear hK K
      refine done_ (done_of HT_.out (by kernel_rfl)) ?_
      have ZM_ := aM trivial
      try go_wp2_with (first | ((with_reducible refine gate_callee (f := 79) rfl ?_); refine goesL_ (some 23) rfl rfl Try.func79 (by kernel_rfl) rfl #[.string a0, .int .i64 0, .int .i64 4] rfl (by (try simp only [lM, List.map_cons, List.map_nil]); first | done | rfl | (simp only [lD, lT]; rfl)) ?_; (with_reducible refine (impl_ReadBig.calls k a0 0 4 t232 t233 _ A9.out).mono ?_); rintro e w' ⟨rfl, ⟨nd, rfl⟩⟩; refine ⟨_, rfl, ?_⟩; have hnb47 := NB231_230.out; have hnc47 := NB230_231.out; obtain ⟨hcz48_0, hcz48_1, hcz48_2, hcz48_3, hcz48_4⟩ := blk_c5 BK231.out; obtain ⟨hfz48_0, hfz48_1, hfz48_2, hfz48_3, hfz48_4⟩ := blk_f5 BK231.out) | ((with_reducible refine gate_callee (f := 79) rfl ?_); refine goesL_ (some 29) rfl rfl Try.func79 (by kernel_rfl) rfl #[.string a0, .int .i64 4, .int .i64 4] rfl (by (try simp only [lM, List.map_cons, List.map_nil]); first | done | rfl | (simp only [lD, lT]; rfl)) ?_; (with_reducible refine (impl_ReadBig.calls k a0 4 4 t234 t235 _ A10.out).mono ?_); rintro e w' ⟨rfl, ⟨nd, rfl⟩⟩; refine ⟨_, rfl, ?_⟩) | ((with_reducible refine gate_dst (N := 34) rfl ?_); clear ZM_; refine letter_ (w0 := w) (B := w.heap.size) (g1 := gb230) (o1 := .cells #[.int .i64 0, .int .i64 0, .int .i64 0, .int .i64 0, .bool false] 39 (0, 0)) (g2 := gb231) (o2 := .cells #[.int .i64 t232, .int .i64 t234, .int .i64 (wrap64 (bt a0 8)), .int .i64 (wrap64 (bt a0 9)), .bool ((bt a0 12) == 1)] 39 (0, 0)) ?hx1_ ?hx2_ ?hx3_ ?_; (case hx1_ => (with_reducible repeat (first | refine kN ?_ _ | refine kD ?_ | refine kA ?_ _)); refine kF ?_ NB230_231.out _; (with_reducible repeat (first | refine kN ?_ _ | refine kD ?_ | refine kA ?_ _)); refine kF ?_ NB230_231.out _; (with_reducible repeat (first | refine kN ?_ _ | refine kD ?_ | refine kA ?_ _)); refine kF ?_ NB230_231.out _; (with_reducible repeat (first | refine kN ?_ _ | refine kD ?_ | refine kA ?_ _)); refine kF ?_ NB230_231.out _; (with_reducible repeat (first | refine kN ?_ _ | refine kD ?_ | refine kA ?_ _)); refine kF ?_ NB230_231.out _; (with_reducible repeat (first | refine kN ?_ _ | refine kD ?_ | refine kA ?_ _)); refine kF ?_ NB230_231.out _; (with_reducible repeat (first | refine kN ?_ _ | refine kD ?_ | refine kA ?_ _)); refine kF ?_ NB230_231.out _; (with_reducible repeat (first | refine kN ?_ _ | refine kD ?_ | refine kA ?_ _)); exact BK230.out); (case hx2_ => (with_reducible repeat (first | refine kN ?_ _ | refine kD ?_ | refine kA ?_ _)); refine blk_put (cs := #[.int .i64 t232, .int .i64 0, .int .i64 (wrap64 (bt a0 8)), .int .i64 (wrap64 (bt a0 9)), .bool ((bt a0 12) == 1)]) ?_ 1 _ rfl; (with_reducible repeat (first | refine kN ?_ _ | refine kD ?_ | refine kA ?_ _)); refine blk_put (cs := #[.int .i64 0, .int .i64 0, .int .i64 (wrap64 (bt a0 8)), .int .i64 (wrap64 (bt a0 9)), .bool ((bt a0 12) == 1)]) ?_ 0 _ rfl; (with_reducible repeat (first | refine kN ?_ _ | refine kD ?_ | refine kA ?_ _)); refine blk_put (cs := #[.int .i64 0, .int .i64 0, .int .i64 (wrap64 (bt a0 8)), .int .i64 (wrap64 (bt a0 9)), .bool false]) ?_ 4 _ rfl; (with_reducible repeat (first | refine kN ?_ _ | refine kD ?_ | refine kA ?_ _)); refine blk_put (cs := #[.int .i64 0, .int .i64 0, .int .i64 (wrap64 (bt a0 8)), .int .i64 0, .bool false]) ?_ 3 _ rfl; (with_reducible repeat (first | refine kN ?_ _ | refine kD ?_ | refine kA ?_ _)); refine blk_put (cs := #[.int .i64 0, .int .i64 0, .int .i64 0, .int .i64 0, .bool false]) ?_ 2 _ rfl; (with_reducible repeat (first | refine kN ?_ _ | refine kD ?_ | refine kA ?_ _)); refine blk_put (cs := #[.int .i64 0, .int .i64 0, .int .i64 0, .int .i64 0, .bool false]) ?_ 1 _ rfl; (with_reducible repeat (first | refine kN ?_ _ | refine kD ?_ | refine kA ?_ _)); refine blk_put (cs := #[.int .i64 0, .int .i64 0, .int .i64 0, .int .i64 0, .bool false]) ?_ 0 _ rfl; (with_reducible repeat (first | refine kN ?_ _ | refine kD ?_ | refine kA ?_ _)); exact BK231.out); (case hx3_ => repeat (first | (with_reducible first | exact HB.out | apply bA | apply bN | apply bE | refine bS ?_ GE230.out | refine bS ?_ GE231.out) | exact HB.out)); intro wl_ b1_ b2_ b3_; clear BK230 BK231 HB; have BK230 := aM b1_; have BK231 := aM b2_; have HB := aM b3_; clear b1_ b2_ b3_; obtain ⟨ly1_, ly2_, ly3_, ly4_, ly5_⟩ := blk_c5 BK230.out; obtain ⟨lz1_, lz2_, lz3_, lz4_, lz5_⟩ := blk_c5 BK231.out) | ((with_reducible refine gate_callee (f := 23) rfl ?_); refine goesL_ (some 35) rfl rfl Try.func23 (by kernel_rfl) rfl #[.agg #[.int .i64 t232, .int .i64 t234, .int .i64 (wrap64 (bt a0 8)), .int .i64 (wrap64 (bt a0 9)), .bool ((bt a0 12) == 1)]] rfl (by (try simp only [lM, List.map_cons, List.map_nil]); first | done | rfl | (simp only [lD, lT]; rfl)) ?_; (with_reducible refine (impl_HeadText.calls k t232 t234 (wrap64 (bt a0 8)) (wrap64 (bt a0 9)) ((bt a0 12) == 1) t236 false _ A11.out).mono ?_); rintro e w49 ⟨rfl, hb⟩; refine ⟨_, rfl, ?_⟩; have n0_ := aM (kB BK230.out hb); have n1_ := aM (kB BK231.out hb); have n2_ := aM (bT HB.out hb); clear BK230; clear BK231; clear HB; have BK230 := n0_; have BK231 := n1_; have HB := n2_; clear n0_ n1_ n2_; (try clear hb); (try clear hb2); (try clear hk); (try clear hi); obtain ⟨hcz50_0, hcz50_1, hcz50_2, hcz50_3, hcz50_4⟩ := blk_c5 BK230.out; obtain ⟨hfz50_0, hfz50_1, hfz50_2, hfz50_3, hfz50_4⟩ := blk_f5 BK230.out))
      refine bodyPost_ret (results_ct rfl _ _ gb230 39 #[.int .i64 0, .int .i64 0, .int .i64 0, .int .i64 0, .bool false] (0, 0) _ rfl (by (with_reducible repeat (first | refine kN ?_ _ | refine kD ?_ | refine kA ?_ _)); refine blk_put (cs := #[.int .i64 0, .int .i64 0, .int .i64 0, .int .i64 0, .bool false]) ?_ 4 _ rfl; (with_reducible repeat (first | refine kN ?_ _ | refine kD ?_ | refine kA ?_ _)); refine blk_put (cs := #[.int .i64 0, .int .i64 0, .int .i64 0, .int .i64 0, .bool false]) ?_ 3 _ rfl; (with_reducible repeat (first | refine kN ?_ _ | refine kD ?_ | refine kA ?_ _)); refine blk_put (cs := #[.int .i64 0, .int .i64 0, .int .i64 0, .int .i64 0, .bool false]) ?_ 2 _ rfl; (with_reducible repeat (first | refine kN ?_ _ | refine kD ?_ | refine kA ?_ _)); refine blk_put (cs := #[.int .i64 0, .int .i64 0, .int .i64 0, .int .i64 0, .bool false]) ?_ 1 _ rfl; (with_reducible repeat (first | refine kN ?_ _ | refine kD ?_ | refine kA ?_ _)); refine blk_put (cs := #[.int .i64 0, .int .i64 0, .int .i64 0, .int .i64 0, .bool false]) ?_ 0 _ rfl; (with_reducible repeat (first | refine kN ?_ _ | refine kD ?_ | refine kA ?_ _)); exact BK230.out) Try.underlying39 rfl (by kernel_rfl)) rfl ?_
      exact ⟨by first | rfl | (simp [errW_none, errW_some] <;> rfl) | (simp [*, errW_none, errW_some] <;> rfl), by repeat (first | (with_reducible first | exact HB.out | apply bA | apply bN | apply bE | refine bS ?_ GE230.out | refine bS ?_ GE231.out) | exact HB.out)⟩
    ·rw [if_neg c7] at H
     exact absurd H (by simp)
   ·rw [if_neg c5] at H
    exact absurd H (by simp)
  ·rw [if_neg c3] at H
   exact absurd H (by simp)
 ·rw [if_neg c2] at H
  have c2b0 : ((a0.size : Int) == 13) = false := beq_eq_false_iff_ne.mpr c2
  have c2b1 : ((a0.size : Int) != 13) = true := bne_iff_ne.mpr c2
  simp only [Option.some.injEq, Prod.mk.injEq] at H
  obtain ⟨rfl, rfl, rfl, rfl, rfl, rfl⟩ := H
  go_enter Try.func25, Try.ntmps25
  go_wp2_with (first | ((with_reducible refine gate_dst (N := 2) rfl ?_); refine box_event ?hg (N := 2) ?hd (cs := #[.int .i64 0, .int .i64 0, .int .i64 0, .int .i64 0, .bool false]) (t := 39) ?hr ?_; (case hd => rfl); (case hg => rfl); (case hr => first | (go_simp; done) | (go_simp; rfl)); intro gb230 hg w51 hbox hb; have n0_ := aM (bT (by repeat (first | (with_reducible first | exact HB.out | apply bA | apply bN | apply bE) | exact HB.out)) hb); have n1_ := aM (hbox); have n2_ := aM ((by rw [hg]; exact (bZ (by repeat (first | (with_reducible first | exact HB.out | apply bA | apply bN | apply bE) | exact HB.out))) : w.heap.size ≤ gb230)); have n3_ := aM ((by rw [hg]; exact (bZ (by repeat (first | (with_reducible first | exact HB.out | apply bA | apply bN | apply bE) | exact HB.out))) : w.heap.size ≤ gb230)); clear HB; have HB := n0_; have BK230 := n1_; have GW230 := n2_; have GE230 := n3_; clear n0_ n1_ n2_ n3_; clear hb hbox hg; obtain ⟨hcz52_0, hcz52_1, hcz52_2, hcz52_3, hcz52_4⟩ := blk_c5 BK230.out; obtain ⟨hfz52_0, hfz52_1, hfz52_2, hfz52_3, hfz52_4⟩ := blk_f5 BK230.out))
  refine bodyPost_ret (results_ct rfl _ _ gb230 39 #[.int .i64 0, .int .i64 0, .int .i64 0, .int .i64 0, .bool false] (0, 0) _ rfl (by (with_reducible repeat (first | refine kN ?_ _ | refine kD ?_ | refine kA ?_ _)); refine blk_put (cs := #[.int .i64 0, .int .i64 0, .int .i64 0, .int .i64 0, .bool false]) ?_ 4 _ rfl; (with_reducible repeat (first | refine kN ?_ _ | refine kD ?_ | refine kA ?_ _)); refine blk_put (cs := #[.int .i64 0, .int .i64 0, .int .i64 0, .int .i64 0, .bool false]) ?_ 3 _ rfl; (with_reducible repeat (first | refine kN ?_ _ | refine kD ?_ | refine kA ?_ _)); refine blk_put (cs := #[.int .i64 0, .int .i64 0, .int .i64 0, .int .i64 0, .bool false]) ?_ 2 _ rfl; (with_reducible repeat (first | refine kN ?_ _ | refine kD ?_ | refine kA ?_ _)); refine blk_put (cs := #[.int .i64 0, .int .i64 0, .int .i64 0, .int .i64 0, .bool false]) ?_ 1 _ rfl; (with_reducible repeat (first | refine kN ?_ _ | refine kD ?_ | refine kA ?_ _)); refine blk_put (cs := #[.int .i64 0, .int .i64 0, .int .i64 0, .int .i64 0, .bool false]) ?_ 0 _ rfl; (with_reducible repeat (first | refine kN ?_ _ | refine kD ?_ | refine kA ?_ _)); exact BK230.out) Try.underlying39 rfl (by kernel_rfl)) rfl ?_
  exact ⟨by first | rfl | (simp [errW_none, errW_some] <;> rfl) | (simp [*, errW_none, errW_some] <;> rfl), by repeat (first | (with_reducible first | exact HB.out | apply bA | apply bN | apply bE | refine bS ?_ GE230.out) | exact HB.out)⟩

end Go.Proofs.Ytajnobmnkbkkgaa.PFnHeads
