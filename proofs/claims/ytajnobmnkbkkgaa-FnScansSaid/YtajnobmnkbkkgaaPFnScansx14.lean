/- Walks of functions that the law FnScans reaches: each call comes to what the Lean function of its name tells. Written by p2.py, a program of this session, by way of the kit's print. -/
import Derived.Test.YtajnobmnkbkkgaaVFnScans
import Derived.Test.YtajnobmnkbkkgaaPFnScansx0
import Derived.Test.YtajnobmnkbkkgaaPFnScansx4
import Derived.Test.YtajnobmnkbkkgaaPFnScansx6
import Derived.Test.YtajnobmnkbkkgaaPFnScansx7
import Derived.Test.YtajnobmnkbkkgaaPFnScansx12
import Derived.Test.YtajnobmnkbkkgaaPFnScansx13
namespace Go.Proofs.Ytajnobmnkbkkgaa.PFnScans
open Go.RowKit Go.Proofs.YtajnobmnkbkkgaaW.PrintWords Go.Proofs.YtajnobmnkbkkgaaW.PrintLast Go.Proofs.YtajnobmnkbkkgaaW.PrintMore
attribute [local go_sem] max2_int min2_int max_two min_two max_three min_three max_four min_four   -- for this text's walks alone
set_option linter.unusedVariables false
set_option linter.unusedSimpArgs false

/-! ### impl_readRows: function 113 -/
def impl_readRows.l0 : Nat → ByteArray → Int → ByteArray → Int → Int → Int → Int → Int → Int → List Int → Option (Int × Int × Int × Int × List Int × ByteArray × Bool)
  | 0, _, _, _, _, _, _, _, _, _, _ => none
  | k + 1, x0, x7, x8, x23, x24, x410000, x410001, x410002, x410003, x410004 => if x24 < x23 then (if 0 < (x0.size : Int) then (if 1 ≤ (wrap64 (1 + x7)) then (if (wrap64 (1 + x7)) ≤ (x0.size : Int) then ((impl_unitOf.f k x410002 x410003).bind fun t413 => ((impl_UnfilterRow.f k (wrap64 (bt x0 0)) (x0.extract 1 ((wrap64 (1 + x7)) : Int).toNat) x8 t413).bind fun bt414 => (if bt414.2 = true then ((impl_ChannelsOf.f k x410002).bind fun t416 => ((impl_UnpackRow.f k bt414.1 (wrap64 (x410000 * t416)) x410003).bind fun bt417 => (if x410004.length + bt417.1.length < 17592186044416 then (if 0 ≤ (wrap64 (1 + x7)) then (impl_readRows.l0 k (x0.extract ((wrap64 (1 + x7)) : Int).toNat x0.size) x7 bt414.1 x23 (wrap64 (x24 + 1)) x410000 x410001 x410002 x410003 (x410004 ++ bt417.1)) else (none)) else (none)))) else (some (0, 0, 0, 0, ([] : List Int), (⟨#[]⟩ : ByteArray), false))))) else (none)) else (none)) else (none)) else (some (x410000, x410001, x410002, x410003, x410004, x0, true))
def impl_readRows.f (k : Nat) (a0 : ByteArray) (a1_0 : Int) (a1_1 : Int) (a1_2 : Int) (a1_3 : Int) (l1_4 : List Int) : Option (Int × Int × Int × Int × List Int × ByteArray × Bool) := (impl_RowBytes.f k a1_0 a1_2 a1_3).bind fun t411 => ((impl_noughts.f t411).bind fun t412 => (impl_readRows.l0 k a0 t411 t412 a1_1 0 a1_0 a1_1 a1_2 a1_3 l1_4))
def impl_readRows.T5 : Bool × List (List Nat × List Nat) := (true, [([], []), ([0], [0]), ([1], [1]), ([], []), ([], []), ([4], [4]), ([3, 5], [3, 5]), ([], []), ([], []), ([8], [8]), ([], []), ([10], [10]), ([9, 11], [9, 11]), ([2, 6, 7, 12, 12], [2, 6, 7, 12]), ([13], [13]), ([14], [14]), ([14], [14]), ([15, 13, 0, 1, 2, 3, 4, 5, 6, 7, 8, 9, 10, 11, 12, 13, 14, 15], [15]), ([16, 17, 0, 1, 2, 3, 4, 5, 6, 7, 8, 9, 10, 11, 12, 13, 14, 15, 16, 17], [16])])
def impl_readRows.B5 : List Nat := [0, 1, 3, 0, 0, 16, 56, 0, 0, 256, 0, 1024, 3840, 8191, 16383, 32767, 32767, 65535, 262143]
theorem impl_readRows.tab5 : rtab .any (opsOf Try.f113 5) = impl_readRows.T5 := by kernel_rfl
theorem impl_readRows.bits5 : waitsOk impl_readRows.T5.2 impl_readRows.B5 = true := by kernel_rfl
def impl_readRows.T8 : Bool × List (List Nat × List Nat) := (true, [([], []), ([], []), ([1], [1]), ([], []), ([3], [3]), ([4], [4]), ([2, 5], [2, 5]), ([], []), ([7], [7]), ([0, 6, 8, 5], [0, 6, 8]), ([9], [9]), ([10], [10]), ([10], [10]), ([11, 9, 0, 1, 2, 3, 4, 5, 6, 7, 8, 9, 10, 11], [11]), ([12, 13, 0, 1, 2, 3, 4, 5, 6, 7, 8, 9, 10, 11, 12, 13], [12])])
def impl_readRows.B8 : List Nat := [0, 0, 2, 0, 8, 24, 62, 0, 128, 511, 1023, 2047, 2047, 4095, 16383]
theorem impl_readRows.tab8 : rtab .any (opsOf Try.f113 8) = impl_readRows.T8 := by kernel_rfl
theorem impl_readRows.bits8 : waitsOk impl_readRows.T8.2 impl_readRows.B8 = true := by kernel_rfl
set_option maxHeartbeats 8000000 in
set_option maxRecDepth 100000 in
theorem impl_readRows.calls (k : Nat) (a0 : ByteArray) (a1_0 : Int) (a1_1 : Int) (a1_2 : Int) (a1_3 : Int) (P1_4_ : Nat → Prop) (u9000_ : Value) (l1_4 : List Int) (r1 : Int) (r2 : Int) (r3 : Int) (r4 : Int) (r5 : List Int) (r6 : ByteArray) (r7 : Bool) (w0 w : World) (hB : Below w0.heap.size w0 w) (ho1_4 : Kd.R (Kd.int .i64) 3 w w0.heap.size P1_4_ u9000_ l1_4) (h : impl_readRows.f k a0 a1_0 a1_1 a1_2 a1_3 l1_4 = some (r1, r2, r3, r4, r5, r6, r7)) :
 Calls Try.prog 113 #[.string a0, .agg #[.int .i64 a1_0, .int .i64 a1_1, .int .i64 a1_2, .int .i64 a1_3, u9000_]] w fun e w' => ∃ v4_ : Value, e = .returned (.tuple #[.agg #[.int .i64 r1, .int .i64 r2, .int .i64 r3, .int .i64 r4, v4_], .string r6, .bool r7]) ∧ Kd.R (Kd.int .i64) 3 w' w0.heap.size (fun k_ => (P1_4_ k_ ∨ w.heap.size ≤ k_)) v4_ r5 ∧ Below w0.heap.size w0 w' ∧ Kept w w' (fun k_ => P1_4_ k_) := by
 have hu29 := Try.underlying29; have HO1_4 := aM (show Kd.R (Kd.int .i64) 3 w w0.heap.size (fun k_ => (P1_4_ k_ ∨ w.heap.size ≤ k_)) u9000_ l1_4 from Kd.R_mono ho1_4 (fun k_ hk => (.inl hk))); have HK := aM (Kept.refl w (fun k_ => P1_4_ k_)); have HW0 := aM hB.size; have HB := aM hB; clear hB; have H : ((impl_RowBytes.f k a1_0 a1_2 a1_3).bind fun t411 => ((impl_noughts.f t411).bind fun t412 => (impl_readRows.l0 k a0 t411 t412 a1_1 0 a1_0 a1_1 a1_2 a1_3 l1_4))) = some (r1, r2, r3, r4, r5, r6, r7) := h; clear h; revert H; refine bdR fun t411 A3 => ?_; refine bdR fun t412 A4 => ?_; refine adR fun H' => ?_; obtain ⟨Ao5, co5, eo5⟩ := Kd.R_slice HO1_4.out; subst eo5; go_enter Try.func113, Try.ntmps113
 go_wp2_with (first | ((with_reducible refine gD 3 ?_); refine bE 3 #[.int .i64 a1_0, .int .i64 a1_1, .int .i64 a1_2, .int .i64 a1_3, .slice Ao5 l1_4.length co5] 29 ?_; intro gb409 hg w6 hbox hb; replace HO1_4 := aM (Kd.R_below (Kd.R_i HO1_4.out) hb); have BK409 := aM (hbox); have GW409 := aM ((by rw [hg]; exact (by first | exact HK.out.1 | exact (show Kept w _ (fun k_ => P1_4_ k_) from by repeat (first | (with_reducible first | exact HK.out | apply Kept.alloc | apply Kept.drewN | apply Kept.drew) | exact HK.out)).1) : w.heap.size ≤ gb409)); replace HK := aM (Kept.below (S := (fun k_ => P1_4_ k_)) (by repeat (first | (with_reducible first | exact HK.out | apply Kept.alloc | apply Kept.drewN | apply Kept.drew) | exact HK.out)) hb); have GE409 := aM ((sZ hg : w0.heap.size ≤ gb409)); replace HB := aM (below_step hB hb); clear hb hbox hg) | ((with_reducible refine gD 4 ?_); refine bE 4 #[.int .i64 0, .int .i64 0, .int .i64 0, .int .i64 0, .slice none 0 0] 29 ?_; intro gb410 hg w7 hbox hb; replace HO1_4 := aM (Kd.R_below (Kd.R_i HO1_4.out) hb); have BK410 := aM (hbox); have GW410 := aM ((by rw [hg]; exact (by first | exact HK.out.1 | exact (show Kept w _ (fun k_ => P1_4_ k_) from by repeat (first | (with_reducible first | exact HK.out | apply Kept.alloc | apply Kept.drewN | apply Kept.drew | refine Kept.setCell ?_ (.inr GW409.out) _) | exact HK.out)).1) : w.heap.size ≤ gb410)); replace HK := aM (Kept.below (S := (fun k_ => P1_4_ k_)) (by repeat (first | (with_reducible first | exact HK.out | apply Kept.alloc | apply Kept.drewN | apply Kept.drew | refine Kept.setCell ?_ (.inr GW409.out) _) | exact HK.out)) hb); have GE410 := aM ((sZ hg : w0.heap.size ≤ gb410)); replace HB := aM (below_step hB hb); have NB409_410 := aM ((nL BK409 hg : gb409 ≠ gb410)); have NB410_409 := aM ((nG BK409 hg : gb410 ≠ gb409)); replace BK409 := aM (blk_below (g := gb409) (o := .cells #[.int .i64 a1_0, .int .i64 a1_1, .int .i64 a1_2, .int .i64 a1_3, .slice Ao5 l1_4.length co5] 29 (0, 0)) (bI BK409.out) hb); clear hb hbox hg; have hnb8 := NB409_410.out; have hnc8 := NB410_409.out; obtain ⟨hcz9_0, hcz9_1, hcz9_2, hcz9_3, hcz9_4⟩ := blk_c5 BK409.out; obtain ⟨hfz9_0, hfz9_1, hfz9_2, hfz9_3, hfz9_4⟩ := blk_f5 BK409.out) | ((with_reducible refine gC 115 ?_); refine gL (some 19) Try.func115 #[.int .i64 a1_0, .int .i64 a1_2, .int .i64 a1_3] ?_; (with_reducible refine (impl_RowBytes.calls k a1_0 a1_2 a1_3 t411 _ A3.out).mono ?_); rintro e w' ⟨rfl, ⟨nd, rfl⟩⟩; refine ⟨_, rfl, ?_⟩) | ((with_reducible refine gC 159 ?_); refine gL (some 21) Try.func159 #[.int .i64 t411] ?_; (with_reducible refine (impl_noughts.calls t411 t412 _ A4.out).mono ?_); rintro e w10 ⟨rfl, hb⟩; refine ⟨_, rfl, ?_⟩; replace HO1_4 := aM (Kd.R_below (Kd.R_i HO1_4.out) hb); replace BK409 := aM (blk_below (g := gb409) (o := .cells #[.int .i64 a1_0, .int .i64 a1_1, .int .i64 a1_2, .int .i64 a1_3, .slice Ao5 l1_4.length co5] 29 (0, 0)) (bI BK409.out) hb); replace BK410 := aM (blk_below (g := gb410) (o := .cells #[.int .i64 0, .int .i64 0, .int .i64 0, .int .i64 0, .slice none 0 0] 29 (0, 0)) (bI BK410.out) hb); replace HK := aM (Kept.below (S := (fun k_ => P1_4_ k_)) (by repeat (first | (with_reducible first | exact HK.out | apply Kept.alloc | apply Kept.drewN | apply Kept.drew | refine Kept.setCell ?_ (.inr GW409.out) _ | refine Kept.setCell ?_ (.inr GW410.out) _) | exact HK.out)) hb); replace HB := aM (below_step hB hb); (try clear hb); (try clear hb2); (try clear hk); (try clear hi); obtain ⟨hcz11_0, hcz11_1, hcz11_2, hcz11_3, hcz11_4⟩ := blk_c5 BK409.out; obtain ⟨hfz11_0, hfz11_1, hfz11_2, hfz11_3, hfz11_4⟩ := blk_f5 BK409.out))
 go_loopg [0, 8, 24] k (fun kq v0 v8 v24 w' => ∃ (x0_1 : ByteArray) (x8_1 : ByteArray) (x24_1 : Int) (x410004_1 : List Int) (x411000_1 : Int) (x411001_1 : Int) (x411002_1 : Int) (x411003_1 : Int) (u410004 : Value), v0 = .string x0_1 ∧ v8 = .string x8_1 ∧ v24 = .int .i64 x24_1 ∧ Aside0 (impl_readRows.l0 kq x0_1 t411 x8_1 a1_1 x24_1 a1_0 a1_1 a1_2 a1_3 x410004_1 = some (r1, r2, r3, r4, r5, r6, r7)) ∧ Aside0 (kq ≤ k) ∧ Aside0 (Kd.R (Kd.int .i64) 3 w' w0.heap.size (fun k_ => (P1_4_ k_ ∨ w.heap.size ≤ k_)) u410004 x410004_1) ∧ Aside0 (w'.heap[gb409]? = some (.cells #[.int .i64 a1_0, .int .i64 a1_1, .int .i64 a1_2, .int .i64 a1_3, u410004] 29 (0, 0))) ∧ Aside0 (w'.heap[gb410]? = some (.cells #[.int .i64 x411000_1, .int .i64 x411001_1, .int .i64 x411002_1, .int .i64 x411003_1, (.slice none 0 0)] 29 (0, 0))) ∧ Aside0 (Kept w w' (fun k_ => P1_4_ k_)) ∧ Aside0 (Below w0.heap.size w0 w'))
 case atStart => exact ⟨(a0), (t412), (0), (l1_4), (0), (0), (0), (0), (.slice Ao5 l1_4.length co5), eQ, eQ, eQ, H', ⟨Nat.le_refl _⟩, ⟨Kd.R_i HO1_4.out⟩, ⟨bI BK409.out⟩, ⟨bI BK410.out⟩, ⟨by repeat (first | (with_reducible first | exact HK.out | apply Kept.alloc | apply Kept.drewN | apply Kept.drew | refine Kept.setCell ?_ (.inr GW409.out) _ | refine Kept.setCell ?_ (.inr GW410.out) _) | exact HK.out)⟩, ⟨hB⟩⟩
 case round =>
  clear H'; (try clear c1); (try clear p2); (try clear c5); (try clear c8); (try clear c11); (try clear hcz11_0 hcz11_1 hcz11_2 hcz11_3 hcz11_4); (try clear hcz9_0 hcz9_1 hcz9_2 hcz9_3 hcz9_4); (try clear hfz11_0 hfz11_1 hfz11_2 hfz11_3 hfz11_4); (try clear hfz9_0 hfz9_1 hfz9_2 hfz9_3 hfz9_4); obtain ⟨x0_1, x8_1, x24_1, x410004_1, x411000_1, x411001_1, x411002_1, x411003_1, u410004, rfl, rfl, rfl, HA, HK1, HO_410004, BK409, BK410, HK, HB⟩ := hrel; rcases gk with _ | k1
  · exact absurd HA.out (by simp [impl_readRows.l0])
  revert HA; refine aoR ?_; intro H; simp only [impl_readRows.l0] at H; revert H
  refine ifB (fun c12 => ?_) (fun c12 => ?_)
  · intro H; have c12b0 := decide_eq_true c12; clear c12; revert H; refine ifR fun c13 => ?_; intro H; have c13b0 := decide_eq_true c13; have c13b1 : decide (0 < x0_1.size) = true := decide_eq_true (by omega); clear c13; revert H; refine ifR fun c15 => ?_; intro H; have c15b0 := eq_true c15; have c15b1 := decide_eq_true c15; revert H; refine ifR fun c16 => ?_; intro H; have c16b0 := eq_true c16; have c16b1 := decide_eq_true c16; revert H; refine bdR fun t413 A17 => ?_; refine bdR fun ⟨t414, t415⟩ A18 => ?_; intro H
    try dsimp only at H
    revert H
    refine ifB (fun c19 => ?_) (fun c19 => ?_)
    · intro H; subst c19; revert H; refine bdR fun t416 A20 => ?_; refine bdR fun ⟨t417, t418⟩ A21 => ?_; intro H
      try dsimp only at H
      revert H; refine ifR fun c22 => ?_; intro H; have LMc22 := aM c22; clear c22; obtain ⟨y421, hy421⟩ : ∃ y_ : List Int, y_ = (x410004_1 ++ t417) := ⟨_, rfl⟩; replace H : (if 0 ≤ (wrap64 (1 + t411)) then (impl_readRows.l0 k1 (x0_1.extract ((wrap64 (1 + t411)) : Int).toNat x0_1.size) t411 t414 a1_1 (wrap64 (x24_1 + 1)) a1_0 a1_1 a1_2 a1_3 y421) else (none)) = some (r1, r2, r3, r4, r5, r6, r7) := by first | (rw [hy421]; with_reducible exact H) | (have H2_ := (Option.bind_some _ _).symm.trans H; rw [hy421]; with_reducible exact H2_) | (have H2_ := (Option.bind_some _ _).symm.trans H; with_reducible exact H2_) | with_reducible exact H | (rw [hy421]; exact H) | exact H
      have Ny421 := aM hy421; clear hy421; obtain ⟨ji23, hji23⟩ : ∃ j_ : Int, (wrap64 (1 + t411)) = j_ := ⟨_, rfl⟩; replace H : (if 0 ≤ (ji23) then (impl_readRows.l0 k1 (x0_1.extract ((ji23) : Int).toNat x0_1.size) t411 t414 a1_1 (wrap64 (x24_1 + 1)) a1_0 a1_1 a1_2 a1_3 y421) else (none)) = some (r1, r2, r3, r4, r5, r6, r7) := by first | (rw [hji23] at H; exact H) | (simp only [hji23] at H ⊢; exact H)
      (try rw [hji23] at c15b0)
      (try rw [hji23] at c15b1)
      (try rw [hji23] at c15)
      (try rw [hji23] at c16b0)
      (try rw [hji23] at c16b1)
      (try rw [hji23] at c16)
      (try rw [hji23] at A17)
      (try rw [hji23] at A18)
      (try rw [hji23] at A20)
      (try rw [hji23] at A21); have hji23w : (IntKind.i64.wrap (1 + t411)) = ji23 := (i64_w _).trans hji23; revert H; refine ifR fun c24 => ?_; intro H; have c24b0 := eq_true c24; have c24b1 := decide_eq_true c24; clear c24; have c25b0 := eq_true (bD : (ji23) ≤ (x0_1.size : Int)); revert H; refine adR fun H' => ?_
      try go_wp2
      replace HO_410004 := aM (Kd.R_drew HO_410004.out); replace BK409 := aM (blk_drew BK409.out); replace BK410 := aM (blk_drew BK410.out); replace HK := aM (Kept.drew HK.out); replace HB := aM (below_drew1 HB.out); have p14 : 0 ≤ (0 : Int) := (by omega); have q14 : 0 < x0_1.size := (by have : (0 : Int) < (x0_1.size : Int) := bD; omega); have hx14 : ∀ h : 0 < x0_1.size, ((x0_1[0]'h).toNat : Int) = bt x0_1 0 := bt_at x0_1 0; clear p14; have qi14 : (0 < (x0_1.size : Int)) = True := eq_true (bD); replace q14 := eq_true q14
      refine start_ (n := 19) (S := fun w' => w'.cell? ⟨gb409, 0, none⟩ = some (.int .i64 a1_0) ∧ w'.cell? ⟨gb409, 1, none⟩ = some (.int .i64 a1_1) ∧ w'.cell? ⟨gb409, 2, none⟩ = some (.int .i64 a1_2) ∧ w'.cell? ⟨gb409, 3, none⟩ = some (.int .i64 a1_3) ∧ w'.cell? ⟨gb409, 4, none⟩ = some (u410004)) (ds := []) #[false, false, false, false, false, false, false, false, false, false, false, false, false, false, false, false, false, false, false] (by kernel_rfl) rfl rfl ⟨(blk_cell BK409.out 0).trans rfl, (blk_cell BK409.out 1).trans rfl, (blk_cell BK409.out 2).trans rfl, (blk_cell BK409.out 3).trans rfl, (blk_cell BK409.out 4).trans rfl⟩ (fun hHeld => ?_); refine with_tabW impl_readRows.tab5 impl_readRows.bits5 (fun HT_ HW_ => ?_)
      generalize wr.drew = w26 at HO_410004 BK409 BK410 HK HB hHeld ⊢; refine pU 0 27 (bAr 19 1) ?_; refine pU 3 30 (bAr 19 9) ?_; refine pU 4 31 (bAr 19 25) ?_; refine pU 5 32 (bAr 19 57) ?_; refine pU 6 33 (bAr 19 121) ?_; refine pU 7 34 (bAr 19 249) ?_; refine pU 8 35 (bAr 19 505) ?_; refine pU 10 37 (bAr 19 1529) ?_
      refine take_ (i := 1) (N := some 28) (v := ?_) (a' := ?_) #[true, true, false, true, true, true, true, true, true, false, true, false, false, false, false, false, false, false, false] rfl rfl (take_ofW HT_.out HW_.out (by kernel_rfl)) (fun _ _ _ h => h) (Or.inl ⟨by rfl, ?_⟩) hHeld ?_ ?_; rotate_left
      · rintro w' ⟨s0, s1, s2, s3, s4⟩
        go_simp; with_reducible rfl
      rotate_left
      · simp only [Act.put, List.setIfInBounds_toArray, List.set_cons_zero, List.set_cons_succ, i64_w, i32_w]
        rfl
      refine pU 2 29 (bAr 19 1535) ?_
      refine take_ (i := 9) (N := some 36) (v := ?_) (a' := ?_) #[true, true, true, true, true, true, true, true, true, true, true, false, false, false, false, false, false, false, false] rfl rfl (take_ofW HT_.out HW_.out (by kernel_rfl)) (fun _ _ _ h => h) (Or.inl ⟨by rfl, ?_⟩) hHeld ?_ ?_; rotate_left
      · rintro w' ⟨s0, s1, s2, s3, s4⟩
        go_simp; with_reducible rfl
      rotate_left
      · simp only [Act.put, List.setIfInBounds_toArray, List.set_cons_zero, List.set_cons_succ, i64_w, i32_w]
        rfl
      refine take_ (i := 11) (N := some 38) (v := ?_) (a' := ?_) #[true, true, true, true, true, true, true, true, true, true, true, true, false, false, false, false, false, false, false] rfl rfl (take_ofW HT_.out HW_.out (by kernel_rfl)) (fun _ _ _ h => h) (Or.inl ⟨by rfl, ?_⟩) hHeld ?_ ?_; rotate_left
      · rintro w' ⟨s0, s1, s2, s3, s4⟩
        go_simp; with_reducible rfl
      rotate_left
      · simp only [Act.put, List.setIfInBounds_toArray, List.set_cons_zero, List.set_cons_succ, i64_w, i32_w]
        rfl
      refine one_ (i := 12) (N := some 39) #[true, true, true, true, true, true, true, true, true, true, true, true, true, false, false, false, false, false, false] rfl rfl (one_of HT_.out (by kernel_rfl)) (by decide) (fun K hK => ?_)
      refine goes_ Try.func157 (by kernel_rfl) rfl #[.int .i64 a1_2, .int .i64 a1_3] (by rfl) rfl rfl (by (try simp only [List.map_toArray, List.map_cons, List.map_nil]); first | done | rfl | (simp only [List.length_drop, List.length_take]; rfl)) ?_
      with_reducible refine (impl_unitOf.calls k1 a1_2 a1_3 t413 _ A17.out).mono ?_
      rintro e w27 ⟨rfl, hb⟩
      refine ⟨_, rfl, ?_⟩; replace HO_410004 := aM (Kd.R_below (Kd.R_i HO_410004.out) hb); replace BK409 := aM (blk_below (g := gb409) (o := .cells #[.int .i64 a1_0, .int .i64 a1_1, .int .i64 a1_2, .int .i64 a1_3, u410004] 29 (0, 0)) (bI BK409.out) hb); replace BK410 := aM (blk_below (g := gb410) (o := .cells #[.int .i64 x411000_1, .int .i64 x411001_1, .int .i64 x411002_1, .int .i64 x411003_1, .slice none 0 0] 29 (0, 0)) (bI BK410.out) hb); replace HK := aM (Kept.below (S := (fun k_ => P1_4_ k_)) (by repeat (first | (with_reducible first | exact HK.out | apply Kept.alloc | apply Kept.drewN | apply Kept.drew | refine Kept.setCell ?_ (.inr GW409.out) _ | refine Kept.setCell ?_ (.inr GW410.out) _) | exact HK.out)) hb); replace HB := aM (below_step hB hb); (try clear hb); (try clear hb2); (try clear hk); (try clear hi)
      refine hK.out _ _ ⟨(blk_cell BK409.out 0).trans rfl, (blk_cell BK409.out 1).trans rfl, (blk_cell BK409.out 2).trans rfl, (blk_cell BK409.out 3).trans rfl, (blk_cell BK409.out 4).trans rfl⟩ (fun hHeld => ?_); clear hK K
      refine norm_ (a' := ?_) ?_ ?_; rotate_left
      · show Act.put _ (some 39) _ = _
        simp only [Act.put, List.setIfInBounds_toArray, List.set_cons_zero, List.set_cons_succ, i64_w, i32_w]
        rfl
      refine one_ (i := 13) (N := some 40) #[true, true, true, true, true, true, true, true, true, true, true, true, true, true, false, false, false, false, false] rfl rfl (one_of HT_.out (by kernel_rfl)) (by decide) (fun K hK => ?_)
      refine goes_ Try.func162 (by kernel_rfl) rfl #[.int .i64 (wrap64 (bt x0_1 0)), .string (x0_1.extract 1 ((ji23) : Int).toNat), .string x8_1, .int .i64 t413] (by rfl) rfl rfl (by (try simp only [List.map_toArray, List.map_cons, List.map_nil]); first | done | (simp only [hji23]; rfl) | rfl | (simp only [List.length_drop, List.length_take]; rfl) | (simp only [ByteArray.size_extract, Nat.min_self]; rfl)) ?_
      with_reducible refine (impl_UnfilterRow.calls k1 (wrap64 (bt x0_1 0)) (x0_1.extract 1 ((ji23) : Int).toNat) x8_1 t413 t414 true _ A18.out).mono ?_
      rintro e w28 ⟨rfl, hb⟩
      refine ⟨_, rfl, ?_⟩; replace HO_410004 := aM (Kd.R_below (Kd.R_i HO_410004.out) hb); replace BK409 := aM (blk_below (g := gb409) (o := .cells #[.int .i64 a1_0, .int .i64 a1_1, .int .i64 a1_2, .int .i64 a1_3, u410004] 29 (0, 0)) (bI BK409.out) hb); replace BK410 := aM (blk_below (g := gb410) (o := .cells #[.int .i64 x411000_1, .int .i64 x411001_1, .int .i64 x411002_1, .int .i64 x411003_1, .slice none 0 0] 29 (0, 0)) (bI BK410.out) hb); replace HK := aM (Kept.below (S := (fun k_ => P1_4_ k_)) (by repeat (first | (with_reducible first | exact HK.out | apply Kept.alloc | apply Kept.drewN | apply Kept.drew | refine Kept.setCell ?_ (.inr GW409.out) _ | refine Kept.setCell ?_ (.inr GW410.out) _) | exact HK.out)) hb); replace HB := aM (below_step hB hb); (try clear hb); (try clear hb2); (try clear hk); (try clear hi)
      refine hK.out _ _ ⟨(blk_cell BK409.out 0).trans rfl, (blk_cell BK409.out 1).trans rfl, (blk_cell BK409.out 2).trans rfl, (blk_cell BK409.out 3).trans rfl, (blk_cell BK409.out 4).trans rfl⟩ (fun hHeld => ?_); clear hK K
      refine norm_ (a' := ?_) ?_ ?_; rotate_left
      · show Act.put _ (some 40) _ = _
        simp only [Act.put, List.setIfInBounds_toArray, List.set_cons_zero, List.set_cons_succ, i64_w, i32_w]
        rfl
      refine pU 14 26 (bAr 19 32767) ?_; refine pU 15 41 (bAr 19 65535) ?_; refine pU 16 42 (bAr 19 131071) ?_; refine pU 17 9 (bAr 19 262143) ?_; refine pU 18 10 (bAr 19 524287) ?_
      refine done_ (done_of HT_.out (by kernel_rfl)) ?_
      try go_wp2
      replace HO_410004 := aM (Kd.R_drew HO_410004.out); replace BK409 := aM (blk_drew BK409.out); replace BK410 := aM (blk_drew BK410.out); replace HK := aM (Kept.drew HK.out); replace HB := aM (below_drew1 HB.out)
      refine start_ (n := 15) (S := fun w' => w'.cell? ⟨gb409, 0, none⟩ = some (.int .i64 a1_0) ∧ w'.cell? ⟨gb409, 1, none⟩ = some (.int .i64 a1_1) ∧ w'.cell? ⟨gb409, 2, none⟩ = some (.int .i64 a1_2) ∧ w'.cell? ⟨gb409, 3, none⟩ = some (.int .i64 a1_3) ∧ w'.cell? ⟨gb409, 4, none⟩ = some (u410004)) (ds := []) #[false, false, false, false, false, false, false, false, false, false, false, false, false, false, false] (by kernel_rfl) rfl rfl ⟨(blk_cell BK409.out 0).trans rfl, (blk_cell BK409.out 1).trans rfl, (blk_cell BK409.out 2).trans rfl, (blk_cell BK409.out 3).trans rfl, (blk_cell BK409.out 4).trans rfl⟩ (fun hHeld => ?_); refine with_tabW impl_readRows.tab8 impl_readRows.bits8 (fun HT_ HW_ => ?_)
      generalize w28.drew = w29 at HO_410004 BK409 BK410 HK HB hHeld ⊢; refine pU 0 47 (bAr 15 1) ?_; refine pU 1 48 (bAr 15 3) ?_; refine pU 3 50 (bAr 15 11) ?_; refine pU 7 54 (bAr 15 139) ?_
      refine take_ (i := 2) (N := some 49) (v := ?_) (a' := ?_) #[true, true, true, true, false, false, false, true, false, false, false, false, false, false, false] rfl rfl (take_ofW HT_.out HW_.out (by kernel_rfl)) (fun _ _ _ h => h) (Or.inl ⟨by rfl, ?_⟩) hHeld ?_ ?_; rotate_left
      · rintro w' ⟨s0, s1, s2, s3, s4⟩
        go_simp; with_reducible rfl
      rotate_left
      · simp only [Act.put, List.setIfInBounds_toArray, List.set_cons_zero, List.set_cons_succ, i64_w, i32_w]
        rfl
      refine take_ (i := 4) (N := some 51) (v := ?_) (a' := ?_) #[true, true, true, true, true, false, false, true, false, false, false, false, false, false, false] rfl rfl (take_ofW HT_.out HW_.out (by kernel_rfl)) (fun _ _ _ h => h) (Or.inl ⟨by rfl, ?_⟩) hHeld ?_ ?_; rotate_left
      · rintro w' ⟨s0, s1, s2, s3, s4⟩
        go_simp; with_reducible rfl
      rotate_left
      · simp only [Act.put, List.setIfInBounds_toArray, List.set_cons_zero, List.set_cons_succ, i64_w, i32_w]
        rfl
      refine take_ (i := 8) (N := some 55) (v := ?_) (a' := ?_) #[true, true, true, true, true, false, false, true, true, false, false, false, false, false, false] rfl rfl (take_ofW HT_.out HW_.out (by kernel_rfl)) (fun _ _ _ h => h) (Or.inl ⟨by rfl, ?_⟩) hHeld ?_ ?_; rotate_left
      · rintro w' ⟨s0, s1, s2, s3, s4⟩
        go_simp; with_reducible rfl
      rotate_left
      · simp only [Act.put, List.setIfInBounds_toArray, List.set_cons_zero, List.set_cons_succ, i64_w, i32_w]
        rfl
      refine one_ (i := 5) (N := some 52) #[true, true, true, true, true, true, false, true, true, false, false, false, false, false, false] rfl rfl (one_of HT_.out (by kernel_rfl)) (by decide) (fun K hK => ?_)
      refine goes_ Try.func65 (by kernel_rfl) rfl #[.int .i64 a1_2] (by rfl) rfl rfl (by (try simp only [List.map_toArray, List.map_cons, List.map_nil]); first | done | rfl | (simp only [List.length_drop, List.length_take]; rfl)) ?_
      with_reducible refine (impl_ChannelsOf.calls k1 a1_2 t416 _ A20.out).mono ?_
      rintro e w' ⟨rfl, ⟨nd, rfl⟩⟩
      refine ⟨_, rfl, ?_⟩
      refine hK.out _ _ ⟨(blk_cell BK409.out 0).trans rfl, (blk_cell BK409.out 1).trans rfl, (blk_cell BK409.out 2).trans rfl, (blk_cell BK409.out 3).trans rfl, (blk_cell BK409.out 4).trans rfl⟩ (fun hHeld => ?_); clear hK K
      refine norm_ (a' := ?_) ?_ ?_; rotate_left
      · show Act.put _ (some 52) _ = _
        simp only [Act.put, List.setIfInBounds_toArray, List.set_cons_zero, List.set_cons_succ, i64_w, i32_w]
        rfl
      refine pU 6 53 (bAr 15 511) ?_
      refine one_ (i := 9) (N := some 56) #[true, true, true, true, true, true, true, true, true, true, false, false, false, false, false] rfl rfl (one_of HT_.out (by kernel_rfl)) (by decide) (fun K hK => ?_)
      refine goes_ Try.func163 (by kernel_rfl) rfl #[.string t414, .int .i64 (wrap64 (a1_0 * t416)), .int .i64 a1_3] (by rfl) rfl rfl (by (try simp only [List.map_toArray, List.map_cons, List.map_nil]); first | done | rfl | (simp only [List.length_drop, List.length_take]; rfl)) ?_
      with_reducible refine (impl_UnpackRow.calls k1 t414 (wrap64 (a1_0 * t416)) a1_3 t417 t418 _ A21.out).mono ?_
      rintro e w30 ⟨v419, rfl, ho0, hb⟩
      refine ⟨_, rfl, ?_⟩; have HO420 := aM (Kd.R_lower (Kd.R_new' (Kd.R_newM (M := fun k_ => (P1_4_ k_ ∨ w.heap.size ≤ k_)) ho0 (by first | exact HK.out.1 | exact (show Kept w _ (fun k_ => P1_4_ k_) from by repeat (first | (with_reducible first | exact HK.out | apply Kept.alloc | apply Kept.drewN | apply Kept.drew | refine Kept.setCell ?_ (.inr GW409.out) _ | refine Kept.setCell ?_ (.inr GW410.out) _) | exact HK.out)).1) (fun k_ h_ => .inr h_)) (Kd.R_lt (Kd.R_i HO_410004.out))) (below_size hB)); replace HO_410004 := aM (Kd.R_elder' (Kd.R_i HO_410004.out) (Kd.R_base ho0) hb); replace BK409 := aM (blk_below (g := gb409) (o := .cells #[.int .i64 a1_0, .int .i64 a1_1, .int .i64 a1_2, .int .i64 a1_3, u410004] 29 (0, 0)) (bI BK409.out) hb); replace BK410 := aM (blk_below (g := gb410) (o := .cells #[.int .i64 x411000_1, .int .i64 x411001_1, .int .i64 x411002_1, .int .i64 x411003_1, .slice none 0 0] 29 (0, 0)) (bI BK410.out) hb); replace HK := aM (Kept.below (S := (fun k_ => P1_4_ k_)) (by repeat (first | (with_reducible first | exact HK.out | apply Kept.alloc | apply Kept.drewN | apply Kept.drew | refine Kept.setCell ?_ (.inr GW409.out) _ | refine Kept.setCell ?_ (.inr GW410.out) _) | exact HK.out)) hb); replace HB := aM (below_step hB hb); (try clear hb); (try clear hb2); (try clear hk); (try clear hi); (try clear ho0)
      refine hK.out _ _ ⟨(blk_cell BK409.out 0).trans rfl, (blk_cell BK409.out 1).trans rfl, (blk_cell BK409.out 2).trans rfl, (blk_cell BK409.out 3).trans rfl, (blk_cell BK409.out 4).trans rfl⟩ (fun hHeld => ?_); clear hK K
      refine norm_ (a' := ?_) ?_ ?_; rotate_left
      · show Act.put _ (some 56) _ = _
        simp only [Act.put, List.setIfInBounds_toArray, List.set_cons_zero, List.set_cons_succ, i64_w, i32_w]
        rfl
      refine pU 10 46 (bAr 15 2047) ?_; refine pU 11 57 (bAr 15 4095) ?_; refine pU 12 58 (bAr 15 8191) ?_; refine pU 13 11 (bAr 15 16383) ?_; refine pU 14 12 (bAr 15 32767) ?_
      refine done_ (done_of HT_.out (by kernel_rfl)) ?_; have hnb31 := NB409_410.out; have hnc31 := NB410_409.out; obtain ⟨hcz32_0, hcz32_1, hcz32_2, hcz32_3, hcz32_4⟩ := blk_c5 BK409.out; obtain ⟨hfz32_0, hfz32_1, hfz32_2, hfz32_3, hfz32_4⟩ := blk_f5 BK409.out; obtain ⟨Ao34, co34, eo34⟩ := Kd.R_slice HO420.out; subst eo34
      try go_wp2_with (first | ((with_reducible refine gate_builtin (b := .append) (xs := #[.tmp 60, .tmp 61]) rfl ?_); at_builtin; refine Kd.R_append_rows (Kd.int .i64) (w0 := w0) w0.heap.size rfl (.tmp 60) (.tmp 61) 22 3 (.int .i64 0) 8 rfl Try.underlying22 info3 rfl (by decide) (by omega) u410004 x410004_1 t417 _ _ _ (fun k_ => (P1_4_ k_ ∨ w.heap.size ≤ k_) ∧ some k_ ≠ (.slice Ao34 t417.length co34 : Value).ownBlock) (fun _ => False) rfl rfl ?aO ?aR (fun _ _ h => h) (fun _ h => h.elim) ?aF ?aB ?aS ?aL ?_; (case aR => repeat (first | exact (Kd.R_reads' HO420.out).2.2 | (with_reducible refine Kd.C_alloc ?_ _) | (with_reducible refine Kd.C_drewN ?_ _) | (with_reducible refine Kd.C_drew ?_))); (case aB => exact hB); (case aF => exact (fun k_ hk => ⟨(.inr (Nat.le_trans (by first | exact HK.out.1 | exact (show Kept w _ (fun k_ => P1_4_ k_) from by repeat (first | (with_reducible first | exact HK.out | apply Kept.alloc | apply Kept.drewN | apply Kept.drew | refine Kept.setCell ?_ (.inr GW409.out) _ | refine Kept.setCell ?_ (.inr GW410.out) _) | exact HK.out)).1) hk)), Kd.fresh' (Kd.R_lt (Kd.R_i HO420.out)) k_ hk⟩)); (case aO => exact (Kd.R_i HO_410004.out)); (case aS => exact (below_size hB)); (case aL => have := LMc22.out; omega); intro v422 w33 ho hb hg hat; rw [← Ny421.out] at ho; replace BK409 := aM (blk_grown (g := gb409) (o := .cells #[.int .i64 a1_0, .int .i64 a1_1, .int .i64 a1_2, .int .i64 a1_3, u410004] 29 (0, 0)) (bI BK409.out) hg (Kd.R_ne HO_410004.out BK409.out (by decide))); replace BK410 := aM (blk_grown (g := gb410) (o := .cells #[.int .i64 x411000_1, .int .i64 x411001_1, .int .i64 x411002_1, .int .i64 x411003_1, .slice none 0 0] 29 (0, 0)) (bI BK410.out) hg (Kd.R_ne HO_410004.out BK410.out (by decide))); replace HO420 := aM (Kd.R_after (ok := (fun k_ => (P1_4_ k_ ∨ w.heap.size ≤ k_))) (Kd.R_i (Kd.R_mono HO420.out (fun _ hk => ⟨hk.1.1, hk.2⟩))) hg hat); replace HB := aM (hb); replace HK := aM (Kept.of_grown (S := (fun k_ => P1_4_ k_)) hg (by repeat (first | (with_reducible first | exact HK.out | apply Kept.alloc | apply Kept.drewN | apply Kept.drew | refine Kept.setCell ?_ (.inr GW409.out) _ | refine Kept.setCell ?_ (.inr GW410.out) _) | exact HK.out)) (fun k_ e_ => (HO_410004.out.1 k_ e_).1)); have HO423 := aM (ho); clear HO_410004; clear ho hb hg hat; obtain ⟨Ao35, co35, eo35⟩ := Kd.R_slice HO423.out; subst eo35; obtain ⟨hcz36_0, hcz36_1, hcz36_2, hcz36_3, hcz36_4⟩ := blk_c5 BK409.out; obtain ⟨hfz36_0, hfz36_1, hfz36_2, hfz36_3, hfz36_4⟩ := blk_f5 BK409.out))
      go_roundg k1
      case measure => have := HK1.out; omega
      case rel => exact ⟨(x0_1.extract ((ji23) : Int).toNat x0_1.size), (t414), (wrap64 (x24_1 + 1)), (y421), (x411000_1), (x411001_1), (x411002_1), (x411003_1), (.slice Ao35 y421.length co35), (by first | rfl | (simp; done) | (simp only [← hji23] <;> (first | rfl | simp)) | (simp [*]; done)), eQ, eQ, H', ⟨by have := HK1.out; omega⟩, ⟨Kd.R_i (Kd.R_mono (Kd.R_far (p := ⟨gb409, 4, none⟩) (Kd.R_types HO423.out BK409.out (by decide)) (fun _ hk => hk.2) (.slice Ao35 y421.length co35)) (fun _ hk => hk.1.1))⟩, ⟨kB⟩, ⟨kB⟩, ⟨by repeat (first | (with_reducible first | exact HK.out | apply Kept.alloc | apply Kept.drewN | apply Kept.drew | refine Kept.setCell ?_ (.inr GW409.out) _ | refine Kept.setCell ?_ (.inr GW410.out) _) | exact HK.out)⟩, ⟨hB⟩⟩
    · intro H; replace c19 := Bool.eq_false_iff.mpr c19; subst c19; simp only [Option.some.injEq, Prod.mk.injEq] at H; obtain ⟨rfl, rfl, rfl, rfl, rfl, rfl, rfl⟩ := H
      try go_wp2
      replace HO_410004 := aM (Kd.R_drew HO_410004.out); replace BK409 := aM (blk_drew BK409.out); replace BK410 := aM (blk_drew BK410.out); replace HK := aM (Kept.drew HK.out); replace HB := aM (below_drew1 HB.out); have p14 : 0 ≤ (0 : Int) := (by omega); have q14 : 0 < x0_1.size := (by have : (0 : Int) < (x0_1.size : Int) := bD; omega); have hx14 : ∀ h : 0 < x0_1.size, ((x0_1[0]'h).toNat : Int) = bt x0_1 0 := bt_at x0_1 0; clear p14; have qi14 : (0 < (x0_1.size : Int)) = True := eq_true (bD); replace q14 := eq_true q14
      refine start_ (n := 19) (S := fun w' => w'.cell? ⟨gb409, 0, none⟩ = some (.int .i64 a1_0) ∧ w'.cell? ⟨gb409, 1, none⟩ = some (.int .i64 a1_1) ∧ w'.cell? ⟨gb409, 2, none⟩ = some (.int .i64 a1_2) ∧ w'.cell? ⟨gb409, 3, none⟩ = some (.int .i64 a1_3) ∧ w'.cell? ⟨gb409, 4, none⟩ = some (u410004)) (ds := []) #[false, false, false, false, false, false, false, false, false, false, false, false, false, false, false, false, false, false, false] (by kernel_rfl) rfl rfl ⟨(blk_cell BK409.out 0).trans rfl, (blk_cell BK409.out 1).trans rfl, (blk_cell BK409.out 2).trans rfl, (blk_cell BK409.out 3).trans rfl, (blk_cell BK409.out 4).trans rfl⟩ (fun hHeld => ?_); refine with_tabW impl_readRows.tab5 impl_readRows.bits5 (fun HT_ HW_ => ?_)
      generalize wr.drew = w37 at HO_410004 BK409 BK410 HK HB hHeld ⊢; refine pU 0 27 (bAr 19 1) ?_; refine pU 3 30 (bAr 19 9) ?_; refine pU 4 31 (bAr 19 25) ?_; refine pU 5 32 (bAr 19 57) ?_; refine pU 6 33 (bAr 19 121) ?_; refine pU 7 34 (bAr 19 249) ?_; refine pU 8 35 (bAr 19 505) ?_; refine pU 10 37 (bAr 19 1529) ?_
      refine take_ (i := 1) (N := some 28) (v := ?_) (a' := ?_) #[true, true, false, true, true, true, true, true, true, false, true, false, false, false, false, false, false, false, false] rfl rfl (take_ofW HT_.out HW_.out (by kernel_rfl)) (fun _ _ _ h => h) (Or.inl ⟨by rfl, ?_⟩) hHeld ?_ ?_; rotate_left
      · rintro w' ⟨s0, s1, s2, s3, s4⟩
        go_simp; with_reducible rfl
      rotate_left
      · simp only [Act.put, List.setIfInBounds_toArray, List.set_cons_zero, List.set_cons_succ, i64_w, i32_w]
        rfl
      refine pU 2 29 (bAr 19 1535) ?_
      refine take_ (i := 9) (N := some 36) (v := ?_) (a' := ?_) #[true, true, true, true, true, true, true, true, true, true, true, false, false, false, false, false, false, false, false] rfl rfl (take_ofW HT_.out HW_.out (by kernel_rfl)) (fun _ _ _ h => h) (Or.inl ⟨by rfl, ?_⟩) hHeld ?_ ?_; rotate_left
      · rintro w' ⟨s0, s1, s2, s3, s4⟩
        go_simp; with_reducible rfl
      rotate_left
      · simp only [Act.put, List.setIfInBounds_toArray, List.set_cons_zero, List.set_cons_succ, i64_w, i32_w]
        rfl
      refine take_ (i := 11) (N := some 38) (v := ?_) (a' := ?_) #[true, true, true, true, true, true, true, true, true, true, true, true, false, false, false, false, false, false, false] rfl rfl (take_ofW HT_.out HW_.out (by kernel_rfl)) (fun _ _ _ h => h) (Or.inl ⟨by rfl, ?_⟩) hHeld ?_ ?_; rotate_left
      · rintro w' ⟨s0, s1, s2, s3, s4⟩
        go_simp; with_reducible rfl
      rotate_left
      · simp only [Act.put, List.setIfInBounds_toArray, List.set_cons_zero, List.set_cons_succ, i64_w, i32_w]
        rfl
      refine one_ (i := 12) (N := some 39) #[true, true, true, true, true, true, true, true, true, true, true, true, true, false, false, false, false, false, false] rfl rfl (one_of HT_.out (by kernel_rfl)) (by decide) (fun K hK => ?_)
      refine goes_ Try.func157 (by kernel_rfl) rfl #[.int .i64 a1_2, .int .i64 a1_3] (by rfl) rfl rfl (by (try simp only [List.map_toArray, List.map_cons, List.map_nil]); first | done | rfl | (simp only [List.length_drop, List.length_take]; rfl)) ?_
      with_reducible refine (impl_unitOf.calls k1 a1_2 a1_3 t413 _ A17.out).mono ?_
      rintro e w38 ⟨rfl, hb⟩
      refine ⟨_, rfl, ?_⟩; replace HO_410004 := aM (Kd.R_below (Kd.R_i HO_410004.out) hb); replace BK409 := aM (blk_below (g := gb409) (o := .cells #[.int .i64 a1_0, .int .i64 a1_1, .int .i64 a1_2, .int .i64 a1_3, u410004] 29 (0, 0)) (bI BK409.out) hb); replace BK410 := aM (blk_below (g := gb410) (o := .cells #[.int .i64 x411000_1, .int .i64 x411001_1, .int .i64 x411002_1, .int .i64 x411003_1, .slice none 0 0] 29 (0, 0)) (bI BK410.out) hb); replace HK := aM (Kept.below (S := (fun k_ => P1_4_ k_)) (by repeat (first | (with_reducible first | exact HK.out | apply Kept.alloc | apply Kept.drewN | apply Kept.drew | refine Kept.setCell ?_ (.inr GW409.out) _ | refine Kept.setCell ?_ (.inr GW410.out) _) | exact HK.out)) hb); replace HB := aM (below_step hB hb); (try clear hb); (try clear hb2); (try clear hk); (try clear hi)
      refine hK.out _ _ ⟨(blk_cell BK409.out 0).trans rfl, (blk_cell BK409.out 1).trans rfl, (blk_cell BK409.out 2).trans rfl, (blk_cell BK409.out 3).trans rfl, (blk_cell BK409.out 4).trans rfl⟩ (fun hHeld => ?_); clear hK K
      refine norm_ (a' := ?_) ?_ ?_; rotate_left
      · show Act.put _ (some 39) _ = _
        simp only [Act.put, List.setIfInBounds_toArray, List.set_cons_zero, List.set_cons_succ, i64_w, i32_w]
        rfl
      refine one_ (i := 13) (N := some 40) #[true, true, true, true, true, true, true, true, true, true, true, true, true, true, false, false, false, false, false] rfl rfl (one_of HT_.out (by kernel_rfl)) (by decide) (fun K hK => ?_)
      refine goes_ Try.func162 (by kernel_rfl) rfl #[.int .i64 (wrap64 (bt x0_1 0)), .string (x0_1.extract 1 ((wrap64 (1 + t411)) : Int).toNat), .string x8_1, .int .i64 t413] (by rfl) rfl rfl (by (try simp only [List.map_toArray, List.map_cons, List.map_nil]); first | done | rfl | (simp only [List.length_drop, List.length_take]; rfl) | (simp only [ByteArray.size_extract, Nat.min_self]; rfl)) ?_
      with_reducible refine (impl_UnfilterRow.calls k1 (wrap64 (bt x0_1 0)) (x0_1.extract 1 ((wrap64 (1 + t411)) : Int).toNat) x8_1 t413 t414 false _ A18.out).mono ?_
      rintro e w39 ⟨rfl, hb⟩
      refine ⟨_, rfl, ?_⟩; replace HO_410004 := aM (Kd.R_below (Kd.R_i HO_410004.out) hb); replace BK409 := aM (blk_below (g := gb409) (o := .cells #[.int .i64 a1_0, .int .i64 a1_1, .int .i64 a1_2, .int .i64 a1_3, u410004] 29 (0, 0)) (bI BK409.out) hb); replace BK410 := aM (blk_below (g := gb410) (o := .cells #[.int .i64 x411000_1, .int .i64 x411001_1, .int .i64 x411002_1, .int .i64 x411003_1, .slice none 0 0] 29 (0, 0)) (bI BK410.out) hb); replace HK := aM (Kept.below (S := (fun k_ => P1_4_ k_)) (by repeat (first | (with_reducible first | exact HK.out | apply Kept.alloc | apply Kept.drewN | apply Kept.drew | refine Kept.setCell ?_ (.inr GW409.out) _ | refine Kept.setCell ?_ (.inr GW410.out) _) | exact HK.out)) hb); replace HB := aM (below_step hB hb); (try clear hb); (try clear hb2); (try clear hk); (try clear hi)
      refine hK.out _ _ ⟨(blk_cell BK409.out 0).trans rfl, (blk_cell BK409.out 1).trans rfl, (blk_cell BK409.out 2).trans rfl, (blk_cell BK409.out 3).trans rfl, (blk_cell BK409.out 4).trans rfl⟩ (fun hHeld => ?_); clear hK K
      refine norm_ (a' := ?_) ?_ ?_; rotate_left
      · show Act.put _ (some 40) _ = _
        simp only [Act.put, List.setIfInBounds_toArray, List.set_cons_zero, List.set_cons_succ, i64_w, i32_w]
        rfl
      refine pU 14 26 (bAr 19 32767) ?_; refine pU 15 41 (bAr 19 65535) ?_; refine pU 16 42 (bAr 19 131071) ?_; refine pU 17 9 (bAr 19 262143) ?_; refine pU 18 10 (bAr 19 524287) ?_
      refine done_ (done_of HT_.out (by kernel_rfl)) ?_; have hnb40 := NB410_409.out; have hnc40 := NB409_410.out; obtain ⟨hcz41_0, hcz41_1, hcz41_2, hcz41_3, hcz41_4⟩ := blk_c5 BK410.out; obtain ⟨hfz41_0, hfz41_1, hfz41_2, hfz41_3, hfz41_4⟩ := blk_f5 BK410.out
      try go_wp2
      refine bodyPost_ret (results_ctt rfl _ _ gb410 29 #[.int .i64 0, .int .i64 0, .int .i64 0, .int .i64 0, .slice none 0 0] (0, 0) _ rfl kB Try.underlying29 rfl (by kernel_rfl)) rfl ?_; exact ⟨_, eE, by first | exact Kd.R_nil _ _ _ _ _ | exact Kd.N_nil _ _ _ _ _ | exact Kd.V_nil _ _ _ _ _ | exact Kd.Q_nil _ _ _ _ _ | exact Kd.S_nil _ _ _ _ _, hB, by repeat (first | (with_reducible first | exact HK.out | apply Kept.alloc | apply Kept.drewN | apply Kept.drew | refine Kept.setCell ?_ (.inr GW409.out) _ | refine Kept.setCell ?_ (.inr GW410.out) _) | exact HK.out)⟩
  · intro H; have c12b0 := decide_eq_false c12; clear c12; simp only [Option.some.injEq, Prod.mk.injEq] at H; obtain ⟨rfl, rfl, rfl, rfl, rfl, rfl, rfl⟩ := H; have hnb42 := NB409_410.out; have hnc42 := NB410_409.out; obtain ⟨hcz43_0, hcz43_1, hcz43_2, hcz43_3, hcz43_4⟩ := blk_c5 BK409.out; obtain ⟨hfz43_0, hfz43_1, hfz43_2, hfz43_3, hfz43_4⟩ := blk_f5 BK409.out; obtain ⟨hcz44_0, hcz44_1, hcz44_2, hcz44_3, hcz44_4⟩ := blk_c5 BK410.out; obtain ⟨hfz44_0, hfz44_1, hfz44_2, hfz44_3, hfz44_4⟩ := blk_f5 BK410.out; obtain ⟨Ao45, co45, eo45⟩ := Kd.R_slice HO_410004.out; subst eo45; go_wp2
    refine bodyPost_ret (results_ctt rfl _ _ gb410 29 #[.int .i64 a1_0, .int .i64 a1_1, .int .i64 a1_2, .int .i64 a1_3, .slice Ao45 x410004_1.length co45] (0, 0) _ rfl kB Try.underlying29 rfl (by kernel_rfl)) rfl ?_; exact ⟨_, eE, Kd.R_i (Kd.R_mono (Kd.R_far (p := ⟨gb410, 4, none⟩) (Kd.R_far (p := ⟨gb410, 3, none⟩) (Kd.R_far (p := ⟨gb410, 2, none⟩) (Kd.R_far (p := ⟨gb410, 1, none⟩) (Kd.R_far (p := ⟨gb410, 0, none⟩) (Kd.R_types HO_410004.out BK410.out (by decide)) (fun _ hk => hk.2) (.int .i64 a1_0)) (fun _ hk => hk.2) (.int .i64 a1_1)) (fun _ hk => hk.2) (.int .i64 a1_2)) (fun _ hk => hk.2) (.int .i64 a1_3)) (fun _ hk => hk.2) (.slice Ao45 x410004_1.length co45)) (fun _ hk => hk.1)), hB, by repeat (first | (with_reducible first | exact HK.out | apply Kept.alloc | apply Kept.drewN | apply Kept.drew | refine Kept.setCell ?_ (.inr GW409.out) _ | refine Kept.setCell ?_ (.inr GW410.out) _) | exact HK.out)⟩

end Go.Proofs.Ytajnobmnkbkkgaa.PFnScans
