/- Walks of functions that the law FnScans reaches: each call comes to what the Lean function of its name tells. Written by p2.py, a program of this session, by way of the kit's print. -/
import Derived.Test.YtajnobmnkbkkgaaVFnScans
import Derived.Test.YtajnobmnkbkkgaaPFnScansx0
import Derived.Test.YtajnobmnkbkkgaaPFnScansx4
namespace Go.Proofs.Ytajnobmnkbkkgaa.PFnScans
open Go.RowKit Go.Proofs.YtajnobmnkbkkgaaW.PrintWords Go.Proofs.YtajnobmnkbkkgaaW.PrintLast Go.Proofs.YtajnobmnkbkkgaaW.PrintMore
attribute [local go_sem] max2_int min2_int max_two min_two max_three min_three max_four min_four   -- for this text's walks alone
set_option linter.unusedVariables false
set_option linter.unusedSimpArgs false

/-! ### impl_unitOf: function 157 -/
def impl_unitOf.f (k : Nat) (a0 : Int) (a1 : Int) : Option (Int) := (impl_ChannelsOf.f k a0).bind fun t245 => (some (mx 1 (wrap64 (Int.tdiv (wrap64 (t245 * a1)) 8))))
set_option maxHeartbeats 8000000 in
set_option maxRecDepth 100000 in
theorem impl_unitOf.calls (k : Nat) (a0 : Int) (a1 : Int) (r : Int) (w : World) (h : impl_unitOf.f k a0 a1 = some r) :
 Calls Try.prog 157 #[.int .i64 a0, .int .i64 a1] w fun e w' => e = .returned (.int .i64 r) ∧ Below w.heap.size w w' := by
 have HB := aM (Below.refl w.heap.size w); have H : ((impl_ChannelsOf.f k a0).bind fun t245 => (some (mx 1 (wrap64 (Int.tdiv (wrap64 (t245 * a1)) 8))))) = some r := h; clear h; revert H; refine bdR fun t245 A3 => ?_; intro H; obtain ⟨ji4, hji4⟩ : ∃ j_ : Int, (mx 1 (wrap64 (Int.tdiv (wrap64 (t245 * a1)) 8))) = j_ := ⟨_, rfl⟩; replace H : (some ji4) = some r := by first | (rw [hji4] at H; exact H) | (simp only [hji4] at H ⊢; exact H)
 (try rw [hji4] at A3)
 (try (have hji4l : 1 ≤ ji4 := by (rw [← hji4]; unfold mx; (repeat' split) <;> omega)))
 (try (have hji4m : 0 ≤ ji4 := by omega)); have hji4_ : (if 1 < (wrap64 (Int.tdiv (wrap64 (t245 * a1)) 8)) then (wrap64 (Int.tdiv (wrap64 (t245 * a1)) 8)) else 1) = ji4 := hji4; obtain rfl := Option.some.inj H; go_enter Try.func157, Try.ntmps157
 go_wp2_with (first | ((with_reducible refine gC 65 ?_); refine gL (some 6) Try.func65 #[.int .i64 a0] ?_; (with_reducible refine (impl_ChannelsOf.calls k a0 t245 _ A3.out).mono ?_); rintro e w' ⟨rfl, ⟨nd, rfl⟩⟩; refine ⟨_, rfl, ?_⟩)); go_ret; exact ⟨by first | rfl | (simp [errW_none, errW_some] <;> rfl) | (simp only [← hji4]; first | rfl | (simp [errW_none, errW_some] <;> rfl)) | (simp [*, errW_none, errW_some] <;> rfl), hB⟩

/-! ### impl_up: function 165 -/
def impl_up.f (a0 : Int) : Option (Int) := some (wrap64 (Int.tdiv (wrap64 (a0 + 7)) 8))
set_option maxHeartbeats 8000000 in
set_option maxRecDepth 100000 in
theorem impl_up.calls (a0 : Int) (r : Int) (w : World) (h : impl_up.f a0 = some r) :
 Calls Try.prog 165 #[.int .i64 a0] w fun e w' => e = .returned (.int .i64 r) ∧ Drawn0 w w' := by
 have H : (some (wrap64 (Int.tdiv (wrap64 (a0 + 7)) 8))) = some r := h; clear h; obtain rfl := Option.some.inj H; go_enter Try.func165, Try.ntmps165; go_wp2; go_ret; exact ⟨eQ, dQ⟩

/-! ### impl_PackRow: function 181 -/
mutual
def impl_PackRow.j0 : Nat → List Int → Int → Bool → Option (ByteArray × Bool)
  | 0, _, _, _ => none
  | k + 1, x0, x1, x24 => if x24 = true then (some ((⟨#[]⟩ : ByteArray), false)) else ((impl_up.f (wrap64 ((x0.length : Int) * x1))).bind fun t248 => (if 0 ≤ t248 then (if (t248 : Int).toNat ≤ 281474976710656 then (impl_PackRow.l0 k x1 (List.replicate (t248 : Int).toNat 0) x0 (x0.length : Int) 0) else (none)) else (none)))
def impl_PackRow.l0 : Nat → Int → List Int → List Int → Int → Int → Option (ByteArray × Bool)
  | 0, _, _, _, _, _ => none
  | k + 1, x1, x6, x31, x32, x33 => if x33 < x32 then (if 0 ≤ x33 then (if x33 < (x31.length : Int) then (impl_PackRow.l1 k x1 x6 x33 (rd x31 x33) x31 x32 x33 x1 0) else (none)) else (none)) else (some (strOfNums x6, true))
def impl_PackRow.l1 : Nat → Int → List Int → Int → Int → List Int → Int → Int → Int → Int → Option (ByteArray × Bool)
  | 0, _, _, _, _, _, _, _, _, _ => none
  | k + 1, x1, x6, x7, x8, x31, x32, x33, x38, x39 => if x39 < x38 then (if 0 ≤ (wrap64 (Int.tdiv (wrap64 ((wrap64 (x7 * x1)) + x39)) 8)) then (if (wrap64 (Int.tdiv (wrap64 ((wrap64 (x7 * x1)) + x39)) 8)) < (x6.length : Int) then (if 0 ≤ (wrap64 ((wrap64 (x1 - 1)) - x39)) then (if 0 ≤ (wrap64 (7 - (Int.tmod (wrap64 ((wrap64 (x7 * x1)) + x39)) 8))) then (impl_PackRow.l1 k x1 (x6.set ((wrap64 (Int.tdiv (wrap64 ((wrap64 (x7 * x1)) + x39)) 8)) : Int).toNat (Go.bits .or .u8 (rd x6 (wrap64 (Int.tdiv (wrap64 ((wrap64 (x7 * x1)) + x39)) 8))) (shl .u8 ((Go.bits .and .i64 (shr .i64 x8 (wrap64 ((wrap64 (x1 - 1)) - x39))) 1) % 256) (wrap64 (7 - (Int.tmod (wrap64 ((wrap64 (x7 * x1)) + x39)) 8)))))) x7 x8 x31 x32 x33 x38 (wrap64 (x39 + 1))) else (none)) else (none)) else (none)) else (none)) else (impl_PackRow.l0 k x1 x6 x31 x32 (wrap64 (x33 + 1)))
end
def impl_PackRow.f (k : Nat) (l0 : List Int) (a1 : Int) : Option (ByteArray × Bool) := (impl_isDepth.f a1).bind fun t246 => (if t246 = true then (if (l0.length : Int) > 96 then (impl_PackRow.j0 k l0 a1 true) else ((impl_samplesOk.f k l0 a1).bind fun t247 => (impl_PackRow.j0 k l0 a1 (!t247)))) else (impl_PackRow.j0 k l0 a1 true))
def impl_PackRow.T11 : Bool × List (List Nat × List Nat) := (true, [([], []), ([], []), ([1], [1]), ([0, 2], [0, 2]), ([3], [3]), ([], []), ([], []), ([6], [6]), ([], []), ([7, 8], [7, 8]), ([5, 9], [5, 9]), ([10], [10]), ([11], [11]), ([], []), ([13], [13]), ([14], [14]), ([12, 15], [12, 15]), ([4, 16], [4, 16]), ([0, 2, 0, 1, 2, 3, 4, 5, 6, 7, 8, 9, 10, 11, 12, 13, 14, 15, 16, 17], [0, 2]), ([18, 17, 0, 1, 2, 3, 4, 5, 6, 7, 8, 9, 10, 11, 12, 13, 14, 15, 16, 17], [17, 18])])
def impl_PackRow.B11 : List Nat := [0, 0, 2, 7, 15, 0, 0, 64, 0, 448, 992, 2016, 4064, 0, 8192, 24576, 65504, 131071, 262143, 524287]
theorem impl_PackRow.tab11 : rtab .any (opsOf Try.f181 11) = impl_PackRow.T11 := by kernel_rfl
theorem impl_PackRow.bits11 : waitsOk impl_PackRow.T11.2 impl_PackRow.B11 = true := by kernel_rfl
set_option maxHeartbeats 8000000 in
set_option maxRecDepth 100000 in
theorem impl_PackRow.calls (k : Nat) (A0 : Option Addr) (c0 : Nat) (l0 : List Int) (a1 : Int) (r1 : ByteArray) (r2 : Bool) (w : World) (hr0 : Kd.C (Kd.int .i64) w A0 l0.length l0) (hc0 : l0.length ≤ c0) (h : impl_PackRow.f k l0 a1 = some (r1, r2)) :
 Calls Try.prog 181 #[.slice A0 l0.length c0, .int .i64 a1] w fun e w' => e = .returned (.tuple #[.string r1, .bool r2]) ∧ Below w.heap.size w w' := by
 have HR0 := aM hr0; have HC0 := aM hc0; clear hr0 hc0; have HB := aM (Below.refl w.heap.size w); unfold impl_PackRow.f at h; have H := h; clear h; revert H; refine adR fun HC3 => ?_; go_enter Try.func181, Try.ntmps181
 go_upto_region 1 with (fail)
 go_cut [24] (fun v24 wc => ∃ (kq : Nat) (x24_2 : Bool), v24 = .bool x24_2 ∧ Aside0 (impl_PackRow.j0 kq l0 a1 x24_2 = some (r1, r2)) ∧ Aside0 (kq ≤ k) ∧ Aside0 (Below w.heap.size w wc))
 case first =>
  revert HC3; refine aoR ?_; refine bdR fun t246 A4 => ?_
  refine ifB (fun c5 => ?_) (fun c5 => ?_)
  · intro H; subst c5; revert H
    refine ifB (fun c6 => ?_) (fun c6 => ?_)
    · intro H; have c6b0 := decide_eq_true c6; have c6b1 : decide (96 < l0.length) = true := decide_eq_true (by omega); clear c6
      (first | rw [c6b0] | (simp only [i64_w, i32_w]; rw [c6b0]) | skip); revert H; refine adR fun H' => ?_
      go_wp2_with (first | ((with_reducible refine gC 164 ?_); refine gL (some 12) Try.func164 #[.int .i64 a1] ?_; (with_reducible refine (impl_isDepth.calls a1 true _ A4.out).mono ?_); rintro e w' ⟨rfl, ⟨nd, rfl⟩⟩; refine ⟨_, rfl, ?_⟩)); go_meet
      case rel => exact ⟨_, (true), eQ, H', ⟨lE⟩, ⟨hB⟩⟩
    · intro H; have c6b0 := decide_eq_false c6; have c6b1 : decide (96 < l0.length) = false := decide_eq_false (by omega); clear c6
      (first | rw [c6b0] | (simp only [i64_w, i32_w]; rw [c6b0]) | skip); revert H; refine bdR fun t247 A7 => ?_; refine adR fun H' => ?_
      go_wp2_with (first | ((with_reducible refine gC 164 ?_); refine gL (some 12) Try.func164 #[.int .i64 a1] ?_; (with_reducible refine (impl_isDepth.calls a1 true _ A4.out).mono ?_); rintro e w' ⟨rfl, ⟨nd, rfl⟩⟩; refine ⟨_, rfl, ?_⟩) | (go_at_call 139; (with_reducible refine (impl_samplesOk.calls k _ _ l0 a1 t247 _ ?side1 ?side2 A7.out).mono ?_); (case side1 => repeat (first | exact (Kd.C_below HR0.out hB) | (with_reducible refine Kd.C_alloc ?_ _) | (with_reducible refine Kd.C_drewN ?_ _) | (with_reducible refine Kd.C_drew ?_))); (case side2 => exact HC0.out); rintro e w' ⟨rfl, ⟨nd, rfl⟩⟩)); go_meet
      case rel => exact ⟨_, (!t247), eQ, H', ⟨lE⟩, ⟨hB⟩⟩
  · intro H; replace c5 := Bool.eq_false_iff.mpr c5; subst c5; revert H; refine adR fun H' => ?_
    go_wp2_with (first | ((with_reducible refine gC 164 ?_); refine gL (some 12) Try.func164 #[.int .i64 a1] ?_; (with_reducible refine (impl_isDepth.calls a1 false _ A4.out).mono ?_); rintro e w' ⟨rfl, ⟨nd, rfl⟩⟩; refine ⟨_, rfl, ?_⟩)); go_meet
    case rel => exact ⟨_, (true), eQ, H', ⟨lE⟩, ⟨hB⟩⟩
 case rest =>
  clear HC3; (try clear c1); (try clear p2); (try clear c5); (try clear c6); (try clear c6b0); (try clear c6b1); obtain ⟨kq, x24_2, rfl, HA, HJ2, HB⟩ := hcut; rcases kq with _ | kj2
  · exact absurd HA.out (by simp [impl_PackRow.j0])
  revert HA; refine aoR ?_; intro H; simp only [impl_PackRow.j0] at H; revert H
  refine ifB (fun c8 => ?_) (fun c8 => ?_)
  · intro H; subst c8; simp only [Option.some.injEq, Prod.mk.injEq] at H; obtain ⟨rfl, rfl⟩ := H; go_wp2
    go_ret2; exact ⟨eE, hB⟩
  · intro H; replace c8 := Bool.eq_false_iff.mpr c8; subst c8; revert H; refine bdR fun t248 A9 => ?_; refine ifR fun c10 => ?_; intro H; have c10b0 := eq_true c10; have c10b1 := decide_eq_true c10; clear c10; revert H; refine ifR fun c11 => ?_; intro H; have c11b0 := eq_true c11; have c11b1 := decide_eq_true c11; clear c11; obtain ⟨y249, hy249⟩ : ∃ y_ : List Int, y_ = (List.replicate (t248 : Int).toNat 0) := ⟨_, rfl⟩; replace H : (impl_PackRow.l0 kj2 a1 y249 l0 (l0.length : Int) 0) = some (r1, r2) := by first | (rw [hy249]; with_reducible exact H) | (have H2_ := (Option.bind_some _ _).symm.trans H; rw [hy249]; with_reducible exact H2_) | (have H2_ := (Option.bind_some _ _).symm.trans H; with_reducible exact H2_) | with_reducible exact H | (rw [hy249]; exact H) | exact H
    have Ny249 := aM hy249; clear hy249; revert H; refine adR fun H' => ?_
    go_wp2_with (first | ((with_reducible refine gC 165 ?_); refine gL (some 29) Try.func165 #[.int .i64 (wrap64 ((l0.length : Int) * a1))] ?_; (with_reducible refine (impl_up.calls (wrap64 ((l0.length : Int) * a1)) t248 _ A9.out).mono ?_); rintro e w' ⟨rfl, ⟨nd, rfl⟩⟩; refine ⟨_, rfl, ?_⟩) | ((with_reducible refine gD 30 ?_); (try (refine gate_guard (by rfl) ?_; dsimp only)); refine Kd.R_make (Kd.int .u8) _ 5 rfl (N := 30) rfl 36 _ _ rfl t248 rfl rfl Try.underlying36 (.int .u8 0) 1 info5 rfl (by decide) (by omega) 0 (ok := fun _ => True) (okp := fun _ => True) rfl (fun _ hk => hk) trivial (bD) (Nat.le_trans (Nat.mul_le_mul_right _ (bD : t248.toNat ≤ 281474976710656)) (by omega)) (Below.refl _ _) (Nat.le_refl _) ?_; intro v250 w12 ho13 hb hg_ hnew_; clear hg_ hnew_; (first | rw [← Ny249.out] at ho13 | (simp only [Int.reduceToNat] at ho13; rw [← Ny249.out] at ho13)); have HO251 := aM (Kd.R_lower ho13 (below_size hB)); replace HB := aM (below_step hB hb); clear hb ho13))
    go_loopg [33] kj2 (fun kq v33 w' => ∃ (x6_2 : List Int) (x33_2 : Int), v33 = .int .i64 x33_2 ∧ Aside0 (impl_PackRow.l0 kq a1 x6_2 l0 (l0.length : Int) x33_2 = some (r1, r2)) ∧ Aside0 (kq ≤ kj2) ∧ Aside0 (Kd.R (Kd.int .u8) 5 w' w.heap.size (fun _ => True) v250 x6_2) ∧ Aside0 (Below w.heap.size w w'))
    case atStart => exact ⟨(y249), (0), eQ, H', ⟨Nat.le_refl _⟩, ⟨Kd.R_i HO251.out⟩, ⟨hB⟩⟩
    case round =>
     clear H'; (try clear c1); (try clear p2); (try clear c5); (try clear c6); (try clear c6b0); (try clear c6b1); (try clear p6); (try clear c8); (try clear c10); (try clear c10b0); (try clear c10b1); (try clear c11); (try clear c11b0); (try clear c11b1); obtain ⟨x6_2, x33_2, rfl, HA, HK2, HO_6, HB⟩ := hrel; rcases gk with _ | k2
     · exact absurd HA.out (by simp [impl_PackRow.l0])
     revert HA; refine aoR ?_; intro H; simp only [impl_PackRow.l0] at H; revert H
     refine ifB (fun c14 => ?_) (fun c14 => ?_)
     · intro H; have c14b0 := decide_eq_true c14; clear c14; revert H; refine ifR fun c15 => ?_; intro H; have c15b0 := decide_eq_true c15; clear c15; revert H; refine ifR fun c16 => ?_; intro H; have c16b0 := decide_eq_true c16; clear c16; revert H; refine adR fun H' => ?_; have p252 : 0 ≤ (x33_2 : Int) := bD; have q252 : x33_2 < (l0.length : Int) := bD; obtain ⟨ad252, e252, hx252_0⟩ := Kd.at_int HR0.out x33_2 p252 q252; cases e252; replace hx252_0 := (HB.out.cell (World.block_lt_of_cell? w _ hx252_0)).trans hx252_0; replace p252 := eq_true p252; replace q252 := eq_true q252; go_wp2
       go_loopg [39] k2 (fun kq v39 w' => ∃ (x6_3 : List Int) (x39_3 : Int), v39 = .int .i64 x39_3 ∧ Aside0 (impl_PackRow.l1 kq a1 x6_3 x33_2 (rd l0 x33_2) l0 (l0.length : Int) x33_2 a1 x39_3 = some (r1, r2)) ∧ Aside0 (kq ≤ k2) ∧ Aside0 (Kd.R (Kd.int .u8) 5 w' w.heap.size (fun _ => True) v250 x6_3) ∧ Aside0 (Below w.heap.size w w'))
       case atStart => exact ⟨(x6_2), (0), eQ, H', ⟨Nat.le_refl _⟩, ⟨Kd.R_i HO_6.out⟩, ⟨hB⟩⟩
       case round =>
        clear H'; (try clear c1); (try clear p2); (try clear q2); (try clear hx2); (try clear c5); (try clear c6); (try clear c6b0); (try clear c6b1); (try clear p6); (try clear c8); (try clear c10); (try clear c10b0); (try clear c10b1); (try clear c11); (try clear c11b0); (try clear c11b1); (try clear c14); (try clear c14b0); (try clear c15); (try clear c15b0); (try clear c16); (try clear c16b0); (try clear hx252_0); (try clear p252); (try clear q252); obtain ⟨x6_3, x39_3, rfl, HA, HK3, HO_6, HB⟩ := hrel; rcases gk with _ | k3
        · exact absurd HA.out (by simp [impl_PackRow.l1])
        revert HA; refine aoR ?_; intro H; simp only [impl_PackRow.l1] at H; revert H
        refine ifB (fun c17 => ?_) (fun c17 => ?_)
        · intro H; have c17b0 := decide_eq_true c17; clear c17; obtain ⟨ji18, hji18⟩ : ∃ j_ : Int, (wrap64 (Int.tdiv (wrap64 ((wrap64 (x33_2 * a1)) + x39_3)) 8)) = j_ := ⟨_, rfl⟩; replace H : (if 0 ≤ (ji18) then (if (ji18) < (x6_3.length : Int) then (if 0 ≤ (wrap64 ((wrap64 (a1 - 1)) - x39_3)) then (if 0 ≤ (wrap64 (7 - (Int.tmod (wrap64 ((wrap64 (x33_2 * a1)) + x39_3)) 8))) then (impl_PackRow.l1 k3 a1 (x6_3.set ((ji18) : Int).toNat (Go.bits .or .u8 (rd x6_3 (ji18)) (shl .u8 ((Go.bits .and .i64 (shr .i64 (rd l0 x33_2) (wrap64 ((wrap64 (a1 - 1)) - x39_3))) 1) % 256) (wrap64 (7 - (Int.tmod (wrap64 ((wrap64 (x33_2 * a1)) + x39_3)) 8)))))) x33_2 (rd l0 x33_2) l0 (l0.length : Int) x33_2 a1 (wrap64 (x39_3 + 1))) else (none)) else (none)) else (none)) else (none)) = some (r1, r2) := by first | (rw [hji18] at H; exact H) | (simp only [hji18] at H ⊢; exact H)
          have hji18w : (IntKind.i64.wrap (Int.tdiv (wrap64 ((wrap64 (x33_2 * a1)) + x39_3)) 8)) = ji18 := (i64_w _).trans hji18; revert H; refine ifR fun c19 => ?_; intro H; have c19b0 := decide_eq_true c19; clear c19; revert H; refine ifR fun c20 => ?_; intro H; have c20b0 := decide_eq_true c20; clear c20; obtain ⟨ji21, hji21⟩ : ∃ j_ : Int, (wrap64 ((wrap64 (a1 - 1)) - x39_3)) = j_ := ⟨_, rfl⟩; replace H : (if 0 ≤ (ji21) then (if 0 ≤ (wrap64 (7 - (Int.tmod (wrap64 ((wrap64 (x33_2 * a1)) + x39_3)) 8))) then (impl_PackRow.l1 k3 a1 (x6_3.set ((ji18) : Int).toNat (Go.bits .or .u8 (rd x6_3 (ji18)) (shl .u8 ((Go.bits .and .i64 (shr .i64 (rd l0 x33_2) (ji21)) 1) % 256) (wrap64 (7 - (Int.tmod (wrap64 ((wrap64 (x33_2 * a1)) + x39_3)) 8)))))) x33_2 (rd l0 x33_2) l0 (l0.length : Int) x33_2 a1 (wrap64 (x39_3 + 1))) else (none)) else (none)) = some (r1, r2) := by first | (rw [hji21] at H; exact H) | (simp only [hji21] at H ⊢; exact H)
          have hji21w : (IntKind.i64.wrap ((wrap64 (a1 - 1)) - x39_3)) = ji21 := (i64_w _).trans hji21; revert H; refine ifR fun c22 => ?_; intro H; have c22b0 := eq_true c22; have c22b1 := decide_eq_true c22; clear c22; obtain ⟨ji23, hji23⟩ : ∃ j_ : Int, (shr .i64 (rd l0 x33_2) (ji21)) = j_ := ⟨_, rfl⟩; replace H : (if 0 ≤ (wrap64 (7 - (Int.tmod (wrap64 ((wrap64 (x33_2 * a1)) + x39_3)) 8))) then (impl_PackRow.l1 k3 a1 (x6_3.set ((ji18) : Int).toNat (Go.bits .or .u8 (rd x6_3 (ji18)) (shl .u8 ((Go.bits .and .i64 (ji23) 1) % 256) (wrap64 (7 - (Int.tmod (wrap64 ((wrap64 (x33_2 * a1)) + x39_3)) 8)))))) x33_2 (rd l0 x33_2) l0 (l0.length : Int) x33_2 a1 (wrap64 (x39_3 + 1))) else (none)) = some (r1, r2) := by first | (rw [hji23] at H; exact H) | (simp only [hji23] at H ⊢; exact H)
          have hji23_ : ((rd l0 x33_2) / 2 ^ min (ji21).toNat 64) = ji23 := hji23; have hji23z : (ji21) ≤ 64 → ((rd l0 x33_2) / 2 ^ (ji21).toNat) = ji23 := shr_small hji23; obtain ⟨ji24, hji24⟩ : ∃ j_ : Int, (wrap64 (7 - (Int.tmod (wrap64 ((wrap64 (x33_2 * a1)) + x39_3)) 8))) = j_ := ⟨_, rfl⟩; replace H : (if 0 ≤ (ji24) then (impl_PackRow.l1 k3 a1 (x6_3.set ((ji18) : Int).toNat (Go.bits .or .u8 (rd x6_3 (ji18)) (shl .u8 ((Go.bits .and .i64 (ji23) 1) % 256) (ji24)))) x33_2 (rd l0 x33_2) l0 (l0.length : Int) x33_2 a1 (wrap64 (x39_3 + 1))) else (none)) = some (r1, r2) := by first | (rw [hji24] at H; exact H) | (simp only [hji24] at H ⊢; exact H)
          have hji24w : (IntKind.i64.wrap (7 - (Int.tmod (wrap64 ((wrap64 (x33_2 * a1)) + x39_3)) 8))) = ji24 := (i64_w _).trans hji24; revert H; refine ifR fun c25 => ?_; intro H; have c25b0 := eq_true c25; have c25b1 := decide_eq_true c25; clear c25; obtain ⟨ji26, hji26⟩ : ∃ j_ : Int, (shl .u8 ((Go.bits .and .i64 (ji23) 1) % 256) (ji24)) = j_ := ⟨_, rfl⟩; replace H : (impl_PackRow.l1 k3 a1 (x6_3.set ((ji18) : Int).toNat (Go.bits .or .u8 (rd x6_3 (ji18)) (ji26))) x33_2 (rd l0 x33_2) l0 (l0.length : Int) x33_2 a1 (wrap64 (x39_3 + 1))) = some (r1, r2) := by first | (rw [hji26] at H; exact H) | (simp only [hji26] at H ⊢; exact H)
          have hji26_ : (IntKind.u8.wrap (((Go.bits .and .i64 (ji23) 1) % 256) * 2 ^ min (ji24).toNat 8)) = ji26 := hji26; have hji26m : (((Go.bits .and .i64 (ji23) 1) % 256) * 2 ^ min (ji24).toNat 8) % 256 = ji26 := by rw [← hji26_, IntKind.wrap_u8]
          have hji26z : (ji24) ≤ 8 → (IntKind.u8.wrap (((Go.bits .and .i64 (ji23) 1) % 256) * 2 ^ (ji24).toNat)) = ji26 := shl_small hji26; obtain ⟨y254, hy254⟩ : ∃ y_ : List Int, y_ = (x6_3.set ((ji18) : Int).toNat (Go.bits .or .u8 (rd x6_3 (ji18)) (ji26))) := ⟨_, rfl⟩; replace H : (impl_PackRow.l1 k3 a1 y254 x33_2 (rd l0 x33_2) l0 (l0.length : Int) x33_2 a1 (wrap64 (x39_3 + 1))) = some (r1, r2) := by first | (rw [hy254]; with_reducible exact H) | (have H2_ := (Option.bind_some _ _).symm.trans H; rw [hy254]; with_reducible exact H2_) | (have H2_ := (Option.bind_some _ _).symm.trans H; with_reducible exact H2_) | with_reducible exact H | (rw [hy254]; exact H) | exact H
          have Ny254 := aM hy254; clear hy254; revert H; refine adR fun H' => ?_
          try go_wp2
          replace HO_6 := aM (Kd.R_drew HO_6.out); replace HB := aM (below_drew1 HB.out); obtain ⟨Ao29, co29, eo29⟩ := Kd.R_slice HO_6.out
          (first | subst eo29 | (injection eo29 with f1_ f2_ f3_; have f4_ := f1_.symm; have f5_ := f3_.symm; clear f1_ f2_ f3_; subst f4_; subst f5_)); have p253 : 0 ≤ ((ji18) : Int) := bD; have q253 : (ji18) < (x6_3.length : Int) := bD; obtain ⟨ad253, e253, hx253_0⟩ := Kd.at_int (Kd.R_reads' HO_6.out).2.2 (ji18) p253 q253; cases e253; replace p253 := eq_true p253; replace q253 := eq_true q253; have p27 : 0 ≤ ((ji18) : Int) := bD; have q27 : ((ji18) : Int) < ((x6_3.length : Int) : Int) := bD; obtain ⟨go27, co27, eo27, gb27, gl27, cl27, HG27⟩ := Kd.R_form HO_6.out (by omega)
          (first | cases eo27 | (injection eo27 with ea_ en_ ec_; (first | subst ea_ | (injection ea_ with ea_; subst ea_)); subst ec_; clear en_)); have GB27 := aM gb27; have GG27 := aM HG27; clear gb27 gl27 HG27
          (first | simp only [add_plain] at hx253_0 | skip); obtain ⟨hx27_0, hf27_0⟩ := Kd.R_celln 0 HO_6.out ((ji18) : Int) p27 q27; replace p27 := eq_true p27; replace q27 := eq_true q27; have HP30 := Kd.R_putn HO_6.out ((ji18) : Int) (Go.bits .or .u8 (rd x6_3 (ji18)) (ji26))
          rw [← Ny254.out] at HP30; have HQ30 := aM HP30; clear HP30
          refine start_ (n := 20) (S := fun w' => w'.cell? ⟨go27, ((ji18)).toNat, none⟩ = some (.int .u8 (rd x6_3 (ji18)))) (ds := [19]) #[false, false, false, false, false, false, false, false, false, false, false, false, false, false, false, false, false, false, false, false] (by kernel_rfl) rfl rfl (hx253_0) (fun hHeld => ?_); refine with_tabW impl_PackRow.tab11 impl_PackRow.bits11 (fun HT_ HW_ => ?_)
          generalize wr.drew = w28 at HO_6 HB GG27 HQ30 hf27_0 hx253_0 hx27_0 hHeld ⊢; refine pU 0 47 (bAr 20 1) ?_; refine pU 1 48 (bAr 20 3) ?_; refine pU 2 49 (bAr 20 7) ?_; refine pU 3 50 (bAr 20 15) ?_; refine pU 5 52 (bAr 20 47) ?_; refine pU 6 53 (bAr 20 111) ?_; refine pU 7 54 (bAr 20 239) ?_; refine pU 8 55 (bAr 20 495) ?_; refine pU 9 56 (bAr 20 1007) ?_; refine pU 10 57 (bAr 20 2031) ?_; refine pU 11 58 (bAr 20 4079) ?_; refine pU 12 59 (bAr 20 8175) ?_; refine pU 13 60 (bAr 20 16367) ?_; refine pU 14 61 (bAr 20 32751) ?_; refine pU 15 62 (bAr 20 65519) ?_; refine pU 16 63 (bAr 20 131055) ?_
          refine take_ (i := 4) (N := some 51) (v := ?_) (a' := ?_) #[true, true, true, true, true, true, true, true, true, true, true, true, true, true, true, true, true, false, false, false] rfl rfl (take_ofW HT_.out HW_.out (by kernel_rfl)) (fun _ _ _ h => h) (Or.inl ⟨by rfl, ?_⟩) hHeld ?_ ?_; rotate_left
          · intro w' s0
            go_simp; with_reducible rfl
          rotate_left
          · simp only [Act.put, List.setIfInBounds_toArray, List.set_cons_zero, List.set_cons_succ, i64_w, i32_w]
            rfl
          refine pU 17 64 (bAr 20 262143) ?_; refine pU 18 65 (bAr 20 524287) ?_
          refine last_ (i := 19) (N := none) #[true, true, true, true, true, true, true, true, true, true, true, true, true, true, true, true, true, true, true, true] rfl rfl (one_of HT_.out (by kernel_rfl)) (by decide) (fun K hK => ?_)
          refine skip_ (w1 := ?_) (by rfl) rfl ?_ ?_; rotate_left
          · go_simp
            rfl
          refine hK.out _ _ ?_; clear hK K
          refine done_ (done_of HT_.out (by kernel_rfl)) ?_
          try go_wp2
          go_roundg k3
          case measure => have := HJ2.out; have := HK2.out; have := HK3.out; omega
          case rel => exact ⟨(y254), (wrap64 (x39_3 + 1)), eQ, H', ⟨by have := HJ2.out; have := HK2.out; have := HK3.out; omega⟩, ⟨by (with_reducible repeat (first | apply Kd.R_alloc | apply Kd.R_drewN | apply Kd.R_drew)); first | exact HQ30.out | (simp only [hji26m]; exact HQ30.out)⟩, ⟨by repeat (first | (with_reducible first | exact HB.out | apply below_alloc | apply pw_below_drewN | apply below_drew1 | refine below_set ?_ GB27.out) | exact HB.out)⟩⟩
        · intro H; have c17b0 := decide_eq_false c17; clear c17; revert H; refine adR fun H' => ?_; go_wp2; go_roundg k3
          case measure => have := HJ2.out; have := HK2.out; have := HK3.out; omega
          case rel => exact ⟨(x6_3), (wrap64 (x33_2 + 1)), eQ, H', ⟨by have := HJ2.out; have := HK2.out; have := HK3.out; omega⟩, ⟨Kd.R_i HO_6.out⟩, ⟨hB⟩⟩
     · intro H; have c14b0 := decide_eq_false c14; clear c14; simp only [Option.some.injEq, Prod.mk.injEq] at H; obtain ⟨rfl, rfl⟩ := H; have hcv31 := own_string (P := Try.prog) Try.underlying36 Try.underlying5 Try.underlying9 (Kd.own_of_R HO_6.out); go_wp2
       go_ret2; exact ⟨eE, hB⟩

end Go.Proofs.Ytajnobmnkbkkgaa.PFnScans
