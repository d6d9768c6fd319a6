/- Walks of functions that the law FnExactScanRead reaches: each call comes to what the Lean function of its name tells. Written by p2.py, a program of this session, by way of the kit's print. -/
import Derived.Test.YtajnobmnkbkkgaaVFnExactScanRead
import Derived.Test.YtajnobmnkbkkgaaPFnExactScanReadx0
import Derived.Test.YtajnobmnkbkkgaaPFnExactScanReadx1
import Derived.Test.YtajnobmnkbkkgaaPFnExactScanReadx6
namespace Go.Proofs.Ytajnobmnkbkkgaa.PFnExactScanRead
open Go.RowKit Go.Proofs.YtajnobmnkbkkgaaW.PrintWords Go.Proofs.YtajnobmnkbkkgaaW.PrintLast Go.Proofs.YtajnobmnkbkkgaaW.PrintMore
attribute [local go_sem] max2_int min2_int max_two min_two max_three min_three max_four min_four   -- for this text's walks alone
set_option linter.unusedVariables false
set_option linter.unusedSimpArgs false

/-! ### impl_UnpackRow: function 163 -/
mutual
def impl_UnpackRow.j0 : Nat → ByteArray → Int → Int → Bool → Option (List Int × Bool)
  | 0, _, _, _, _ => none
  | k + 1, x0, x1, x2, x28 => if x28 = true then (some (([] : List Int), false)) else (if 0 ≤ x1 then (if (x1 : Int).toNat ≤ 35184372088832 then (impl_UnpackRow.l0 k x0 x2 (List.replicate (x1 : Int).toNat 0) x1 0) else (none)) else (none))
def impl_UnpackRow.l0 : Nat → ByteArray → Int → List Int → Int → Int → Option (List Int × Bool)
  | 0, _, _, _, _, _ => none
  | k + 1, x0, x2, x8, x31, x32 => if x32 < x31 then (impl_UnpackRow.l1 k x0 x2 x8 x32 x31 x32 x2 0) else (some (x8, true))
def impl_UnpackRow.l1 : Nat → ByteArray → Int → List Int → Int → Int → Int → Int → Int → Option (List Int × Bool)
  | 0, _, _, _, _, _, _, _, _ => none
  | k + 1, x0, x2, x8, x9, x31, x32, x35, x36 => if x36 < x35 then (if 0 ≤ x9 then (if x9 < (x8.length : Int) then (if 0 ≤ (wrap64 (Int.tdiv (wrap64 ((wrap64 (x9 * x2)) + x36)) 8)) then (if (wrap64 (Int.tdiv (wrap64 ((wrap64 (x9 * x2)) + x36)) 8)) < (x0.size : Int) then (if 0 ≤ (wrap64 (7 - (Int.tmod (wrap64 ((wrap64 (x9 * x2)) + x36)) 8))) then (impl_UnpackRow.l1 k x0 x2 (x8.set (x9 : Int).toNat (wrap64 ((wrap64 (2 * (rd x8 x9))) + (wrap64 (Go.bits .and .u8 (shr .u8 (bt x0 (wrap64 (Int.tdiv (wrap64 ((wrap64 (x9 * x2)) + x36)) 8))) (wrap64 (7 - (Int.tmod (wrap64 ((wrap64 (x9 * x2)) + x36)) 8)))) 1))))) x9 x31 x32 x35 (wrap64 (x36 + 1))) else (none)) else (none)) else (none)) else (none)) else (none)) else (impl_UnpackRow.l0 k x0 x2 x8 x31 (wrap64 (x32 + 1)))
end
def impl_UnpackRow.f (k : Nat) (a0 : ByteArray) (a1 : Int) (a2 : Int) : Option (List Int × Bool) := (impl_isDepth.f a2).bind fun t256 => (if t256 = true then ((impl_within.f a1 0 96).bind fun t257 => (if t257 = true then ((impl_up.f (wrap64 (a1 * a2))).bind fun t258 => (impl_UnpackRow.j0 k a0 a1 a2 ((a0.size : Int) != t258))) else (impl_UnpackRow.j0 k a0 a1 a2 true))) else (impl_UnpackRow.j0 k a0 a1 a2 true))
def impl_UnpackRow.T11 : Bool × List (List Nat × List Nat) := (true, [([], []), ([], []), ([], []), ([], []), ([2, 3], [2, 3]), ([4], [4]), ([5], [5]), ([], []), ([], []), ([8], [8]), ([7, 9], [7, 9]), ([], []), ([11], [11]), ([12], [12]), ([10, 13], [10, 13]), ([14], [14]), ([15], [15]), ([6, 16], [6, 16]), ([0, 1, 0, 1, 2, 3, 4, 5, 6, 7, 8, 9, 10, 11, 12, 13, 14, 15, 16, 17], [0, 1]), ([18, 17, 0, 1, 2, 3, 4, 5, 6, 7, 8, 9, 10, 11, 12, 13, 14, 15, 16, 17], [17, 18])])
def impl_UnpackRow.B11 : List Nat := [0, 0, 0, 0, 12, 28, 60, 0, 0, 256, 896, 0, 2048, 6144, 16256, 32640, 65408, 131068, 262143, 524287]
theorem impl_UnpackRow.tab11 : rtab .any (opsOf Try.f163 11) = impl_UnpackRow.T11 := by kernel_rfl
theorem impl_UnpackRow.bits11 : waitsOk impl_UnpackRow.T11.2 impl_UnpackRow.B11 = true := by kernel_rfl
set_option maxHeartbeats 8000000 in
set_option maxRecDepth 100000 in
theorem impl_UnpackRow.calls (k : Nat) (a0 : ByteArray) (a1 : Int) (a2 : Int) (r1 : List Int) (r2 : Bool) (w : World) (h : impl_UnpackRow.f k a0 a1 a2 = some (r1, r2)) :
 Calls Try.prog 163 #[.string a0, .int .i64 a1, .int .i64 a2] w fun e w' => ∃ v0_ : Value, e = .returned (.tuple #[v0_, .bool r2]) ∧ Kd.R (Kd.int .i64) 3 w' w.heap.size (fun _ => True) v0_ r1 ∧ Below w.heap.size w w' := by
 have HB := aM (Below.refl w.heap.size w); unfold impl_UnpackRow.f at h; have H := h; clear h; revert H; refine adR fun HC4 => ?_; go_enter Try.func163, Try.ntmps163
 go_upto_region 1 with (fail)
 go_cut [28] (fun v28 wc => ∃ (kq : Nat) (x28_3 : Bool), v28 = .bool x28_3 ∧ Aside0 (impl_UnpackRow.j0 kq a0 a1 a2 x28_3 = some (r1, r2)) ∧ Aside0 (kq ≤ k) ∧ Aside0 (Below w.heap.size w wc))
 case first =>
  revert HC4; refine aoR ?_; refine bdR fun t256 A5 => ?_
  refine ifB (fun c6 => ?_) (fun c6 => ?_)
  · intro H; subst c6; revert H; refine bdR fun t257 A7 => ?_
    refine ifB (fun c8 => ?_) (fun c8 => ?_)
    · intro H; subst c8; revert H; refine bdR fun t258 A9 => ?_; refine adR fun H' => ?_
      go_wp2_with (first | ((with_reducible refine gC 164 ?_); refine gL (some 13) Try.func164 #[.int .i64 a2] ?_; (with_reducible refine (impl_isDepth.calls a2 true _ A5.out).mono ?_); rintro e w' ⟨rfl, ⟨nd, rfl⟩⟩; refine ⟨_, rfl, ?_⟩) | (go_at_call 82; (with_reducible refine (impl_within.calls a1 0 96 true _ A7.out).mono ?_); rintro e w' ⟨rfl, ⟨nd, rfl⟩⟩) | (go_at_call 165; (with_reducible refine (impl_up.calls (wrap64 (a1 * a2)) t258 _ A9.out).mono ?_); rintro e w' ⟨rfl, ⟨nd, rfl⟩⟩)); go_meet
      case rel => exact ⟨_, (((a0.size : Int) != t258)), eQ, H', ⟨lE⟩, ⟨hB⟩⟩
    · intro H; replace c8 := Bool.eq_false_iff.mpr c8; subst c8; revert H; refine adR fun H' => ?_
      go_wp2_with (first | ((with_reducible refine gC 164 ?_); refine gL (some 13) Try.func164 #[.int .i64 a2] ?_; (with_reducible refine (impl_isDepth.calls a2 true _ A5.out).mono ?_); rintro e w' ⟨rfl, ⟨nd, rfl⟩⟩; refine ⟨_, rfl, ?_⟩) | (go_at_call 82; (with_reducible refine (impl_within.calls a1 0 96 false _ A7.out).mono ?_); rintro e w' ⟨rfl, ⟨nd, rfl⟩⟩)); go_meet
      case rel => exact ⟨_, (true), eQ, H', ⟨lE⟩, ⟨hB⟩⟩
  · intro H; replace c6 := Bool.eq_false_iff.mpr c6; subst c6; revert H; refine adR fun H' => ?_
    go_wp2_with (first | ((with_reducible refine gC 164 ?_); refine gL (some 13) Try.func164 #[.int .i64 a2] ?_; (with_reducible refine (impl_isDepth.calls a2 false _ A5.out).mono ?_); rintro e w' ⟨rfl, ⟨nd, rfl⟩⟩; refine ⟨_, rfl, ?_⟩)); go_meet
    case rel => exact ⟨_, (true), eQ, H', ⟨lE⟩, ⟨hB⟩⟩
 case rest =>
  clear HC4; (try clear c1); (try clear p2); (try clear c6); (try clear p6); (try clear c8); obtain ⟨kq, x28_3, rfl, HA, HJ3, HB⟩ := hcut; rcases kq with _ | kj3
  · exact absurd HA.out (by simp [impl_UnpackRow.j0])
  revert HA; refine aoR ?_; intro H; simp only [impl_UnpackRow.j0] at H; revert H
  refine ifB (fun c10 => ?_) (fun c10 => ?_)
  · intro H; subst c10; simp only [Option.some.injEq, Prod.mk.injEq] at H; obtain ⟨rfl, rfl⟩ := H; go_wp2
    go_ret2; exact ⟨_, eE, by first | exact Kd.R_nil _ _ _ _ _ | exact Kd.N_nil _ _ _ _ _ | exact Kd.V_nil _ _ _ _ _ | exact Kd.Q_nil _ _ _ _ _ | exact Kd.S_nil _ _ _ _ _, hB⟩
  · intro H; replace c10 := Bool.eq_false_iff.mpr c10; subst c10; revert H; refine ifR fun c11 => ?_; intro H; have c11b0 := eq_true c11; have c11b1 := decide_eq_true c11; clear c11; revert H; refine ifR fun c12 => ?_; intro H; have c12b0 := eq_true c12; have c12b1 := decide_eq_true c12; clear c12; obtain ⟨y259, hy259⟩ : ∃ y_ : List Int, y_ = (List.replicate (a1 : Int).toNat 0) := ⟨_, rfl⟩; replace H : (impl_UnpackRow.l0 kj3 a0 a2 y259 a1 0) = some (r1, r2) := by first | (rw [hy259]; with_reducible exact H) | (have H2_ := (Option.bind_some _ _).symm.trans H; rw [hy259]; with_reducible exact H2_) | (have H2_ := (Option.bind_some _ _).symm.trans H; with_reducible exact H2_) | with_reducible exact H | (rw [hy259]; exact H) | exact H
    have Ny259 := aM hy259; clear hy259; revert H; refine adR fun H' => ?_
    go_wp2_with (first | ((with_reducible refine gD 30 ?_); (try (refine gate_guard (by rfl) ?_; dsimp only)); refine Kd.R_make (Kd.int .i64) _ 3 rfl (N := 30) rfl 22 _ _ rfl a1 rfl rfl Try.underlying22 (.int .i64 0) 8 info3 rfl (by decide) (by omega) 0 (ok := fun _ => True) (okp := fun _ => True) rfl (fun _ hk => hk) trivial (bD) (Nat.le_trans (Nat.mul_le_mul_right _ (bD : a1.toNat ≤ 35184372088832)) (by omega)) (Below.refl _ _) (Nat.le_refl _) ?_; intro v260 w13 ho14 hb hg_ hnew_; clear hg_ hnew_; (first | rw [← Ny259.out] at ho14 | (simp only [Int.reduceToNat] at ho14; rw [← Ny259.out] at ho14)); have HO261 := aM (Kd.R_lower ho14 (below_size hB)); replace HB := aM (below_step hB hb); clear hb ho14))
    go_loopg [32] kj3 (fun kq v32 w' => ∃ (x8_2 : List Int) (x32_2 : Int), v32 = .int .i64 x32_2 ∧ Aside0 (impl_UnpackRow.l0 kq a0 a2 x8_2 a1 x32_2 = some (r1, r2)) ∧ Aside0 (kq ≤ kj3) ∧ Aside0 (Kd.R (Kd.int .i64) 3 w' w.heap.size (fun _ => True) v260 x8_2) ∧ Aside0 (Below w.heap.size w w'))
    case atStart => exact ⟨(y259), (0), eQ, H', ⟨Nat.le_refl _⟩, ⟨Kd.R_i HO261.out⟩, ⟨hB⟩⟩
    case round =>
     clear H'; (try clear c1); (try clear p2); (try clear c6); (try clear p6); (try clear c8); (try clear c10); (try clear c11); (try clear c11b0); (try clear c11b1); (try clear c12); (try clear c12b0); (try clear c12b1); obtain ⟨x8_2, x32_2, rfl, HA, HK2, HO_8, HB⟩ := hrel; rcases gk with _ | k2
     · exact absurd HA.out (by simp [impl_UnpackRow.l0])
     revert HA; refine aoR ?_; intro H; simp only [impl_UnpackRow.l0] at H; revert H
     refine ifB (fun c15 => ?_) (fun c15 => ?_)
     · intro H; have c15b0 := decide_eq_true c15; clear c15; revert H; refine adR fun H' => ?_; go_wp2
       go_loopg [36] k2 (fun kq v36 w' => ∃ (x8_3 : List Int) (x36_3 : Int), v36 = .int .i64 x36_3 ∧ Aside0 (impl_UnpackRow.l1 kq a0 a2 x8_3 x32_2 a1 x32_2 a2 x36_3 = some (r1, r2)) ∧ Aside0 (kq ≤ k2) ∧ Aside0 (Kd.R (Kd.int .i64) 3 w' w.heap.size (fun _ => True) v260 x8_3) ∧ Aside0 (Below w.heap.size w w'))
       case atStart => exact ⟨(x8_2), (0), eQ, H', ⟨Nat.le_refl _⟩, ⟨Kd.R_i HO_8.out⟩, ⟨hB⟩⟩
       case round =>
        clear H'; (try clear c1); (try clear p2); (try clear c6); (try clear p6); (try clear c8); (try clear c10); (try clear c11); (try clear c11b0); (try clear c11b1); (try clear c12); (try clear c12b0); (try clear c12b1); (try clear c15); (try clear c15b0); obtain ⟨x8_3, x36_3, rfl, HA, HK3, HO_8, HB⟩ := hrel; rcases gk with _ | k3
        · exact absurd HA.out (by simp [impl_UnpackRow.l1])
        revert HA; refine aoR ?_; intro H; simp only [impl_UnpackRow.l1] at H; revert H
        refine ifB (fun c16 => ?_) (fun c16 => ?_)
        · intro H; have c16b0 := decide_eq_true c16; clear c16; revert H; refine ifR fun c17 => ?_; intro H; have c17b0 := decide_eq_true c17; clear c17; revert H; refine ifR fun c18 => ?_; intro H; have c18b0 := decide_eq_true c18; clear c18; obtain ⟨ji19, hji19⟩ : ∃ j_ : Int, (wrap64 (Int.tdiv (wrap64 ((wrap64 (x32_2 * a2)) + x36_3)) 8)) = j_ := ⟨_, rfl⟩; replace H : (if 0 ≤ (ji19) then (if (ji19) < (a0.size : Int) then (if 0 ≤ (wrap64 (7 - (Int.tmod (wrap64 ((wrap64 (x32_2 * a2)) + x36_3)) 8))) then (impl_UnpackRow.l1 k3 a0 a2 (x8_3.set (x32_2 : Int).toNat (wrap64 ((wrap64 (2 * (rd x8_3 x32_2))) + (wrap64 (Go.bits .and .u8 (shr .u8 (bt a0 (ji19)) (wrap64 (7 - (Int.tmod (wrap64 ((wrap64 (x32_2 * a2)) + x36_3)) 8)))) 1))))) x32_2 a1 x32_2 a2 (wrap64 (x36_3 + 1))) else (none)) else (none)) else (none)) = some (r1, r2) := by first | (rw [hji19] at H; exact H) | (simp only [hji19] at H ⊢; exact H)
          have hji19w : (IntKind.i64.wrap (Int.tdiv (wrap64 ((wrap64 (x32_2 * a2)) + x36_3)) 8)) = ji19 := (i64_w _).trans hji19; revert H; refine ifR fun c20 => ?_; intro H; have c20b0 := decide_eq_true c20; clear c20; revert H; refine ifR fun c21 => ?_; intro H; have c21b0 := decide_eq_true c21; clear c21; obtain ⟨ji23, hji23⟩ : ∃ j_ : Int, (wrap64 (7 - (Int.tmod (wrap64 ((wrap64 (x32_2 * a2)) + x36_3)) 8))) = j_ := ⟨_, rfl⟩; replace H : (if 0 ≤ (ji23) then (impl_UnpackRow.l1 k3 a0 a2 (x8_3.set (x32_2 : Int).toNat (wrap64 ((wrap64 (2 * (rd x8_3 x32_2))) + (wrap64 (Go.bits .and .u8 (shr .u8 (bt a0 (ji19)) (ji23)) 1))))) x32_2 a1 x32_2 a2 (wrap64 (x36_3 + 1))) else (none)) = some (r1, r2) := by first | (rw [hji23] at H; exact H) | (simp only [hji23] at H ⊢; exact H)
          have hji23w : (IntKind.i64.wrap (7 - (Int.tmod (wrap64 ((wrap64 (x32_2 * a2)) + x36_3)) 8))) = ji23 := (i64_w _).trans hji23; revert H; refine ifR fun c24 => ?_; intro H; have c24b0 := eq_true c24; have c24b1 := decide_eq_true c24; clear c24; obtain ⟨ji25, hji25⟩ : ∃ j_ : Int, (shr .u8 (bt a0 (ji19)) (ji23)) = j_ := ⟨_, rfl⟩; replace H : (impl_UnpackRow.l1 k3 a0 a2 (x8_3.set (x32_2 : Int).toNat (wrap64 ((wrap64 (2 * (rd x8_3 x32_2))) + (wrap64 (Go.bits .and .u8 (ji25) 1))))) x32_2 a1 x32_2 a2 (wrap64 (x36_3 + 1))) = some (r1, r2) := by first | (rw [hji25] at H; exact H) | (simp only [hji25] at H ⊢; exact H)
          have hji25_ : ((bt a0 (ji19)) / 2 ^ min (ji23).toNat 8) = ji25 := hji25; have hji25z : (ji23) ≤ 8 → ((bt a0 (ji19)) / 2 ^ (ji23).toNat) = ji25 := shr_small hji25; obtain ⟨y263, hy263⟩ : ∃ y_ : List Int, y_ = (x8_3.set (x32_2 : Int).toNat (wrap64 ((wrap64 (2 * (rd x8_3 x32_2))) + (wrap64 (Go.bits .and .u8 (ji25) 1))))) := ⟨_, rfl⟩; replace H : (impl_UnpackRow.l1 k3 a0 a2 y263 x32_2 a1 x32_2 a2 (wrap64 (x36_3 + 1))) = some (r1, r2) := by first | (rw [hy263]; with_reducible exact H) | (have H2_ := (Option.bind_some _ _).symm.trans H; rw [hy263]; with_reducible exact H2_) | (have H2_ := (Option.bind_some _ _).symm.trans H; with_reducible exact H2_) | with_reducible exact H | (rw [hy263]; exact H) | exact H
          have Ny263 := aM hy263; clear hy263; revert H; refine adR fun H' => ?_
          try go_wp2
          replace HO_8 := aM (Kd.R_drew HO_8.out); replace HB := aM (below_drew1 HB.out); obtain ⟨Ao28, co28, eo28⟩ := Kd.R_slice HO_8.out
          (first | subst eo28 | (injection eo28 with f1_ f2_ f3_; have f4_ := f1_.symm; have f5_ := f3_.symm; clear f1_ f2_ f3_; subst f4_; subst f5_)); have p262 : 0 ≤ (x32_2 : Int) := bD; have q262 : x32_2 < (x8_3.length : Int) := bD; obtain ⟨ad262, e262, hx262_0⟩ := Kd.at_int (Kd.R_reads' HO_8.out).2.2 x32_2 p262 q262; cases e262; replace p262 := eq_true p262; replace q262 := eq_true q262; have p22 : 0 ≤ ((ji19) : Int) := bD; have q22 : (ji19) < (a0.size : Int) := bD; have hx22 := bt_at a0 (ji19); replace p22 := eq_true p22; replace q22 := eq_true q22; have p26 : 0 ≤ (x32_2 : Int) := bD; have q26 : (x32_2 : Int) < ((x8_3.length : Int) : Int) := bD; obtain ⟨go26, co26, eo26, gb26, gl26, cl26, HG26⟩ := Kd.R_form HO_8.out (by omega)
          (first | cases eo26 | (injection eo26 with ea_ en_ ec_; (first | subst ea_ | (injection ea_ with ea_; subst ea_)); subst ec_; clear en_)); have GB26 := aM gb26; have GG26 := aM HG26; clear gb26 gl26 HG26
          (first | simp only [add_plain] at hx262_0 | skip); obtain ⟨hx26_0, hf26_0⟩ := Kd.R_celln 0 HO_8.out (x32_2 : Int) p26 q26; replace p26 := eq_true p26; replace q26 := eq_true q26; have HP29 := Kd.R_putn HO_8.out (x32_2 : Int) (wrap64 ((wrap64 (2 * (rd x8_3 x32_2))) + (wrap64 (Go.bits .and .u8 (ji25) 1))))
          rw [← Ny263.out] at HP29; have HQ29 := aM HP29; clear HP29
          refine start_ (n := 20) (S := fun w' => w'.cell? ⟨go26, (x32_2).toNat, none⟩ = some (.int .i64 (rd x8_3 x32_2))) (ds := [19]) #[false, false, false, false, false, false, false, false, false, false, false, false, false, false, false, false, false, false, false, false] (by kernel_rfl) rfl rfl (hx262_0) (fun hHeld => ?_); refine with_tabW impl_UnpackRow.tab11 impl_UnpackRow.bits11 (fun HT_ HW_ => ?_)
          generalize wr.drew = w27 at HO_8 HB GG26 HQ29 hf26_0 hx262_0 hx26_0 hHeld ⊢; refine pU 0 44 (bAr 20 1) ?_; refine pU 1 45 (bAr 20 3) ?_; refine pU 2 46 (bAr 20 7) ?_; refine pU 3 47 (bAr 20 15) ?_; refine pU 4 48 (bAr 20 31) ?_; refine pU 7 51 (bAr 20 159) ?_; refine pU 8 52 (bAr 20 415) ?_; refine pU 9 53 (bAr 20 927) ?_; refine pU 11 55 (bAr 20 2975) ?_; refine pU 12 56 (bAr 20 7071) ?_; refine pU 13 57 (bAr 20 15263) ?_
          refine take_ (i := 5) (N := some 49) (v := ?_) (a' := ?_) #[true, true, true, true, true, true, false, true, true, true, false, true, true, true, false, false, false, false, false, false] rfl rfl (take_ofW HT_.out HW_.out (by kernel_rfl)) (fun _ _ _ h => h) (Or.inl ⟨by rfl, ?_⟩) hHeld ?_ ?_; rotate_left
          · intro w' s0
            go_simp; with_reducible rfl
          rotate_left
          · simp only [Act.put, List.setIfInBounds_toArray, List.set_cons_zero, List.set_cons_succ, i64_w, i32_w]
            rfl
          refine pU 6 50 (bAr 20 15359) ?_
          refine take_ (i := 10) (N := some 54) (v := ?_) (a' := ?_) #[true, true, true, true, true, true, true, true, true, true, true, true, true, true, false, false, false, false, false, false] rfl rfl (take_ofW HT_.out HW_.out (by kernel_rfl)) (fun _ _ _ h => h) (Or.inl ⟨by rfl, ?_⟩) hHeld ?_ ?_; rotate_left
          · intro w' s0
            go_simp; with_reducible rfl
          rotate_left
          · simp only [Act.put, List.setIfInBounds_toArray, List.set_cons_zero, List.set_cons_succ, i64_w, i32_w]
            rfl
          refine pU 14 58 (bAr 20 32767) ?_; refine pU 15 59 (bAr 20 65535) ?_; refine pU 16 60 (bAr 20 131071) ?_; refine pU 17 61 (bAr 20 262143) ?_; refine pU 18 62 (bAr 20 524287) ?_
          refine last_ (i := 19) (N := none) #[true, true, true, true, true, true, true, true, true, true, true, true, true, true, true, true, true, true, true, true] rfl rfl (one_of HT_.out (by kernel_rfl)) (by decide) (fun K hK => ?_)
          refine skip_ (w1 := ?_) (by rfl) rfl ?_ ?_; rotate_left
          · go_simp
            rfl
          refine hK.out _ _ ?_; clear hK K
          refine done_ (done_of HT_.out (by kernel_rfl)) ?_
          try go_wp2
          go_roundg k3
          case measure => have := HJ3.out; have := HK2.out; have := HK3.out; omega
          case rel => exact ⟨(y263), (wrap64 (x36_3 + 1)), eQ, H', ⟨by have := HJ3.out; have := HK2.out; have := HK3.out; omega⟩, ⟨Kd.R_i HQ29.out⟩, ⟨by repeat (first | (with_reducible first | exact HB.out | apply below_alloc | apply pw_below_drewN | apply below_drew1 | refine below_set ?_ GB26.out) | exact HB.out)⟩⟩
        · intro H; have c16b0 := decide_eq_false c16; clear c16; revert H; refine adR fun H' => ?_; go_wp2; go_roundg k3
          case measure => have := HJ3.out; have := HK2.out; have := HK3.out; omega
          case rel => exact ⟨(x8_3), (wrap64 (x32_2 + 1)), eQ, H', ⟨by have := HJ3.out; have := HK2.out; have := HK3.out; omega⟩, ⟨Kd.R_i HO_8.out⟩, ⟨hB⟩⟩
     · intro H; have c15b0 := decide_eq_false c15; clear c15; simp only [Option.some.injEq, Prod.mk.injEq] at H; obtain ⟨rfl, rfl⟩ := H; go_wp2
       go_ret2; exact ⟨_, eE, Kd.R_i HO_8.out, hB⟩

end Go.Proofs.Ytajnobmnkbkkgaa.PFnExactScanRead
