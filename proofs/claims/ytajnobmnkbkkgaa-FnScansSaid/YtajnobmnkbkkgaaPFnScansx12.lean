/- Walks of functions that the law FnScans reaches: each call comes to what the Lean function of its name tells. Written by p2.py, a program of this session, by way of the kit's print. -/
import Derived.Test.YtajnobmnkbkkgaaVFnScans
import Derived.Test.YtajnobmnkbkkgaaPFnScansx0
import Derived.Test.YtajnobmnkbkkgaaPFnScansx4
import Derived.Test.YtajnobmnkbkkgaaPFnScansx5
import Derived.Test.YtajnobmnkbkkgaaPFnScansx6
import Derived.Test.YtajnobmnkbkkgaaPFnScansx7
import Derived.Test.YtajnobmnkbkkgaaPFnScansx8
namespace Go.Proofs.Ytajnobmnkbkkgaa.PFnScans
open Go.RowKit Go.Proofs.YtajnobmnkbkkgaaW.PrintWords Go.Proofs.YtajnobmnkbkkgaaW.PrintLast Go.Proofs.YtajnobmnkbkkgaaW.PrintMore
attribute [local go_sem] max2_int min2_int max_two min_two max_three min_three max_four min_four   -- for this text's walks alone
set_option linter.unusedVariables false
set_option linter.unusedSimpArgs false

/-! ### impl_piecesOf: function 112 -/
def impl_piecesOf.l0 : Nat → Int → Int → List (S138) → Int → Option ((List (S138)))
  | 0, _, _, _, _ => none
  | k + 1, x0, x1, x7, x18 => if x18 < 7 then ((impl_PassSize.f k x0 x1 x18).bind fun bt373 => (if x7.length < 8796093022208 then (impl_piecesOf.l0 k x0 x1 (x7 ++ [(⟨bt373.1, bt373.2⟩ : S138)]) (wrap64 (x18 + 1))) else (none))) else (some x7)
def impl_piecesOf.f (k : Nat) (a0 : Int) (a1 : Int) (a2 : Bool) : Option ((List (S138))) := if a2 = true then (impl_piecesOf.l0 k a0 a1 (([] : List (S138))) 0) else (some (([(⟨a0, a1⟩ : S138)] : List (S138))))
set_option maxHeartbeats 8000000 in
set_option maxRecDepth 100000 in
theorem impl_piecesOf.calls (k : Nat) (a0 : Int) (a1 : Int) (a2 : Bool) (r : List (S138)) (w : World) (h : impl_piecesOf.f k a0 a1 a2 = some r) :
 Calls Try.prog 112 #[.int .i64 a0, .int .i64 a1, .bool a2] w fun e w' => ∃ v0_ : Value, e = .returned (v0_) ∧ Kd.R k138 138 w' w.heap.size (fun _ => True) v0_ r ∧ Below w.heap.size w w' := by
 have hu138 := Try.underlying138; have HB := aM (Below.refl w.heap.size w); have H : (if a2 = true then (impl_piecesOf.l0 k a0 a1 (([] : List (S138))) 0) else (some (([(⟨a0, a1⟩ : S138)] : List (S138))))) = some r := h; clear h; revert H
 refine ifB (fun c4 => ?_) (fun c4 => ?_)
 · intro H; subst c4; obtain ⟨y370, hy370⟩ : ∃ y_ : List (S138), y_ = (([] : List (S138))) := ⟨_, rfl⟩; replace H : (impl_piecesOf.l0 k a0 a1 y370 0) = some r := by first | (rw [hy370]; with_reducible exact H) | (have H2_ := (Option.bind_some _ _).symm.trans H; rw [hy370]; with_reducible exact H2_) | (have H2_ := (Option.bind_some _ _).symm.trans H; with_reducible exact H2_) | with_reducible exact H | (rw [hy370]; exact H) | exact H
   have Ny370 := aM hy370; clear hy370; revert H; refine adR fun H' => ?_; go_enter Try.func112, Try.ntmps112
   go_wp2_with (first | ((with_reducible refine gD 17 ?_); refine Kd.R_lit k138 _ 138 ?hg (N := 17) ?hd (xs := ([] : List (S138))) (inner := []) (ok := fun _ => True) (okp := fun _ => True) ?hr ?hp (fun _ hk => hk) trivial (Below.refl _ _) (Nat.le_refl _) (by simp) ?_; (case hd => rfl); (case hg => rfl); (case hr => first | (go_simp; done) | (go_simp; rfl)); (case hp => exact (Reps.none _ _)); intro v371 w5 ho6 hb hg_ hnew_; clear hg_ hnew_; (first | rw [← Ny370.out] at ho6 | (simp only [Int.reduceToNat] at ho6; rw [← Ny370.out] at ho6)); have HO372 := aM (Kd.R_lower ho6 (below_size hB)); replace HB := aM (below_step hB hb); clear hb ho6))
   go_loopg [7, 18] k (fun kq v7 v18 w' => ∃ (x7_1 : List (S138)) (x18_1 : Int), v18 = .int .i64 x18_1 ∧ Aside0 (impl_piecesOf.l0 kq a0 a1 x7_1 x18_1 = some r) ∧ Aside0 (kq ≤ k) ∧ Aside0 (Kd.R k138 138 w' w.heap.size (fun _ => True) v7 x7_1) ∧ Aside0 (Below w.heap.size w w'))
   case atStart => exact ⟨(y370), (0), eQ, H', ⟨Nat.le_refl _⟩, ⟨Kd.R_i HO372.out⟩, ⟨hB⟩⟩
   case round =>
    clear H'; (try clear c1); (try clear p2); (try clear c4); obtain ⟨x7_1, x18_1, rfl, HA, HK1, HO_7, HB⟩ := hrel; rcases gk with _ | k1
    · exact absurd HA.out (by simp [impl_piecesOf.l0])
    revert HA; refine aoR ?_; intro H; simp only [impl_piecesOf.l0] at H; revert H
    refine ifB (fun c7 => ?_) (fun c7 => ?_)
    · intro H; have c7b0 := decide_eq_true c7; clear c7; revert H; refine bdR fun ⟨t373, t374⟩ A8 => ?_; intro H
      try dsimp only at H
      revert H; refine ifR fun c9 => ?_; intro H; have LMc9 := aM c9; clear c9; obtain ⟨y375, hy375⟩ : ∃ y_ : List (S138), y_ = (x7_1 ++ [(⟨t373, t374⟩ : S138)]) := ⟨_, rfl⟩; replace H : (impl_piecesOf.l0 k1 a0 a1 y375 (wrap64 (x18_1 + 1))) = some r := by first | (rw [hy375]; with_reducible exact H) | (have H2_ := (Option.bind_some _ _).symm.trans H; rw [hy375]; with_reducible exact H2_) | (have H2_ := (Option.bind_some _ _).symm.trans H; with_reducible exact H2_) | with_reducible exact H | (rw [hy375]; exact H) | exact H
      have Ny375 := aM hy375; clear hy375; revert H; refine adR fun H' => ?_
      go_wp2_with (first | ((with_reducible refine gC 66 ?_); refine gL (some 25) Try.func66 #[.int .i64 a0, .int .i64 a1, .int .i64 x18_1] ?_; (with_reducible refine (impl_PassSize.calls k1 a0 a1 x18_1 t373 t374 _ A8.out).mono ?_); rintro e w' ⟨rfl, ⟨nd, rfl⟩⟩; refine ⟨_, rfl, ?_⟩) | ((with_reducible refine gate_builtin (b := .append) (xs := #[.tmp 28, .tmp 32]) rfl ?_); at_builtin; refine Kd.R_append k138 (w0 := w) w.heap.size rfl (.tmp 28) (.tmp 32) 136 138 (.agg #[(.int .i64 0), (.int .i64 0)]) 16 rfl Try.underlying136 info138 rfl (by decide) (by omega) u7 x7_1 (⟨t373, t374⟩ : S138) [.int .i64 t373, .int .i64 t374] (fun _ => True) (fun _ => False) rfl rfl ?aP (fun _ hk => hk.elim) ?aF ?aO ?aB ?aS ?aL ?_; (case aP => exact k138_mkM _ _ _ (⟨t373, t374⟩ : S138)); (case aB => exact hB); (case aF => exact (fun _ _ => trivial)); (case aO => exact (Kd.R_i HO_7.out)); (case aS => exact (below_size hB)); (case aL => have := LMc9.out; omega); intro v376 w10 ho hb hg hat; rw [← Ny375.out] at ho; replace HB := aM (hb); have HO377 := aM (ho); clear HO_7; clear ho hb hg hat)); go_roundg k1
      case measure => have := HK1.out; omega
      case rel => exact ⟨(y375), (wrap64 (x18_1 + 1)), eQ, H', ⟨by have := HK1.out; omega⟩, ⟨Kd.R_i HO377.out⟩, ⟨hB⟩⟩
    · intro H; have c7b0 := decide_eq_false c7; clear c7; obtain rfl := Option.some.inj H; go_wp2; go_ret; exact ⟨_, eE, Kd.R_i HO_7.out, hB⟩
 · intro H; replace c4 := Bool.eq_false_iff.mpr c4; subst c4; obtain ⟨y367, hy367⟩ : ∃ y_ : List (S138), y_ = (([(⟨a0, a1⟩ : S138)] : List (S138))) := ⟨_, rfl⟩; replace H : (some y367) = some r := by first | (rw [hy367]; with_reducible exact H) | (have H2_ := (Option.bind_some _ _).symm.trans H; rw [hy367]; with_reducible exact H2_) | (have H2_ := (Option.bind_some _ _).symm.trans H; with_reducible exact H2_) | with_reducible exact H | (rw [hy367]; exact H) | exact H
   have Ny367 := aM hy367; clear hy367; obtain rfl := Option.some.inj H; go_enter Try.func112, Try.ntmps112
   go_wp2_with (first | ((with_reducible refine gD 16 ?_); refine Kd.R_lit k138 _ 138 ?hg (N := 16) ?hd (xs := ([(⟨a0, a1⟩ : S138)] : List (S138))) (inner := [.int .i64 a0, .int .i64 a1]) (ok := fun _ => True) (okp := fun _ => True) ?hr ?hp (fun _ hk => hk) trivial (Below.refl _ _) (Nat.le_refl _) (by simp) ?_; (case hd => rfl); (case hg => rfl); (case hr => first | (go_simp; done) | (go_simp; rfl)); (case hp => exact (Reps.c2 (show Kd.M k138 _ _ _ (⟨a0, a1⟩ : S138) [.int .i64 a0, .int .i64 a1] from (k138_mkM _ _ _ (⟨a0, a1⟩ : S138) )) (Reps.none _ _))); intro v368 w11 ho12 hb hg_ hnew_; clear hg_ hnew_; (first | rw [← Ny367.out] at ho12 | (simp only [Int.reduceToNat] at ho12; rw [← Ny367.out] at ho12)); have HO369 := aM (Kd.R_lower ho12 (below_size hB)); replace HB := aM (below_step hB hb); clear hb ho12)); go_ret; exact ⟨_, eE, Kd.R_i HO369.out, hB⟩

/-! ### impl_RowBytes: function 115 -/
def impl_RowBytes.j0 : Nat → Int → Int → Int → Bool → Option (Int)
  | 0, _, _, _, _ => none
  | k + 1, x0, x1, x2, x15 => if x15 = true then (some 0) else ((impl_ChannelsOf.f k x1).bind fun t380 => ((impl_up.f (wrap64 ((wrap64 (x0 * t380)) * x2))).bind fun t381 => (some t381)))
def impl_RowBytes.f (k : Nat) (a0 : Int) (a1 : Int) (a2 : Int) : Option (Int) := (impl_isSide.f a0).bind fun t378 => (if t378 = true then ((impl_DepthOk.f k a1 a2).bind fun t379 => (impl_RowBytes.j0 k a0 a1 a2 (!t379))) else (impl_RowBytes.j0 k a0 a1 a2 true))
set_option maxHeartbeats 8000000 in
set_option maxRecDepth 100000 in
theorem impl_RowBytes.calls (k : Nat) (a0 : Int) (a1 : Int) (a2 : Int) (r : Int) (w : World) (h : impl_RowBytes.f k a0 a1 a2 = some r) :
 Calls Try.prog 115 #[.int .i64 a0, .int .i64 a1, .int .i64 a2] w fun e w' => e = .returned (.int .i64 r) ∧ Drawn0 w w' := by
 have H : ((impl_isSide.f a0).bind fun t378 => (if t378 = true then ((impl_DepthOk.f k a1 a2).bind fun t379 => (impl_RowBytes.j0 k a0 a1 a2 (!t379))) else (impl_RowBytes.j0 k a0 a1 a2 true))) = some r := h; clear h; revert H; refine adR fun HC4 => ?_; go_enter Try.func115, Try.ntmps115
 go_upto_region 1 with (fail)
 go_cut [15] (fun v15 wc => ∃ (kq : Nat) (x15_3 : Bool), v15 = .bool x15_3 ∧ Aside0 (impl_RowBytes.j0 kq a0 a1 a2 x15_3 = some r) ∧ Aside0 (kq ≤ k) ∧ Drawn0 w wc)
 case first =>
  revert HC4; refine aoR ?_; refine bdR fun t378 A5 => ?_
  refine ifB (fun c6 => ?_) (fun c6 => ?_)
  · intro H; subst c6; revert H; refine bdR fun t379 A7 => ?_; refine adR fun H' => ?_
    go_wp2_with (first | ((with_reducible refine gC 92 ?_); refine gL (some 8) Try.func92 #[.int .i64 a0] ?_; (with_reducible refine (impl_isSide.calls a0 true _ A5.out).mono ?_); rintro e w' ⟨rfl, ⟨nd, rfl⟩⟩; refine ⟨_, rfl, ?_⟩) | (go_at_call 114; (with_reducible refine (impl_DepthOk.calls k a1 a2 t379 _ A7.out).mono ?_); rintro e w' ⟨rfl, ⟨nd, rfl⟩⟩)); go_meet
    case rel => exact ⟨_, (!t379), eQ, H', ⟨lE⟩, dQ⟩
  · intro H; replace c6 := Bool.eq_false_iff.mpr c6; subst c6; revert H; refine adR fun H' => ?_
    go_wp2_with (first | ((with_reducible refine gC 92 ?_); refine gL (some 8) Try.func92 #[.int .i64 a0] ?_; (with_reducible refine (impl_isSide.calls a0 false _ A5.out).mono ?_); rintro e w' ⟨rfl, ⟨nd, rfl⟩⟩; refine ⟨_, rfl, ?_⟩)); go_meet
    case rel => exact ⟨_, (true), eQ, H', ⟨lE⟩, dQ⟩
 case rest =>
  clear HC4; (try clear c1); (try clear p2); (try clear c6); obtain ⟨kq, x15_3, rfl, HA, HJ3, ⟨mc3, rfl⟩⟩ := hcut; rcases kq with _ | kj3
  · exact absurd HA.out (by simp [impl_RowBytes.j0])
  revert HA; refine aoR ?_; intro H; simp only [impl_RowBytes.j0] at H; revert H
  refine ifB (fun c8 => ?_) (fun c8 => ?_)
  · intro H; subst c8; obtain rfl := Option.some.inj H; go_wp2; go_ret; exact ⟨eQ, dQ⟩
  · intro H; replace c8 := Bool.eq_false_iff.mpr c8; subst c8; revert H; refine bdR fun t380 A9 => ?_; refine bdR fun t381 A10 => ?_; intro H; obtain rfl := Option.some.inj H
    go_wp2_with (first | ((with_reducible refine gC 65 ?_); refine gL (some 18) Try.func65 #[.int .i64 a1] ?_; (with_reducible refine (impl_ChannelsOf.calls kj3 a1 t380 _ A9.out).mono ?_); rintro e w' ⟨rfl, ⟨nd, rfl⟩⟩; refine ⟨_, rfl, ?_⟩) | ((with_reducible refine gC 165 ?_); refine gL (some 22) Try.func165 #[.int .i64 (wrap64 ((wrap64 (a0 * t380)) * a2))] ?_; (with_reducible refine (impl_up.calls (wrap64 ((wrap64 (a0 * t380)) * a2)) t381 _ A10.out).mono ?_); rintro e w' ⟨rfl, ⟨nd, rfl⟩⟩; refine ⟨_, rfl, ?_⟩)); go_ret; exact ⟨eQ, dQ⟩

/-! ### impl_ScanBytes: function 48 -/
mutual
def impl_ScanBytes.j0 : Nat → Int → Int → Int → Int → Bool → Bool → Option (Int)
  | 0, _, _, _, _, _, _ => none
  | k + 1, x0, x1, x2, x3, x4, x27 => if x27 = true then (some 0) else ((impl_piecesOf.f k x0 x1 x4).bind fun t385 => (impl_ScanBytes.l0 k x2 x3 0 t385 (t385.length : Int) 0))
def impl_ScanBytes.l0 : Nat → Int → Int → Int → List (S138) → Int → Int → Option (Int)
  | 0, _, _, _, _, _, _ => none
  | k + 1, x2, x3, x11, x31, x32, x33 => if x33 < x32 then (if 0 ≤ x33 then (if x33 < (x31.length : Int) then ((impl_RowBytes.f k ((rd_T138 x31 x33).f0) x2 x3).bind fun t390 => (impl_ScanBytes.l0 k x2 x3 (wrap64 (x11 + (wrap64 (((rd_T138 x31 x33).f1) * (wrap64 (1 + t390)))))) x31 x32 (wrap64 (x33 + 1)))) else (none)) else (none)) else (some x11)
end
def impl_ScanBytes.f (k : Nat) (a0 : Int) (a1 : Int) (a2 : Int) (a3 : Int) (a4 : Bool) : Option (Int) := (impl_isSide.f a0).bind fun t382 => (if t382 = true then ((impl_isSide.f a1).bind fun t383 => (if t383 = true then ((impl_DepthOk.f k a2 a3).bind fun t384 => (impl_ScanBytes.j0 k a0 a1 a2 a3 a4 (!t384))) else (impl_ScanBytes.j0 k a0 a1 a2 a3 a4 true))) else (impl_ScanBytes.j0 k a0 a1 a2 a3 a4 true))
set_option maxHeartbeats 8000000 in
set_option maxRecDepth 100000 in
theorem impl_ScanBytes.calls (k : Nat) (a0 : Int) (a1 : Int) (a2 : Int) (a3 : Int) (a4 : Bool) (r : Int) (w : World) (h : impl_ScanBytes.f k a0 a1 a2 a3 a4 = some r) :
 Calls Try.prog 48 #[.int .i64 a0, .int .i64 a1, .int .i64 a2, .int .i64 a3, .bool a4] w fun e w' => e = .returned (.int .i64 r) ∧ Below w.heap.size w w' := by
 have hu138 := Try.underlying138; have HB := aM (Below.refl w.heap.size w); unfold impl_ScanBytes.f at h; have H := h; clear h; revert H; refine adR fun HC6 => ?_; go_enter Try.func48, Try.ntmps48
 go_upto_region 1 with (fail)
 repeat (go_quiet (fail); go_upto_region 1 with (fail))
 go_cut [27] (fun v27 wc => ∃ (kq : Nat) (x27_5 : Bool), v27 = .bool x27_5 ∧ Aside0 (impl_ScanBytes.j0 kq a0 a1 a2 a3 a4 x27_5 = some r) ∧ Aside0 (kq ≤ k) ∧ Aside0 (Below w.heap.size w wc))
 case first =>
  revert HC6; refine aoR ?_; refine bdR fun t382 A7 => ?_
  refine ifB (fun c8 => ?_) (fun c8 => ?_)
  · intro H; subst c8; revert H; refine bdR fun t383 A9 => ?_
    refine ifB (fun c10 => ?_) (fun c10 => ?_)
    · intro H; subst c10; revert H; refine bdR fun t384 A11 => ?_; refine adR fun H' => ?_
      go_wp2_with (first | (go_at_call 92; (with_reducible refine (impl_isSide.calls a0 true _ A7.out).mono ?_); rintro e w' ⟨rfl, ⟨nd, rfl⟩⟩; (try first | exact ⟨rfl, _, World.drewN_drewN _ _ _⟩ | exact ⟨rfl, _, Eq.trans (World.drewN_drewN _ _ _) (congrArg (World.drewN _) (Nat.add_assoc _ _ _))⟩)) | (go_at_call 92; (with_reducible refine (impl_isSide.calls a1 true _ A9.out).mono ?_); rintro e w' ⟨rfl, ⟨nd, rfl⟩⟩; (try first | exact ⟨rfl, _, World.drewN_drewN _ _ _⟩ | exact ⟨rfl, _, Eq.trans (World.drewN_drewN _ _ _) (congrArg (World.drewN _) (Nat.add_assoc _ _ _))⟩)) | (go_at_call 114; (with_reducible refine (impl_DepthOk.calls k a2 a3 t384 _ A11.out).mono ?_); rintro e w' ⟨rfl, ⟨nd, rfl⟩⟩; (try first | exact ⟨rfl, _, World.drewN_drewN _ _ _⟩ | exact ⟨rfl, _, Eq.trans (World.drewN_drewN _ _ _) (congrArg (World.drewN _) (Nat.add_assoc _ _ _))⟩)))
      repeat (go_quiet (first | (go_at_call 92; (with_reducible refine (impl_isSide.calls a0 true _ A7.out).mono ?_); rintro e w' ⟨rfl, ⟨nd, rfl⟩⟩; (try first | exact ⟨rfl, _, World.drewN_drewN _ _ _⟩ | exact ⟨rfl, _, Eq.trans (World.drewN_drewN _ _ _) (congrArg (World.drewN _) (Nat.add_assoc _ _ _))⟩)) | (go_at_call 92; (with_reducible refine (impl_isSide.calls a1 true _ A9.out).mono ?_); rintro e w' ⟨rfl, ⟨nd, rfl⟩⟩; (try first | exact ⟨rfl, _, World.drewN_drewN _ _ _⟩ | exact ⟨rfl, _, Eq.trans (World.drewN_drewN _ _ _) (congrArg (World.drewN _) (Nat.add_assoc _ _ _))⟩)) | (go_at_call 114; (with_reducible refine (impl_DepthOk.calls k a2 a3 t384 _ A11.out).mono ?_); rintro e w' ⟨rfl, ⟨nd, rfl⟩⟩; (try first | exact ⟨rfl, _, World.drewN_drewN _ _ _⟩ | exact ⟨rfl, _, Eq.trans (World.drewN_drewN _ _ _) (congrArg (World.drewN _) (Nat.add_assoc _ _ _))⟩))); try go_wp2_with (first | (go_at_call 92; (with_reducible refine (impl_isSide.calls a0 true _ A7.out).mono ?_); rintro e w' ⟨rfl, ⟨nd, rfl⟩⟩; (try first | exact ⟨rfl, _, World.drewN_drewN _ _ _⟩ | exact ⟨rfl, _, Eq.trans (World.drewN_drewN _ _ _) (congrArg (World.drewN _) (Nat.add_assoc _ _ _))⟩)) | (go_at_call 92; (with_reducible refine (impl_isSide.calls a1 true _ A9.out).mono ?_); rintro e w' ⟨rfl, ⟨nd, rfl⟩⟩; (try first | exact ⟨rfl, _, World.drewN_drewN _ _ _⟩ | exact ⟨rfl, _, Eq.trans (World.drewN_drewN _ _ _) (congrArg (World.drewN _) (Nat.add_assoc _ _ _))⟩)) | (go_at_call 114; (with_reducible refine (impl_DepthOk.calls k a2 a3 t384 _ A11.out).mono ?_); rintro e w' ⟨rfl, ⟨nd, rfl⟩⟩; (try first | exact ⟨rfl, _, World.drewN_drewN _ _ _⟩ | exact ⟨rfl, _, Eq.trans (World.drewN_drewN _ _ _) (congrArg (World.drewN _) (Nat.add_assoc _ _ _))⟩))))
      go_meet
      case rel => exact ⟨_, (!t384), eQ, H', ⟨lE⟩, ⟨hB⟩⟩
    · intro H; replace c10 := Bool.eq_false_iff.mpr c10; subst c10; revert H; refine adR fun H' => ?_
      go_wp2_with (first | (go_at_call 92; (with_reducible refine (impl_isSide.calls a0 true _ A7.out).mono ?_); rintro e w' ⟨rfl, ⟨nd, rfl⟩⟩; (try first | exact ⟨rfl, _, World.drewN_drewN _ _ _⟩ | exact ⟨rfl, _, Eq.trans (World.drewN_drewN _ _ _) (congrArg (World.drewN _) (Nat.add_assoc _ _ _))⟩)) | (go_at_call 92; (with_reducible refine (impl_isSide.calls a1 false _ A9.out).mono ?_); rintro e w' ⟨rfl, ⟨nd, rfl⟩⟩; (try first | exact ⟨rfl, _, World.drewN_drewN _ _ _⟩ | exact ⟨rfl, _, Eq.trans (World.drewN_drewN _ _ _) (congrArg (World.drewN _) (Nat.add_assoc _ _ _))⟩)))
      repeat (go_quiet (first | (go_at_call 92; (with_reducible refine (impl_isSide.calls a0 true _ A7.out).mono ?_); rintro e w' ⟨rfl, ⟨nd, rfl⟩⟩; (try first | exact ⟨rfl, _, World.drewN_drewN _ _ _⟩ | exact ⟨rfl, _, Eq.trans (World.drewN_drewN _ _ _) (congrArg (World.drewN _) (Nat.add_assoc _ _ _))⟩)) | (go_at_call 92; (with_reducible refine (impl_isSide.calls a1 false _ A9.out).mono ?_); rintro e w' ⟨rfl, ⟨nd, rfl⟩⟩; (try first | exact ⟨rfl, _, World.drewN_drewN _ _ _⟩ | exact ⟨rfl, _, Eq.trans (World.drewN_drewN _ _ _) (congrArg (World.drewN _) (Nat.add_assoc _ _ _))⟩))); try go_wp2_with (first | (go_at_call 92; (with_reducible refine (impl_isSide.calls a0 true _ A7.out).mono ?_); rintro e w' ⟨rfl, ⟨nd, rfl⟩⟩; (try first | exact ⟨rfl, _, World.drewN_drewN _ _ _⟩ | exact ⟨rfl, _, Eq.trans (World.drewN_drewN _ _ _) (congrArg (World.drewN _) (Nat.add_assoc _ _ _))⟩)) | (go_at_call 92; (with_reducible refine (impl_isSide.calls a1 false _ A9.out).mono ?_); rintro e w' ⟨rfl, ⟨nd, rfl⟩⟩; (try first | exact ⟨rfl, _, World.drewN_drewN _ _ _⟩ | exact ⟨rfl, _, Eq.trans (World.drewN_drewN _ _ _) (congrArg (World.drewN _) (Nat.add_assoc _ _ _))⟩))))
      go_meet
      case rel => exact ⟨_, (true), eQ, H', ⟨lE⟩, ⟨hB⟩⟩
  · intro H; replace c8 := Bool.eq_false_iff.mpr c8; subst c8; revert H; refine adR fun H' => ?_
    go_wp2_with (first | (go_at_call 92; (with_reducible refine (impl_isSide.calls a0 false _ A7.out).mono ?_); rintro e w' ⟨rfl, ⟨nd, rfl⟩⟩; (try first | exact ⟨rfl, _, World.drewN_drewN _ _ _⟩ | exact ⟨rfl, _, Eq.trans (World.drewN_drewN _ _ _) (congrArg (World.drewN _) (Nat.add_assoc _ _ _))⟩)))
    repeat (go_quiet (first | (go_at_call 92; (with_reducible refine (impl_isSide.calls a0 false _ A7.out).mono ?_); rintro e w' ⟨rfl, ⟨nd, rfl⟩⟩; (try first | exact ⟨rfl, _, World.drewN_drewN _ _ _⟩ | exact ⟨rfl, _, Eq.trans (World.drewN_drewN _ _ _) (congrArg (World.drewN _) (Nat.add_assoc _ _ _))⟩))); try go_wp2_with (first | (go_at_call 92; (with_reducible refine (impl_isSide.calls a0 false _ A7.out).mono ?_); rintro e w' ⟨rfl, ⟨nd, rfl⟩⟩; (try first | exact ⟨rfl, _, World.drewN_drewN _ _ _⟩ | exact ⟨rfl, _, Eq.trans (World.drewN_drewN _ _ _) (congrArg (World.drewN _) (Nat.add_assoc _ _ _))⟩))))
    go_meet
    case rel => exact ⟨_, (true), eQ, H', ⟨lE⟩, ⟨hB⟩⟩
 case rest =>
  clear HC6; (try clear c1); (try clear p2); (try clear c4); (try clear c8); (try clear c10); obtain ⟨kq, x27_5, rfl, HA, HJ5, HB⟩ := hcut; rcases kq with _ | kj5
  · exact absurd HA.out (by simp [impl_ScanBytes.j0])
  revert HA; refine aoR ?_; intro H; simp only [impl_ScanBytes.j0] at H; revert H
  refine ifB (fun c12 => ?_) (fun c12 => ?_)
  · intro H; subst c12; obtain rfl := Option.some.inj H; go_wp2
    repeat (go_quiet (fail); try go_wp2)
    go_ret; exact ⟨eE, hB⟩
  · intro H; replace c12 := Bool.eq_false_iff.mpr c12; subst c12; revert H; refine bdR fun t385 A13 => ?_; refine adR fun H' => ?_
    go_wp2_with (first | (go_at_call 112; (with_reducible refine (impl_piecesOf.calls kj5 a0 a1 a4 t385 _ A13.out).mono ?_); rintro e w14 ⟨v386, rfl, ho0, hb⟩; have HO387 := aM (Kd.R_lower ho0 (below_size hB)); replace HB := aM (below_step hB hb); (try clear hb); (try clear hb2); (try clear hk); (try clear hi); (try clear ho0); obtain ⟨Ao15, co15, eo15⟩ := Kd.R_slice HO387.out; subst eo15))
    repeat (go_quiet (first | (go_at_call 112; (with_reducible refine (impl_piecesOf.calls kj5 a0 a1 a4 t385 _ A13.out).mono ?_); rintro e w14 ⟨v386, rfl, ho0, hb⟩; have n0_ := aM (Kd.R_lower ho0 (below_size hB)); have n1_ := aM (below_step hB hb); clear HB; have HO387 := n0_; have HB := n1_; clear n0_ n1_; (try clear hb); (try clear hb2); (try clear hk); (try clear hi); (try clear ho0); obtain ⟨Ao15, co15, eo15⟩ := Kd.R_slice HO387.out; subst eo15)); try go_wp2_with (first | (go_at_call 112; (with_reducible refine (impl_piecesOf.calls kj5 a0 a1 a4 t385 _ A13.out).mono ?_); rintro e w14 ⟨v386, rfl, ho0, hb⟩; have n0_ := aM (Kd.R_lower ho0 (below_size hB)); have n1_ := aM (below_step hB hb); clear HB; have HO387 := n0_; have HB := n1_; clear n0_ n1_; (try clear hb); (try clear hb2); (try clear hk); (try clear hi); (try clear ho0); obtain ⟨Ao15, co15, eo15⟩ := Kd.R_slice HO387.out; subst eo15)))
    go_loopg [11, 33] kj5 (fun kq v11 v33 w' => ∃ (x11_2 : Int) (x33_2 : Int), v11 = .int .i64 x11_2 ∧ v33 = .int .i64 x33_2 ∧ Aside0 (impl_ScanBytes.l0 kq a2 a3 x11_2 t385 (t385.length : Int) x33_2 = some r) ∧ Aside0 (kq ≤ kj5) ∧ Aside0 (Kd.R k138 138 w' w.heap.size (fun _ => True) (.slice Ao15 t385.length co15) t385) ∧ Aside0 (Below w.heap.size w w'))
    case atStart => exact ⟨(0), (0), eQ, eQ, H', ⟨Nat.le_refl _⟩, ⟨Kd.R_i HO387.out⟩, ⟨hB⟩⟩
    case round =>
     clear H'; (try clear c1); (try clear p2); (try clear c4); (try clear c8); (try clear c10); (try clear c12); obtain ⟨x11_2, x33_2, rfl, rfl, HA, HK2, HO_31, HB⟩ := hrel; rcases gk with _ | k2
     · exact absurd HA.out (by simp [impl_ScanBytes.l0])
     revert HA; refine aoR ?_; intro H; simp only [impl_ScanBytes.l0] at H; revert H
     refine ifB (fun c16 => ?_) (fun c16 => ?_)
     · intro H; have c16b0 := decide_eq_true c16; clear c16; revert H; refine ifR fun c17 => ?_; intro H; have c17b0 := decide_eq_true c17; clear c17; revert H; refine ifR fun c18 => ?_; intro H; have c18b0 := decide_eq_true c18; clear c18; revert H; refine bdR fun t390 A19 => ?_; refine adR fun H' => ?_; have p388 : 0 ≤ (x33_2 : Int) := bD; have q388 : x33_2 < (t385.length : Int) := bD; obtain ⟨ad388, e388, hx388_0, hx388_1⟩ := at_T138 (Kd.R_reads' HO_31.out).2.2 x33_2 p388 q388; cases e388; replace p388 := eq_true p388; replace q388 := eq_true q388
       go_wp2_with (first | ((with_reducible refine gD 13 ?_); refine bE 13 #[.int .i64 0, .int .i64 0] 138 ?_; intro gb389 hg w20 hbox hb; replace HO_31 := aM (Kd.R_below (Kd.R_elderB (Kd.R_i HO_31.out) gb389 (Nat.le_of_eq hg.symm)) hb); have BK389 := aM (hbox); have GW389 := aM ((sZ hg : w.heap.size ≤ gb389)); have GE389 := aM ((sZ hg : w.heap.size ≤ gb389)); replace HB := aM (below_step hB hb); clear hb hbox hg; obtain ⟨hcz21_0, hcz21_1⟩ := blk_c2 BK389.out; obtain ⟨hfz21_0, hfz21_1⟩ := blk_f2 BK389.out) | (go_at_call 115; (with_reducible refine (impl_RowBytes.calls k2 ((rd_T138 t385 x33_2).f0) a2 a3 t390 _ A19.out).mono ?_); rintro e w' ⟨rfl, ⟨nd, rfl⟩⟩; (try first | exact ⟨rfl, _, World.drewN_drewN _ _ _⟩ | exact ⟨rfl, _, Eq.trans (World.drewN_drewN _ _ _) (congrArg (World.drewN _) (Nat.add_assoc _ _ _))⟩)))
       repeat (go_quiet (first | ((with_reducible refine gD 13 ?_); refine bE 13 #[.int .i64 0, .int .i64 0] 138 ?_; intro gb389 hg w20 hbox hb; have n0_ := aM (Kd.R_below (Kd.R_elderB (Kd.R_i HO_31.out) gb389 (Nat.le_of_eq hg.symm)) hb); have n1_ := aM (below_step hB hb); have n2_ := aM (hbox); have n3_ := aM ((sZ hg : w.heap.size ≤ gb389)); have n4_ := aM ((sZ hg : w.heap.size ≤ gb389)); clear HO_31; clear HB; have HO_31 := n0_; have HB := n1_; have BK389 := n2_; have GW389 := n3_; have GE389 := n4_; clear n0_ n1_ n2_ n3_ n4_; clear hb hbox hg; obtain ⟨hcz21_0, hcz21_1⟩ := blk_c2 BK389.out; obtain ⟨hfz21_0, hfz21_1⟩ := blk_f2 BK389.out) | (go_at_call 115; (with_reducible refine (impl_RowBytes.calls k2 ((rd_T138 t385 x33_2).f0) a2 a3 t390 _ A19.out).mono ?_); rintro e w' ⟨rfl, ⟨nd, rfl⟩⟩; (try first | exact ⟨rfl, _, World.drewN_drewN _ _ _⟩ | exact ⟨rfl, _, Eq.trans (World.drewN_drewN _ _ _) (congrArg (World.drewN _) (Nat.add_assoc _ _ _))⟩))); try go_wp2_with (first | ((with_reducible refine gD 13 ?_); refine bE 13 #[.int .i64 0, .int .i64 0] 138 ?_; intro gb389 hg w20 hbox hb; have n0_ := aM (Kd.R_below (Kd.R_elderB (Kd.R_i HO_31.out) gb389 (Nat.le_of_eq hg.symm)) hb); have n1_ := aM (below_step hB hb); have n2_ := aM (hbox); have n3_ := aM ((sZ hg : w.heap.size ≤ gb389)); have n4_ := aM ((sZ hg : w.heap.size ≤ gb389)); clear HO_31; clear HB; have HO_31 := n0_; have HB := n1_; have BK389 := n2_; have GW389 := n3_; have GE389 := n4_; clear n0_ n1_ n2_ n3_ n4_; clear hb hbox hg; obtain ⟨hcz21_0, hcz21_1⟩ := blk_c2 BK389.out; obtain ⟨hfz21_0, hfz21_1⟩ := blk_f2 BK389.out) | (go_at_call 115; (with_reducible refine (impl_RowBytes.calls k2 ((rd_T138 t385 x33_2).f0) a2 a3 t390 _ A19.out).mono ?_); rintro e w' ⟨rfl, ⟨nd, rfl⟩⟩; (try first | exact ⟨rfl, _, World.drewN_drewN _ _ _⟩ | exact ⟨rfl, _, Eq.trans (World.drewN_drewN _ _ _) (congrArg (World.drewN _) (Nat.add_assoc _ _ _))⟩))))
       go_roundg k2
       case measure => have := HJ5.out; have := HK2.out; omega
       case rel => exact ⟨(wrap64 (x11_2 + (wrap64 (((rd_T138 t385 x33_2).f1) * (wrap64 (1 + t390)))))), (wrap64 (x33_2 + 1)), eQ, eQ, H', ⟨by have := HJ5.out; have := HK2.out; omega⟩, ⟨Kd.R_i (Kd.R_mono (Kd.R_far (p := ⟨gb389, 1, none⟩) (Kd.R_far (p := ⟨gb389, 0, none⟩) (Kd.R_mono HO_31.out (fun k_ hk => (⟨hk, hk.2⟩ : _ ∧ k_ ≠ gb389))) (fun _ hk => hk.2) (.int .i64 ((rd_T138 t385 x33_2).f0))) (fun _ hk => hk.2) (.int .i64 ((rd_T138 t385 x33_2).f1))) (fun _ hk => trivial))⟩, ⟨hB⟩⟩
     · intro H; have c16b0 := decide_eq_false c16; clear c16; obtain rfl := Option.some.inj H; go_wp2
       repeat (go_quiet (fail); try go_wp2)
       go_ret; exact ⟨eE, hB⟩

/-! ### impl_UnfilterRow: function 162 -/
def impl_UnfilterRow.l0 : Nat → Int → Int → List Int → List Int → Int → Int → Option (ByteArray × Bool)
  | 0, _, _, _, _, _, _ => none
  | k + 1, x0, x3, x10, x11, x24, x25 => if x25 < x24 then (if 0 ≤ x25 then (if x25 < (x10.length : Int) then ((impl_foretold.f k x0 x10 x11 x25 x3).bind fun t399 => (impl_UnfilterRow.l0 k x0 x3 (x10.set (x25 : Int).toNat (((rd x10 x25) + ((t399) % 256)) % 256)) x11 x24 (wrap64 (x25 + 1)))) else (none)) else (none)) else (some (strOfNums x10, true))
def impl_UnfilterRow.f (k : Nat) (a0 : Int) (a1 : ByteArray) (a2 : ByteArray) (a3 : Int) : Option (ByteArray × Bool) := (impl_filterOk.f a0 a1 a2 a3).bind fun t391 => (if t391 = true then (if a1.size ≤ 9223372036854775807 then ((some (bytesOf a1 : List Int)).bind fun y392 => (if a2.size ≤ 9223372036854775807 then (impl_UnfilterRow.l0 k a0 a3 y392 (bytesOf a2) (y392.length : Int) 0) else (none))) else (none)) else (some ((⟨#[]⟩ : ByteArray), false)))
def impl_UnfilterRow.T7 : Bool × List (List Nat × List Nat) := (true, [([], []), ([], []), ([0, 1], [0, 1]), ([2], [2]), ([], []), ([], []), ([], []), ([], []), ([], []), ([4, 5, 6, 7, 8], [4, 5, 6, 7, 8]), ([9], [9]), ([3, 10], [3, 10]), ([0, 1, 0, 1, 2, 3, 4, 5, 6, 7, 8, 9, 10, 11], [0, 1]), ([12, 11, 9, 0, 1, 2, 3, 4, 5, 6, 7, 8, 9, 10, 11], [11, 12])])
def impl_UnfilterRow.B7 : List Nat := [0, 0, 3, 7, 0, 0, 0, 0, 0, 496, 1008, 2047, 4095, 8191]
theorem impl_UnfilterRow.tab7 : rtab .any (opsOf Try.f162 7) = impl_UnfilterRow.T7 := by kernel_rfl
theorem impl_UnfilterRow.bits7 : waitsOk impl_UnfilterRow.T7.2 impl_UnfilterRow.B7 = true := by kernel_rfl
set_option maxHeartbeats 8000000 in
set_option maxRecDepth 100000 in
theorem impl_UnfilterRow.calls (k : Nat) (a0 : Int) (a1 : ByteArray) (a2 : ByteArray) (a3 : Int) (r1 : ByteArray) (r2 : Bool) (w : World) (h : impl_UnfilterRow.f k a0 a1 a2 a3 = some (r1, r2)) :
 Calls Try.prog 162 #[.int .i64 a0, .string a1, .string a2, .int .i64 a3] w fun e w' => e = .returned (.tuple #[.string r1, .bool r2]) ∧ Below w.heap.size w w' := by
 have HB := aM (Below.refl w.heap.size w); unfold impl_UnfilterRow.f at h; have H := h; clear h; revert H; refine bdR fun t391 A5 => ?_
 refine ifB (fun c6 => ?_) (fun c6 => ?_)
 · intro H; subst c6; revert H; refine ifR fun c7 => ?_; intro H; have c7b0 := eq_true c7; have c7b1 := decide_eq_true c7
   try have c7b2 := eq_false (Nat.not_lt.2 c7)
   clear c7; obtain ⟨y392, hy392⟩ : ∃ y_ : List Int, y_ = (bytesOf a1) := ⟨_, rfl⟩; replace H : (if a2.size ≤ 9223372036854775807 then (impl_UnfilterRow.l0 k a0 a3 y392 (bytesOf a2) (y392.length : Int) 0) else (none)) = some (r1, r2) := by first | (rw [hy392]; with_reducible exact H) | (have H2_ := (Option.bind_some _ _).symm.trans H; rw [hy392]; with_reducible exact H2_) | (have H2_ := (Option.bind_some _ _).symm.trans H; with_reducible exact H2_) | with_reducible exact H | (rw [hy392]; exact H) | exact H
   have Ny392 := aM hy392; clear hy392; revert H; refine ifR fun c8 => ?_; intro H; have c8b0 := eq_true c8; have c8b1 := decide_eq_true c8
   try have c8b2 := eq_false (Nat.not_lt.2 c8)
   clear c8; obtain ⟨y395, hy395⟩ : ∃ y_ : List Int, y_ = (bytesOf a2) := ⟨_, rfl⟩; replace H : (impl_UnfilterRow.l0 k a0 a3 y392 y395 (y392.length : Int) 0) = some (r1, r2) := by first | (rw [hy395]; with_reducible exact H) | (have H2_ := (Option.bind_some _ _).symm.trans H; rw [hy395]; with_reducible exact H2_) | (have H2_ := (Option.bind_some _ _).symm.trans H; with_reducible exact H2_) | with_reducible exact H | (rw [hy395]; exact H) | exact H
   have Ny395 := aM hy395; clear hy395; revert H; refine adR fun H' => ?_; go_enter Try.func162, Try.ntmps162
   go_wp2_with (first | ((with_reducible refine gC 184 ?_); refine gL (some 17) Try.func184 #[.int .i64 a0, .string a1, .string a2, .int .i64 a3] ?_; (with_reducible refine (impl_filterOk.calls a0 a1 a2 a3 true _ A5.out).mono ?_); rintro e w' ⟨rfl, ⟨nd, rfl⟩⟩; refine ⟨_, rfl, ?_⟩) | ((with_reducible refine gD 20 ?_); refine Kd.B_conv ?hg (N := 20) ?hd rfl Try.underlying9 Try.underlying36 Try.underlying5 (s := a1) rfl (bD) (ok := fun k_ => w.heap.size ≤ k_) (Nat.le_refl _) ?_; (case hd => rfl); (case hg => rfl); intro v393 w9 ho10 hb hg_ hnew_; clear hg_ hnew_; (first | rw [← Ny392.out] at ho10 | (simp only [Int.reduceToNat] at ho10; rw [← Ny392.out] at ho10)); have HO394 := aM (Kd.B_lower ho10 (below_size hB)); replace HB := aM (below_step hB hb); clear hb ho10) | ((with_reducible refine gD 22 ?_); refine Kd.B_conv ?hg (N := 22) ?hd rfl Try.underlying9 Try.underlying36 Try.underlying5 (s := a2) rfl (bD) (ok := fun k_ => w9.heap.size ≤ k_) (Nat.le_refl _) ?_; (case hd => rfl); (case hg => rfl); intro v396 w11 ho12 hb hg_ hnew_; clear hg_ hnew_; (first | rw [← Ny395.out] at ho12 | (simp only [Int.reduceToNat] at ho12; rw [← Ny395.out] at ho12)); have HO397 := aM (Kd.B_lower (Kd.B_new' ho12 (Kd.B_lt (by (with_reducible repeat (first | apply Kd.B_alloc | apply Kd.B_drewN | apply Kd.B_drew)); exact HO394.out))) (below_size hB)); replace HO394 := aM (Kd.B_elder' (by (with_reducible repeat (first | apply Kd.B_alloc | apply Kd.B_drewN | apply Kd.B_drew)); exact HO394.out) (Kd.B_base ho12) hb); replace HB := aM (below_step hB hb); clear hb ho12; obtain ⟨Ao13, co13, eo13⟩ := Kd.B_slice HO394.out; subst eo13))
   go_loopg [25] k (fun kq v25 w' => ∃ (x10_1 : List Int) (x25_1 : Int), v25 = .int .i64 x25_1 ∧ Aside0 (impl_UnfilterRow.l0 kq a0 a3 x10_1 y395 (y392.length : Int) x25_1 = some (r1, r2)) ∧ Aside0 (kq ≤ k) ∧ Aside0 (Kd.B (Kd.int .u8) 5 w' w.heap.size (fun k_ => some k_ ≠ (v396 : Value).ownBlock) (.slice Ao13 y392.length co13) x10_1) ∧ Aside0 (Kd.B (Kd.int .u8) 5 w' w.heap.size (fun k_ => some k_ ≠ ((.slice Ao13 y392.length co13) : Value).ownBlock) v396 y395) ∧ Aside0 (Below w.heap.size w w'))
   case atStart => exact ⟨(y392), (0), eQ, H', ⟨Nat.le_refl _⟩, ⟨by (with_reducible repeat (first | apply Kd.B_alloc | apply Kd.B_drewN | apply Kd.B_drew)); exact Kd.B_mono HO394.out (fun _ hk => hk.2)⟩, ⟨by (with_reducible repeat (first | apply Kd.B_alloc | apply Kd.B_drewN | apply Kd.B_drew)); exact Kd.B_mono HO397.out (fun _ hk => hk.2)⟩, ⟨hB⟩⟩
   case round =>
    clear H'; (try clear c1); (try clear p2); (try clear c6); (try clear c7); (try clear c7b0); (try clear c7b1); (try clear c7b2); (try clear c8); (try clear c8b0); (try clear c8b1); (try clear c8b2); obtain ⟨x10_1, x25_1, rfl, HA, HK1, HO_10, HO_11, HB⟩ := hrel; have hl10_1 := (Kd.B_reads' HO_10.out).1
    rw [hl10_1] at HO_10
    (try simp only [hl10_1])
    (try simp only [hl10_1] at HO_11); rcases gk with _ | k1
    · exact absurd HA.out (by simp [impl_UnfilterRow.l0])
    revert HA; refine aoR ?_; intro H; simp only [impl_UnfilterRow.l0] at H; revert H
    refine ifB (fun c14 => ?_) (fun c14 => ?_)
    · intro H; have c14b0 := decide_eq_true c14; clear c14; revert H; refine ifR fun c15 => ?_; intro H; have c15b0 := decide_eq_true c15; clear c15; revert H; refine ifR fun c16 => ?_; intro H; have c16b0 := decide_eq_true c16; clear c16; revert H; refine bdR fun t399 A17 => ?_; intro H; obtain ⟨y400, hy400⟩ : ∃ y_ : List Int, y_ = (x10_1.set (x25_1 : Int).toNat (((rd x10_1 x25_1) + ((t399) % 256)) % 256)) := ⟨_, rfl⟩; replace H : (impl_UnfilterRow.l0 k1 a0 a3 y400 y395 (y392.length : Int) (wrap64 (x25_1 + 1))) = some (r1, r2) := by first | (rw [hy400]; with_reducible exact H) | (have H2_ := (Option.bind_some _ _).symm.trans H; rw [hy400]; with_reducible exact H2_) | (have H2_ := (Option.bind_some _ _).symm.trans H; with_reducible exact H2_) | with_reducible exact H | (rw [hy400]; exact H) | exact H
      have Ny400 := aM hy400; clear hy400; revert H; refine adR fun H' => ?_
      try go_wp2
      replace HO_10 := aM (Kd.B_drew HO_10.out); replace HO_11 := aM (Kd.B_drew HO_11.out); replace HB := aM (below_drew1 HB.out); have p398 : 0 ≤ (x25_1 : Int) := bD; have q398 : x25_1 < (x10_1.length : Int) := bD; obtain ⟨ad398, e398, hx398_0⟩ := Kd.at_int (Kd.B_reads' HO_10.out).2.2 x25_1 p398 q398; cases e398; replace p398 := eq_true p398; replace q398 := eq_true q398; obtain ⟨Ao20, co20, eo20⟩ := Kd.B_slice HO_11.out
      (first | subst eo20 | (injection eo20 with f1_ f2_ f3_; have f4_ := f1_.symm; have f5_ := f3_.symm; clear f1_ f2_ f3_; subst f4_; subst f5_))
      refine start_ (n := 14) (S := fun w' => w'.cell? (ad398.add (x25_1).toNat) = some (.int .u8 (rd x10_1 x25_1))) (ds := [13]) #[false, false, false, false, false, false, false, false, false, false, false, false, false, false] (by kernel_rfl) rfl rfl (hx398_0) (fun hHeld => ?_); refine with_tabW impl_UnfilterRow.tab7 impl_UnfilterRow.bits7 (fun HT_ HW_ => ?_)
      generalize wr.drew = w19 at HO_10 HO_11 HB hx398_0 hHeld ⊢; refine pU 0 28 (bAr 14 1) ?_; refine pU 1 29 (bAr 14 3) ?_; refine pU 2 30 (bAr 14 7) ?_; refine pU 4 32 (bAr 14 23) ?_; refine pU 5 33 (bAr 14 55) ?_; refine pU 6 34 (bAr 14 119) ?_; refine pU 7 35 (bAr 14 247) ?_; refine pU 8 36 (bAr 14 503) ?_
      refine take_ (i := 3) (N := some 31) (v := ?_) (a' := ?_) #[true, true, true, true, true, true, true, true, true, false, false, false, false, false] rfl rfl (take_ofW HT_.out HW_.out (by kernel_rfl)) (fun _ _ _ h => h) (Or.inl ⟨by rfl, ?_⟩) hHeld ?_ ?_; rotate_left
      · intro w' s0
        go_simp; with_reducible rfl
      rotate_left
      · simp only [Act.put, List.setIfInBounds_toArray, List.set_cons_zero, List.set_cons_succ, i64_w, i32_w]
        rfl
      refine one_ (i := 9) (N := some 37) #[true, true, true, true, true, true, true, true, true, true, false, false, false, false] rfl rfl (one_of HT_.out (by kernel_rfl)) (by decide) (fun K hK => ?_)
      refine goes_ Try.func185 (by kernel_rfl) rfl #[.int .i64 a0, .slice (some ad398) x10_1.length co13, .slice Ao20 y395.length co20, .int .i64 x25_1, .int .i64 a3] (by rfl) rfl rfl (by (try simp only [List.map_toArray, List.map_cons, List.map_nil]); first | done | rfl | (simp only [List.length_drop, List.length_take]; rfl)) ?_
      with_reducible refine (impl_foretold.calls k1 a0 _ _ x10_1 _ _ y395 x25_1 a3 t399 _ ?side1 ?side2 ?side3 ?side4 A17.out).mono ?_
      (case side1 => repeat (first | exact (Kd.B_reads' HO_10.out).2.2 | (with_reducible refine Kd.C_alloc ?_ _) | (with_reducible refine Kd.C_drewN ?_ _) | (with_reducible refine Kd.C_drew ?_)))
      (case side2 => exact (Kd.B_reads' HO_10.out).2.1)
      (case side3 => repeat (first | exact (Kd.B_reads' HO_11.out).2.2 | (with_reducible refine Kd.C_alloc ?_ _) | (with_reducible refine Kd.C_drewN ?_ _) | (with_reducible refine Kd.C_drew ?_)))
      (case side4 => exact (Kd.B_reads' HO_11.out).2.1)
      rintro e w21 ⟨rfl, hb⟩; have HS0_ := (hb.cell (World.block_lt_of_cell? _ _ (hHeld))).trans (hHeld)
      refine ⟨_, rfl, ?_⟩; have n0_ := aM (Kd.B_below (by (with_reducible repeat (first | apply Kd.B_alloc | apply Kd.B_drewN | apply Kd.B_drew)); exact HO_10.out) hb); have n1_ := aM (Kd.B_below (by (with_reducible repeat (first | apply Kd.B_alloc | apply Kd.B_drewN | apply Kd.B_drew)); exact HO_11.out) hb); have n2_ := aM (below_step hB hb); clear HO_10; clear HO_11; clear HB; have HO_10 := n0_; have HO_11 := n1_; have HB := n2_; clear n0_ n1_ n2_; (try clear hb); (try clear hb2); (try clear hk); (try clear hi); have p18 : 0 ≤ (x25_1 : Int) := bD; have q18 : (x25_1 : Int) < ((x10_1.length : Int) : Int) := bD; obtain ⟨go18, co18, eo18, gb18, gl18, cl18, HG18⟩ := Kd.B_form HO_10.out (by omega)
      (first | cases eo18 | (injection eo18 with ea_ en_ ec_; (first | subst ea_ | (injection ea_ with ea_; subst ea_)); subst ec_; clear en_)); have GB18 := aM gb18; have GG18 := aM HG18; clear gb18 gl18 HG18
      (first | simp only [add_plain] at hx398_0 | skip); obtain ⟨hx18_0, hf18_0⟩ := Kd.B_celln 0 HO_10.out (x25_1 : Int) p18 q18; replace p18 := eq_true p18; replace q18 := eq_true q18; have HP22 := Kd.B_putn HO_10.out (x25_1 : Int) (((rd x10_1 x25_1) + ((t399) % 256)) % 256) (of_eq_true p18) (of_eq_true q18)
      rw [← Ny400.out] at HP22; have HQ22 := aM HP22; clear HP22
      refine hK.out _ _ (HS0_) (fun hHeld => ?_); clear hK K
      refine norm_ (a' := ?_) ?_ ?_; rotate_left
      · show Act.put _ (some 37) _ = _
        simp only [Act.put, List.setIfInBounds_toArray, List.set_cons_zero, List.set_cons_succ, i64_w, i32_w]
        rfl
      refine pU 10 38 (bAr 14 2047) ?_; refine pU 11 39 (bAr 14 4095) ?_; refine pU 12 40 (bAr 14 8191) ?_
      refine last_ (i := 13) (N := none) #[true, true, true, true, true, true, true, true, true, true, true, true, true, true] rfl rfl (one_of HT_.out (by kernel_rfl)) (by decide) (fun K hK => ?_)
      refine skip_ (w1 := ?_) (by rfl) rfl ?_ ?_; rotate_left
      · go_simp
        rfl
      refine hK.out _ _ ?_; clear hK K
      refine done_ (done_of HT_.out (by kernel_rfl)) ?_
      try go_wp2
      (try simp only [← hl10_1]); go_roundg k1
      case measure => have := HK1.out; omega
      case rel => exact ⟨(y400), (wrap64 (x25_1 + 1)), eQ, H', ⟨by have := HK1.out; omega⟩, ⟨by (try simp only [hl10_1]); (with_reducible repeat (first | apply Kd.B_alloc | apply Kd.B_drewN | apply Kd.B_drew)); exact HQ22.out⟩, ⟨by (try simp only [hl10_1]); (with_reducible repeat (first | apply Kd.B_alloc | apply Kd.B_drewN | apply Kd.B_drew)); exact Kd.B_mono (Kd.B_far (p := ⟨go18, (x25_1 : Int).toNat, none⟩) (Kd.B_mono HO_11.out (fun k_ hk => (⟨hk, fun e_ => hk (by rw [e_]; rfl)⟩ : _ ∧ k_ ≠ go18))) (fun _ hk => hk.2) (.int .u8 (((rd x10_1 x25_1) + ((t399) % 256)) % 256))) (fun _ hk => hk.1)⟩, ⟨by repeat (first | (with_reducible first | exact HB.out | apply below_alloc | apply pw_below_drewN | apply below_drew1 | refine below_set ?_ GB18.out) | exact HB.out)⟩⟩
    · intro H; have c14b0 := decide_eq_false c14
      try (have c14b2_ := c14b0; rw [hl10_1] at c14b2_)
      clear c14; simp only [Option.some.injEq, Prod.mk.injEq] at H; obtain ⟨rfl, rfl⟩ := H; have hcv23 := Kd.B_string (P := Try.prog) Try.underlying36 Try.underlying5 Try.underlying9 HO_10.out; go_wp2
      go_ret2; exact ⟨eE, hB⟩
 · intro H; replace c6 := Bool.eq_false_iff.mpr c6; subst c6; simp only [Option.some.injEq, Prod.mk.injEq] at H; obtain ⟨rfl, rfl⟩ := H; go_enter Try.func162, Try.ntmps162
   go_wp2_with (first | ((with_reducible refine gC 184 ?_); refine gL (some 17) Try.func184 #[.int .i64 a0, .string a1, .string a2, .int .i64 a3] ?_; (with_reducible refine (impl_filterOk.calls a0 a1 a2 a3 false _ A5.out).mono ?_); rintro e w' ⟨rfl, ⟨nd, rfl⟩⟩; refine ⟨_, rfl, ?_⟩))
   go_ret2; exact ⟨eE, hB⟩

end Go.Proofs.Ytajnobmnkbkkgaa.PFnScans
