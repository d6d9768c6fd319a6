/- Walks of functions that the law FnExactScanRead reaches: each call comes to what the Lean function of its name tells. Written by p2.py, a program of this session, by way of the kit's print. -/
import Derived.Test.YtajnobmnkbkkgaaVFnExactScanRead
import Derived.Test.YtajnobmnkbkkgaaPFnExactScanReadx0
import Derived.Test.YtajnobmnkbkkgaaPFnExactScanReadx1
import Derived.Test.YtajnobmnkbkkgaaPFnExactScanReadx2
namespace Go.Proofs.Ytajnobmnkbkkgaa.PFnExactScanRead
open Go.RowKit Go.Proofs.YtajnobmnkbkkgaaW.PrintWords Go.Proofs.YtajnobmnkbkkgaaW.PrintLast Go.Proofs.YtajnobmnkbkkgaaW.PrintMore
attribute [local go_sem] max2_int min2_int max_two min_two max_three min_three max_four min_four   -- for this text's walks alone
set_option linter.unusedVariables false
set_option linter.unusedSimpArgs false

/-! ### impl_piecesOf: function 112 -/
def impl_piecesOf.l0 : Nat → Int → Int → List (S138) → Int → Option ((List (S138)))
  | 0, _, _, _, _ => none
  | k + 1, x0, x1, x7, x18 => if x18 < 7 then ((impl_PassSize.f k x0 x1 x18).bind fun bt208 => (if x7.length < 8796093022208 then (impl_piecesOf.l0 k x0 x1 (x7 ++ [(⟨bt208.1, bt208.2⟩ : S138)]) (wrap64 (x18 + 1))) else (none))) else (some x7)
def impl_piecesOf.f (k : Nat) (a0 : Int) (a1 : Int) (a2 : Bool) : Option ((List (S138))) := if a2 = true then (impl_piecesOf.l0 k a0 a1 (([] : List (S138))) 0) else (some (([(⟨a0, a1⟩ : S138)] : List (S138))))
set_option maxHeartbeats 8000000 in
set_option maxRecDepth 100000 in
theorem impl_piecesOf.calls (k : Nat) (a0 : Int) (a1 : Int) (a2 : Bool) (r : List (S138)) (w : World) (h : impl_piecesOf.f k a0 a1 a2 = some r) :
 Calls Try.prog 112 #[.int .i64 a0, .int .i64 a1, .bool a2] w fun e w' => ∃ v0_ : Value, e = .returned (v0_) ∧ Kd.R k138 138 w' w.heap.size (fun _ => True) v0_ r ∧ Below w.heap.size w w' := by
 have hu138 := Try.underlying138; have HB := aM (Below.refl w.heap.size w); have H : (if a2 = true then (impl_piecesOf.l0 k a0 a1 (([] : List (S138))) 0) else (some (([(⟨a0, a1⟩ : S138)] : List (S138))))) = some r := h; clear h; revert H
 refine ifB (fun c4 => ?_) (fun c4 => ?_)
 · intro H; subst c4; obtain ⟨y205, hy205⟩ : ∃ y_ : List (S138), y_ = (([] : List (S138))) := ⟨_, rfl⟩; replace H : (impl_piecesOf.l0 k a0 a1 y205 0) = some r := by first | (rw [hy205]; with_reducible exact H) | (have H2_ := (Option.bind_some _ _).symm.trans H; rw [hy205]; with_reducible exact H2_) | (have H2_ := (Option.bind_some _ _).symm.trans H; with_reducible exact H2_) | with_reducible exact H | (rw [hy205]; exact H) | exact H
   have Ny205 := aM hy205; clear hy205; revert H; refine adR fun H' => ?_; go_enter Try.func112, Try.ntmps112
   go_wp2_with (first | ((with_reducible refine gD 17 ?_); refine Kd.R_lit k138 _ 138 ?hg (N := 17) ?hd (xs := ([] : List (S138))) (inner := []) (ok := fun _ => True) (okp := fun _ => True) ?hr ?hp (fun _ hk => hk) trivial (Below.refl _ _) (Nat.le_refl _) (by simp) ?_; (case hd => rfl); (case hg => rfl); (case hr => first | (go_simp; done) | (go_simp; rfl)); (case hp => exact (Reps.none _ _)); intro v206 w5 ho6 hb hg_ hnew_; clear hg_ hnew_; (first | rw [← Ny205.out] at ho6 | (simp only [Int.reduceToNat] at ho6; rw [← Ny205.out] at ho6)); have HO207 := aM (Kd.R_lower ho6 (below_size hB)); replace HB := aM (below_step hB hb); clear hb ho6))
   go_loopg [7, 18] k (fun kq v7 v18 w' => ∃ (x7_1 : List (S138)) (x18_1 : Int), v18 = .int .i64 x18_1 ∧ Aside0 (impl_piecesOf.l0 kq a0 a1 x7_1 x18_1 = some r) ∧ Aside0 (kq ≤ k) ∧ Aside0 (Kd.R k138 138 w' w.heap.size (fun _ => True) v7 x7_1) ∧ Aside0 (Below w.heap.size w w'))
   case atStart => exact ⟨(y205), (0), eQ, H', ⟨Nat.le_refl _⟩, ⟨Kd.R_i HO207.out⟩, ⟨hB⟩⟩
   case round =>
    clear H'; (try clear c1); (try clear p2); (try clear c4); obtain ⟨x7_1, x18_1, rfl, HA, HK1, HO_7, HB⟩ := hrel; rcases gk with _ | k1
    · exact absurd HA.out (by simp [impl_piecesOf.l0])
    revert HA; refine aoR ?_; intro H; simp only [impl_piecesOf.l0] at H; revert H
    refine ifB (fun c7 => ?_) (fun c7 => ?_)
    · intro H; have c7b0 := decide_eq_true c7; clear c7; revert H; refine bdR fun ⟨t208, t209⟩ A8 => ?_; intro H
      try dsimp only at H
      revert H; refine ifR fun c9 => ?_; intro H; have LMc9 := aM c9; clear c9; obtain ⟨y210, hy210⟩ : ∃ y_ : List (S138), y_ = (x7_1 ++ [(⟨t208, t209⟩ : S138)]) := ⟨_, rfl⟩; replace H : (impl_piecesOf.l0 k1 a0 a1 y210 (wrap64 (x18_1 + 1))) = some r := by first | (rw [hy210]; with_reducible exact H) | (have H2_ := (Option.bind_some _ _).symm.trans H; rw [hy210]; with_reducible exact H2_) | (have H2_ := (Option.bind_some _ _).symm.trans H; with_reducible exact H2_) | with_reducible exact H | (rw [hy210]; exact H) | exact H
      have Ny210 := aM hy210; clear hy210; revert H; refine adR fun H' => ?_
      go_wp2_with (first | ((with_reducible refine gC 66 ?_); refine gL (some 25) Try.func66 #[.int .i64 a0, .int .i64 a1, .int .i64 x18_1] ?_; (with_reducible refine (impl_PassSize.calls k1 a0 a1 x18_1 t208 t209 _ A8.out).mono ?_); rintro e w' ⟨rfl, ⟨nd, rfl⟩⟩; refine ⟨_, rfl, ?_⟩) | ((with_reducible refine gate_builtin (b := .append) (xs := #[.tmp 28, .tmp 32]) rfl ?_); at_builtin; refine Kd.R_append k138 (w0 := w) w.heap.size rfl (.tmp 28) (.tmp 32) 136 138 (.agg #[(.int .i64 0), (.int .i64 0)]) 16 rfl Try.underlying136 info138 rfl (by decide) (by omega) u7 x7_1 (⟨t208, t209⟩ : S138) [.int .i64 t208, .int .i64 t209] (fun _ => True) (fun _ => False) rfl rfl ?aP (fun _ hk => hk.elim) ?aF ?aO ?aB ?aS ?aL ?_; (case aP => exact k138_mkM _ _ _ (⟨t208, t209⟩ : S138)); (case aB => exact hB); (case aF => exact (fun _ _ => trivial)); (case aO => exact (Kd.R_i HO_7.out)); (case aS => exact (below_size hB)); (case aL => have := LMc9.out; omega); intro v211 w10 ho hb hg hat; rw [← Ny210.out] at ho; replace HB := aM (hb); have HO212 := aM (ho); clear HO_7; clear ho hb hg hat)); go_roundg k1
      case measure => have := HK1.out; omega
      case rel => exact ⟨(y210), (wrap64 (x18_1 + 1)), eQ, H', ⟨by have := HK1.out; omega⟩, ⟨Kd.R_i HO212.out⟩, ⟨hB⟩⟩
    · intro H; have c7b0 := decide_eq_false c7; clear c7; obtain rfl := Option.some.inj H; go_wp2; go_ret; exact ⟨_, eE, Kd.R_i HO_7.out, hB⟩
 · intro H; replace c4 := Bool.eq_false_iff.mpr c4; subst c4; obtain ⟨y202, hy202⟩ : ∃ y_ : List (S138), y_ = (([(⟨a0, a1⟩ : S138)] : List (S138))) := ⟨_, rfl⟩; replace H : (some y202) = some r := by first | (rw [hy202]; with_reducible exact H) | (have H2_ := (Option.bind_some _ _).symm.trans H; rw [hy202]; with_reducible exact H2_) | (have H2_ := (Option.bind_some _ _).symm.trans H; with_reducible exact H2_) | with_reducible exact H | (rw [hy202]; exact H) | exact H
   have Ny202 := aM hy202; clear hy202; obtain rfl := Option.some.inj H; go_enter Try.func112, Try.ntmps112
   go_wp2_with (first | ((with_reducible refine gD 16 ?_); refine Kd.R_lit k138 _ 138 ?hg (N := 16) ?hd (xs := ([(⟨a0, a1⟩ : S138)] : List (S138))) (inner := [.int .i64 a0, .int .i64 a1]) (ok := fun _ => True) (okp := fun _ => True) ?hr ?hp (fun _ hk => hk) trivial (Below.refl _ _) (Nat.le_refl _) (by simp) ?_; (case hd => rfl); (case hg => rfl); (case hr => first | (go_simp; done) | (go_simp; rfl)); (case hp => exact (Reps.c2 (show Kd.M k138 _ _ _ (⟨a0, a1⟩ : S138) [.int .i64 a0, .int .i64 a1] from (k138_mkM _ _ _ (⟨a0, a1⟩ : S138) )) (Reps.none _ _))); intro v203 w11 ho12 hb hg_ hnew_; clear hg_ hnew_; (first | rw [← Ny202.out] at ho12 | (simp only [Int.reduceToNat] at ho12; rw [← Ny202.out] at ho12)); have HO204 := aM (Kd.R_lower ho12 (below_size hB)); replace HB := aM (below_step hB hb); clear hb ho12)); go_ret; exact ⟨_, eE, Kd.R_i HO204.out, hB⟩

/-! ### impl_up: function 165 -/
def impl_up.f (a0 : Int) : Option (Int) := some (wrap64 (Int.tdiv (wrap64 (a0 + 7)) 8))
set_option maxHeartbeats 8000000 in
set_option maxRecDepth 100000 in
theorem impl_up.calls (a0 : Int) (r : Int) (w : World) (h : impl_up.f a0 = some r) :
 Calls Try.prog 165 #[.int .i64 a0] w fun e w' => e = .returned (.int .i64 r) ∧ Drawn0 w w' := by
 have H : (some (wrap64 (Int.tdiv (wrap64 (a0 + 7)) 8))) = some r := h; clear h; obtain rfl := Option.some.inj H; go_enter Try.func165, Try.ntmps165; go_wp2; go_ret; exact ⟨eQ, dQ⟩

/-! ### impl_RowBytes: function 115 -/
def impl_RowBytes.j0 : Nat → Int → Int → Int → Bool → Option (Int)
  | 0, _, _, _, _ => none
  | k + 1, x0, x1, x2, x15 => if x15 = true then (some 0) else ((impl_ChannelsOf.f k x1).bind fun t215 => ((impl_up.f (wrap64 ((wrap64 (x0 * t215)) * x2))).bind fun t216 => (some t216)))
def impl_RowBytes.f (k : Nat) (a0 : Int) (a1 : Int) (a2 : Int) : Option (Int) := (impl_isSide.f a0).bind fun t213 => (if t213 = true then ((impl_DepthOk.f k a1 a2).bind fun t214 => (impl_RowBytes.j0 k a0 a1 a2 (!t214))) else (impl_RowBytes.j0 k a0 a1 a2 true))
set_option maxHeartbeats 8000000 in
set_option maxRecDepth 100000 in
theorem impl_RowBytes.calls (k : Nat) (a0 : Int) (a1 : Int) (a2 : Int) (r : Int) (w : World) (h : impl_RowBytes.f k a0 a1 a2 = some r) :
 Calls Try.prog 115 #[.int .i64 a0, .int .i64 a1, .int .i64 a2] w fun e w' => e = .returned (.int .i64 r) ∧ Drawn0 w w' := by
 have H : ((impl_isSide.f a0).bind fun t213 => (if t213 = true then ((impl_DepthOk.f k a1 a2).bind fun t214 => (impl_RowBytes.j0 k a0 a1 a2 (!t214))) else (impl_RowBytes.j0 k a0 a1 a2 true))) = some r := h; clear h; revert H; refine adR fun HC4 => ?_; go_enter Try.func115, Try.ntmps115
 go_upto_region 1 with (fail)
 go_cut [15] (fun v15 wc => ∃ (kq : Nat) (x15_3 : Bool), v15 = .bool x15_3 ∧ Aside0 (impl_RowBytes.j0 kq a0 a1 a2 x15_3 = some r) ∧ Aside0 (kq ≤ k) ∧ Drawn0 w wc)
 case first =>
  revert HC4; refine aoR ?_; refine bdR fun t213 A5 => ?_
  refine ifB (fun c6 => ?_) (fun c6 => ?_)
  · intro H; subst c6; revert H; refine bdR fun t214 A7 => ?_; refine adR fun H' => ?_
    go_wp2_with (first | ((with_reducible refine gC 92 ?_); refine gL (some 8) Try.func92 #[.int .i64 a0] ?_; (with_reducible refine (impl_isSide.calls a0 true _ A5.out).mono ?_); rintro e w' ⟨rfl, ⟨nd, rfl⟩⟩; refine ⟨_, rfl, ?_⟩) | (go_at_call 114; (with_reducible refine (impl_DepthOk.calls k a1 a2 t214 _ A7.out).mono ?_); rintro e w' ⟨rfl, ⟨nd, rfl⟩⟩)); go_meet
    case rel => exact ⟨_, (!t214), eQ, H', ⟨lE⟩, dQ⟩
  · intro H; replace c6 := Bool.eq_false_iff.mpr c6; subst c6; revert H; refine adR fun H' => ?_
    go_wp2_with (first | ((with_reducible refine gC 92 ?_); refine gL (some 8) Try.func92 #[.int .i64 a0] ?_; (with_reducible refine (impl_isSide.calls a0 false _ A5.out).mono ?_); rintro e w' ⟨rfl, ⟨nd, rfl⟩⟩; refine ⟨_, rfl, ?_⟩)); go_meet
    case rel => exact ⟨_, (true), eQ, H', ⟨lE⟩, dQ⟩
 case rest =>
  clear HC4; (try clear c1); (try clear p2); (try clear c6); obtain ⟨kq, x15_3, rfl, HA, HJ3, ⟨mc3, rfl⟩⟩ := hcut; rcases kq with _ | kj3
  · exact absurd HA.out (by simp [impl_RowBytes.j0])
  revert HA; refine aoR ?_; intro H; simp only [impl_RowBytes.j0] at H; revert H
  refine ifB (fun c8 => ?_) (fun c8 => ?_)
  · intro H; subst c8; obtain rfl := Option.some.inj H; go_wp2; go_ret; exact ⟨eQ, dQ⟩
  · intro H; replace c8 := Bool.eq_false_iff.mpr c8; subst c8; revert H; refine bdR fun t215 A9 => ?_; refine bdR fun t216 A10 => ?_; intro H; obtain rfl := Option.some.inj H
    go_wp2_with (first | ((with_reducible refine gC 65 ?_); refine gL (some 18) Try.func65 #[.int .i64 a1] ?_; (with_reducible refine (impl_ChannelsOf.calls kj3 a1 t215 _ A9.out).mono ?_); rintro e w' ⟨rfl, ⟨nd, rfl⟩⟩; refine ⟨_, rfl, ?_⟩) | ((with_reducible refine gC 165 ?_); refine gL (some 22) Try.func165 #[.int .i64 (wrap64 ((wrap64 (a0 * t215)) * a2))] ?_; (with_reducible refine (impl_up.calls (wrap64 ((wrap64 (a0 * t215)) * a2)) t216 _ A10.out).mono ?_); rintro e w' ⟨rfl, ⟨nd, rfl⟩⟩; refine ⟨_, rfl, ?_⟩)); go_ret; exact ⟨eQ, dQ⟩

/-! ### impl_ScanBytes: function 48 -/
mutual
def impl_ScanBytes.j0 : Nat → Int → Int → Int → Int → Bool → Bool → Option (Int)
  | 0, _, _, _, _, _, _ => none
  | k + 1, x0, x1, x2, x3, x4, x27 => if x27 = true then (some 0) else ((impl_piecesOf.f k x0 x1 x4).bind fun t220 => (impl_ScanBytes.l0 k x2 x3 0 t220 (t220.length : Int) 0))
def impl_ScanBytes.l0 : Nat → Int → Int → Int → List (S138) → Int → Int → Option (Int)
  | 0, _, _, _, _, _, _ => none
  | k + 1, x2, x3, x11, x31, x32, x33 => if x33 < x32 then (if 0 ≤ x33 then (if x33 < (x31.length : Int) then ((impl_RowBytes.f k ((rd_T138 x31 x33).f0) x2 x3).bind fun t225 => (impl_ScanBytes.l0 k x2 x3 (wrap64 (x11 + (wrap64 (((rd_T138 x31 x33).f1) * (wrap64 (1 + t225)))))) x31 x32 (wrap64 (x33 + 1)))) else (none)) else (none)) else (some x11)
end
def impl_ScanBytes.f (k : Nat) (a0 : Int) (a1 : Int) (a2 : Int) (a3 : Int) (a4 : Bool) : Option (Int) := (impl_isSide.f a0).bind fun t217 => (if t217 = true then ((impl_isSide.f a1).bind fun t218 => (if t218 = true then ((impl_DepthOk.f k a2 a3).bind fun t219 => (impl_ScanBytes.j0 k a0 a1 a2 a3 a4 (!t219))) else (impl_ScanBytes.j0 k a0 a1 a2 a3 a4 true))) else (impl_ScanBytes.j0 k a0 a1 a2 a3 a4 true))
set_option maxHeartbeats 8000000 in
set_option maxRecDepth 100000 in
theorem impl_ScanBytes.calls (k : Nat) (a0 : Int) (a1 : Int) (a2 : Int) (a3 : Int) (a4 : Bool) (r : Int) (w : World) (h : impl_ScanBytes.f k a0 a1 a2 a3 a4 = some r) :
 Calls Try.prog 48 #[.int .i64 a0, .int .i64 a1, .int .i64 a2, .int .i64 a3, .bool a4] w fun e w' => e = .returned (.int .i64 r) ∧ Below w.heap.size w w' := by
 have hu138 := Try.underlying138; have HB := aM (Below.refl w.heap.size w); unfold impl_ScanBytes.f at h; have H := h; clear h; revert H; refine adR fun HC6 => ?_; go_enter Try.func48, Try.ntmps48
 go_upto_region 1 with (fail)
 repeat (go_quiet (fail); go_upto_region 1 with (fail))
 go_cut [27] (fun v27 wc => ∃ (kq : Nat) (x27_5 : Bool), v27 = .bool x27_5 ∧ Aside0 (impl_ScanBytes.j0 kq a0 a1 a2 a3 a4 x27_5 = some r) ∧ Aside0 (kq ≤ k) ∧ Aside0 (Below w.heap.size w wc))
 case first =>
  revert HC6; refine aoR ?_; refine bdR fun t217 A7 => ?_
  refine ifB (fun c8 => ?_) (fun c8 => ?_)
  · intro H; subst c8; revert H; refine bdR fun t218 A9 => ?_
    refine ifB (fun c10 => ?_) (fun c10 => ?_)
    · intro H; subst c10; revert H; refine bdR fun t219 A11 => ?_; refine adR fun H' => ?_
      go_wp2_with (first | (go_at_call 92; (with_reducible refine (impl_isSide.calls a0 true _ A7.out).mono ?_); rintro e w' ⟨rfl, ⟨nd, rfl⟩⟩; (try first | exact ⟨rfl, _, World.drewN_drewN _ _ _⟩ | exact ⟨rfl, _, Eq.trans (World.drewN_drewN _ _ _) (congrArg (World.drewN _) (Nat.add_assoc _ _ _))⟩)) | (go_at_call 92; (with_reducible refine (impl_isSide.calls a1 true _ A9.out).mono ?_); rintro e w' ⟨rfl, ⟨nd, rfl⟩⟩; (try first | exact ⟨rfl, _, World.drewN_drewN _ _ _⟩ | exact ⟨rfl, _, Eq.trans (World.drewN_drewN _ _ _) (congrArg (World.drewN _) (Nat.add_assoc _ _ _))⟩)) | (go_at_call 114; (with_reducible refine (impl_DepthOk.calls k a2 a3 t219 _ A11.out).mono ?_); rintro e w' ⟨rfl, ⟨nd, rfl⟩⟩; (try first | exact ⟨rfl, _, World.drewN_drewN _ _ _⟩ | exact ⟨rfl, _, Eq.trans (World.drewN_drewN _ _ _) (congrArg (World.drewN _) (Nat.add_assoc _ _ _))⟩)))
      repeat (go_quiet (first | (go_at_call 92; (with_reducible refine (impl_isSide.calls a0 true _ A7.out).mono ?_); rintro e w' ⟨rfl, ⟨nd, rfl⟩⟩; (try first | exact ⟨rfl, _, World.drewN_drewN _ _ _⟩ | exact ⟨rfl, _, Eq.trans (World.drewN_drewN _ _ _) (congrArg (World.drewN _) (Nat.add_assoc _ _ _))⟩)) | (go_at_call 92; (with_reducible refine (impl_isSide.calls a1 true _ A9.out).mono ?_); rintro e w' ⟨rfl, ⟨nd, rfl⟩⟩; (try first | exact ⟨rfl, _, World.drewN_drewN _ _ _⟩ | exact ⟨rfl, _, Eq.trans (World.drewN_drewN _ _ _) (congrArg (World.drewN _) (Nat.add_assoc _ _ _))⟩)) | (go_at_call 114; (with_reducible refine (impl_DepthOk.calls k a2 a3 t219 _ A11.out).mono ?_); rintro e w' ⟨rfl, ⟨nd, rfl⟩⟩; (try first | exact ⟨rfl, _, World.drewN_drewN _ _ _⟩ | exact ⟨rfl, _, Eq.trans (World.drewN_drewN _ _ _) (congrArg (World.drewN _) (Nat.add_assoc _ _ _))⟩))); try go_wp2_with (first | (go_at_call 92; (with_reducible refine (impl_isSide.calls a0 true _ A7.out).mono ?_); rintro e w' ⟨rfl, ⟨nd, rfl⟩⟩; (try first | exact ⟨rfl, _, World.drewN_drewN _ _ _⟩ | exact ⟨rfl, _, Eq.trans (World.drewN_drewN _ _ _) (congrArg (World.drewN _) (Nat.add_assoc _ _ _))⟩)) | (go_at_call 92; (with_reducible refine (impl_isSide.calls a1 true _ A9.out).mono ?_); rintro e w' ⟨rfl, ⟨nd, rfl⟩⟩; (try first | exact ⟨rfl, _, World.drewN_drewN _ _ _⟩ | exact ⟨rfl, _, Eq.trans (World.drewN_drewN _ _ _) (congrArg (World.drewN _) (Nat.add_assoc _ _ _))⟩)) | (go_at_call 114; (with_reducible refine (impl_DepthOk.calls k a2 a3 t219 _ A11.out).mono ?_); rintro e w' ⟨rfl, ⟨nd, rfl⟩⟩; (try first | exact ⟨rfl, _, World.drewN_drewN _ _ _⟩ | exact ⟨rfl, _, Eq.trans (World.drewN_drewN _ _ _) (congrArg (World.drewN _) (Nat.add_assoc _ _ _))⟩))))
      go_meet
      case rel => exact ⟨_, (!t219), eQ, H', ⟨lE⟩, ⟨hB⟩⟩
    · intro H; replace c10 := Bool.eq_false_iff.mpr c10; subst c10; revert H; refine adR fun H' => ?_
      go_wp2_with (first | (go_at_call 92; (with_reducible refine (impl_isSide.calls a0 true _ A7.out).mono ?_); rintro e w' ⟨rfl, ⟨nd, rfl⟩⟩; (try first | exact ⟨rfl, _, World.drewN_drewN _ _ _⟩ | exact ⟨rfl, _, Eq.trans (World.drewN_drewN _ _ _) (congrArg (World.drewN _) (Nat.add_assoc _ _ _))⟩)) | (go_at_call 92; (with_reducible refine (impl_isSide.calls a1 false _ A9.out).mono ?_); rintro e w' ⟨rfl, ⟨nd, rfl⟩⟩; (try first | exact ⟨rfl, _, World.drewN_drewN _ _ _⟩ | exact ⟨rfl, _, Eq.trans (World.drewN_drewN _ _ _) (congrArg (World.drewN _) (Nat.add_assoc _ _ _))⟩)))
      repeat (go_quiet (first | (go_at_call 92; (with_reducible refine (impl_isSide.calls a0 true _ A7.out).mono ?_); rintro e w' ⟨rfl, ⟨nd, rfl⟩⟩; (try first | exact ⟨rfl, _, World.drewN_drewN _ _ _⟩ | exact ⟨rfl, _, Eq.trans (World.drewN_drewN _ _ _) (congrArg (World.drewN _) (Nat.add_assoc _ _ _))⟩)) | (go_at_call 92; (with_reducible refine (impl_isSide.calls a1 false _ A9.out).mono ?_); rintro e w' ⟨rfl, ⟨nd, rfl⟩⟩; (try first | exact ⟨rfl, _, World.drewN_drewN _ _ _⟩ | exact ⟨rfl, _, Eq.trans (World.drewN_drewN _ _ _) (congrArg (World.drewN _) (Nat.add_assoc _ _ _))⟩))); try go_wp2_with (first | (go_at_call 92; (with_reducible refine (impl_isSide.calls a0 true _ A7.out).mono ?_); rintro e w' ⟨rfl, ⟨nd, rfl⟩⟩; (try first | exact ⟨rfl, _, World.drewN_drewN _ _ _⟩ | exact ⟨rfl, _, Eq.trans (World.drewN_drewN _ _ _) (congrArg (World.drewN _) (Nat.add_assoc _ _ _))⟩)) | (go_at_call 92; (with_reducible refine (impl_isSide.calls a1 false _ A9.out).mono ?_); rintro e w' ⟨rfl, ⟨nd, rfl⟩⟩; (try first | exact ⟨rfl, _, World.drewN_drewN _ _ _⟩ | exact ⟨rfl, _, Eq.trans (World.drewN_drewN _ _ _) (congrArg (World.drewN _) (Nat.add_assoc _ _ _))⟩))))
      go_meet
      case rel => exact ⟨_, (true), eQ, H', ⟨lE⟩, ⟨hB⟩⟩
  · intro H; replace c8 := Bool.eq_false_iff.mpr c8; subst c8; revert H; refine adR fun H' => ?_
    go_wp2_with (first | (go_at_call 92; (with_reducible refine (impl_isSide.calls a0 false _ A7.out).mono ?_); rintro e w' ⟨rfl, ⟨nd, rfl⟩⟩; (try first | exact ⟨rfl, _, World.drewN_drewN _ _ _⟩ | exact ⟨rfl, _, Eq.trans (World.drewN_drewN _ _ _) (congrArg (World.drewN _) (Nat.add_assoc _ _ _))⟩)))
    repeat (go_quiet (first | (go_at_call 92; (with_reducible refine (impl_isSide.calls a0 false _ A7.out).mono ?_); rintro e w' ⟨rfl, ⟨nd, rfl⟩⟩; (try first | exact ⟨rfl, _, World.drewN_drewN _ _ _⟩ | exact ⟨rfl, _, Eq.trans (World.drewN_drewN _ _ _) (congrArg (World.drewN _) (Nat.add_assoc _ _ _))⟩))); try go_wp2_with (first | (go_at_call 92; (with_reducible refine (impl_isSide.calls a0 false _ A7.out).mono ?_); rintro e w' ⟨rfl, ⟨nd, rfl⟩⟩; (try first | exact ⟨rfl, _, World.drewN_drewN _ _ _⟩ | exact ⟨rfl, _, Eq.trans (World.drewN_drewN _ _ _) (congrArg (World.drewN _) (Nat.add_assoc _ _ _))⟩))))
    go_meet
    case rel => exact ⟨_, (true), eQ, H', ⟨lE⟩, ⟨hB⟩⟩
 case rest =>
  clear HC6; (try clear c1); (try clear p2); (try clear c4); (try clear c8); (try clear c10); obtain ⟨kq, x27_5, rfl, HA, HJ5, HB⟩ := hcut; rcases kq with _ | kj5
  · exact absurd HA.out (by simp [impl_ScanBytes.j0])
  revert HA; refine aoR ?_; intro H; simp only [impl_ScanBytes.j0] at H; revert H
  refine ifB (fun c12 => ?_) (fun c12 => ?_)
  · intro H; subst c12; obtain rfl := Option.some.inj H; go_wp2
    repeat (go_quiet (fail); try go_wp2)
    go_ret; exact ⟨eE, hB⟩
  · intro H; replace c12 := Bool.eq_false_iff.mpr c12; subst c12; revert H; refine bdR fun t220 A13 => ?_; refine adR fun H' => ?_
    go_wp2_with (first | (go_at_call 112; (with_reducible refine (impl_piecesOf.calls kj5 a0 a1 a4 t220 _ A13.out).mono ?_); rintro e w14 ⟨v221, rfl, ho0, hb⟩; have HO222 := aM (Kd.R_lower ho0 (below_size hB)); replace HB := aM (below_step hB hb); (try clear hb); (try clear hb2); (try clear hk); (try clear hi); (try clear ho0); obtain ⟨Ao15, co15, eo15⟩ := Kd.R_slice HO222.out; subst eo15))
    repeat (go_quiet (first | (go_at_call 112; (with_reducible refine (impl_piecesOf.calls kj5 a0 a1 a4 t220 _ A13.out).mono ?_); rintro e w14 ⟨v221, rfl, ho0, hb⟩; have n0_ := aM (Kd.R_lower ho0 (below_size hB)); have n1_ := aM (below_step hB hb); clear HB; have HO222 := n0_; have HB := n1_; clear n0_ n1_; (try clear hb); (try clear hb2); (try clear hk); (try clear hi); (try clear ho0); obtain ⟨Ao15, co15, eo15⟩ := Kd.R_slice HO222.out; subst eo15)); try go_wp2_with (first | (go_at_call 112; (with_reducible refine (impl_piecesOf.calls kj5 a0 a1 a4 t220 _ A13.out).mono ?_); rintro e w14 ⟨v221, rfl, ho0, hb⟩; have n0_ := aM (Kd.R_lower ho0 (below_size hB)); have n1_ := aM (below_step hB hb); clear HB; have HO222 := n0_; have HB := n1_; clear n0_ n1_; (try clear hb); (try clear hb2); (try clear hk); (try clear hi); (try clear ho0); obtain ⟨Ao15, co15, eo15⟩ := Kd.R_slice HO222.out; subst eo15)))
    go_loopg [11, 33] kj5 (fun kq v11 v33 w' => ∃ (x11_2 : Int) (x33_2 : Int), v11 = .int .i64 x11_2 ∧ v33 = .int .i64 x33_2 ∧ Aside0 (impl_ScanBytes.l0 kq a2 a3 x11_2 t220 (t220.length : Int) x33_2 = some r) ∧ Aside0 (kq ≤ kj5) ∧ Aside0 (Kd.R k138 138 w' w.heap.size (fun _ => True) (.slice Ao15 t220.length co15) t220) ∧ Aside0 (Below w.heap.size w w'))
    case atStart => exact ⟨(0), (0), eQ, eQ, H', ⟨Nat.le_refl _⟩, ⟨Kd.R_i HO222.out⟩, ⟨hB⟩⟩
    case round =>
     clear H'; (try clear c1); (try clear p2); (try clear c4); (try clear c8); (try clear c10); (try clear c12); obtain ⟨x11_2, x33_2, rfl, rfl, HA, HK2, HO_31, HB⟩ := hrel; rcases gk with _ | k2
     · exact absurd HA.out (by simp [impl_ScanBytes.l0])
     revert HA; refine aoR ?_; intro H; simp only [impl_ScanBytes.l0] at H; revert H
     refine ifB (fun c16 => ?_) (fun c16 => ?_)
     · intro H; have c16b0 := decide_eq_true c16; clear c16; revert H; refine ifR fun c17 => ?_; intro H; have c17b0 := decide_eq_true c17; clear c17; revert H; refine ifR fun c18 => ?_; intro H; have c18b0 := decide_eq_true c18; clear c18; revert H; refine bdR fun t225 A19 => ?_; refine adR fun H' => ?_; have p223 : 0 ≤ (x33_2 : Int) := bD; have q223 : x33_2 < (t220.length : Int) := bD; obtain ⟨ad223, e223, hx223_0, hx223_1⟩ := at_T138 (Kd.R_reads' HO_31.out).2.2 x33_2 p223 q223; cases e223; replace p223 := eq_true p223; replace q223 := eq_true q223
       go_wp2_with (first | ((with_reducible refine gD 13 ?_); refine bE 13 #[.int .i64 0, .int .i64 0] 138 ?_; intro gb224 hg w20 hbox hb; replace HO_31 := aM (Kd.R_below (Kd.R_elderB (Kd.R_i HO_31.out) gb224 (Nat.le_of_eq hg.symm)) hb); have BK224 := aM (hbox); have GW224 := aM ((sZ hg : w.heap.size ≤ gb224)); have GE224 := aM ((sZ hg : w.heap.size ≤ gb224)); replace HB := aM (below_step hB hb); clear hb hbox hg; obtain ⟨hcz21_0, hcz21_1⟩ := blk_c2 BK224.out; obtain ⟨hfz21_0, hfz21_1⟩ := blk_f2 BK224.out) | (go_at_call 115; (with_reducible refine (impl_RowBytes.calls k2 ((rd_T138 t220 x33_2).f0) a2 a3 t225 _ A19.out).mono ?_); rintro e w' ⟨rfl, ⟨nd, rfl⟩⟩; (try first | exact ⟨rfl, _, World.drewN_drewN _ _ _⟩ | exact ⟨rfl, _, Eq.trans (World.drewN_drewN _ _ _) (congrArg (World.drewN _) (Nat.add_assoc _ _ _))⟩)))
       repeat (go_quiet (first | ((with_reducible refine gD 13 ?_); refine bE 13 #[.int .i64 0, .int .i64 0] 138 ?_; intro gb224 hg w20 hbox hb; have n0_ := aM (Kd.R_below (Kd.R_elderB (Kd.R_i HO_31.out) gb224 (Nat.le_of_eq hg.symm)) hb); have n1_ := aM (below_step hB hb); have n2_ := aM (hbox); have n3_ := aM ((sZ hg : w.heap.size ≤ gb224)); have n4_ := aM ((sZ hg : w.heap.size ≤ gb224)); clear HO_31; clear HB; have HO_31 := n0_; have HB := n1_; have BK224 := n2_; have GW224 := n3_; have GE224 := n4_; clear n0_ n1_ n2_ n3_ n4_; clear hb hbox hg; obtain ⟨hcz21_0, hcz21_1⟩ := blk_c2 BK224.out; obtain ⟨hfz21_0, hfz21_1⟩ := blk_f2 BK224.out) | (go_at_call 115; (with_reducible refine (impl_RowBytes.calls k2 ((rd_T138 t220 x33_2).f0) a2 a3 t225 _ A19.out).mono ?_); rintro e w' ⟨rfl, ⟨nd, rfl⟩⟩; (try first | exact ⟨rfl, _, World.drewN_drewN _ _ _⟩ | exact ⟨rfl, _, Eq.trans (World.drewN_drewN _ _ _) (congrArg (World.drewN _) (Nat.add_assoc _ _ _))⟩))); try go_wp2_with (first | ((with_reducible refine gD 13 ?_); refine bE 13 #[.int .i64 0, .int .i64 0] 138 ?_; intro gb224 hg w20 hbox hb; have n0_ := aM (Kd.R_below (Kd.R_elderB (Kd.R_i HO_31.out) gb224 (Nat.le_of_eq hg.symm)) hb); have n1_ := aM (below_step hB hb); have n2_ := aM (hbox); have n3_ := aM ((sZ hg : w.heap.size ≤ gb224)); have n4_ := aM ((sZ hg : w.heap.size ≤ gb224)); clear HO_31; clear HB; have HO_31 := n0_; have HB := n1_; have BK224 := n2_; have GW224 := n3_; have GE224 := n4_; clear n0_ n1_ n2_ n3_ n4_; clear hb hbox hg; obtain ⟨hcz21_0, hcz21_1⟩ := blk_c2 BK224.out; obtain ⟨hfz21_0, hfz21_1⟩ := blk_f2 BK224.out) | (go_at_call 115; (with_reducible refine (impl_RowBytes.calls k2 ((rd_T138 t220 x33_2).f0) a2 a3 t225 _ A19.out).mono ?_); rintro e w' ⟨rfl, ⟨nd, rfl⟩⟩; (try first | exact ⟨rfl, _, World.drewN_drewN _ _ _⟩ | exact ⟨rfl, _, Eq.trans (World.drewN_drewN _ _ _) (congrArg (World.drewN _) (Nat.add_assoc _ _ _))⟩))))
       go_roundg k2
       case measure => have := HJ5.out; have := HK2.out; omega
       case rel => exact ⟨(wrap64 (x11_2 + (wrap64 (((rd_T138 t220 x33_2).f1) * (wrap64 (1 + t225)))))), (wrap64 (x33_2 + 1)), eQ, eQ, H', ⟨by have := HJ5.out; have := HK2.out; omega⟩, ⟨Kd.R_i (Kd.R_mono (Kd.R_far (p := ⟨gb224, 1, none⟩) (Kd.R_far (p := ⟨gb224, 0, none⟩) (Kd.R_mono HO_31.out (fun k_ hk => (⟨hk, hk.2⟩ : _ ∧ k_ ≠ gb224))) (fun _ hk => hk.2) (.int .i64 ((rd_T138 t220 x33_2).f0))) (fun _ hk => hk.2) (.int .i64 ((rd_T138 t220 x33_2).f1))) (fun _ hk => trivial))⟩, ⟨hB⟩⟩
     · intro H; have c16b0 := decide_eq_false c16; clear c16; obtain rfl := Option.some.inj H; go_wp2
       repeat (go_quiet (fail); try go_wp2)
       go_ret; exact ⟨eE, hB⟩

/-! ### impl_unitOf: function 157 -/
def impl_unitOf.f (k : Nat) (a0 : Int) (a1 : Int) : Option (Int) := (impl_ChannelsOf.f k a0).bind fun t226 => (some (mx 1 (wrap64 (Int.tdiv (wrap64 (t226 * a1)) 8))))
set_option maxHeartbeats 8000000 in
set_option maxRecDepth 100000 in
theorem impl_unitOf.calls (k : Nat) (a0 : Int) (a1 : Int) (r : Int) (w : World) (h : impl_unitOf.f k a0 a1 = some r) :
 Calls Try.prog 157 #[.int .i64 a0, .int .i64 a1] w fun e w' => e = .returned (.int .i64 r) ∧ Below w.heap.size w w' := by
 have HB := aM (Below.refl w.heap.size w); have H : ((impl_ChannelsOf.f k a0).bind fun t226 => (some (mx 1 (wrap64 (Int.tdiv (wrap64 (t226 * a1)) 8))))) = some r := h; clear h; revert H; refine bdR fun t226 A3 => ?_; intro H; obtain ⟨ji4, hji4⟩ : ∃ j_ : Int, (mx 1 (wrap64 (Int.tdiv (wrap64 (t226 * a1)) 8))) = j_ := ⟨_, rfl⟩; replace H : (some ji4) = some r := by first | (rw [hji4] at H; exact H) | (simp only [hji4] at H ⊢; exact H)
 (try rw [hji4] at A3)
 (try (have hji4l : 1 ≤ ji4 := by (rw [← hji4]; unfold mx; (repeat' split) <;> omega)))
 (try (have hji4m : 0 ≤ ji4 := by omega)); have hji4_ : (if 1 < (wrap64 (Int.tdiv (wrap64 (t226 * a1)) 8)) then (wrap64 (Int.tdiv (wrap64 (t226 * a1)) 8)) else 1) = ji4 := hji4; obtain rfl := Option.some.inj H; go_enter Try.func157, Try.ntmps157
 go_wp2_with (first | ((with_reducible refine gC 65 ?_); refine gL (some 6) Try.func65 #[.int .i64 a0] ?_; (with_reducible refine (impl_ChannelsOf.calls k a0 t226 _ A3.out).mono ?_); rintro e w' ⟨rfl, ⟨nd, rfl⟩⟩; refine ⟨_, rfl, ?_⟩)); go_ret; exact ⟨by first | rfl | (simp [errW_none, errW_some] <;> rfl) | (simp only [← hji4]; first | rfl | (simp [errW_none, errW_some] <;> rfl)) | (simp [*, errW_none, errW_some] <;> rfl), hB⟩

/-! ### strings_Repeat: function 182 -/
/-- So many copies of a text. -/
def strings_Repeat.f (a0 : ByteArray) (a1 : Int) : Option (ByteArray) := if 0 ≤ a1 then (if a1 ≤ 9223372036854775807 then (if a0.size * a1.toNat ≤ 140737488355328 then (some (⟨(Go.Lib.repeatL a0.data.toList a1.toNat).toArray⟩ : ByteArray)) else (none)) else (none)) else (none)
theorem strings_Repeat.calls (a0 : ByteArray) (a1 : Int) (r : ByteArray) (w : World) (h : strings_Repeat.f a0 a1 = some r) :
 Calls Try.prog 182 #[.string a0, .int .i64 a1] w fun e w' => e = .returned (.string r) ∧ Below w.heap.size w w' := by
 unfold strings_Repeat.f at h
 by_cases h0 : 0 ≤ a1
 · rw [if_pos h0] at h
   by_cases h1 : a1 ≤ 9223372036854775807
   · rw [if_pos h1] at h
     by_cases h2 : a0.size * a1.toNat ≤ 140737488355328
     · rw [if_pos h2] at h; have h3 := Option.some.inj h; subst h3; obtain ⟨n, rfl⟩ := Int.eq_ofNat_of_zero_le h0; exact Try.strings_Repeat a0 n w (by omega) h2
     · rw [if_neg h2] at h; cases h
   · rw [if_neg h1] at h; cases h
 · rw [if_neg h0] at h; cases h

/-! ### impl_noughts: function 159 -/
def impl_noughts.f (a0 : Int) : Option (ByteArray) := (strings_Repeat.f (⟨#[0]⟩ : ByteArray) a0).bind fun t227 => (some t227)
set_option maxHeartbeats 8000000 in
set_option maxRecDepth 100000 in
theorem impl_noughts.calls (a0 : Int) (r : ByteArray) (w : World) (h : impl_noughts.f a0 = some r) :
 Calls Try.prog 159 #[.int .i64 a0] w fun e w' => e = .returned (.string r) ∧ Below w.heap.size w w' := by
 have HB := aM (Below.refl w.heap.size w); have H : ((strings_Repeat.f (⟨#[0]⟩ : ByteArray) a0).bind fun t227 => (some t227)) = some r := h; clear h; revert H; refine bdR fun t227 A2 => ?_; intro H; obtain rfl := Option.some.inj H; go_enter Try.func159, Try.ntmps159
 go_wp2_with (first | ((with_reducible refine gC 182 ?_); refine gL (some 4) Try.func182 #[.string (⟨#[0]⟩ : ByteArray), .int .i64 a0] ?_; (with_reducible refine (strings_Repeat.calls (⟨#[0]⟩ : ByteArray) a0 t227 _ A2.out).mono ?_); rintro e w3 ⟨rfl, hb⟩; refine ⟨_, rfl, ?_⟩; replace HB := aM (below_step hB hb); (try clear hb); (try clear hb2); (try clear hk); (try clear hi))); go_ret; exact ⟨eE, hB⟩

/-! ### impl_filterOk: function 184 -/
def impl_filterOk.f (a0 : Int) (a1 : ByteArray) (a2 : ByteArray) (a3 : Int) : Option (Bool) := (impl_within.f a0 0 4).bind fun t228 => (if t228 = true then ((impl_within.f a3 1 8).bind fun t229 => (if t229 = true then (if (a2.size : Int) = (a1.size : Int) then (some (decide ((a1.size : Int) ≤ 200))) else (some false)) else (some false))) else (some false))
set_option maxHeartbeats 8000000 in
set_option maxRecDepth 100000 in
theorem impl_filterOk.calls (a0 : Int) (a1 : ByteArray) (a2 : ByteArray) (a3 : Int) (r : Bool) (w : World) (h : impl_filterOk.f a0 a1 a2 a3 = some r) :
 Calls Try.prog 184 #[.int .i64 a0, .string a1, .string a2, .int .i64 a3] w fun e w' => e = .returned (.bool r) ∧ Drawn0 w w' := by
 unfold impl_filterOk.f at h; have H := h; clear h; revert H; refine bdR fun t228 A5 => ?_
 refine ifB (fun c6 => ?_) (fun c6 => ?_)
 · intro H; subst c6; revert H; refine bdR fun t229 A7 => ?_
   refine ifB (fun c8 => ?_) (fun c8 => ?_)
   · intro H; subst c8; revert H
     refine ifB (fun c9 => ?_) (fun c9 => ?_)
     · intro H; have c9b0 := beq_iff_eq.mpr c9; have c9b1 := bne_eq_false_iff_eq.mpr c9; have c9b2 : (a2.size == a1.size) = true := by first | simpa using c9 | (simp at c9 ⊢; omega)
       clear c9; obtain rfl := Option.some.inj H; go_enter Try.func184, Try.ntmps184
       go_wp2_with (first | ((with_reducible refine gC 82 ?_); refine gL (some 10) Try.func82 #[.int .i64 a0, .int .i64 0, .int .i64 4] ?_; (with_reducible refine (impl_within.calls a0 0 4 true _ A5.out).mono ?_); rintro e w' ⟨rfl, ⟨nd, rfl⟩⟩; refine ⟨_, rfl, ?_⟩) | (go_at_call 82; (with_reducible refine (impl_within.calls a3 1 8 true _ A7.out).mono ?_); rintro e w' ⟨rfl, ⟨nd, rfl⟩⟩)); go_ret; exact ⟨eQ, dQ⟩
     · intro H; have c9b0 := beq_eq_false_iff_ne.mpr c9; have c9b1 := bne_iff_ne.mpr c9; have c9b2 : (a2.size == a1.size) = false := by first | simpa using c9 | (simp at c9 ⊢; omega)
       obtain rfl := Option.some.inj H; go_enter Try.func184, Try.ntmps184
       go_wp2_with (first | ((with_reducible refine gC 82 ?_); refine gL (some 10) Try.func82 #[.int .i64 a0, .int .i64 0, .int .i64 4] ?_; (with_reducible refine (impl_within.calls a0 0 4 true _ A5.out).mono ?_); rintro e w' ⟨rfl, ⟨nd, rfl⟩⟩; refine ⟨_, rfl, ?_⟩) | (go_at_call 82; (with_reducible refine (impl_within.calls a3 1 8 true _ A7.out).mono ?_); rintro e w' ⟨rfl, ⟨nd, rfl⟩⟩)); go_ret; exact ⟨eQ, dQ⟩
   · intro H; replace c8 := Bool.eq_false_iff.mpr c8; subst c8; obtain rfl := Option.some.inj H; go_enter Try.func184, Try.ntmps184
     go_wp2_with (first | ((with_reducible refine gC 82 ?_); refine gL (some 10) Try.func82 #[.int .i64 a0, .int .i64 0, .int .i64 4] ?_; (with_reducible refine (impl_within.calls a0 0 4 true _ A5.out).mono ?_); rintro e w' ⟨rfl, ⟨nd, rfl⟩⟩; refine ⟨_, rfl, ?_⟩) | (go_at_call 82; (with_reducible refine (impl_within.calls a3 1 8 false _ A7.out).mono ?_); rintro e w' ⟨rfl, ⟨nd, rfl⟩⟩)); go_ret; exact ⟨eQ, dQ⟩
 · intro H; replace c6 := Bool.eq_false_iff.mpr c6; subst c6; obtain rfl := Option.some.inj H; go_enter Try.func184, Try.ntmps184
   go_wp2_with (first | ((with_reducible refine gC 82 ?_); refine gL (some 10) Try.func82 #[.int .i64 a0, .int .i64 0, .int .i64 4] ?_; (with_reducible refine (impl_within.calls a0 0 4 false _ A5.out).mono ?_); rintro e w' ⟨rfl, ⟨nd, rfl⟩⟩; refine ⟨_, rfl, ?_⟩)); go_ret; exact ⟨eQ, dQ⟩

/-! ### impl_byteAt: function 200 -/
def impl_byteAt.f (l0 : List Int) (a1 : Int) : Option (Int) := if a1 < 0 then (some 0) else (if 0 ≤ a1 then (if a1 < (l0.length : Int) then (some (wrap64 (rd l0 a1))) else (none)) else (none))
set_option maxHeartbeats 8000000 in
set_option maxRecDepth 100000 in
theorem impl_byteAt.calls (A0 : Option Addr) (c0 : Nat) (l0 : List Int) (a1 : Int) (r : Int) (w : World) (hr0 : Kd.C (Kd.int .u8) w A0 l0.length l0) (hc0 : l0.length ≤ c0) (h : impl_byteAt.f l0 a1 = some r) :
 Calls Try.prog 200 #[.slice A0 l0.length c0, .int .i64 a1] w fun e w' => e = .returned (.int .i64 r) ∧ Drawn0 w w' := by
 have HR0 := aM hr0; have HC0 := aM hc0; clear hr0 hc0; have H : (if a1 < 0 then (some 0) else (if 0 ≤ a1 then (if a1 < (l0.length : Int) then (some (wrap64 (rd l0 a1))) else (none)) else (none))) = some r := h; clear h; revert H
 refine ifB (fun c3 => ?_) (fun c3 => ?_)
 · intro H; have c3b0 := decide_eq_true c3; clear c3; obtain rfl := Option.some.inj H; go_enter Try.func200, Try.ntmps200; go_wp2; go_ret; exact ⟨eQ, dQ⟩
 · intro H; have c3b0 := decide_eq_false c3; clear c3; revert H; refine ifR fun c4 => ?_; intro H; have c4b0 := decide_eq_true c4; clear c4; revert H; refine ifR fun c5 => ?_; intro H; have c5b0 := decide_eq_true c5; clear c5; obtain rfl := Option.some.inj H; have p230 : 0 ≤ (a1 : Int) := bD; have q230 : a1 < (l0.length : Int) := bD; obtain ⟨ad230, e230, hx230_0⟩ := Kd.at_int HR0.out a1 p230 q230; cases e230; replace p230 := eq_true p230; replace q230 := eq_true q230; go_enter Try.func200, Try.ntmps200; go_wp2; go_ret; exact ⟨eQ, dQ⟩

/-! ### impl_distance: function 208 -/
def impl_distance.f (a0 : Int) (a1 : Int) : Option (Int) := some (mx (wrap64 (a0 - a1)) (wrap64 (a1 - a0)))
set_option maxHeartbeats 8000000 in
set_option maxRecDepth 100000 in
theorem impl_distance.calls (a0 : Int) (a1 : Int) (r : Int) (w : World) (h : impl_distance.f a0 a1 = some r) :
 Calls Try.prog 208 #[.int .i64 a0, .int .i64 a1] w fun e w' => e = .returned (.int .i64 r) ∧ Below w.heap.size w w' := by
 have HB := aM (Below.refl w.heap.size w); have H : (some (mx (wrap64 (a0 - a1)) (wrap64 (a1 - a0)))) = some r := h; clear h; obtain ⟨ji3, hji3⟩ : ∃ j_ : Int, (mx (wrap64 (a0 - a1)) (wrap64 (a1 - a0))) = j_ := ⟨_, rfl⟩; replace H : (some ji3) = some r := by first | (rw [hji3] at H; exact H) | (simp only [hji3] at H ⊢; exact H)
 have hji3_ : (if (wrap64 (a0 - a1)) < (wrap64 (a1 - a0)) then (wrap64 (a1 - a0)) else (wrap64 (a0 - a1))) = ji3 := hji3; obtain rfl := Option.some.inj H; go_enter Try.func208, Try.ntmps208; go_wp2; go_ret; exact ⟨by first | rfl | (simp [errW_none, errW_some] <;> rfl) | (simp only [← hji3]; first | rfl | (simp [errW_none, errW_some] <;> rfl)) | (simp [*, errW_none, errW_some] <;> rfl), hB⟩

end Go.Proofs.Ytajnobmnkbkkgaa.PFnExactScanRead
