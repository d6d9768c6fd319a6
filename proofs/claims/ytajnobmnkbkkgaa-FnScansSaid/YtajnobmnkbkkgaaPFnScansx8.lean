/- Walks of functions that the law FnScans reaches: each call comes to what the Lean function of its name tells. Written by p2.py, a program of this session, by way of the kit's print. -/
import Derived.Test.YtajnobmnkbkkgaaVFnScans
import Derived.Test.YtajnobmnkbkkgaaPFnScansx0
import Derived.Test.YtajnobmnkbkkgaaPFnScansx7
namespace Go.Proofs.Ytajnobmnkbkkgaa.PFnScans
open Go.RowKit Go.Proofs.YtajnobmnkbkkgaaW.PrintWords Go.Proofs.YtajnobmnkbkkgaaW.PrintLast Go.Proofs.YtajnobmnkbkkgaaW.PrintMore
attribute [local go_sem] max2_int min2_int max_two min_two max_three min_three max_four min_four   -- for this text's walks alone
set_option linter.unusedVariables false
set_option linter.unusedSimpArgs false

/-! ### impl_foretold: function 185 -/
def impl_foretold.f (k : Nat) (a0 : Int) (l1 : List Int) (l2 : List Int) (a3 : Int) (a4 : Int) : Option (Int) := (impl_byteAt.f l1 (wrap64 (a3 - a4))).bind fun t281 => ((impl_byteAt.f l2 a3).bind fun t282 => (if a0 = 1 then (some t281) else (if a0 = 2 then (some t282) else (if a0 = 3 then (some (wrap64 (Int.tdiv (wrap64 (t281 + t282)) 2))) else (if a0 = 4 then ((impl_byteAt.f l2 (wrap64 (a3 - a4))).bind fun t283 => ((impl_Paeth.f k t281 t282 t283).bind fun t284 => (some t284))) else (some 0))))))
set_option maxHeartbeats 8000000 in
set_option maxRecDepth 100000 in
theorem impl_foretold.calls (k : Nat) (a0 : Int) (A1 : Option Addr) (c1 : Nat) (l1 : List Int) (A2 : Option Addr) (c2 : Nat) (l2 : List Int) (a3 : Int) (a4 : Int) (r : Int) (w : World) (hr1 : Kd.C (Kd.int .u8) w A1 l1.length l1) (hc1 : l1.length ≤ c1) (hr2 : Kd.C (Kd.int .u8) w A2 l2.length l2) (hc2 : l2.length ≤ c2) (h : impl_foretold.f k a0 l1 l2 a3 a4 = some r) :
 Calls Try.prog 185 #[.int .i64 a0, .slice A1 l1.length c1, .slice A2 l2.length c2, .int .i64 a3, .int .i64 a4] w fun e w' => e = .returned (.int .i64 r) ∧ Below w.heap.size w w' := by
 have HR1 := aM hr1; have HC1 := aM hc1; clear hr1 hc1; have HR2 := aM hr2; have HC2 := aM hc2; clear hr2 hc2; have HB := aM (Below.refl w.heap.size w); unfold impl_foretold.f at h; have H := h; clear h; revert H; refine bdR fun t281 A6 => ?_; refine bdR fun t282 A7 => ?_
 refine ifB (fun c8 => ?_) (fun c8 => ?_)
 · intro H; have c8b0 := beq_iff_eq.mpr c8; have c8b1 := bne_eq_false_iff_eq.mpr c8; clear c8; obtain rfl := Option.some.inj H; go_enter Try.func185, Try.ntmps185
   go_wp2_with (first | ((with_reducible refine gC 200 ?_); refine gL (some 17) Try.func200 #[.slice A1 l1.length c1, .int .i64 (wrap64 (a3 - a4))] ?_; (with_reducible refine (impl_byteAt.calls _ _ l1 (wrap64 (a3 - a4)) t281 _ ?side1 ?side2 A6.out).mono ?_); (case side1 => repeat (first | exact HR1.out | (with_reducible refine Kd.C_alloc ?_ _) | (with_reducible refine Kd.C_drewN ?_ _) | (with_reducible refine Kd.C_drew ?_))); (case side2 => exact HC1.out); rintro e w' ⟨rfl, ⟨nd, rfl⟩⟩; refine ⟨_, rfl, ?_⟩) | ((with_reducible refine gC 200 ?_); refine gL (some 20) Try.func200 #[.slice A2 l2.length c2, .int .i64 a3] ?_; (with_reducible refine (impl_byteAt.calls _ _ l2 a3 t282 _ ?side1 ?side2 A7.out).mono ?_); (case side1 => repeat (first | exact HR2.out | (with_reducible refine Kd.C_alloc ?_ _) | (with_reducible refine Kd.C_drewN ?_ _) | (with_reducible refine Kd.C_drew ?_))); (case side2 => exact HC2.out); rintro e w' ⟨rfl, ⟨nd, rfl⟩⟩; refine ⟨_, rfl, ?_⟩)); go_ret; exact ⟨eE, hB⟩
 · intro H; have c8b0 := beq_eq_false_iff_ne.mpr c8; have c8b1 := bne_iff_ne.mpr c8; revert H
   refine ifB (fun c9 => ?_) (fun c9 => ?_)
   · intro H; have c9b0 := beq_iff_eq.mpr c9; have c9b1 := bne_eq_false_iff_eq.mpr c9; clear c9; obtain rfl := Option.some.inj H; go_enter Try.func185, Try.ntmps185
     go_wp2_with (first | ((with_reducible refine gC 200 ?_); refine gL (some 17) Try.func200 #[.slice A1 l1.length c1, .int .i64 (wrap64 (a3 - a4))] ?_; (with_reducible refine (impl_byteAt.calls _ _ l1 (wrap64 (a3 - a4)) t281 _ ?side1 ?side2 A6.out).mono ?_); (case side1 => repeat (first | exact HR1.out | (with_reducible refine Kd.C_alloc ?_ _) | (with_reducible refine Kd.C_drewN ?_ _) | (with_reducible refine Kd.C_drew ?_))); (case side2 => exact HC1.out); rintro e w' ⟨rfl, ⟨nd, rfl⟩⟩; refine ⟨_, rfl, ?_⟩) | ((with_reducible refine gC 200 ?_); refine gL (some 20) Try.func200 #[.slice A2 l2.length c2, .int .i64 a3] ?_; (with_reducible refine (impl_byteAt.calls _ _ l2 a3 t282 _ ?side1 ?side2 A7.out).mono ?_); (case side1 => repeat (first | exact HR2.out | (with_reducible refine Kd.C_alloc ?_ _) | (with_reducible refine Kd.C_drewN ?_ _) | (with_reducible refine Kd.C_drew ?_))); (case side2 => exact HC2.out); rintro e w' ⟨rfl, ⟨nd, rfl⟩⟩; refine ⟨_, rfl, ?_⟩)); go_ret; exact ⟨eE, hB⟩
   · intro H; have c9b0 := beq_eq_false_iff_ne.mpr c9; have c9b1 := bne_iff_ne.mpr c9; revert H
     refine ifB (fun c10 => ?_) (fun c10 => ?_)
     · intro H; have c10b0 := beq_iff_eq.mpr c10; have c10b1 := bne_eq_false_iff_eq.mpr c10; clear c10; obtain rfl := Option.some.inj H; go_enter Try.func185, Try.ntmps185
       go_wp2_with (first | ((with_reducible refine gC 200 ?_); refine gL (some 17) Try.func200 #[.slice A1 l1.length c1, .int .i64 (wrap64 (a3 - a4))] ?_; (with_reducible refine (impl_byteAt.calls _ _ l1 (wrap64 (a3 - a4)) t281 _ ?side1 ?side2 A6.out).mono ?_); (case side1 => repeat (first | exact HR1.out | (with_reducible refine Kd.C_alloc ?_ _) | (with_reducible refine Kd.C_drewN ?_ _) | (with_reducible refine Kd.C_drew ?_))); (case side2 => exact HC1.out); rintro e w' ⟨rfl, ⟨nd, rfl⟩⟩; refine ⟨_, rfl, ?_⟩) | ((with_reducible refine gC 200 ?_); refine gL (some 20) Try.func200 #[.slice A2 l2.length c2, .int .i64 a3] ?_; (with_reducible refine (impl_byteAt.calls _ _ l2 a3 t282 _ ?side1 ?side2 A7.out).mono ?_); (case side1 => repeat (first | exact HR2.out | (with_reducible refine Kd.C_alloc ?_ _) | (with_reducible refine Kd.C_drewN ?_ _) | (with_reducible refine Kd.C_drew ?_))); (case side2 => exact HC2.out); rintro e w' ⟨rfl, ⟨nd, rfl⟩⟩; refine ⟨_, rfl, ?_⟩)); go_ret; exact ⟨eE, hB⟩
     · intro H; have c10b0 := beq_eq_false_iff_ne.mpr c10; have c10b1 := bne_iff_ne.mpr c10; revert H
       refine ifB (fun c11 => ?_) (fun c11 => ?_)
       · intro H; have c11b0 := beq_iff_eq.mpr c11; have c11b1 := bne_eq_false_iff_eq.mpr c11; clear c11; revert H; refine bdR fun t283 A12 => ?_; refine bdR fun t284 A13 => ?_; intro H; obtain rfl := Option.some.inj H; go_enter Try.func185, Try.ntmps185
         go_wp2_with (first | ((with_reducible refine gC 200 ?_); refine gL (some 17) Try.func200 #[.slice A1 l1.length c1, .int .i64 (wrap64 (a3 - a4))] ?_; (with_reducible refine (impl_byteAt.calls _ _ l1 (wrap64 (a3 - a4)) t281 _ ?side1 ?side2 A6.out).mono ?_); (case side1 => repeat (first | exact HR1.out | (with_reducible refine Kd.C_alloc ?_ _) | (with_reducible refine Kd.C_drewN ?_ _) | (with_reducible refine Kd.C_drew ?_))); (case side2 => exact HC1.out); rintro e w' ⟨rfl, ⟨nd, rfl⟩⟩; refine ⟨_, rfl, ?_⟩) | ((with_reducible refine gC 200 ?_); refine gL (some 20) Try.func200 #[.slice A2 l2.length c2, .int .i64 a3] ?_; (with_reducible refine (impl_byteAt.calls _ _ l2 a3 t282 _ ?side1 ?side2 A7.out).mono ?_); (case side1 => repeat (first | exact HR2.out | (with_reducible refine Kd.C_alloc ?_ _) | (with_reducible refine Kd.C_drewN ?_ _) | (with_reducible refine Kd.C_drew ?_))); (case side2 => exact HC2.out); rintro e w' ⟨rfl, ⟨nd, rfl⟩⟩; refine ⟨_, rfl, ?_⟩) | ((with_reducible refine gC 200 ?_); refine gL (some 42) Try.func200 #[.slice A2 l2.length c2, .int .i64 (wrap64 (a3 - a4))] ?_; (with_reducible refine (impl_byteAt.calls _ _ l2 (wrap64 (a3 - a4)) t283 _ ?side1 ?side2 A12.out).mono ?_); (case side1 => repeat (first | exact HR2.out | (with_reducible refine Kd.C_alloc ?_ _) | (with_reducible refine Kd.C_drewN ?_ _) | (with_reducible refine Kd.C_drew ?_))); (case side2 => exact HC2.out); rintro e w' ⟨rfl, ⟨nd, rfl⟩⟩; refine ⟨_, rfl, ?_⟩) | ((with_reducible refine gC 201 ?_); refine gL (some 43) Try.func201 #[.int .i64 t281, .int .i64 t282, .int .i64 t283] ?_; (with_reducible refine (impl_Paeth.calls k t281 t282 t283 t284 _ A13.out).mono ?_); rintro e w14 ⟨rfl, hb⟩; refine ⟨_, rfl, ?_⟩; replace HB := aM (below_step hB hb); (try clear hb); (try clear hb2); (try clear hk); (try clear hi))); go_ret; exact ⟨eE, hB⟩
       · intro H; have c11b0 := beq_eq_false_iff_ne.mpr c11; have c11b1 := bne_iff_ne.mpr c11; obtain rfl := Option.some.inj H; go_enter Try.func185, Try.ntmps185
         go_wp2_with (first | ((with_reducible refine gC 200 ?_); refine gL (some 17) Try.func200 #[.slice A1 l1.length c1, .int .i64 (wrap64 (a3 - a4))] ?_; (with_reducible refine (impl_byteAt.calls _ _ l1 (wrap64 (a3 - a4)) t281 _ ?side1 ?side2 A6.out).mono ?_); (case side1 => repeat (first | exact HR1.out | (with_reducible refine Kd.C_alloc ?_ _) | (with_reducible refine Kd.C_drewN ?_ _) | (with_reducible refine Kd.C_drew ?_))); (case side2 => exact HC1.out); rintro e w' ⟨rfl, ⟨nd, rfl⟩⟩; refine ⟨_, rfl, ?_⟩) | ((with_reducible refine gC 200 ?_); refine gL (some 20) Try.func200 #[.slice A2 l2.length c2, .int .i64 a3] ?_; (with_reducible refine (impl_byteAt.calls _ _ l2 a3 t282 _ ?side1 ?side2 A7.out).mono ?_); (case side1 => repeat (first | exact HR2.out | (with_reducible refine Kd.C_alloc ?_ _) | (with_reducible refine Kd.C_drewN ?_ _) | (with_reducible refine Kd.C_drew ?_))); (case side2 => exact HC2.out); rintro e w' ⟨rfl, ⟨nd, rfl⟩⟩; refine ⟨_, rfl, ?_⟩)); go_ret; exact ⟨eE, hB⟩

/-! ### impl_FilterRow: function 161 -/
def impl_FilterRow.l0 : Nat → Int → Int → List Int → List Int → List Int → Int → Int → Option (ByteArray × Bool)
  | 0, _, _, _, _, _, _, _ => none
  | k + 1, x0, x3, x10, x11, x12, x26, x27 => if x27 < x26 then (if 0 ≤ x27 then (if x27 < (x10.length : Int) then ((impl_foretold.f k x0 x10 x11 x27 x3).bind fun t296 => (if x12.length < 140737488355328 then (impl_FilterRow.l0 k x0 x3 x10 x11 (x12 ++ [((rd x10 x27) - ((t296) % 256)) % 256]) x26 (wrap64 (x27 + 1))) else (none))) else (none)) else (none)) else (some (strOfNums x12, true))
def impl_FilterRow.f (k : Nat) (a0 : Int) (a1 : ByteArray) (a2 : ByteArray) (a3 : Int) : Option (ByteArray × Bool) := (impl_filterOk.f a0 a1 a2 a3).bind fun t285 => (if t285 = true then (if a1.size ≤ 9223372036854775807 then ((some (bytesOf a1 : List Int)).bind fun y286 => (if a2.size ≤ 9223372036854775807 then (impl_FilterRow.l0 k a0 a3 y286 (bytesOf a2) (([] : List Int)) (y286.length : Int) 0) else (none))) else (none)) else (some ((⟨#[]⟩ : ByteArray), false)))
def impl_FilterRow.T8 : Bool × List (List Nat × List Nat) := (true, [([], []), ([], []), ([], []), ([1, 2], [1, 2]), ([3], [3]), ([], []), ([], []), ([], []), ([], []), ([], []), ([5, 6, 7, 8, 9], [5, 6, 7, 8, 9]), ([10], [10]), ([4, 11], [4, 11]), ([12], [12]), ([0, 13, 10], [0, 13]), ([14, 14, 0, 1, 2, 3, 4, 5, 6, 7, 8, 9, 10, 11, 12, 13, 14], [0, 14])])
def impl_FilterRow.B8 : List Nat := [0, 0, 0, 6, 14, 0, 0, 0, 0, 0, 992, 2016, 4094, 8190, 16383, 32767]
theorem impl_FilterRow.tab8 : rtab .any (opsOf Try.f161 8) = impl_FilterRow.T8 := by kernel_rfl
theorem impl_FilterRow.bits8 : waitsOk impl_FilterRow.T8.2 impl_FilterRow.B8 = true := by kernel_rfl
set_option maxHeartbeats 8000000 in
set_option maxRecDepth 100000 in
theorem impl_FilterRow.calls (k : Nat) (a0 : Int) (a1 : ByteArray) (a2 : ByteArray) (a3 : Int) (r1 : ByteArray) (r2 : Bool) (w : World) (h : impl_FilterRow.f k a0 a1 a2 a3 = some (r1, r2)) :
 Calls Try.prog 161 #[.int .i64 a0, .string a1, .string a2, .int .i64 a3] w fun e w' => e = .returned (.tuple #[.string r1, .bool r2]) ∧ Below w.heap.size w w' := by
 have HB := aM (Below.refl w.heap.size w); unfold impl_FilterRow.f at h; have H := h; clear h; revert H; refine bdR fun t285 A5 => ?_
 refine ifB (fun c6 => ?_) (fun c6 => ?_)
 · intro H; subst c6; revert H; refine ifR fun c7 => ?_; intro H; have c7b0 := eq_true c7; have c7b1 := decide_eq_true c7
   try have c7b2 := eq_false (Nat.not_lt.2 c7)
   clear c7; obtain ⟨y286, hy286⟩ : ∃ y_ : List Int, y_ = (bytesOf a1) := ⟨_, rfl⟩; replace H : (if a2.size ≤ 9223372036854775807 then (impl_FilterRow.l0 k a0 a3 y286 (bytesOf a2) (([] : List Int)) (y286.length : Int) 0) else (none)) = some (r1, r2) := by first | (rw [hy286]; with_reducible exact H) | (have H2_ := (Option.bind_some _ _).symm.trans H; rw [hy286]; with_reducible exact H2_) | (have H2_ := (Option.bind_some _ _).symm.trans H; with_reducible exact H2_) | with_reducible exact H | (rw [hy286]; exact H) | exact H
   have Ny286 := aM hy286; clear hy286; revert H; refine ifR fun c8 => ?_; intro H; have c8b0 := eq_true c8; have c8b1 := decide_eq_true c8
   try have c8b2 := eq_false (Nat.not_lt.2 c8)
   clear c8; obtain ⟨y289, hy289⟩ : ∃ y_ : List Int, y_ = (bytesOf a2) := ⟨_, rfl⟩; replace H : (impl_FilterRow.l0 k a0 a3 y286 y289 (([] : List Int)) (y286.length : Int) 0) = some (r1, r2) := by first | (rw [hy289]; with_reducible exact H) | (have H2_ := (Option.bind_some _ _).symm.trans H; rw [hy289]; with_reducible exact H2_) | (have H2_ := (Option.bind_some _ _).symm.trans H; with_reducible exact H2_) | with_reducible exact H | (rw [hy289]; exact H) | exact H
   have Ny289 := aM hy289; clear hy289; obtain ⟨y292, hy292⟩ : ∃ y_ : List Int, y_ = (([] : List Int)) := ⟨_, rfl⟩; replace H : (impl_FilterRow.l0 k a0 a3 y286 y289 y292 (y286.length : Int) 0) = some (r1, r2) := by first | (rw [hy292]; with_reducible exact H) | (have H2_ := (Option.bind_some _ _).symm.trans H; rw [hy292]; with_reducible exact H2_) | (have H2_ := (Option.bind_some _ _).symm.trans H; with_reducible exact H2_) | with_reducible exact H | (rw [hy292]; exact H) | exact H
   have Ny292 := aM hy292; clear hy292; revert H; refine adR fun H' => ?_; go_enter Try.func161, Try.ntmps161
   go_wp2_with (first | ((with_reducible refine gC 184 ?_); refine gL (some 18) Try.func184 #[.int .i64 a0, .string a1, .string a2, .int .i64 a3] ?_; (with_reducible refine (impl_filterOk.calls a0 a1 a2 a3 true _ A5.out).mono ?_); rintro e w' ⟨rfl, ⟨nd, rfl⟩⟩; refine ⟨_, rfl, ?_⟩) | ((with_reducible refine gD 21 ?_); refine Kd.V_conv ?hg (N := 21) ?hd rfl Try.underlying9 Try.underlying36 Try.underlying5 (s := a1) rfl (bD) (ok := fun k_ => w.heap.size ≤ k_) (Nat.le_refl _) ?_; (case hd => rfl); (case hg => rfl); intro v287 w9 ho10 hb hg_ hnew_; clear hg_ hnew_; (first | rw [← Ny286.out] at ho10 | (simp only [Int.reduceToNat] at ho10; rw [← Ny286.out] at ho10)); have HO288 := aM (Kd.V_lower (Kd.V_mono (ok' := fun k_ => True) ho10 (fun k_ hk_ => trivial)) (below_size hB)); replace HB := aM (below_step hB hb); clear hb ho10) | ((with_reducible refine gD 23 ?_); refine Kd.V_conv ?hg (N := 23) ?hd rfl Try.underlying9 Try.underlying36 Try.underlying5 (s := a2) rfl (bD) (ok := fun k_ => w9.heap.size ≤ k_) (Nat.le_refl _) ?_; (case hd => rfl); (case hg => rfl); intro v290 w11 ho12 hb hg_ hnew_; clear hg_ hnew_; (first | rw [← Ny289.out] at ho12 | (simp only [Int.reduceToNat] at ho12; rw [← Ny289.out] at ho12)); replace HO288 := aM (Kd.V_below (Kd.V_i HO288.out) hb); have HO291 := aM (Kd.V_lower (Kd.V_mono (ok' := fun k_ => True) ho12 (fun k_ hk_ => trivial)) (below_size hB)); replace HB := aM (below_step hB hb); clear hb ho12) | ((with_reducible refine gD 24 ?_); refine Kd.R_lit (Kd.int .u8) _ 5 ?hg (N := 24) ?hd (xs := ([] : List Int)) (inner := []) (ok := fun _ => True) (okp := fun _ => True) ?hr ?hp (fun _ hk => hk) trivial (Below.refl _ _) (Nat.le_refl _) (by simp) ?_; (case hd => rfl); (case hg => rfl); (case hr => first | (go_simp; done) | (go_simp; rfl)); (case hp => exact (Reps.none _ _)); intro v293 w13 ho14 hb hg_ hnew_; clear hg_ hnew_; (first | rw [← Ny292.out] at ho14 | (simp only [Int.reduceToNat] at ho14; rw [← Ny292.out] at ho14)); replace HO288 := aM (Kd.V_elder' (Kd.V_i HO288.out) (Kd.R_base ho14) hb); replace HO291 := aM (Kd.V_elder' (Kd.V_i HO291.out) (Kd.R_base ho14) hb); have HO294 := aM (Kd.R_lower ho14 (below_size hB)); replace HB := aM (below_step hB hb); clear hb ho14; obtain ⟨Ao15, co15, eo15⟩ := Kd.V_slice HO288.out; subst eo15))
   go_loopg [12, 27] k (fun kq v12 v27 w' => ∃ (x12_1 : List Int) (x27_1 : Int), v27 = .int .i64 x27_1 ∧ Aside0 (impl_FilterRow.l0 kq a0 a3 y286 y289 x12_1 (y286.length : Int) x27_1 = some (r1, r2)) ∧ Aside0 (kq ≤ k) ∧ Aside0 (Kd.V (Kd.int .u8) 5 w' w.heap.size (fun k_ => some k_ ≠ (v12 : Value).ownBlock) (.slice Ao15 y286.length co15) y286) ∧ Aside0 (Kd.V (Kd.int .u8) 5 w' w.heap.size (fun k_ => some k_ ≠ (v12 : Value).ownBlock) v290 y289) ∧ Aside0 (Kd.R (Kd.int .u8) 5 w' w.heap.size (fun _ => True) v12 x12_1) ∧ Aside0 (Below w.heap.size w w'))
   case atStart => exact ⟨(y292), (0), eQ, H', ⟨Nat.le_refl _⟩, ⟨Kd.V_i (Kd.V_mono HO288.out (fun _ hk => hk.2))⟩, ⟨Kd.V_i (Kd.V_mono HO291.out (fun _ hk => hk.2))⟩, ⟨Kd.R_i HO294.out⟩, ⟨hB⟩⟩
   case round =>
    clear H'; (try clear c1); (try clear p2); (try clear c6); (try clear c7); (try clear c7b0); (try clear c7b1); (try clear c7b2); (try clear c8); (try clear c8b0); (try clear c8b1); (try clear c8b2); obtain ⟨x12_1, x27_1, rfl, HA, HK1, HO_10, HO_11, HO_12, HB⟩ := hrel; rcases gk with _ | k1
    · exact absurd HA.out (by simp [impl_FilterRow.l0])
    revert HA; refine aoR ?_; intro H; simp only [impl_FilterRow.l0] at H; revert H
    refine ifB (fun c16 => ?_) (fun c16 => ?_)
    · intro H; have c16b0 := decide_eq_true c16; clear c16; revert H; refine ifR fun c17 => ?_; intro H; have c17b0 := decide_eq_true c17; clear c17; revert H; refine ifR fun c18 => ?_; intro H; have c18b0 := decide_eq_true c18; clear c18; revert H; refine bdR fun t296 A19 => ?_; refine ifR fun c20 => ?_; intro H; have LMc20 := aM c20; clear c20; obtain ⟨y297, hy297⟩ : ∃ y_ : List Int, y_ = (x12_1 ++ [((rd y286 x27_1) - ((t296) % 256)) % 256]) := ⟨_, rfl⟩; replace H : (impl_FilterRow.l0 k1 a0 a3 y286 y289 y297 (y286.length : Int) (wrap64 (x27_1 + 1))) = some (r1, r2) := by first | (rw [hy297]; with_reducible exact H) | (have H2_ := (Option.bind_some _ _).symm.trans H; rw [hy297]; with_reducible exact H2_) | (have H2_ := (Option.bind_some _ _).symm.trans H; with_reducible exact H2_) | with_reducible exact H | (rw [hy297]; exact H) | exact H
      have Ny297 := aM hy297; clear hy297; revert H; refine adR fun H' => ?_
      try go_wp2
      replace HO_10 := aM (Kd.V_drew HO_10.out); replace HO_11 := aM (Kd.V_drew HO_11.out); replace HO_12 := aM (Kd.R_drew HO_12.out); replace HB := aM (below_drew1 HB.out); have p295 : 0 ≤ (x27_1 : Int) := bD; have q295 : x27_1 < (y286.length : Int) := bD; obtain ⟨ad295, e295, hx295_0⟩ := Kd.at_int (Kd.V_reads' HO_10.out).2.2 x27_1 p295 q295; cases e295; replace p295 := eq_true p295; replace q295 := eq_true q295; obtain ⟨Ao22, co22, eo22⟩ := Kd.V_slice HO_11.out
      (first | subst eo22 | (injection eo22 with f1_ f2_ f3_; have f4_ := f1_.symm; have f5_ := f3_.symm; clear f1_ f2_ f3_; subst f4_; subst f5_))
      refine start_ (n := 16) (S := fun w' => w'.cell? (ad295.add (x27_1).toNat) = some (.int .u8 (rd y286 x27_1))) (ds := [13, 14]) #[false, false, false, false, false, false, false, false, false, false, false, false, false, false, false, false] (by kernel_rfl) rfl rfl (hx295_0) (fun hHeld => ?_); refine with_tabW impl_FilterRow.tab8 impl_FilterRow.bits8 (fun HT_ HW_ => ?_)
      generalize wr.drew = w21 at HO_10 HO_11 HO_12 HB hx295_0 hHeld ⊢; refine pU 0 30 (bAr 16 1) ?_; refine pU 1 31 (bAr 16 3) ?_; refine pU 2 32 (bAr 16 7) ?_; refine pU 3 33 (bAr 16 15) ?_; refine pU 5 35 (bAr 16 47) ?_; refine pU 6 36 (bAr 16 111) ?_; refine pU 7 37 (bAr 16 239) ?_; refine pU 8 38 (bAr 16 495) ?_; refine pU 9 39 (bAr 16 1007) ?_
      refine take_ (i := 4) (N := some 34) (v := ?_) (a' := ?_) #[true, true, true, true, true, true, true, true, true, true, false, false, false, false, false, false] rfl rfl (take_ofW HT_.out HW_.out (by kernel_rfl)) (fun _ _ _ h => h) (Or.inl ⟨by rfl, ?_⟩) hHeld ?_ ?_; rotate_left
      · intro w' s0
        go_simp; with_reducible rfl
      rotate_left
      · simp only [Act.put, List.setIfInBounds_toArray, List.set_cons_zero, List.set_cons_succ, i64_w, i32_w]
        rfl
      refine one_ (i := 10) (N := some 40) #[true, true, true, true, true, true, true, true, true, true, true, false, false, false, false, false] rfl rfl (one_of HT_.out (by kernel_rfl)) (by decide) (fun K hK => ?_)
      refine goes_ Try.func185 (by kernel_rfl) rfl #[.int .i64 a0, .slice (some ad295) y286.length co15, .slice Ao22 y289.length co22, .int .i64 x27_1, .int .i64 a3] (by rfl) rfl rfl (by (try simp only [List.map_toArray, List.map_cons, List.map_nil]); first | done | rfl | (simp only [List.length_drop, List.length_take]; rfl)) ?_
      with_reducible refine (impl_foretold.calls k1 a0 _ _ y286 _ _ y289 x27_1 a3 t296 _ ?side1 ?side2 ?side3 ?side4 A19.out).mono ?_
      (case side1 => repeat (first | exact (Kd.V_reads' HO_10.out).2.2 | (with_reducible refine Kd.C_alloc ?_ _) | (with_reducible refine Kd.C_drewN ?_ _) | (with_reducible refine Kd.C_drew ?_)))
      (case side2 => exact (Kd.V_reads' HO_10.out).2.1)
      (case side3 => repeat (first | exact (Kd.V_reads' HO_11.out).2.2 | (with_reducible refine Kd.C_alloc ?_ _) | (with_reducible refine Kd.C_drewN ?_ _) | (with_reducible refine Kd.C_drew ?_)))
      (case side4 => exact (Kd.V_reads' HO_11.out).2.1)
      rintro e w23 ⟨rfl, hb⟩; have HS0_ := (hb.cell (World.block_lt_of_cell? _ _ (hHeld))).trans (hHeld)
      refine ⟨_, rfl, ?_⟩; replace HO_10 := aM (Kd.V_below (Kd.V_i HO_10.out) hb); replace HO_11 := aM (Kd.V_below (Kd.V_i HO_11.out) hb); replace HO_12 := aM (Kd.R_below (Kd.R_i HO_12.out) hb); replace HB := aM (below_step hB hb); (try clear hb); (try clear hb2); (try clear hk); (try clear hi)
      refine hK.out _ _ (HS0_) (fun hHeld => ?_); clear hK K
      refine norm_ (a' := ?_) ?_ ?_; rotate_left
      · show Act.put _ (some 40) _ = _
        simp only [Act.put, List.setIfInBounds_toArray, List.set_cons_zero, List.set_cons_succ, i64_w, i32_w]
        rfl
      refine pU 11 41 (bAr 16 4095) ?_; refine pU 12 42 (bAr 16 8191) ?_
      refine last_ (i := 13) (N := some 43) #[true, true, true, true, true, true, true, true, true, true, true, true, true, true, false, false] rfl rfl (one_of HT_.out (by kernel_rfl)) (by decide) (fun K hK => ?_)
      refine value_ (w1 := ?_) (v := ?_) (by rfl) rfl ?_ ?_; rotate_left 2
      · go_simp
        constructor
        · rfl
        · rfl
      refine hK.out _ _ ?_; clear hK K
      refine norm_ (a' := ?_) ?_ ?_; rotate_left
      · show Act.put _ (some 43) _ = _
        simp only [Act.put, List.setIfInBounds_toArray, List.set_cons_zero, List.set_cons_succ, i64_w, i32_w]
        rfl
      refine last_ (i := 14) (N := some 44) #[true, true, true, true, true, true, true, true, true, true, true, true, true, true, true, false] rfl rfl (one_of HT_.out (by kernel_rfl)) (by decide) (fun K hK => ?_)
      refine Kd.R_append_step (Kd.int .u8) (w0 := w) w.heap.size (by rfl) (.tmp 30) (.tmp 43) 36 5 (.int .u8 0) 1 rfl Try.underlying36 info5 rfl (by decide) (by omega) u12 x12_1 (((rd y286 x27_1) - ((t296) % 256)) % 256) [.int .u8 (((rd y286 x27_1) - ((t296) % 256)) % 256)] (fun _ => True) (fun _ => False) rfl rfl ?aP (fun _ hk => hk.elim) ?aF ?aO ?aB ?aS ?aL ?_
      (case aP => exact rfl)
      (case aB => exact hB)
      (case aF => exact (fun _ _ => trivial))
      (case aO => exact (Kd.R_i HO_12.out))
      (case aS => exact (below_size hB))
      (case aL => have := LMc20.out; omega); intro v298 w24 ho hb hg hat
      rw [← Ny297.out] at ho; replace HO_10 := aM (Kd.V_afterv (ok := (fun _ => True)) (Kd.V_i (Kd.V_mono HO_10.out (fun _ hk => ⟨trivial, hk⟩))) hg hat); replace HO_11 := aM (Kd.V_afterv (ok := (fun _ => True)) (Kd.V_i (Kd.V_mono HO_11.out (fun _ hk => ⟨trivial, hk⟩))) hg hat); replace HB := aM (hb); have HO299 := aM (ho); clear HO_12; clear ho hb hg hat
      refine hK.out _ _ ?_; clear hK K
      refine norm_ (a' := ?_) ?_ ?_; rotate_left
      · show Act.put _ (some 44) _ = _
        simp only [Act.put, List.setIfInBounds_toArray, List.set_cons_zero, List.set_cons_succ, i64_w, i32_w]
        rfl
      refine pU 15 12 (bAr 16 65535) ?_
      refine done_ (done_of HT_.out (by kernel_rfl)) ?_
      try go_wp2
      go_roundg k1
      case measure => have := HK1.out; omega
      case rel => exact ⟨(y297), (wrap64 (x27_1 + 1)), eQ, H', ⟨by have := HK1.out; omega⟩, ⟨Kd.V_i (Kd.V_mono HO_10.out (fun _ hk => hk.2))⟩, ⟨Kd.V_i (Kd.V_mono HO_11.out (fun _ hk => hk.2))⟩, ⟨Kd.R_i HO299.out⟩, ⟨hB⟩⟩
    · intro H; have c16b0 := decide_eq_false c16; clear c16; simp only [Option.some.injEq, Prod.mk.injEq] at H; obtain ⟨rfl, rfl⟩ := H; have hcv25 := own_string (P := Try.prog) Try.underlying36 Try.underlying5 Try.underlying9 (Kd.own_of_R HO_12.out); go_wp2
      go_ret2; exact ⟨eE, hB⟩
 · intro H; replace c6 := Bool.eq_false_iff.mpr c6; subst c6; simp only [Option.some.injEq, Prod.mk.injEq] at H; obtain ⟨rfl, rfl⟩ := H; go_enter Try.func161, Try.ntmps161
   go_wp2_with (first | ((with_reducible refine gC 184 ?_); refine gL (some 18) Try.func184 #[.int .i64 a0, .string a1, .string a2, .int .i64 a3] ?_; (with_reducible refine (impl_filterOk.calls a0 a1 a2 a3 false _ A5.out).mono ?_); rintro e w' ⟨rfl, ⟨nd, rfl⟩⟩; refine ⟨_, rfl, ?_⟩))
   go_ret2; exact ⟨eE, hB⟩

/-! ### impl_RowWeight: function 183 -/
def impl_RowWeight.l0 : Nat → ByteArray → Int → Int → Int → Option (Int)
  | 0, _, _, _, _ => none
  | k + 1, x0, x3, x10, x11 => if x11 < x10 then (if 0 ≤ x11 then (if x11 < (x0.size : Int) then (impl_RowWeight.l0 k x0 (wrap64 (x3 + (mn (wrap64 (bt x0 x11)) (wrap64 (256 - (wrap64 (bt x0 x11))))))) x10 (wrap64 (x11 + 1))) else (none)) else (none)) else (some x3)
def impl_RowWeight.f (k : Nat) (a0 : ByteArray) : Option (Int) := if (a0.size : Int) > 200 then (some (-1)) else (impl_RowWeight.l0 k a0 0 (a0.size : Int) 0)
set_option maxHeartbeats 8000000 in
set_option maxRecDepth 100000 in
theorem impl_RowWeight.calls (k : Nat) (a0 : ByteArray) (r : Int) (w : World) (h : impl_RowWeight.f k a0 = some r) :
 Calls Try.prog 183 #[.string a0] w fun e w' => e = .returned (.int .i64 r) ∧ Below w.heap.size w w' := by
 have HB := aM (Below.refl w.heap.size w); have H : (if (a0.size : Int) > 200 then (some (-1)) else (impl_RowWeight.l0 k a0 0 (a0.size : Int) 0)) = some r := h; clear h; revert H
 refine ifB (fun c2 => ?_) (fun c2 => ?_)
 · intro H; have c2b0 := decide_eq_true c2; have c2b1 : decide (200 < a0.size) = true := decide_eq_true (by omega); clear c2; obtain rfl := Option.some.inj H; go_enter Try.func183, Try.ntmps183; go_wp2; go_ret; exact ⟨eE, hB⟩
 · intro H; have c2b0 := decide_eq_false c2; have c2b1 : decide (200 < a0.size) = false := decide_eq_false (by omega); clear c2; revert H; refine adR fun H' => ?_; go_enter Try.func183, Try.ntmps183; go_wp2
   go_loopg [3, 11] k (fun kq v3 v11 w' => ∃ (x3_1 : Int) (x11_1 : Int), v3 = .int .i64 x3_1 ∧ v11 = .int .i64 x11_1 ∧ Aside0 (impl_RowWeight.l0 kq a0 x3_1 (a0.size : Int) x11_1 = some r) ∧ Aside0 (kq ≤ k) ∧ Aside0 (Below w.heap.size w w'))
   case atStart => exact ⟨(0), (0), eQ, eQ, H', ⟨Nat.le_refl _⟩, ⟨hB⟩⟩
   case round =>
    clear H'; (try clear c1); (try clear c2); (try clear c2b0); (try clear c2b1); (try clear p2); obtain ⟨x3_1, x11_1, rfl, rfl, HA, HK1, HB⟩ := hrel; rcases gk with _ | k1
    · exact absurd HA.out (by simp [impl_RowWeight.l0])
    revert HA; refine aoR ?_; intro H; simp only [impl_RowWeight.l0] at H; revert H
    refine ifB (fun c3 => ?_) (fun c3 => ?_)
    · intro H; have c3b0 := decide_eq_true c3; clear c3; revert H; refine ifR fun c4 => ?_; intro H; have c4b0 := decide_eq_true c4; clear c4; revert H; refine ifR fun c5 => ?_; intro H; have c5b0 := decide_eq_true c5; clear c5; obtain ⟨ji7, hji7⟩ : ∃ j_ : Int, (mn (wrap64 (bt a0 x11_1)) (wrap64 (256 - (wrap64 (bt a0 x11_1))))) = j_ := ⟨_, rfl⟩; replace H : (impl_RowWeight.l0 k1 a0 (wrap64 (x3_1 + (ji7))) (a0.size : Int) (wrap64 (x11_1 + 1))) = some r := by first | (rw [hji7] at H; exact H) | (simp only [hji7] at H ⊢; exact H)
      have hji7_ : (if (wrap64 (256 - (wrap64 (bt a0 x11_1)))) < (wrap64 (bt a0 x11_1)) then (wrap64 (256 - (wrap64 (bt a0 x11_1)))) else (wrap64 (bt a0 x11_1))) = ji7 := hji7; revert H; refine adR fun H' => ?_; have p6 : 0 ≤ (x11_1 : Int) := bD; have q6 : x11_1 < (a0.size : Int) := bD; have hx6 := bt_at a0 x11_1; replace p6 := eq_true p6; replace q6 := eq_true q6; go_wp2; go_roundg k1
      case measure => have := HK1.out; omega
      case rel => exact ⟨(wrap64 (x3_1 + (ji7))), (wrap64 (x11_1 + 1)), (by first | rfl | (simp; done) | (simp only [← hji7] <;> (first | rfl | simp)) | (simp [*]; done)), eQ, H', ⟨by have := HK1.out; omega⟩, ⟨hB⟩⟩
    · intro H; have c3b0 := decide_eq_false c3; clear c3; obtain rfl := Option.some.inj H; go_wp2; go_ret; exact ⟨eE, hB⟩

/-! ### impl_BestFilter: function 160 -/
def impl_BestFilter.l0 : Nat → ByteArray → ByteArray → Int → Int → Int → Int → Option (Int × Bool)
  | 0, _, _, _, _, _, _ => none
  | k + 1, x0, x1, x2, x8, x9, x14 => if x14 < 5 then ((impl_FilterRow.f k x14 x0 x1 x2).bind fun bt300 => (if bt300.2 = true then ((impl_RowWeight.f k bt300.1).bind fun t302 => (if x9 < 0 then (impl_BestFilter.l0 k x0 x1 x2 x14 t302 (wrap64 (x14 + 1))) else (if t302 < x9 then (impl_BestFilter.l0 k x0 x1 x2 x14 t302 (wrap64 (x14 + 1))) else (impl_BestFilter.l0 k x0 x1 x2 x8 x9 (wrap64 (x14 + 1)))))) else (some (0, false)))) else (some (x8, true))
def impl_BestFilter.f (k : Nat) (a0 : ByteArray) (a1 : ByteArray) (a2 : Int) : Option (Int × Bool) := impl_BestFilter.l0 k a0 a1 a2 0 (-1) 0
set_option maxHeartbeats 8000000 in
set_option maxRecDepth 100000 in
theorem impl_BestFilter.calls (k : Nat) (a0 : ByteArray) (a1 : ByteArray) (a2 : Int) (r1 : Int) (r2 : Bool) (w : World) (h : impl_BestFilter.f k a0 a1 a2 = some (r1, r2)) :
 Calls Try.prog 160 #[.string a0, .string a1, .int .i64 a2] w fun e w' => e = .returned (.tuple #[.int .i64 r1, .bool r2]) ∧ Below w.heap.size w w' := by
 have HB := aM (Below.refl w.heap.size w); have H : (impl_BestFilter.l0 k a0 a1 a2 0 (-1) 0) = some (r1, r2) := h; clear h; revert H; refine adR fun H' => ?_; go_enter Try.func160, Try.ntmps160; go_wp2
 go_loopg [8, 9, 14] k (fun kq v8 v9 v14 w' => ∃ (x8_1 : Int) (x9_1 : Int) (x14_1 : Int), v8 = .int .i64 x8_1 ∧ v9 = .int .i64 x9_1 ∧ v14 = .int .i64 x14_1 ∧ Aside0 (impl_BestFilter.l0 kq a0 a1 a2 x8_1 x9_1 x14_1 = some (r1, r2)) ∧ Aside0 (kq ≤ k) ∧ Aside0 (Below w.heap.size w w'))
 case atStart => exact ⟨(0), ((-1)), (0), eQ, eQ, eQ, H', ⟨Nat.le_refl _⟩, ⟨hB⟩⟩
 case round =>
  clear H'; (try clear c1); (try clear p2); obtain ⟨x8_1, x9_1, x14_1, rfl, rfl, rfl, HA, HK1, HB⟩ := hrel; rcases gk with _ | k1
  · exact absurd HA.out (by simp [impl_BestFilter.l0])
  revert HA; refine aoR ?_; intro H; simp only [impl_BestFilter.l0] at H; revert H
  refine ifB (fun c4 => ?_) (fun c4 => ?_)
  · intro H; have c4b0 := decide_eq_true c4; clear c4; revert H; refine bdR fun ⟨t300, t301⟩ A5 => ?_; intro H
    try dsimp only at H
    revert H
    refine ifB (fun c6 => ?_) (fun c6 => ?_)
    · intro H; subst c6; revert H; refine bdR fun t302 A7 => ?_
      refine ifB (fun c8 => ?_) (fun c8 => ?_)
      · intro H; have c8b0 := decide_eq_true c8; clear c8; revert H; refine adR fun H' => ?_
        go_wp2_with (first | ((with_reducible refine gC 161 ?_); refine gL (some 22) Try.func161 #[.int .i64 x14_1, .string a0, .string a1, .int .i64 a2] ?_; (with_reducible refine (impl_FilterRow.calls k1 x14_1 a0 a1 a2 t300 true _ A5.out).mono ?_); rintro e w9 ⟨rfl, hb⟩; refine ⟨_, rfl, ?_⟩; replace HB := aM (below_step hB hb); (try clear hb); (try clear hb2); (try clear hk); (try clear hi)) | ((with_reducible refine gC 183 ?_); refine gL (some 28) Try.func183 #[.string t300] ?_; (with_reducible refine (impl_RowWeight.calls k1 t300 t302 _ A7.out).mono ?_); rintro e w10 ⟨rfl, hb⟩; refine ⟨_, rfl, ?_⟩; replace HB := aM (below_step hB hb); (try clear hb); (try clear hb2); (try clear hk); (try clear hi))); go_roundg k1
        case measure => have := HK1.out; omega
        case rel => exact ⟨(x14_1), (t302), (wrap64 (x14_1 + 1)), eQ, eQ, eQ, H', ⟨by have := HK1.out; omega⟩, ⟨hB⟩⟩
      · intro H; have c8b0 := decide_eq_false c8; clear c8; revert H
        refine ifB (fun c11 => ?_) (fun c11 => ?_)
        · intro H; have c11b0 := decide_eq_true c11; clear c11; revert H; refine adR fun H' => ?_
          go_wp2_with (first | ((with_reducible refine gC 161 ?_); refine gL (some 22) Try.func161 #[.int .i64 x14_1, .string a0, .string a1, .int .i64 a2] ?_; (with_reducible refine (impl_FilterRow.calls k1 x14_1 a0 a1 a2 t300 true _ A5.out).mono ?_); rintro e w12 ⟨rfl, hb⟩; refine ⟨_, rfl, ?_⟩; replace HB := aM (below_step hB hb); (try clear hb); (try clear hb2); (try clear hk); (try clear hi)) | ((with_reducible refine gC 183 ?_); refine gL (some 28) Try.func183 #[.string t300] ?_; (with_reducible refine (impl_RowWeight.calls k1 t300 t302 _ A7.out).mono ?_); rintro e w13 ⟨rfl, hb⟩; refine ⟨_, rfl, ?_⟩; replace HB := aM (below_step hB hb); (try clear hb); (try clear hb2); (try clear hk); (try clear hi))); go_roundg k1
          case measure => have := HK1.out; omega
          case rel => exact ⟨(x14_1), (t302), (wrap64 (x14_1 + 1)), eQ, eQ, eQ, H', ⟨by have := HK1.out; omega⟩, ⟨hB⟩⟩
        · intro H; have c11b0 := decide_eq_false c11; clear c11; revert H; refine adR fun H' => ?_
          go_wp2_with (first | ((with_reducible refine gC 161 ?_); refine gL (some 22) Try.func161 #[.int .i64 x14_1, .string a0, .string a1, .int .i64 a2] ?_; (with_reducible refine (impl_FilterRow.calls k1 x14_1 a0 a1 a2 t300 true _ A5.out).mono ?_); rintro e w14 ⟨rfl, hb⟩; refine ⟨_, rfl, ?_⟩; replace HB := aM (below_step hB hb); (try clear hb); (try clear hb2); (try clear hk); (try clear hi)) | ((with_reducible refine gC 183 ?_); refine gL (some 28) Try.func183 #[.string t300] ?_; (with_reducible refine (impl_RowWeight.calls k1 t300 t302 _ A7.out).mono ?_); rintro e w15 ⟨rfl, hb⟩; refine ⟨_, rfl, ?_⟩; replace HB := aM (below_step hB hb); (try clear hb); (try clear hb2); (try clear hk); (try clear hi))); go_roundg k1
          case measure => have := HK1.out; omega
          case rel => exact ⟨(x8_1), (x9_1), (wrap64 (x14_1 + 1)), eQ, eQ, eQ, H', ⟨by have := HK1.out; omega⟩, ⟨hB⟩⟩
    · intro H; replace c6 := Bool.eq_false_iff.mpr c6; subst c6; simp only [Option.some.injEq, Prod.mk.injEq] at H; obtain ⟨rfl, rfl⟩ := H
      go_wp2_with (first | ((with_reducible refine gC 161 ?_); refine gL (some 22) Try.func161 #[.int .i64 x14_1, .string a0, .string a1, .int .i64 a2] ?_; (with_reducible refine (impl_FilterRow.calls k1 x14_1 a0 a1 a2 t300 false _ A5.out).mono ?_); rintro e w16 ⟨rfl, hb⟩; refine ⟨_, rfl, ?_⟩; replace HB := aM (below_step hB hb); (try clear hb); (try clear hb2); (try clear hk); (try clear hi)))
      go_ret2; exact ⟨eE, hB⟩
  · intro H; have c4b0 := decide_eq_false c4; clear c4; simp only [Option.some.injEq, Prod.mk.injEq] at H; obtain ⟨rfl, rfl⟩ := H; go_wp2
    go_ret2; exact ⟨eE, hB⟩

end Go.Proofs.Ytajnobmnkbkkgaa.PFnScans
