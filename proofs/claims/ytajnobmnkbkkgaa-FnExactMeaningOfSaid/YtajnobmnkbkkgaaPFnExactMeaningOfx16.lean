/- Walks of functions that the law FnExactMeaningOf reaches: each call comes to what the Lean function of its name tells. Written by p2.py, a program of this session, by way of the kit's print. -/
import Derived.Test.YtajnobmnkbkkgaaVFnExactMeaningOf
import Derived.Test.YtajnobmnkbkkgaaPFnExactMeaningOfx0
import Derived.Test.YtajnobmnkbkkgaaPFnExactMeaningOfx12
namespace Go.Proofs.Ytajnobmnkbkkgaa.PFnExactMeaningOf
open Go.RowKit Go.Proofs.YtajnobmnkbkkgaaW.PrintWords Go.Proofs.YtajnobmnkbkkgaaW.PrintLast Go.Proofs.YtajnobmnkbkkgaaW.PrintMore
attribute [local go_sem] max2_int min2_int max_two min_two max_three min_three max_four min_four   -- for this text's walks alone
set_option linter.unusedVariables false
set_option linter.unusedSimpArgs false

/-! ### impl_copyChunks: function 118 -/
def impl_copyChunks.f (l0 : List (S168)) : Option ((List (S168))) := (some (([] : List (S168)) : List (S168))).bind fun y370 => (if y370.length + l0.length < 4398046511104 then (some (y370 ++ l0)) else (none))
set_option maxHeartbeats 8000000 in
set_option maxRecDepth 100000 in
theorem impl_copyChunks.calls (A0 : Option Addr) (c0 : Nat) (l0 : List (S168)) (r : List (S168)) (w : World) (hr0 : Kd.C k168 w A0 l0.length l0) (hc0 : l0.length ≤ c0) (h : impl_copyChunks.f l0 = some r) :
 Calls Try.prog 118 #[.slice A0 l0.length c0] w fun e w' => ∃ v0_ : Value, e = .returned (v0_) ∧ Kd.R k168 168 w' w.heap.size (fun _ => True) v0_ r ∧ Below w.heap.size w w' := by
 have HR0 := aM hr0; have HC0 := aM hc0; clear hr0 hc0; have HB := aM (Below.refl w.heap.size w); have H : ((some (([] : List (S168)) : List (S168))).bind fun y370 => (if y370.length + l0.length < 4398046511104 then (some (y370 ++ l0)) else (none))) = some r := h; clear h; obtain ⟨y370, hy_⟩ : ∃ y_ : List (S168), y_ = (([] : List (S168))) := ⟨_, rfl⟩; replace H : (if y370.length + l0.length < 4398046511104 then (some (y370 ++ l0)) else (none)) = some r := nH; have Ny370 := aM hy_; clear hy_; revert H; refine ifR fun c2 => ?_; intro H; have LMc2 := aM c2; clear c2; obtain ⟨y373, hy_⟩ : ∃ y_ : List (S168), y_ = (y370 ++ l0) := ⟨_, rfl⟩; replace H : (some y373) = some r := nH; have Ny373 := aM hy_; clear hy_; obtain rfl := Option.some.inj H; go_enter Try.func118, Try.ntmps118
 go_wp2_with (first | ((with_reducible refine gD 3 ?_); refine Kd.R_lit k168 _ 168 ?hg (N := 3) ?hd (xs := ([] : List (S168))) (inner := []) (ok := fun _ => True) (okp := fun _ => True) ?hr ?hp (fun _ hk => hk) trivial (Below.refl _ _) (Nat.le_refl _) (by simp) ?_; (case hd => rfl); (case hg => rfl); (case hr => first | (go_simp; done) | (go_simp; rfl)); (case hp => exact (Reps.none _ _)); intro v371 w3 ho4 hb hg_ hnew_; clear hg_ hnew_; (first | rw [← Ny370.out] at ho4 | (simp only [Int.reduceToNat] at ho4; rw [← Ny370.out] at ho4)); have HO372 := aM (Kd.R_lower ho4 (below_size hB)); replace HB := hS hb; clear hb ho4) | ((with_reducible refine gate_builtin (b := .append) (xs := #[.tmp 3, .tmp 4]) rfl ?_); at_builtin; refine Kd.R_append_rows k168 (w0 := w) w.heap.size rfl (.tmp 3) (.tmp 4) 72 168 (.agg #[(.string ⟨#[]⟩), (.string ⟨#[]⟩)]) 32 rfl Try.underlying72 info168 rfl (by decide) (by omega) v371 y370 l0 _ _ _ (fun _ => True) (fun _ => False) rfl rfl ?aO ?aR (fun _ _ h => h) (fun _ h => h.elim) ?aF ?aB ?aS ?aL ?_; (case aR => repeat (first | exact (Kd.C_below HR0.out HB.out) | (with_reducible refine Kd.C_alloc ?_ _) | (with_reducible refine Kd.C_drewN ?_ _) | (with_reducible refine Kd.C_drew ?_))); (case aB => exact hB); (case aF => exact (fun _ _ => trivial)); (case aO => exact (Kd.R_i HO372.out)); (case aS => exact (below_size hB)); (case aL => have := LMc2.out; omega); intro v374 w5 ho hb hg hat; rw [← Ny373.out] at ho; replace HB := aM hb; have HO375 := aM ho; clear HO372; clear ho hb hg hat)); go_ret; exact ⟨_, eE, Kd.R_i HO375.out, hB⟩

/-! ### slices_Equal_int_int: function 148 -/
def slices_Equal_int_int.l0 : Nat → List Int → List Int → Int → Int → Option (Bool)
  | 0, _, _, _, _ => none
  | k + 1, x0, x1, x12, x13 => if x13 < x12 then (if 0 ≤ x13 then (if x13 < (x0.length : Int) then (if x13 < (x1.length : Int) then (if (rd x0 x13) = (rd x1 x13) then (slices_Equal_int_int.l0 k x0 x1 x12 (wrap64 (x13 + 1))) else (some false)) else (none)) else (none)) else (none)) else (some true)
def slices_Equal_int_int.f (k : Nat) (l0 : List Int) (l1 : List Int) : Option (Bool) := if (l0.length : Int) = (l1.length : Int) then (slices_Equal_int_int.l0 k l0 l1 (l0.length : Int) 0) else (some false)
set_option maxHeartbeats 8000000 in
set_option maxRecDepth 100000 in
theorem slices_Equal_int_int.calls (k : Nat) (A0 : Option Addr) (c0 : Nat) (l0 : List Int) (A1 : Option Addr) (c1 : Nat) (l1 : List Int) (r : Bool) (w : World) (hr0 : Kd.C (Kd.int .i64) w A0 l0.length l0) (hc0 : l0.length ≤ c0) (hr1 : Kd.C (Kd.int .i64) w A1 l1.length l1) (hc1 : l1.length ≤ c1) (h : slices_Equal_int_int.f k l0 l1 = some r) :
 Calls Try.prog 148 #[.slice A0 l0.length c0, .slice A1 l1.length c1] w fun e w' => e = .returned (.bool r) ∧ Drawn0 w w' := by
 have HR0 := aM hr0; have HC0 := aM hc0; clear hr0 hc0; have HR1 := aM hr1; have HC1 := aM hc1; clear hr1 hc1; have H : (if (l0.length : Int) = (l1.length : Int) then (slices_Equal_int_int.l0 k l0 l1 (l0.length : Int) 0) else (some false)) = some r := h; clear h; revert H
 refine ifB (fun c3 => ?_) (fun c3 => ?_)
 · intro H; have c3b0 := beq_iff_eq.mpr c3; have c3b1 := bne_eq_false_iff_eq.mpr c3; have c3b2 : (l0.length == l1.length) = true := by first | simpa using c3 | (simp at c3 ⊢; omega)
   clear c3; revert H; refine adR fun H' => ?_; go_enter Try.func148, Try.ntmps148; go_wp2
   repeat (go_quiet (fail); try go_wp2)
   go_loopg [13] k (fun kq v13 w' => ∃ (x13_1 : Int), v13 = .int .i64 x13_1 ∧ Aside0 (slices_Equal_int_int.l0 kq l0 l1 (l0.length : Int) x13_1 = some r) ∧ Aside0 (kq ≤ k) ∧ Drawn0 w w')
   case atStart => exact ⟨(0), eQ, H', ⟨Nat.le_refl _⟩, dQ⟩
   case round =>
    clear H'; (try clear c1); (try clear p2); (try clear c3); (try clear c3b0); (try clear c3b1); (try clear c3b2); obtain ⟨x13_1, rfl, HA, HK1, ⟨m1, rfl⟩⟩ := hrel; rcases gk with _ | k1
    · exact absurd HA.out (by simp [slices_Equal_int_int.l0])
    revert HA; refine aoR ?_; intro H; simp only [slices_Equal_int_int.l0] at H; revert H
    refine ifB (fun c4 => ?_) (fun c4 => ?_)
    · intro H; have c4b0 := decide_eq_true c4; clear c4; revert H; refine ifR fun c5 => ?_; intro H; have c5b0 := decide_eq_true c5; clear c5; revert H; refine ifR fun c6 => ?_; intro H; have c6b0 := decide_eq_true c6; clear c6; revert H; refine ifR fun c7 => ?_; intro H; have c7b0 := decide_eq_true c7; clear c7; revert H
      refine ifB (fun c8 => ?_) (fun c8 => ?_)
      · intro H; have c8b0 := beq_iff_eq.mpr c8; have c8b1 := bne_eq_false_iff_eq.mpr c8; clear c8; revert H; refine adR fun H' => ?_; have p376 : 0 ≤ (x13_1 : Int) := bD; have q376 : x13_1 < (l0.length : Int) := bD; obtain ⟨ad376, e376, hx376_0⟩ := Kd.at_int HR0.out x13_1 p376 q376; cases e376; replace p376 := eq_true p376; replace q376 := eq_true q376; have p377 : 0 ≤ (x13_1 : Int) := bD; have q377 : x13_1 < (l1.length : Int) := bD; obtain ⟨ad377, e377, hx377_0⟩ := Kd.at_int HR1.out x13_1 p377 q377; cases e377; replace p377 := eq_true p377; replace q377 := eq_true q377; go_wp2
        repeat (go_quiet (fail); try go_wp2)
        go_roundg k1
        case measure => have := HK1.out; omega
        case rel => exact ⟨(wrap64 (x13_1 + 1)), eQ, H', ⟨by have := HK1.out; omega⟩, dQ⟩
      · intro H; have c8b0 := beq_eq_false_iff_ne.mpr c8; have c8b1 := bne_iff_ne.mpr c8; obtain rfl := Option.some.inj H; have p376 : 0 ≤ (x13_1 : Int) := bD; have q376 : x13_1 < (l0.length : Int) := bD; obtain ⟨ad376, e376, hx376_0⟩ := Kd.at_int HR0.out x13_1 p376 q376; cases e376; replace p376 := eq_true p376; replace q376 := eq_true q376; have p377 : 0 ≤ (x13_1 : Int) := bD; have q377 : x13_1 < (l1.length : Int) := bD; obtain ⟨ad377, e377, hx377_0⟩ := Kd.at_int HR1.out x13_1 p377 q377; cases e377; replace p377 := eq_true p377; replace q377 := eq_true q377; go_wp2
        repeat (go_quiet (fail); try go_wp2)
        go_ret; exact ⟨eQ, dQ⟩
    · intro H; have c4b0 := decide_eq_false c4; clear c4; obtain rfl := Option.some.inj H; go_wp2
      repeat (go_quiet (fail); try go_wp2)
      go_ret; exact ⟨eQ, dQ⟩
 · intro H; have c3b0 := beq_eq_false_iff_ne.mpr c3; have c3b1 := bne_iff_ne.mpr c3; have c3b2 : (l0.length == l1.length) = false := by first | simpa using c3 | (simp at c3 ⊢; omega)
   obtain rfl := Option.some.inj H; go_enter Try.func148, Try.ntmps148; go_wp2
   repeat (go_quiet (fail); try go_wp2)
   go_ret; exact ⟨eQ, dQ⟩

/-! ### impl_scaled: function 166 -/
def impl_scaled.f (a0 : Int) (a1 : Int) : Option (Int) := (impl_powerOf.f a1).bind fun t378 => (if (wrap64 (t378 - 1)) = 0 then (none) else (some (wrap64 (Int.tdiv (wrap64 (a0 * 65535)) (wrap64 (t378 - 1))))))
set_option maxHeartbeats 8000000 in
set_option maxRecDepth 100000 in
theorem impl_scaled.calls (a0 : Int) (a1 : Int) (r : Int) (w : World) (h : impl_scaled.f a0 a1 = some r) :
 Calls Try.prog 166 #[.int .i64 a0, .int .i64 a1] w fun e w' => e = .returned (.int .i64 r) ∧ Drawn0 w w' := by
 have H : ((impl_powerOf.f a1).bind fun t378 => (if (wrap64 (t378 - 1)) = 0 then (none) else (some (wrap64 (Int.tdiv (wrap64 (a0 * 65535)) (wrap64 (t378 - 1))))))) = some r := h; clear h; revert H; refine bdR fun t378 A3 => ?_
 refine ifB (fun c4 => ?_) (fun c4 => ?_)
 · intro H; exact absurd H (by simp)
 · intro H; have c4b0 := beq_eq_false_iff_ne.mpr c4; have c4b1 := bne_iff_ne.mpr c4; obtain rfl := Option.some.inj H; go_enter Try.func166, Try.ntmps166
   go_wp2_with (first | ((with_reducible refine gC 126 ?_); refine gL (some 8) Try.func126 #[.int .i64 a1] ?_; (with_reducible refine (impl_powerOf.calls a1 t378 _ A3.out).mono ?_); rintro e w' ⟨rfl, ⟨nd, rfl⟩⟩; refine ⟨_, rfl, ?_⟩)); go_ret; exact ⟨eQ, dQ⟩

end Go.Proofs.Ytajnobmnkbkkgaa.PFnExactMeaningOf
