/- Walks of functions that the law FnExactFromPasses reaches: each call comes to what the Lean function of its name tells. Written by p2.py, a program of this session, by way of the kit's print. -/
import Derived.Test.YtajnobmnkbkkgaaVFnExactFromPasses
import Derived.Test.YtajnobmnkbkkgaaPFnExactFromPassesx0
namespace Go.Proofs.Ytajnobmnkbkkgaa.PFnExactFromPasses
open Go.RowKit Go.Proofs.YtajnobmnkbkkgaaW.PrintWords Go.Proofs.YtajnobmnkbkkgaaW.PrintLast Go.Proofs.YtajnobmnkbkkgaaW.PrintMore
attribute [local go_sem] max2_int min2_int max_two min_two max_three min_three max_four min_four   -- for this text's walks alone
set_option linter.unusedVariables false
set_option linter.unusedSimpArgs false

/-! ### laws_eqIntS: function 68 -/
def laws_eqIntS.l0 : Nat → List Int → List Int → Int → Option (Bool)
  | 0, _, _, _ => none
  | k + 1, x0, x1, x5 => if x5 < (x0.length : Int) then (if 0 ≤ x5 then (if x5 < (x1.length : Int) then (if (rd x0 x5) = (rd x1 x5) then (laws_eqIntS.l0 k x0 x1 (wrap64 (x5 + 1))) else (some false)) else (none)) else (none)) else (some true)
def laws_eqIntS.f (k : Nat) (l0 : List Int) (l1 : List Int) : Option (Bool) := if (l0.length : Int) = (l1.length : Int) then (laws_eqIntS.l0 k l0 l1 0) else (some false)
set_option maxHeartbeats 8000000 in
set_option maxRecDepth 100000 in
theorem laws_eqIntS.calls (k : Nat) (A0 : Option Addr) (c0 : Nat) (l0 : List Int) (A1 : Option Addr) (c1 : Nat) (l1 : List Int) (r : Bool) (w : World) (hr0 : Kd.C (Kd.int .i64) w A0 l0.length l0) (hc0 : l0.length ≤ c0) (hr1 : Kd.C (Kd.int .i64) w A1 l1.length l1) (hc1 : l1.length ≤ c1) (h : laws_eqIntS.f k l0 l1 = some r) :
 Calls Try.prog 68 #[.slice A0 l0.length c0, .slice A1 l1.length c1] w fun e w' => e = .returned (.bool r) ∧ Drawn0 w w' := by
 have HR0 := aM hr0; have HC0 := aM hc0; clear hr0 hc0; have HR1 := aM hr1; have HC1 := aM hc1; clear hr1 hc1; have H : (if (l0.length : Int) = (l1.length : Int) then (laws_eqIntS.l0 k l0 l1 0) else (some false)) = some r := h; clear h; revert H
 refine ifB (fun c3 => ?_) (fun c3 => ?_)
 · intro H; have c3b0 := beq_iff_eq.mpr c3; have c3b1 := bne_eq_false_iff_eq.mpr c3; have c3b2 : (l0.length == l1.length) = true := by first | simpa using c3 | (simp at c3 ⊢; omega)
   clear c3; revert H; refine adR fun H' => ?_; go_enter Try.func68, Try.ntmps68; go_wp2
   repeat (go_quiet (fail); try go_wp2)
   go_loopg [5] k (fun kq v5 w' => ∃ (x5_1 : Int), v5 = .int .i64 x5_1 ∧ Aside0 (laws_eqIntS.l0 kq l0 l1 x5_1 = some r) ∧ Aside0 (kq ≤ k) ∧ Drawn0 w w')
   case atStart => exact ⟨(0), eQ, H', ⟨Nat.le_refl _⟩, dQ⟩
   case round =>
    clear H'; (try clear c1); (try clear p2); (try clear c3); (try clear c3b0); (try clear c3b1); (try clear c3b2); obtain ⟨x5_1, rfl, HA, HK1, ⟨m1, rfl⟩⟩ := hrel; rcases gk with _ | k1
    · exact absurd HA.out (by simp [laws_eqIntS.l0])
    revert HA; refine aoR ?_; intro H; simp only [laws_eqIntS.l0] at H; revert H
    refine ifB (fun c4 => ?_) (fun c4 => ?_)
    · intro H; have c4b0 := decide_eq_true c4; clear c4; revert H; refine ifR fun c5 => ?_; intro H; have c5b0 := decide_eq_true c5; clear c5; revert H; refine ifR fun c6 => ?_; intro H; have c6b0 := decide_eq_true c6; clear c6; revert H
      refine ifB (fun c7 => ?_) (fun c7 => ?_)
      · intro H; have c7b0 := beq_iff_eq.mpr c7; have c7b1 := bne_eq_false_iff_eq.mpr c7; clear c7; revert H; refine adR fun H' => ?_; have p101 : 0 ≤ (x5_1 : Int) := bD; have q101 : x5_1 < (l0.length : Int) := bD; obtain ⟨ad101, e101, hx101_0⟩ := Kd.at_int HR0.out x5_1 p101 q101; cases e101; replace p101 := eq_true p101; replace q101 := eq_true q101; have p102 : 0 ≤ (x5_1 : Int) := bD; have q102 : x5_1 < (l1.length : Int) := bD; obtain ⟨ad102, e102, hx102_0⟩ := Kd.at_int HR1.out x5_1 p102 q102; cases e102; replace p102 := eq_true p102; replace q102 := eq_true q102; go_wp2
        repeat (go_quiet (fail); try go_wp2)
        go_roundg k1
        case measure => have := HK1.out; omega
        case rel => exact ⟨(wrap64 (x5_1 + 1)), eQ, H', ⟨by have := HK1.out; omega⟩, dQ⟩
      · intro H; have c7b0 := beq_eq_false_iff_ne.mpr c7; have c7b1 := bne_iff_ne.mpr c7; obtain rfl := Option.some.inj H; have p101 : 0 ≤ (x5_1 : Int) := bD; have q101 : x5_1 < (l0.length : Int) := bD; obtain ⟨ad101, e101, hx101_0⟩ := Kd.at_int HR0.out x5_1 p101 q101; cases e101; replace p101 := eq_true p101; replace q101 := eq_true q101; have p102 : 0 ≤ (x5_1 : Int) := bD; have q102 : x5_1 < (l1.length : Int) := bD; obtain ⟨ad102, e102, hx102_0⟩ := Kd.at_int HR1.out x5_1 p102 q102; cases e102; replace p102 := eq_true p102; replace q102 := eq_true q102; go_wp2
        repeat (go_quiet (fail); try go_wp2)
        go_ret; exact ⟨eQ, dQ⟩
    · intro H; have c4b0 := decide_eq_false c4; clear c4; obtain rfl := Option.some.inj H; go_wp2
      repeat (go_quiet (fail); try go_wp2)
      go_ret; exact ⟨eQ, dQ⟩
 · intro H; have c3b0 := beq_eq_false_iff_ne.mpr c3; have c3b1 := bne_iff_ne.mpr c3; have c3b2 : (l0.length == l1.length) = false := by first | simpa using c3 | (simp at c3 ⊢; omega)
   obtain rfl := Option.some.inj H; go_enter Try.func68, Try.ntmps68; go_wp2
   repeat (go_quiet (fail); try go_wp2)
   go_ret; exact ⟨eQ, dQ⟩

/-! ### laws_eqRaster: function 17 -/
def laws_eqRaster.f (k : Nat) (a0_0 : Int) (a0_1 : Int) (a0_2 : Int) (a0_3 : Int) (l0_4 : List Int) (a1_0 : Int) (a1_1 : Int) (a1_2 : Int) (a1_3 : Int) (l1_4 : List Int) : Option (Bool) := if a0_0 = a1_0 then (if a0_1 = a1_1 then (if a0_2 = a1_2 then (if a0_3 = a1_3 then ((laws_eqIntS.f k l0_4 l1_4).bind fun t105 => (if t105 = true then (some true) else (some false))) else (some false)) else (some false)) else (some false)) else (some false)
set_option maxHeartbeats 8000000 in
set_option maxRecDepth 100000 in
theorem laws_eqRaster.calls (k : Nat) (a0_0 : Int) (a0_1 : Int) (a0_2 : Int) (a0_3 : Int) (A0_4 : Option Addr) (c0_4 : Nat) (l0_4 : List Int) (a1_0 : Int) (a1_1 : Int) (a1_2 : Int) (a1_3 : Int) (A1_4 : Option Addr) (c1_4 : Nat) (l1_4 : List Int) (r : Bool) (w : World) (hr0_4 : Kd.C (Kd.int .i64) w A0_4 l0_4.length l0_4) (hc0_4 : l0_4.length ≤ c0_4) (hr1_4 : Kd.C (Kd.int .i64) w A1_4 l1_4.length l1_4) (hc1_4 : l1_4.length ≤ c1_4) (h : laws_eqRaster.f k a0_0 a0_1 a0_2 a0_3 l0_4 a1_0 a1_1 a1_2 a1_3 l1_4 = some r) :
 Calls Try.prog 17 #[.agg #[.int .i64 a0_0, .int .i64 a0_1, .int .i64 a0_2, .int .i64 a0_3, .slice A0_4 l0_4.length c0_4], .agg #[.int .i64 a1_0, .int .i64 a1_1, .int .i64 a1_2, .int .i64 a1_3, .slice A1_4 l1_4.length c1_4]] w fun e w' => e = .returned (.bool r) ∧ Below w.heap.size w w' := by
 have hu29 := Try.underlying29; have HR0_4 := aM hr0_4; have HC0_4 := aM hc0_4; clear hr0_4 hc0_4; have HR1_4 := aM hr1_4; have HC1_4 := aM hc1_4; clear hr1_4 hc1_4; have HB := aM (Below.refl w.heap.size w); unfold laws_eqRaster.f at h; have H := h; clear h; revert H
 refine ifB (fun c3 => ?_) (fun c3 => ?_)
 · intro H; have c3b0 := beq_iff_eq.mpr c3; have c3b1 := bne_eq_false_iff_eq.mpr c3; clear c3; revert H
   refine ifB (fun c4 => ?_) (fun c4 => ?_)
   · intro H; have c4b0 := beq_iff_eq.mpr c4; have c4b1 := bne_eq_false_iff_eq.mpr c4; clear c4; revert H
     refine ifB (fun c5 => ?_) (fun c5 => ?_)
     · intro H; have c5b0 := beq_iff_eq.mpr c5; have c5b1 := bne_eq_false_iff_eq.mpr c5; clear c5; revert H
       refine ifB (fun c6 => ?_) (fun c6 => ?_)
       · intro H; have c6b0 := beq_iff_eq.mpr c6; have c6b1 := bne_eq_false_iff_eq.mpr c6; clear c6; revert H; refine bdR fun t105 A7 => ?_
         refine ifB (fun c8 => ?_) (fun c8 => ?_)
         · intro H; subst c8; obtain rfl := Option.some.inj H; go_enter Try.func17, Try.ntmps17
           go_wp2_with (first | ((with_reducible refine gD 2 ?_); refine bE 2 #[.int .i64 a0_0, .int .i64 a0_1, .int .i64 a0_2, .int .i64 a0_3, .slice A0_4 l0_4.length c0_4] 29 ?_; intro gb103 hg w9 hbox hb; have BK103 := aM hbox; have GW103 := aM (sZ hg); have GE103 := GW103; replace HB := hS hb; clear hb hbox hg) | ((with_reducible refine gD 3 ?_); refine bE 3 #[.int .i64 a1_0, .int .i64 a1_1, .int .i64 a1_2, .int .i64 a1_3, .slice A1_4 l1_4.length c1_4] 29 ?_; intro gb104 hg w10 hbox hb; have BK104 := aM hbox; have GW104 := aM (sZ hg); have GE104 := GW104; replace HB := hS hb; have NB103_104 := aM (nL BK103 hg); have NB104_103 := aM (nG BK103 hg); replace BK103 := bW BK103 hb; clear hb hbox hg; have hnb11 := NB103_104.out; have hnc11 := NB104_103.out; have hz12 := bz5 BK103; have hz13 := bz5 BK104) | ((with_reducible refine gC 68 ?_); refine gL (some 29) Try.func68 #[.slice A0_4 l0_4.length c0_4, .slice A1_4 l1_4.length c1_4] ?_; (with_reducible refine (laws_eqIntS.calls k _ _ l0_4 _ _ l1_4 true _ (Kd.C_i (Kd.C_below HR0_4.out HB.out)) HC0_4.out (Kd.C_i (Kd.C_below HR1_4.out HB.out)) HC1_4.out A7.out).mono ?_); rintro e w' ⟨rfl, ⟨nd, rfl⟩⟩; refine ⟨_, rfl, ?_⟩)); go_ret; exact ⟨eE, hB⟩
         · intro H; replace c8 := Bool.eq_false_iff.mpr c8; subst c8; obtain rfl := Option.some.inj H; go_enter Try.func17, Try.ntmps17
           go_wp2_with (first | ((with_reducible refine gD 2 ?_); refine bE 2 #[.int .i64 a0_0, .int .i64 a0_1, .int .i64 a0_2, .int .i64 a0_3, .slice A0_4 l0_4.length c0_4] 29 ?_; intro gb103 hg w14 hbox hb; have BK103 := aM hbox; have GW103 := aM (sZ hg); have GE103 := GW103; replace HB := hS hb; clear hb hbox hg) | ((with_reducible refine gD 3 ?_); refine bE 3 #[.int .i64 a1_0, .int .i64 a1_1, .int .i64 a1_2, .int .i64 a1_3, .slice A1_4 l1_4.length c1_4] 29 ?_; intro gb104 hg w15 hbox hb; have BK104 := aM hbox; have GW104 := aM (sZ hg); have GE104 := GW104; replace HB := hS hb; have NB103_104 := aM (nL BK103 hg); have NB104_103 := aM (nG BK103 hg); replace BK103 := bW BK103 hb; clear hb hbox hg; have hnb16 := NB103_104.out; have hnc16 := NB104_103.out; have hz17 := bz5 BK103; have hz18 := bz5 BK104) | ((with_reducible refine gC 68 ?_); refine gL (some 29) Try.func68 #[.slice A0_4 l0_4.length c0_4, .slice A1_4 l1_4.length c1_4] ?_; (with_reducible refine (laws_eqIntS.calls k _ _ l0_4 _ _ l1_4 false _ (Kd.C_i (Kd.C_below HR0_4.out HB.out)) HC0_4.out (Kd.C_i (Kd.C_below HR1_4.out HB.out)) HC1_4.out A7.out).mono ?_); rintro e w' ⟨rfl, ⟨nd, rfl⟩⟩; refine ⟨_, rfl, ?_⟩)); go_ret; exact ⟨eE, hB⟩
       · intro H; have c6b0 := beq_eq_false_iff_ne.mpr c6; have c6b1 := bne_iff_ne.mpr c6; obtain rfl := Option.some.inj H; go_enter Try.func17, Try.ntmps17
         go_wp2_with (first | ((with_reducible refine gD 2 ?_); refine bE 2 #[.int .i64 a0_0, .int .i64 a0_1, .int .i64 a0_2, .int .i64 a0_3, .slice A0_4 l0_4.length c0_4] 29 ?_; intro gb103 hg w19 hbox hb; have BK103 := aM hbox; have GW103 := aM (sZ hg); have GE103 := GW103; replace HB := hS hb; clear hb hbox hg) | ((with_reducible refine gD 3 ?_); refine bE 3 #[.int .i64 a1_0, .int .i64 a1_1, .int .i64 a1_2, .int .i64 a1_3, .slice A1_4 l1_4.length c1_4] 29 ?_; intro gb104 hg w20 hbox hb; have BK104 := aM hbox; have GW104 := aM (sZ hg); have GE104 := GW104; replace HB := hS hb; have NB103_104 := aM (nL BK103 hg); have NB104_103 := aM (nG BK103 hg); replace BK103 := bW BK103 hb; clear hb hbox hg; have hnb21 := NB103_104.out; have hnc21 := NB104_103.out; have hz22 := bz5 BK103; have hz23 := bz5 BK104)); go_ret; exact ⟨eE, hB⟩
     · intro H; have c5b0 := beq_eq_false_iff_ne.mpr c5; have c5b1 := bne_iff_ne.mpr c5; obtain rfl := Option.some.inj H; go_enter Try.func17, Try.ntmps17
       go_wp2_with (first | ((with_reducible refine gD 2 ?_); refine bE 2 #[.int .i64 a0_0, .int .i64 a0_1, .int .i64 a0_2, .int .i64 a0_3, .slice A0_4 l0_4.length c0_4] 29 ?_; intro gb103 hg w24 hbox hb; have BK103 := aM hbox; have GW103 := aM (sZ hg); have GE103 := GW103; replace HB := hS hb; clear hb hbox hg) | ((with_reducible refine gD 3 ?_); refine bE 3 #[.int .i64 a1_0, .int .i64 a1_1, .int .i64 a1_2, .int .i64 a1_3, .slice A1_4 l1_4.length c1_4] 29 ?_; intro gb104 hg w25 hbox hb; have BK104 := aM hbox; have GW104 := aM (sZ hg); have GE104 := GW104; replace HB := hS hb; have NB103_104 := aM (nL BK103 hg); have NB104_103 := aM (nG BK103 hg); replace BK103 := bW BK103 hb; clear hb hbox hg; have hnb26 := NB103_104.out; have hnc26 := NB104_103.out; have hz27 := bz5 BK103; have hz28 := bz5 BK104)); go_ret; exact ⟨eE, hB⟩
   · intro H; have c4b0 := beq_eq_false_iff_ne.mpr c4; have c4b1 := bne_iff_ne.mpr c4; obtain rfl := Option.some.inj H; go_enter Try.func17, Try.ntmps17
     go_wp2_with (first | ((with_reducible refine gD 2 ?_); refine bE 2 #[.int .i64 a0_0, .int .i64 a0_1, .int .i64 a0_2, .int .i64 a0_3, .slice A0_4 l0_4.length c0_4] 29 ?_; intro gb103 hg w29 hbox hb; have BK103 := aM hbox; have GW103 := aM (sZ hg); have GE103 := GW103; replace HB := hS hb; clear hb hbox hg) | ((with_reducible refine gD 3 ?_); refine bE 3 #[.int .i64 a1_0, .int .i64 a1_1, .int .i64 a1_2, .int .i64 a1_3, .slice A1_4 l1_4.length c1_4] 29 ?_; intro gb104 hg w30 hbox hb; have BK104 := aM hbox; have GW104 := aM (sZ hg); have GE104 := GW104; replace HB := hS hb; have NB103_104 := aM (nL BK103 hg); have NB104_103 := aM (nG BK103 hg); replace BK103 := bW BK103 hb; clear hb hbox hg; have hnb31 := NB103_104.out; have hnc31 := NB104_103.out; have hz32 := bz5 BK103; have hz33 := bz5 BK104)); go_ret; exact ⟨eE, hB⟩
 · intro H; have c3b0 := beq_eq_false_iff_ne.mpr c3; have c3b1 := bne_iff_ne.mpr c3; obtain rfl := Option.some.inj H; go_enter Try.func17, Try.ntmps17
   go_wp2_with (first | ((with_reducible refine gD 2 ?_); refine bE 2 #[.int .i64 a0_0, .int .i64 a0_1, .int .i64 a0_2, .int .i64 a0_3, .slice A0_4 l0_4.length c0_4] 29 ?_; intro gb103 hg w34 hbox hb; have BK103 := aM hbox; have GW103 := aM (sZ hg); have GE103 := GW103; replace HB := hS hb; clear hb hbox hg) | ((with_reducible refine gD 3 ?_); refine bE 3 #[.int .i64 a1_0, .int .i64 a1_1, .int .i64 a1_2, .int .i64 a1_3, .slice A1_4 l1_4.length c1_4] 29 ?_; intro gb104 hg w35 hbox hb; have BK104 := aM hbox; have GW104 := aM (sZ hg); have GE104 := GW104; replace HB := hS hb; have NB103_104 := aM (nL BK103 hg); have NB104_103 := aM (nG BK103 hg); replace BK103 := bW BK103 hb; clear hb hbox hg; have hnb36 := NB103_104.out; have hnc36 := NB104_103.out; have hz37 := bz5 BK103; have hz38 := bz5 BK104)); go_ret; exact ⟨eE, hB⟩

/-! ### laws_eqRasterS: function 16 -/
def laws_eqRasterS.l0 : Nat → List (S29) → List (S29) → Int → Option (Bool)
  | 0, _, _, _ => none
  | k + 1, x0, x1, x5 => if x5 < (x0.length : Int) then (if 0 ≤ x5 then (if x5 < (x1.length : Int) then ((laws_eqRaster.f k ((rd_T29 x0 x5).f0) ((rd_T29 x0 x5).f1) ((rd_T29 x0 x5).f2) ((rd_T29 x0 x5).f3) ((rd_T29 x0 x5).f4) ((rd_T29 x1 x5).f0) ((rd_T29 x1 x5).f1) ((rd_T29 x1 x5).f2) ((rd_T29 x1 x5).f3) ((rd_T29 x1 x5).f4)).bind fun t108 => (if t108 = true then (laws_eqRasterS.l0 k x0 x1 (wrap64 (x5 + 1))) else (some false))) else (none)) else (none)) else (some true)
def laws_eqRasterS.f (k : Nat) (l0 : List (S29)) (l1 : List (S29)) : Option (Bool) := if (l0.length : Int) = (l1.length : Int) then (laws_eqRasterS.l0 k l0 l1 0) else (some false)
def laws_eqRasterS.T6 : Bool × List (List Nat × List Nat) := (true, [([], []), ([], []), ([0, 1], [0, 1]), ([2], [2]), ([], []), ([], []), ([4, 5], [4, 5]), ([6], [6]), ([3, 7], [3, 7]), ([8], [8])])
def laws_eqRasterS.B6 : List Nat := [0, 0, 3, 7, 0, 0, 48, 112, 255, 511]
theorem laws_eqRasterS.tab6 : rtab .any (opsOf Try.f16 6) = laws_eqRasterS.T6 := by kernel_rfl
theorem laws_eqRasterS.bits6 : waitsOk laws_eqRasterS.T6.2 laws_eqRasterS.B6 = true := by kernel_rfl
set_option maxHeartbeats 8000000 in
set_option maxRecDepth 100000 in
theorem laws_eqRasterS.calls (k : Nat) (A0 : Option Addr) (c0 : Nat) (l0 : List (S29)) (A1 : Option Addr) (c1 : Nat) (l1 : List (S29)) (r : Bool) (w : World) (hr0 : Kd.C k29 w A0 l0.length l0) (hc0 : l0.length ≤ c0) (hr1 : Kd.C k29 w A1 l1.length l1) (hc1 : l1.length ≤ c1) (h : laws_eqRasterS.f k l0 l1 = some r) :
 Calls Try.prog 16 #[.slice A0 l0.length c0, .slice A1 l1.length c1] w fun e w' => e = .returned (.bool r) ∧ Below w.heap.size w w' := by
 have hu29 := Try.underlying29; have HR0 := aM hr0; have HC0 := aM hc0; clear hr0 hc0; have HR1 := aM hr1; have HC1 := aM hc1; clear hr1 hc1; have HB := aM (Below.refl w.heap.size w); have H : (if (l0.length : Int) = (l1.length : Int) then (laws_eqRasterS.l0 k l0 l1 0) else (some false)) = some r := h; clear h; revert H
 refine ifB (fun c3 => ?_) (fun c3 => ?_)
 · intro H; have c3b0 := beq_iff_eq.mpr c3; have c3b1 := bne_eq_false_iff_eq.mpr c3; have c3b2 : (l0.length == l1.length) = true := by first | simpa using c3 | (simp at c3 ⊢; omega)
   clear c3; revert H; refine adR fun H' => ?_; go_enter Try.func16, Try.ntmps16; go_wp2
   go_loopg [5] k (fun kq v5 w' => ∃ (x5_1 : Int), v5 = .int .i64 x5_1 ∧ Aside0 (laws_eqRasterS.l0 kq l0 l1 x5_1 = some r) ∧ Aside0 (kq ≤ k) ∧ Aside0 (Below w.heap.size w w'))
   case atStart => exact ⟨(0), eQ, H', ⟨Nat.le_refl _⟩, ⟨hB⟩⟩
   case round =>
    clear H'; (try clear c1); (try clear p2); (try clear c3); (try clear c3b0); (try clear c3b1); (try clear c3b2); obtain ⟨x5_1, rfl, HA, HK1, HB⟩ := hrel; rcases gk with _ | k1
    · exact absurd HA.out (by simp [laws_eqRasterS.l0])
    revert HA; refine aoR ?_; intro H; simp only [laws_eqRasterS.l0] at H; revert H
    refine ifB (fun c4 => ?_) (fun c4 => ?_)
    · intro H; have c4b0 := decide_eq_true c4; clear c4; revert H; refine ifR fun c5 => ?_; intro H; have c5b0 := decide_eq_true c5; clear c5; revert H; refine ifR fun c6 => ?_; intro H; have c6b0 := decide_eq_true c6; clear c6; revert H; refine bdR fun t108 A7 => ?_
      refine ifB (fun c8 => ?_) (fun c8 => ?_)
      · intro H; subst c8; revert H; refine adR fun H' => ?_
        try go_wp2
        replace HB := aM (below_drew1 HB.out); have p106 : 0 ≤ (x5_1 : Int) := bD; have q106 : x5_1 < (l0.length : Int) := bD; obtain ⟨ad106, A106_4, c106_4, e106, hx106_0, hx106_1, hx106_2, hx106_3, hx106_4, hl106_4, hi106_4⟩ := at_T29 HR0.out x5_1 p106 q106; have hw106_4 := hx106_4; have hw106_3 := hx106_3; have hw106_2 := hx106_2; have hw106_1 := hx106_1; have hw106_0 := hx106_0; cases e106; replace hx106_0 := cB0 HB hx106_0; replace hx106_1 := cB0 HB hx106_1; replace hx106_2 := cB0 HB hx106_2; replace hx106_3 := cB0 HB hx106_3; replace hx106_4 := cB0 HB hx106_4; have HR106_4 := aM hi106_4; have HC106_4 := aM hl106_4; clear hi106_4 hl106_4; replace p106 := eq_true p106; replace q106 := eq_true q106; have p107 : 0 ≤ (x5_1 : Int) := bD; have q107 : x5_1 < (l1.length : Int) := bD; obtain ⟨ad107, A107_4, c107_4, e107, hx107_0, hx107_1, hx107_2, hx107_3, hx107_4, hl107_4, hi107_4⟩ := at_T29 HR1.out x5_1 p107 q107; have hw107_4 := hx107_4; have hw107_3 := hx107_3; have hw107_2 := hx107_2; have hw107_1 := hx107_1; have hw107_0 := hx107_0; cases e107; replace hx107_0 := cB0 HB hx107_0; replace hx107_1 := cB0 HB hx107_1; replace hx107_2 := cB0 HB hx107_2; replace hx107_3 := cB0 HB hx107_3; replace hx107_4 := cB0 HB hx107_4; have HR107_4 := aM hi107_4; have HC107_4 := aM hl107_4; clear hi107_4 hl107_4; replace p107 := eq_true p107; replace q107 := eq_true q107
        refine start_ (n := 10) (S := fun w' => w'.cell? (ad106.add ((x5_1).toNat * 5)) = some (.int .i64 ((rd_T29 l0 x5_1).f0)) ∧ w'.cell? ⟨(ad106.add ((x5_1).toNat * 5)).block, (ad106.add ((x5_1).toNat * 5)).off + 1, none⟩ = some (.int .i64 ((rd_T29 l0 x5_1).f1)) ∧ w'.cell? ⟨(ad106.add ((x5_1).toNat * 5)).block, (ad106.add ((x5_1).toNat * 5)).off + 2, none⟩ = some (.int .i64 ((rd_T29 l0 x5_1).f2)) ∧ w'.cell? ⟨(ad106.add ((x5_1).toNat * 5)).block, (ad106.add ((x5_1).toNat * 5)).off + 3, none⟩ = some (.int .i64 ((rd_T29 l0 x5_1).f3)) ∧ w'.cell? ⟨(ad106.add ((x5_1).toNat * 5)).block, (ad106.add ((x5_1).toNat * 5)).off + 4, none⟩ = some (.slice A106_4 ((rd_T29 l0 x5_1).f4).length c106_4) ∧ w'.cell? (ad107.add ((x5_1).toNat * 5)) = some (.int .i64 ((rd_T29 l1 x5_1).f0)) ∧ w'.cell? ⟨(ad107.add ((x5_1).toNat * 5)).block, (ad107.add ((x5_1).toNat * 5)).off + 1, none⟩ = some (.int .i64 ((rd_T29 l1 x5_1).f1)) ∧ w'.cell? ⟨(ad107.add ((x5_1).toNat * 5)).block, (ad107.add ((x5_1).toNat * 5)).off + 2, none⟩ = some (.int .i64 ((rd_T29 l1 x5_1).f2)) ∧ w'.cell? ⟨(ad107.add ((x5_1).toNat * 5)).block, (ad107.add ((x5_1).toNat * 5)).off + 3, none⟩ = some (.int .i64 ((rd_T29 l1 x5_1).f3)) ∧ w'.cell? ⟨(ad107.add ((x5_1).toNat * 5)).block, (ad107.add ((x5_1).toNat * 5)).off + 4, none⟩ = some (.slice A107_4 ((rd_T29 l1 x5_1).f4).length c107_4)) (ds := []) (bAr 10 0) (by kernel_rfl) rfl rfl ⟨(cB HB hw106_0), (cB HB hw106_1), (cB HB hw106_2), (cB HB hw106_3), (cB HB hw106_4), (cB HB hw107_0), (cB HB hw107_1), (cB HB hw107_2), (cB HB hw107_3), (cB HB hw107_4)⟩ (fun hHeld => ?_); refine with_tabW laws_eqRasterS.tab6 laws_eqRasterS.bits6 (fun HT_ HW_ => ?_)
        generalize wr.drew = w9 at HB HR106_4 HR107_4 hx106_0 hx106_1 hx106_2 hx106_3 hx106_4 hx107_0 hx107_1 hx107_2 hx107_3 hx107_4 hHeld ⊢; refine pU 0 17 (bAr 10 1) ?_; refine pU 1 18 (bAr 10 3) ?_; refine pU 2 19 (bAr 10 7) ?_; refine pU 4 21 (bAr 10 23) ?_; refine pU 5 22 (bAr 10 55) ?_; refine pU 6 23 (bAr 10 119) ?_
        refine tK 3 20 (bAr 10 127) ?_
        refine tK 7 24 (bAr 10 255) ?_
        refine one_ (i := 8) (N := some 25) (bAr 10 511) rfl rfl (one_of HT_.out (by kernel_rfl)) (by decide) (fun K hK => ?_)
        refine goes_ Try.func17 (by kernel_rfl) rfl #[.agg #[.int .i64 ((rd_T29 l0 x5_1).f0), .int .i64 ((rd_T29 l0 x5_1).f1), .int .i64 ((rd_T29 l0 x5_1).f2), .int .i64 ((rd_T29 l0 x5_1).f3), .slice A106_4 ((rd_T29 l0 x5_1).f4).length c106_4], .agg #[.int .i64 ((rd_T29 l1 x5_1).f0), .int .i64 ((rd_T29 l1 x5_1).f1), .int .i64 ((rd_T29 l1 x5_1).f2), .int .i64 ((rd_T29 l1 x5_1).f3), .slice A107_4 ((rd_T29 l1 x5_1).f4).length c107_4]] (by rfl) rfl rfl (by (try simp only [List.map_toArray, List.map_cons, List.map_nil]); first | done | rfl | (simp only [List.length_drop, List.length_take]; rfl)) ?_
        with_reducible refine (laws_eqRaster.calls k1 ((rd_T29 l0 x5_1).f0) ((rd_T29 l0 x5_1).f1) ((rd_T29 l0 x5_1).f2) ((rd_T29 l0 x5_1).f3) _ _ ((rd_T29 l0 x5_1).f4) ((rd_T29 l1 x5_1).f0) ((rd_T29 l1 x5_1).f1) ((rd_T29 l1 x5_1).f2) ((rd_T29 l1 x5_1).f3) _ _ ((rd_T29 l1 x5_1).f4) true _ ?side1 ?side2 ?side3 ?side4 A7.out).mono ?_
        (case side1 => repeat (first | exact (Kd.C_below HR106_4.out HB.out) | (with_reducible refine Kd.C_alloc ?_ _) | (with_reducible refine Kd.C_drewN ?_ _) | (with_reducible refine Kd.C_drew ?_)))
        (case side2 => exact HC106_4.out)
        (case side3 => repeat (first | exact (Kd.C_below HR107_4.out HB.out) | (with_reducible refine Kd.C_alloc ?_ _) | (with_reducible refine Kd.C_drewN ?_ _) | (with_reducible refine Kd.C_drew ?_)))
        (case side4 => exact HC107_4.out)
        rintro e w10 ⟨rfl, hb⟩
        refine ⟨_, rfl, ?_⟩; replace HB := hS hb
        refine hK.out _ _ ⟨(cB HB hw106_0), (cB HB hw106_1), (cB HB hw106_2), (cB HB hw106_3), (cB HB hw106_4), (cB HB hw107_0), (cB HB hw107_1), (cB HB hw107_2), (cB HB hw107_3), (cB HB hw107_4)⟩ (fun hHeld => ?_); clear hK K
        refine norm_ (a' := ?_) ?_ ?_; rotate_left
        · show Act.put _ (some 25) _ = _
          simp only [Act.put, List.setIfInBounds_toArray, List.set_cons_zero, List.set_cons_succ, i64_w, i32_w]
          rfl
        refine pU 9 26 (bAr 10 1023) ?_
        refine done_ (done_of HT_.out (by kernel_rfl)) ?_
        try go_wp2
        go_roundg k1
        case measure => have := HK1.out; omega
        case rel => exact ⟨(wrap64 (x5_1 + 1)), eQ, H', ⟨by have := HK1.out; omega⟩, ⟨hB⟩⟩
      · intro H; replace c8 := Bool.eq_false_iff.mpr c8; subst c8; obtain rfl := Option.some.inj H
        try go_wp2
        replace HB := aM (below_drew1 HB.out); have p106 : 0 ≤ (x5_1 : Int) := bD; have q106 : x5_1 < (l0.length : Int) := bD; obtain ⟨ad106, A106_4, c106_4, e106, hx106_0, hx106_1, hx106_2, hx106_3, hx106_4, hl106_4, hi106_4⟩ := at_T29 HR0.out x5_1 p106 q106; have hw106_4 := hx106_4; have hw106_3 := hx106_3; have hw106_2 := hx106_2; have hw106_1 := hx106_1; have hw106_0 := hx106_0; cases e106; replace hx106_0 := cB0 HB hx106_0; replace hx106_1 := cB0 HB hx106_1; replace hx106_2 := cB0 HB hx106_2; replace hx106_3 := cB0 HB hx106_3; replace hx106_4 := cB0 HB hx106_4; have HR106_4 := aM hi106_4; have HC106_4 := aM hl106_4; clear hi106_4 hl106_4; replace p106 := eq_true p106; replace q106 := eq_true q106; have p107 : 0 ≤ (x5_1 : Int) := bD; have q107 : x5_1 < (l1.length : Int) := bD; obtain ⟨ad107, A107_4, c107_4, e107, hx107_0, hx107_1, hx107_2, hx107_3, hx107_4, hl107_4, hi107_4⟩ := at_T29 HR1.out x5_1 p107 q107; have hw107_4 := hx107_4; have hw107_3 := hx107_3; have hw107_2 := hx107_2; have hw107_1 := hx107_1; have hw107_0 := hx107_0; cases e107; replace hx107_0 := cB0 HB hx107_0; replace hx107_1 := cB0 HB hx107_1; replace hx107_2 := cB0 HB hx107_2; replace hx107_3 := cB0 HB hx107_3; replace hx107_4 := cB0 HB hx107_4; have HR107_4 := aM hi107_4; have HC107_4 := aM hl107_4; clear hi107_4 hl107_4; replace p107 := eq_true p107; replace q107 := eq_true q107
        refine start_ (n := 10) (S := fun w' => w'.cell? (ad106.add ((x5_1).toNat * 5)) = some (.int .i64 ((rd_T29 l0 x5_1).f0)) ∧ w'.cell? ⟨(ad106.add ((x5_1).toNat * 5)).block, (ad106.add ((x5_1).toNat * 5)).off + 1, none⟩ = some (.int .i64 ((rd_T29 l0 x5_1).f1)) ∧ w'.cell? ⟨(ad106.add ((x5_1).toNat * 5)).block, (ad106.add ((x5_1).toNat * 5)).off + 2, none⟩ = some (.int .i64 ((rd_T29 l0 x5_1).f2)) ∧ w'.cell? ⟨(ad106.add ((x5_1).toNat * 5)).block, (ad106.add ((x5_1).toNat * 5)).off + 3, none⟩ = some (.int .i64 ((rd_T29 l0 x5_1).f3)) ∧ w'.cell? ⟨(ad106.add ((x5_1).toNat * 5)).block, (ad106.add ((x5_1).toNat * 5)).off + 4, none⟩ = some (.slice A106_4 ((rd_T29 l0 x5_1).f4).length c106_4) ∧ w'.cell? (ad107.add ((x5_1).toNat * 5)) = some (.int .i64 ((rd_T29 l1 x5_1).f0)) ∧ w'.cell? ⟨(ad107.add ((x5_1).toNat * 5)).block, (ad107.add ((x5_1).toNat * 5)).off + 1, none⟩ = some (.int .i64 ((rd_T29 l1 x5_1).f1)) ∧ w'.cell? ⟨(ad107.add ((x5_1).toNat * 5)).block, (ad107.add ((x5_1).toNat * 5)).off + 2, none⟩ = some (.int .i64 ((rd_T29 l1 x5_1).f2)) ∧ w'.cell? ⟨(ad107.add ((x5_1).toNat * 5)).block, (ad107.add ((x5_1).toNat * 5)).off + 3, none⟩ = some (.int .i64 ((rd_T29 l1 x5_1).f3)) ∧ w'.cell? ⟨(ad107.add ((x5_1).toNat * 5)).block, (ad107.add ((x5_1).toNat * 5)).off + 4, none⟩ = some (.slice A107_4 ((rd_T29 l1 x5_1).f4).length c107_4)) (ds := []) (bAr 10 0) (by kernel_rfl) rfl rfl ⟨(cB HB hw106_0), (cB HB hw106_1), (cB HB hw106_2), (cB HB hw106_3), (cB HB hw106_4), (cB HB hw107_0), (cB HB hw107_1), (cB HB hw107_2), (cB HB hw107_3), (cB HB hw107_4)⟩ (fun hHeld => ?_); refine with_tabW laws_eqRasterS.tab6 laws_eqRasterS.bits6 (fun HT_ HW_ => ?_)
        generalize wr.drew = w11 at HB HR106_4 HR107_4 hx106_0 hx106_1 hx106_2 hx106_3 hx106_4 hx107_0 hx107_1 hx107_2 hx107_3 hx107_4 hHeld ⊢; refine pU 0 17 (bAr 10 1) ?_; refine pU 1 18 (bAr 10 3) ?_; refine pU 2 19 (bAr 10 7) ?_; refine pU 4 21 (bAr 10 23) ?_; refine pU 5 22 (bAr 10 55) ?_; refine pU 6 23 (bAr 10 119) ?_
        refine tK 3 20 (bAr 10 127) ?_
        refine tK 7 24 (bAr 10 255) ?_
        refine one_ (i := 8) (N := some 25) (bAr 10 511) rfl rfl (one_of HT_.out (by kernel_rfl)) (by decide) (fun K hK => ?_)
        refine goes_ Try.func17 (by kernel_rfl) rfl #[.agg #[.int .i64 ((rd_T29 l0 x5_1).f0), .int .i64 ((rd_T29 l0 x5_1).f1), .int .i64 ((rd_T29 l0 x5_1).f2), .int .i64 ((rd_T29 l0 x5_1).f3), .slice A106_4 ((rd_T29 l0 x5_1).f4).length c106_4], .agg #[.int .i64 ((rd_T29 l1 x5_1).f0), .int .i64 ((rd_T29 l1 x5_1).f1), .int .i64 ((rd_T29 l1 x5_1).f2), .int .i64 ((rd_T29 l1 x5_1).f3), .slice A107_4 ((rd_T29 l1 x5_1).f4).length c107_4]] (by rfl) rfl rfl (by (try simp only [List.map_toArray, List.map_cons, List.map_nil]); first | done | rfl | (simp only [List.length_drop, List.length_take]; rfl)) ?_
        with_reducible refine (laws_eqRaster.calls k1 ((rd_T29 l0 x5_1).f0) ((rd_T29 l0 x5_1).f1) ((rd_T29 l0 x5_1).f2) ((rd_T29 l0 x5_1).f3) _ _ ((rd_T29 l0 x5_1).f4) ((rd_T29 l1 x5_1).f0) ((rd_T29 l1 x5_1).f1) ((rd_T29 l1 x5_1).f2) ((rd_T29 l1 x5_1).f3) _ _ ((rd_T29 l1 x5_1).f4) false _ ?side1 ?side2 ?side3 ?side4 A7.out).mono ?_
        (case side1 => repeat (first | exact (Kd.C_below HR106_4.out HB.out) | (with_reducible refine Kd.C_alloc ?_ _) | (with_reducible refine Kd.C_drewN ?_ _) | (with_reducible refine Kd.C_drew ?_)))
        (case side2 => exact HC106_4.out)
        (case side3 => repeat (first | exact (Kd.C_below HR107_4.out HB.out) | (with_reducible refine Kd.C_alloc ?_ _) | (with_reducible refine Kd.C_drewN ?_ _) | (with_reducible refine Kd.C_drew ?_)))
        (case side4 => exact HC107_4.out)
        rintro e w12 ⟨rfl, hb⟩
        refine ⟨_, rfl, ?_⟩; replace HB := hS hb
        refine hK.out _ _ ⟨(cB HB hw106_0), (cB HB hw106_1), (cB HB hw106_2), (cB HB hw106_3), (cB HB hw106_4), (cB HB hw107_0), (cB HB hw107_1), (cB HB hw107_2), (cB HB hw107_3), (cB HB hw107_4)⟩ (fun hHeld => ?_); clear hK K
        refine norm_ (a' := ?_) ?_ ?_; rotate_left
        · show Act.put _ (some 25) _ = _
          simp only [Act.put, List.setIfInBounds_toArray, List.set_cons_zero, List.set_cons_succ, i64_w, i32_w]
          rfl
        refine pU 9 26 (bAr 10 1023) ?_
        refine done_ (done_of HT_.out (by kernel_rfl)) ?_
        try go_wp2
        go_ret; exact ⟨eE, hB⟩
    · intro H; have c4b0 := decide_eq_false c4; clear c4; obtain rfl := Option.some.inj H; go_wp2; go_ret; exact ⟨eE, hB⟩
 · intro H; have c3b0 := beq_eq_false_iff_ne.mpr c3; have c3b1 := bne_iff_ne.mpr c3; have c3b2 : (l0.length == l1.length) = false := by first | simpa using c3 | (simp at c3 ⊢; omega)
   obtain rfl := Option.some.inj H; go_enter Try.func16, Try.ntmps16; go_wp2; go_ret; exact ⟨eE, hB⟩

/-! ### laws_markIntS: function 69 -/
def laws_markIntS.l0 : Nat → List Int → Int → Int → Option (Int × List Int)
  | 0, _, _, _ => none
  | k + 1, x0, x1, x5 => if x5 < (x0.length : Int) then (if 0 ≤ x5 then (laws_markIntS.l0 k (x0.set (x5 : Int).toNat x1) (wrap64 (x1 + 1)) (wrap64 (x5 + 1))) else (none)) else (some (x1, x0))
def laws_markIntS.f (k : Nat) (l0 : List Int) (a1 : Int) : Option (Int × List Int) := laws_markIntS.l0 k l0 a1 0
set_option maxHeartbeats 8000000 in
set_option maxRecDepth 100000 in
theorem laws_markIntS.calls (k : Nat) (P0_ : Nat → Prop) (u9000_ : Value) (l0 : List Int) (a1 : Int) (r1 : Int) (r2 : List Int) (w0 w : World) (hB : Below w0.heap.size w0 w) (ho0 : Kd.R (Kd.int .i64) 3 w w0.heap.size P0_ u9000_ l0) (h : laws_markIntS.f k l0 a1 = some (r1, r2)) :
 Calls Try.prog 69 #[u9000_, .int .i64 a1] w fun e w' => e = .returned (.int .i64 r1) ∧ Kd.R (Kd.int .i64) 3 w' w0.heap.size (fun k_ => (P0_ k_ ∨ w.heap.size ≤ k_)) u9000_ r2 ∧ Below w0.heap.size w0 w' ∧ Kept w w' (fun k_ => P0_ k_) := by
 have HO0 := aM (show Kd.R (Kd.int .i64) 3 w w0.heap.size (fun k_ => (P0_ k_ ∨ w.heap.size ≤ k_)) u9000_ l0 from Kd.R_mono ho0 (fun k_ hk => (.inl hk))); have HK := aM (Kept.refl w (fun k_ => P0_ k_)); have HW0 := aM hB.size; have HB := aM hB; clear hB; have H : (laws_markIntS.l0 k l0 a1 0) = some (r1, r2) := h; clear h; revert H; refine adR fun H' => ?_; go_enter Try.func69, Try.ntmps69; go_wp2
 go_loopg [1, 5] k (fun kq v1 v5 w' => ∃ (x0_1 : List Int) (x1_1 : Int) (x5_1 : Int), v1 = .int .i64 x1_1 ∧ v5 = .int .i64 x5_1 ∧ Aside0 (laws_markIntS.l0 kq x0_1 x1_1 x5_1 = some (r1, r2)) ∧ Aside0 (kq ≤ k) ∧ Aside0 (Kd.R (Kd.int .i64) 3 w' w0.heap.size (fun k_ => (P0_ k_ ∨ w.heap.size ≤ k_)) u9000_ x0_1) ∧ Aside0 (Kept w w' (fun k_ => P0_ k_)) ∧ Aside0 (Below w0.heap.size w0 w'))
 case atStart => exact ⟨(l0), (a1), (0), eQ, eQ, H', ⟨Nat.le_refl _⟩, ⟨Kd.R_i HO0.out⟩, ⟨by repeat (first | (with_reducible first | exact HK.out | apply Kept.alloc | apply Kept.drewN | apply Kept.drew) | exact HK.out)⟩, ⟨hB⟩⟩
 case round =>
  clear H'; (try clear p2); obtain ⟨x0_1, x1_1, x5_1, rfl, rfl, HA, HK1, HO_0, HK, HB⟩ := hrel; rcases gk with _ | k1
  · exact absurd HA.out (by simp [laws_markIntS.l0])
  revert HA; refine aoR ?_; intro H; simp only [laws_markIntS.l0] at H; revert H
  refine ifB (fun c3 => ?_) (fun c3 => ?_)
  · intro H; have c3b0 := decide_eq_true c3; clear c3; revert H; refine ifR fun c4 => ?_; intro H; have c4b0 := decide_eq_true c4; clear c4; obtain ⟨y109, hy_⟩ : ∃ y_ : List Int, y_ = (x0_1.set (x5_1 : Int).toNat x1_1) := ⟨_, rfl⟩; replace H : (laws_markIntS.l0 k1 y109 (wrap64 (x1_1 + 1)) (wrap64 (x5_1 + 1))) = some (r1, r2) := nH; have Ny109 := aM hy_; clear hy_; revert H; refine adR fun H' => ?_; obtain ⟨Ao6, co6, eo6⟩ := Kd.R_slice HO_0.out; subst eo6; have p5 : 0 ≤ (x5_1 : Int) := bD; have q5 : (x5_1 : Int) < ((x0_1.length : Int) : Int) := bD; obtain ⟨go5, co5, eo5, gb5, gl5, cl5, HG5⟩ := Kd.R_form HO_0.out (by omega)
    (first | cases eo5 | (injection eo5 with ea_ en_ ec_; (first | subst ea_ | (injection ea_ with ea_; subst ea_)); subst ec_; clear en_)); have GB5 := aM gb5; have GG5 := aM HG5; clear gb5 gl5 HG5; have HMgo5 := aM (show (P0_ go5 ∨ w.heap.size ≤ go5) from (HO_0.out.1 _ rfl)); obtain ⟨hx5_0, hf5_0⟩ := Kd.R_celln 0 HO_0.out (x5_1 : Int) p5 q5; replace p5 := eq_true p5; replace q5 := eq_true q5; have HP7 := Kd.R_putg HO_0.out (x5_1 : Int) x1_1
    go_wp2_with (first | ((with_reducible refine gate_store (t := 3) (p := 15) rfl ?_); refine store_event (t := 3) (p := 15) (v := ?vo_w8) (w1 := (wr.setCell ⟨go5, (x5_1 : Int).toNat, none⟩ (.int .i64 x1_1))) ?hg ?ho ?hn ?hr ?_; (case ho => rfl); (case hg => rfl); (case hn => rfl); (case hr => first | (go_simp; done) | (go_simp; rfl)); intro w8 hw; have hg : wr.grownBy w8 (some go5) := (by rw [hw]; exact HP7.2); have hp_ : Kd.R (Kd.int .i64) 3 w8 w0.heap.size (fun k_ => (P0_ k_ ∨ w.heap.size ≤ k_)) (.slice (some ⟨go5, 0, none⟩) x0_1.length co6) y109 := (by rw [hw, Ny109.out]; exact HP7.1); clear HP7; replace HB := aM ((by rw [hw]; exact below_set (HB.out) GB5.out : Below w0.heap.size w0 w8)); replace HK := aM (Kept.of_grown (S := (fun k_ => P0_ k_)) hg (by repeat (first | (with_reducible first | exact HK.out | apply Kept.alloc | apply Kept.drewN | apply Kept.drew) | exact HK.out)) (fun k_ e_ => (HO_0.out.1 k_ e_))); replace HO_0 := aM hp_; clear hg hw hp_)); go_roundg k1
    case measure => have := HK1.out; omega
    case rel => exact ⟨(y109), (wrap64 (x1_1 + 1)), (wrap64 (x5_1 + 1)), eQ, eQ, H', ⟨by have := HK1.out; omega⟩, ⟨Kd.R_i HO_0.out⟩, ⟨by repeat (first | (with_reducible first | exact HK.out | apply Kept.alloc | apply Kept.drewN | apply Kept.drew) | exact HK.out)⟩, ⟨hB⟩⟩
  · intro H; have c3b0 := decide_eq_false c3; clear c3; simp only [Option.some.injEq, Prod.mk.injEq] at H; obtain ⟨rfl, rfl⟩ := H; obtain ⟨Ao9, co9, eo9⟩ := Kd.R_slice HO_0.out; subst eo9; go_wp2; go_ret; exact ⟨eE, Kd.R_i HO_0.out, hB, by repeat (first | (with_reducible first | exact HK.out | apply Kept.alloc | apply Kept.drewN | apply Kept.drew) | exact HK.out)⟩

/-! ### laws_markRaster: function 18 -/
def laws_markRaster.f (k : Nat) (a0_0 : Int) (a0_1 : Int) (a0_2 : Int) (a0_3 : Int) (l0_4 : List Int) (a1 : Int) : Option (Int × List Int) := (laws_markIntS.f k l0_4 a1).bind fun bt111 => (some (bt111.1, bt111.2))
set_option maxHeartbeats 8000000 in
set_option maxRecDepth 100000 in
theorem laws_markRaster.calls (k : Nat) (a0_0 : Int) (a0_1 : Int) (a0_2 : Int) (a0_3 : Int) (P0_4_ : Nat → Prop) (u9000_ : Value) (l0_4 : List Int) (a1 : Int) (r1 : Int) (r2 : List Int) (w0 w : World) (hB : Below w0.heap.size w0 w) (ho0_4 : Kd.R (Kd.int .i64) 3 w w0.heap.size P0_4_ u9000_ l0_4) (h : laws_markRaster.f k a0_0 a0_1 a0_2 a0_3 l0_4 a1 = some (r1, r2)) :
 Calls Try.prog 18 #[.agg #[.int .i64 a0_0, .int .i64 a0_1, .int .i64 a0_2, .int .i64 a0_3, u9000_], .int .i64 a1] w fun e w' => e = .returned (.int .i64 r1) ∧ Kd.R (Kd.int .i64) 3 w' w0.heap.size (fun k_ => (P0_4_ k_ ∨ w.heap.size ≤ k_)) u9000_ r2 ∧ Below w0.heap.size w0 w' ∧ Kept w w' (fun k_ => P0_4_ k_) := by
 have hu29 := Try.underlying29; have HO0_4 := aM (show Kd.R (Kd.int .i64) 3 w w0.heap.size (fun k_ => (P0_4_ k_ ∨ w.heap.size ≤ k_)) u9000_ l0_4 from Kd.R_mono ho0_4 (fun k_ hk => (.inl hk))); have HK := aM (Kept.refl w (fun k_ => P0_4_ k_)); have HW0 := aM hB.size; have HB := aM hB; clear hB; have H : ((laws_markIntS.f k l0_4 a1).bind fun bt111 => (some (bt111.1, bt111.2))) = some (r1, r2) := h; clear h; revert H; refine bdR fun ⟨t111, t112⟩ A3 => ?_; intro H
 try dsimp only at H
 simp only [Option.some.injEq, Prod.mk.injEq] at H; obtain ⟨rfl, rfl⟩ := H; obtain ⟨Ao4, co4, eo4⟩ := Kd.R_slice HO0_4.out; subst eo4; go_enter Try.func18, Try.ntmps18
 go_wp2_with (first | ((with_reducible refine gD 2 ?_); refine bE 2 #[.int .i64 a0_0, .int .i64 a0_1, .int .i64 a0_2, .int .i64 a0_3, .slice Ao4 l0_4.length co4] 29 ?_; intro gb110 hg w5 hbox hb; replace HO0_4 := Kd.wR HO0_4 hb; have BK110 := aM hbox; have GW110 := aM ((by rw [hg]; exact (by first | exact HK.out.1 | exact (show Kept w _ (fun k_ => P0_4_ k_) from by repeat (first | (with_reducible first | exact HK.out | apply Kept.alloc | apply Kept.drewN | apply Kept.drew) | exact HK.out)).1) : w.heap.size ≤ gb110)); replace HK := aM (Kept.below (S := (fun k_ => P0_4_ k_)) (by repeat (first | (with_reducible first | exact HK.out | apply Kept.alloc | apply Kept.drewN | apply Kept.drew) | exact HK.out)) hb); have GE110 := aM (sZ hg); replace HB := hS hb; clear hb hbox hg; have hz6 := bz5 BK110) | ((with_reducible refine gC 69 ?_); refine gL (some 8) Try.func69 #[.slice Ao4 l0_4.length co4, .int .i64 a1] ?_; (with_reducible refine (laws_markIntS.calls k (fun k_ => some k_ = (.slice Ao4 l0_4.length co4 : Value).ownBlock) (.slice Ao4 l0_4.length co4) l0_4 a1 t111 t112 w0 _ ?side1 ?side2 A3.out).mono ?_); (case side1 => exact hB); (case side2 => exact Kd.R_tight rfl HO0_4.out); rintro e w7 ⟨rfl, hy0, hb, hkp⟩; refine ⟨_, rfl, ?_⟩; replace BK110 := aM (blk_kept (bI BK110.out) hkp (fun hs_ => (fun e_ => (Kd.R_ne HO0_4.out BK110.out (by decide)) e_) hs_)); replace HK := aM (Kept.then_ (S := (fun k_ => P0_4_ k_)) (by repeat (first | (with_reducible first | exact HK.out | apply Kept.alloc | apply Kept.drewN | apply Kept.drew | refine Kept.setCell ?_ (.inr GW110.out) _) | exact HK.out)) hkp (fun k_ hs_ => (fun e_ => (HO0_4.out.1 k_ e_.symm)) hs_)); replace HO0_4 := aM (Kd.R_reok rfl hy0 (fun k_ e_ => HO0_4.out.1 k_ e_)); replace HB := aM hb; clear hb; (try clear hkp); (try clear hy0))); go_ret; exact ⟨eE, Kd.R_i HO0_4.out, hB, by repeat (first | (with_reducible first | exact HK.out | apply Kept.alloc | apply Kept.drewN | apply Kept.drew | refine Kept.setCell ?_ (.inr GW110.out) _) | exact HK.out)⟩

end Go.Proofs.Ytajnobmnkbkkgaa.PFnExactFromPasses
