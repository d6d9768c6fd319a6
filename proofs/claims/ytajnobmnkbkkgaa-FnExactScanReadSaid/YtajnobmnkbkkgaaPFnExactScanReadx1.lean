/- Walks of functions that the law FnExactScanRead reaches: each call comes to what the Lean function of its name tells. Written by p2.py, a program of this session, by way of the kit's print. -/
import Derived.Test.YtajnobmnkbkkgaaVFnExactScanRead
import Derived.Test.YtajnobmnkbkkgaaPFnExactScanReadx0
namespace Go.Proofs.Ytajnobmnkbkkgaa.PFnExactScanRead
open Go.RowKit Go.Proofs.YtajnobmnkbkkgaaW.PrintWords Go.Proofs.YtajnobmnkbkkgaaW.PrintLast Go.Proofs.YtajnobmnkbkkgaaW.PrintMore
attribute [local go_sem] max2_int min2_int max_two min_two max_three min_three max_four min_four   -- for this text's walks alone
set_option linter.unusedVariables false
set_option linter.unusedSimpArgs false

/-! ### laws_eqIntS: function 68 -/
def laws_eqIntS.l0 : Nat → List Int → List Int → Int → Option (Bool)
  | 0, _, _, _ => none
  | k + 1, x0, x1, x5 => if x5 < (x0.length : Int) then (if 0 ≤ x5 then (if x5 < (x1.length : Int) then (if (rd x0 x5) = (rd x1 x5) then (laws_eqIntS.l0 k x0 x1 (wrap64 (x5 + 1))) else (some false)) else (none)) else (none)) else (some true)
def laws_eqIntS.f (k : Nat) (l0 : List Int) (l1 : List Int) : Option (Bool) := if (l0.length : Int) = (l1.length : Int) then (laws_eqIntS.l0 k l0 l1 0) else (some false)
set_option maxHeartbeats 8000000 in
set_option maxRecDepth 100000 in
theorem laws_eqIntS.calls (k : Nat) (A0 : Option Addr) (c0 : Nat) (l0 : List Int) (A1 : Option Addr) (c1 : Nat) (l1 : List Int) (r : Bool) (w : World) (hr0 : Kd.C (Kd.int .i64) w A0 l0.length l0) (hc0 : l0.length ≤ c0) (hr1 : Kd.C (Kd.int .i64) w A1 l1.length l1) (hc1 : l1.length ≤ c1) (h : laws_eqIntS.f k l0 l1 = some r) :
 Calls Try.prog 68 #[.slice A0 l0.length c0, .slice A1 l1.length c1] w fun e w' => e = .returned (.bool r) ∧ Drawn0 w w' := by
 have HR0 := aM hr0; have HC0 := aM hc0; clear hr0 hc0; have HR1 := aM hr1; have HC1 := aM hc1; clear hr1 hc1; have H : (if (l0.length : Int) = (l1.length : Int) then (laws_eqIntS.l0 k l0 l1 0) else (some false)) = some r := h; clear h; revert H
 refine ifB (fun c3 => ?_) (fun c3 => ?_)
 · intro H; have c3b0 := beq_iff_eq.mpr c3; have c3b1 := bne_eq_false_iff_eq.mpr c3; have c3b2 : (l0.length == l1.length) = true := by first | simpa using c3 | (simp at c3 ⊢; omega)
   clear c3; revert H; refine adR fun H' => ?_; go_enter Try.func68, Try.ntmps68; go_wp2
   repeat (go_quiet (fail); try go_wp2)
   go_loopg [5] k (fun kq v5 w' => ∃ (x5_1 : Int), v5 = .int .i64 x5_1 ∧ Aside0 (laws_eqIntS.l0 kq l0 l1 x5_1 = some r) ∧ Aside0 (kq ≤ k) ∧ Drawn0 w w')
   case atStart => exact ⟨(0), eQ, H', ⟨Nat.le_refl _⟩, dQ⟩
   case round =>
    clear H'; (try clear c1); (try clear p2); (try clear c3); (try clear c3b0); (try clear c3b1); (try clear c3b2); obtain ⟨x5_1, rfl, HA, HK1, ⟨m1, rfl⟩⟩ := hrel; rcases gk with _ | k1
    · exact absurd HA.out (by simp [laws_eqIntS.l0])
    revert HA; refine aoR ?_; intro H; simp only [laws_eqIntS.l0] at H; revert H
    refine ifB (fun c4 => ?_) (fun c4 => ?_)
    · intro H; have c4b0 := decide_eq_true c4; clear c4; revert H; refine ifR fun c5 => ?_; intro H; have c5b0 := decide_eq_true c5; clear c5; revert H; refine ifR fun c6 => ?_; intro H; have c6b0 := decide_eq_true c6; clear c6; revert H
      refine ifB (fun c7 => ?_) (fun c7 => ?_)
      · intro H; have c7b0 := beq_iff_eq.mpr c7; have c7b1 := bne_eq_false_iff_eq.mpr c7; clear c7; revert H; refine adR fun H' => ?_; have p101 : 0 ≤ (x5_1 : Int) := bD; have q101 : x5_1 < (l0.length : Int) := bD; obtain ⟨ad101, e101, hx101_0⟩ := Kd.at_int HR0.out x5_1 p101 q101; cases e101; replace p101 := eq_true p101; replace q101 := eq_true q101; have p102 : 0 ≤ (x5_1 : Int) := bD; have q102 : x5_1 < (l1.length : Int) := bD; obtain ⟨ad102, e102, hx102_0⟩ := Kd.at_int HR1.out x5_1 p102 q102; cases e102; replace p102 := eq_true p102; replace q102 := eq_true q102; go_wp2
        repeat (go_quiet (fail); try go_wp2)
        go_roundg k1
        case measure => have := HK1.out; omega
        case rel => exact ⟨(wrap64 (x5_1 + 1)), eQ, H', ⟨by have := HK1.out; omega⟩, dQ⟩
      · intro H; have c7b0 := beq_eq_false_iff_ne.mpr c7; have c7b1 := bne_iff_ne.mpr c7; obtain rfl := Option.some.inj H; have p101 : 0 ≤ (x5_1 : Int) := bD; have q101 : x5_1 < (l0.length : Int) := bD; obtain ⟨ad101, e101, hx101_0⟩ := Kd.at_int HR0.out x5_1 p101 q101; cases e101; replace p101 := eq_true p101; replace q101 := eq_true q101; have p102 : 0 ≤ (x5_1 : Int) := bD; have q102 : x5_1 < (l1.length : Int) := bD; obtain ⟨ad102, e102, hx102_0⟩ := Kd.at_int HR1.out x5_1 p102 q102; cases e102; replace p102 := eq_true p102; replace q102 := eq_true q102; go_wp2
        repeat (go_quiet (fail); try go_wp2)
        go_ret; exact ⟨eQ, dQ⟩
    · intro H; have c4b0 := decide_eq_false c4; clear c4; obtain rfl := Option.some.inj H; go_wp2
      repeat (go_quiet (fail); try go_wp2)
      go_ret; exact ⟨eQ, dQ⟩
 · intro H; have c3b0 := beq_eq_false_iff_ne.mpr c3; have c3b1 := bne_iff_ne.mpr c3; have c3b2 : (l0.length == l1.length) = false := by first | simpa using c3 | (simp at c3 ⊢; omega)
   obtain rfl := Option.some.inj H; go_enter Try.func68, Try.ntmps68; go_wp2
   repeat (go_quiet (fail); try go_wp2)
   go_ret; exact ⟨eQ, dQ⟩

/-! ### laws_eqRaster: function 17 -/
def laws_eqRaster.f (k : Nat) (a0_0 : Int) (a0_1 : Int) (a0_2 : Int) (a0_3 : Int) (l0_4 : List Int) (a1_0 : Int) (a1_1 : Int) (a1_2 : Int) (a1_3 : Int) (l1_4 : List Int) : Option (Bool) := if a0_0 = a1_0 then (if a0_1 = a1_1 then (if a0_2 = a1_2 then (if a0_3 = a1_3 then ((laws_eqIntS.f k l0_4 l1_4).bind fun t105 => (if t105 = true then (some true) else (some false))) else (some false)) else (some false)) else (some false)) else (some false)
set_option maxHeartbeats 8000000 in
set_option maxRecDepth 100000 in
theorem laws_eqRaster.calls (k : Nat) (a0_0 : Int) (a0_1 : Int) (a0_2 : Int) (a0_3 : Int) (A0_4 : Option Addr) (c0_4 : Nat) (l0_4 : List Int) (a1_0 : Int) (a1_1 : Int) (a1_2 : Int) (a1_3 : Int) (A1_4 : Option Addr) (c1_4 : Nat) (l1_4 : List Int) (r : Bool) (w : World) (hr0_4 : Kd.C (Kd.int .i64) w A0_4 l0_4.length l0_4) (hc0_4 : l0_4.length ≤ c0_4) (hr1_4 : Kd.C (Kd.int .i64) w A1_4 l1_4.length l1_4) (hc1_4 : l1_4.length ≤ c1_4) (h : laws_eqRaster.f k a0_0 a0_1 a0_2 a0_3 l0_4 a1_0 a1_1 a1_2 a1_3 l1_4 = some r) :
 Calls Try.prog 17 #[.agg #[.int .i64 a0_0, .int .i64 a0_1, .int .i64 a0_2, .int .i64 a0_3, .slice A0_4 l0_4.length c0_4], .agg #[.int .i64 a1_0, .int .i64 a1_1, .int .i64 a1_2, .int .i64 a1_3, .slice A1_4 l1_4.length c1_4]] w fun e w' => e = .returned (.bool r) ∧ Below w.heap.size w w' := by
 have hu29 := Try.underlying29; have HR0_4 := aM hr0_4; have HC0_4 := aM hc0_4; clear hr0_4 hc0_4; have HR1_4 := aM hr1_4; have HC1_4 := aM hc1_4; clear hr1_4 hc1_4; have HB := aM (Below.refl w.heap.size w); unfold laws_eqRaster.f at h; have H := h; clear h; revert H
 refine ifB (fun c3 => ?_) (fun c3 => ?_)
 · intro H; have c3b0 := beq_iff_eq.mpr c3; have c3b1 := bne_eq_false_iff_eq.mpr c3; clear c3; revert H
   refine ifB (fun c4 => ?_) (fun c4 => ?_)
   · intro H; have c4b0 := beq_iff_eq.mpr c4; have c4b1 := bne_eq_false_iff_eq.mpr c4; clear c4; revert H
     refine ifB (fun c5 => ?_) (fun c5 => ?_)
     · intro H; have c5b0 := beq_iff_eq.mpr c5; have c5b1 := bne_eq_false_iff_eq.mpr c5; clear c5; revert H
       refine ifB (fun c6 => ?_) (fun c6 => ?_)
       · intro H; have c6b0 := beq_iff_eq.mpr c6; have c6b1 := bne_eq_false_iff_eq.mpr c6; clear c6; revert H; refine bdR fun t105 A7 => ?_
         refine ifB (fun c8 => ?_) (fun c8 => ?_)
         · intro H; subst c8; obtain rfl := Option.some.inj H; go_enter Try.func17, Try.ntmps17
           go_wp2_with (first | ((with_reducible refine gD 2 ?_); refine bE 2 #[.int .i64 a0_0, .int .i64 a0_1, .int .i64 a0_2, .int .i64 a0_3, .slice A0_4 l0_4.length c0_4] 29 ?_; intro gb103 hg w9 hbox hb; have BK103 := aM (hbox); have GW103 := aM ((sZ hg : w.heap.size ≤ gb103)); have GE103 := aM ((sZ hg : w.heap.size ≤ gb103)); replace HB := aM (below_step hB hb); clear hb hbox hg) | ((with_reducible refine gD 3 ?_); refine bE 3 #[.int .i64 a1_0, .int .i64 a1_1, .int .i64 a1_2, .int .i64 a1_3, .slice A1_4 l1_4.length c1_4] 29 ?_; intro gb104 hg w10 hbox hb; have BK104 := aM (hbox); have GW104 := aM ((sZ hg : w.heap.size ≤ gb104)); have GE104 := aM ((sZ hg : w.heap.size ≤ gb104)); replace HB := aM (below_step hB hb); have NB103_104 := aM ((nL BK103 hg : gb103 ≠ gb104)); have NB104_103 := aM ((nG BK103 hg : gb104 ≠ gb103)); replace BK103 := aM (blk_below (g := gb103) (o := .cells #[.int .i64 a0_0, .int .i64 a0_1, .int .i64 a0_2, .int .i64 a0_3, .slice A0_4 l0_4.length c0_4] 29 (0, 0)) (bI BK103.out) hb); clear hb hbox hg; have hnb11 := NB103_104.out; have hnc11 := NB104_103.out; obtain ⟨hcz12_0, hcz12_1, hcz12_2, hcz12_3, hcz12_4⟩ := blk_c5 BK103.out; obtain ⟨hfz12_0, hfz12_1, hfz12_2, hfz12_3, hfz12_4⟩ := blk_f5 BK103.out; obtain ⟨hcz13_0, hcz13_1, hcz13_2, hcz13_3, hcz13_4⟩ := blk_c5 BK104.out; obtain ⟨hfz13_0, hfz13_1, hfz13_2, hfz13_3, hfz13_4⟩ := blk_f5 BK104.out) | ((with_reducible refine gC 68 ?_); refine gL (some 29) Try.func68 #[.slice A0_4 l0_4.length c0_4, .slice A1_4 l1_4.length c1_4] ?_; (with_reducible refine (laws_eqIntS.calls k _ _ l0_4 _ _ l1_4 true _ ?side1 ?side2 ?side3 ?side4 A7.out).mono ?_); (case side1 => repeat (first | exact (Kd.C_below HR0_4.out HB.out) | (with_reducible refine Kd.C_alloc ?_ _) | (with_reducible refine Kd.C_drewN ?_ _) | (with_reducible refine Kd.C_drew ?_))); (case side2 => exact HC0_4.out); (case side3 => repeat (first | exact (Kd.C_below HR1_4.out HB.out) | (with_reducible refine Kd.C_alloc ?_ _) | (with_reducible refine Kd.C_drewN ?_ _) | (with_reducible refine Kd.C_drew ?_))); (case side4 => exact HC1_4.out); rintro e w' ⟨rfl, ⟨nd, rfl⟩⟩; refine ⟨_, rfl, ?_⟩)); go_ret; exact ⟨eE, hB⟩
         · intro H; replace c8 := Bool.eq_false_iff.mpr c8; subst c8; obtain rfl := Option.some.inj H; go_enter Try.func17, Try.ntmps17
           go_wp2_with (first | ((with_reducible refine gD 2 ?_); refine bE 2 #[.int .i64 a0_0, .int .i64 a0_1, .int .i64 a0_2, .int .i64 a0_3, .slice A0_4 l0_4.length c0_4] 29 ?_; intro gb103 hg w14 hbox hb; have BK103 := aM (hbox); have GW103 := aM ((sZ hg : w.heap.size ≤ gb103)); have GE103 := aM ((sZ hg : w.heap.size ≤ gb103)); replace HB := aM (below_step hB hb); clear hb hbox hg) | ((with_reducible refine gD 3 ?_); refine bE 3 #[.int .i64 a1_0, .int .i64 a1_1, .int .i64 a1_2, .int .i64 a1_3, .slice A1_4 l1_4.length c1_4] 29 ?_; intro gb104 hg w15 hbox hb; have BK104 := aM (hbox); have GW104 := aM ((sZ hg : w.heap.size ≤ gb104)); have GE104 := aM ((sZ hg : w.heap.size ≤ gb104)); replace HB := aM (below_step hB hb); have NB103_104 := aM ((nL BK103 hg : gb103 ≠ gb104)); have NB104_103 := aM ((nG BK103 hg : gb104 ≠ gb103)); replace BK103 := aM (blk_below (g := gb103) (o := .cells #[.int .i64 a0_0, .int .i64 a0_1, .int .i64 a0_2, .int .i64 a0_3, .slice A0_4 l0_4.length c0_4] 29 (0, 0)) (bI BK103.out) hb); clear hb hbox hg; have hnb16 := NB103_104.out; have hnc16 := NB104_103.out; obtain ⟨hcz17_0, hcz17_1, hcz17_2, hcz17_3, hcz17_4⟩ := blk_c5 BK103.out; obtain ⟨hfz17_0, hfz17_1, hfz17_2, hfz17_3, hfz17_4⟩ := blk_f5 BK103.out; obtain ⟨hcz18_0, hcz18_1, hcz18_2, hcz18_3, hcz18_4⟩ := blk_c5 BK104.out; obtain ⟨hfz18_0, hfz18_1, hfz18_2, hfz18_3, hfz18_4⟩ := blk_f5 BK104.out) | ((with_reducible refine gC 68 ?_); refine gL (some 29) Try.func68 #[.slice A0_4 l0_4.length c0_4, .slice A1_4 l1_4.length c1_4] ?_; (with_reducible refine (laws_eqIntS.calls k _ _ l0_4 _ _ l1_4 false _ ?side1 ?side2 ?side3 ?side4 A7.out).mono ?_); (case side1 => repeat (first | exact (Kd.C_below HR0_4.out HB.out) | (with_reducible refine Kd.C_alloc ?_ _) | (with_reducible refine Kd.C_drewN ?_ _) | (with_reducible refine Kd.C_drew ?_))); (case side2 => exact HC0_4.out); (case side3 => repeat (first | exact (Kd.C_below HR1_4.out HB.out) | (with_reducible refine Kd.C_alloc ?_ _) | (with_reducible refine Kd.C_drewN ?_ _) | (with_reducible refine Kd.C_drew ?_))); (case side4 => exact HC1_4.out); rintro e w' ⟨rfl, ⟨nd, rfl⟩⟩; refine ⟨_, rfl, ?_⟩)); go_ret; exact ⟨eE, hB⟩
       · intro H; have c6b0 := beq_eq_false_iff_ne.mpr c6; have c6b1 := bne_iff_ne.mpr c6; obtain rfl := Option.some.inj H; go_enter Try.func17, Try.ntmps17
         go_wp2_with (first | ((with_reducible refine gD 2 ?_); refine bE 2 #[.int .i64 a0_0, .int .i64 a0_1, .int .i64 a0_2, .int .i64 a0_3, .slice A0_4 l0_4.length c0_4] 29 ?_; intro gb103 hg w19 hbox hb; have BK103 := aM (hbox); have GW103 := aM ((sZ hg : w.heap.size ≤ gb103)); have GE103 := aM ((sZ hg : w.heap.size ≤ gb103)); replace HB := aM (below_step hB hb); clear hb hbox hg) | ((with_reducible refine gD 3 ?_); refine bE 3 #[.int .i64 a1_0, .int .i64 a1_1, .int .i64 a1_2, .int .i64 a1_3, .slice A1_4 l1_4.length c1_4] 29 ?_; intro gb104 hg w20 hbox hb; have BK104 := aM (hbox); have GW104 := aM ((sZ hg : w.heap.size ≤ gb104)); have GE104 := aM ((sZ hg : w.heap.size ≤ gb104)); replace HB := aM (below_step hB hb); have NB103_104 := aM ((nL BK103 hg : gb103 ≠ gb104)); have NB104_103 := aM ((nG BK103 hg : gb104 ≠ gb103)); replace BK103 := aM (blk_below (g := gb103) (o := .cells #[.int .i64 a0_0, .int .i64 a0_1, .int .i64 a0_2, .int .i64 a0_3, .slice A0_4 l0_4.length c0_4] 29 (0, 0)) (bI BK103.out) hb); clear hb hbox hg; have hnb21 := NB103_104.out; have hnc21 := NB104_103.out; obtain ⟨hcz22_0, hcz22_1, hcz22_2, hcz22_3, hcz22_4⟩ := blk_c5 BK103.out; obtain ⟨hfz22_0, hfz22_1, hfz22_2, hfz22_3, hfz22_4⟩ := blk_f5 BK103.out; obtain ⟨hcz23_0, hcz23_1, hcz23_2, hcz23_3, hcz23_4⟩ := blk_c5 BK104.out; obtain ⟨hfz23_0, hfz23_1, hfz23_2, hfz23_3, hfz23_4⟩ := blk_f5 BK104.out)); go_ret; exact ⟨eE, hB⟩
     · intro H; have c5b0 := beq_eq_false_iff_ne.mpr c5; have c5b1 := bne_iff_ne.mpr c5; obtain rfl := Option.some.inj H; go_enter Try.func17, Try.ntmps17
       go_wp2_with (first | ((with_reducible refine gD 2 ?_); refine bE 2 #[.int .i64 a0_0, .int .i64 a0_1, .int .i64 a0_2, .int .i64 a0_3, .slice A0_4 l0_4.length c0_4] 29 ?_; intro gb103 hg w24 hbox hb; have BK103 := aM (hbox); have GW103 := aM ((sZ hg : w.heap.size ≤ gb103)); have GE103 := aM ((sZ hg : w.heap.size ≤ gb103)); replace HB := aM (below_step hB hb); clear hb hbox hg) | ((with_reducible refine gD 3 ?_); refine bE 3 #[.int .i64 a1_0, .int .i64 a1_1, .int .i64 a1_2, .int .i64 a1_3, .slice A1_4 l1_4.length c1_4] 29 ?_; intro gb104 hg w25 hbox hb; have BK104 := aM (hbox); have GW104 := aM ((sZ hg : w.heap.size ≤ gb104)); have GE104 := aM ((sZ hg : w.heap.size ≤ gb104)); replace HB := aM (below_step hB hb); have NB103_104 := aM ((nL BK103 hg : gb103 ≠ gb104)); have NB104_103 := aM ((nG BK103 hg : gb104 ≠ gb103)); replace BK103 := aM (blk_below (g := gb103) (o := .cells #[.int .i64 a0_0, .int .i64 a0_1, .int .i64 a0_2, .int .i64 a0_3, .slice A0_4 l0_4.length c0_4] 29 (0, 0)) (bI BK103.out) hb); clear hb hbox hg; have hnb26 := NB103_104.out; have hnc26 := NB104_103.out; obtain ⟨hcz27_0, hcz27_1, hcz27_2, hcz27_3, hcz27_4⟩ := blk_c5 BK103.out; obtain ⟨hfz27_0, hfz27_1, hfz27_2, hfz27_3, hfz27_4⟩ := blk_f5 BK103.out; obtain ⟨hcz28_0, hcz28_1, hcz28_2, hcz28_3, hcz28_4⟩ := blk_c5 BK104.out; obtain ⟨hfz28_0, hfz28_1, hfz28_2, hfz28_3, hfz28_4⟩ := blk_f5 BK104.out)); go_ret; exact ⟨eE, hB⟩
   · intro H; have c4b0 := beq_eq_false_iff_ne.mpr c4; have c4b1 := bne_iff_ne.mpr c4; obtain rfl := Option.some.inj H; go_enter Try.func17, Try.ntmps17
     go_wp2_with (first | ((with_reducible refine gD 2 ?_); refine bE 2 #[.int .i64 a0_0, .int .i64 a0_1, .int .i64 a0_2, .int .i64 a0_3, .slice A0_4 l0_4.length c0_4] 29 ?_; intro gb103 hg w29 hbox hb; have BK103 := aM (hbox); have GW103 := aM ((sZ hg : w.heap.size ≤ gb103)); have GE103 := aM ((sZ hg : w.heap.size ≤ gb103)); replace HB := aM (below_step hB hb); clear hb hbox hg) | ((with_reducible refine gD 3 ?_); refine bE 3 #[.int .i64 a1_0, .int .i64 a1_1, .int .i64 a1_2, .int .i64 a1_3, .slice A1_4 l1_4.length c1_4] 29 ?_; intro gb104 hg w30 hbox hb; have BK104 := aM (hbox); have GW104 := aM ((sZ hg : w.heap.size ≤ gb104)); have GE104 := aM ((sZ hg : w.heap.size ≤ gb104)); replace HB := aM (below_step hB hb); have NB103_104 := aM ((nL BK103 hg : gb103 ≠ gb104)); have NB104_103 := aM ((nG BK103 hg : gb104 ≠ gb103)); replace BK103 := aM (blk_below (g := gb103) (o := .cells #[.int .i64 a0_0, .int .i64 a0_1, .int .i64 a0_2, .int .i64 a0_3, .slice A0_4 l0_4.length c0_4] 29 (0, 0)) (bI BK103.out) hb); clear hb hbox hg; have hnb31 := NB103_104.out; have hnc31 := NB104_103.out; obtain ⟨hcz32_0, hcz32_1, hcz32_2, hcz32_3, hcz32_4⟩ := blk_c5 BK103.out; obtain ⟨hfz32_0, hfz32_1, hfz32_2, hfz32_3, hfz32_4⟩ := blk_f5 BK103.out; obtain ⟨hcz33_0, hcz33_1, hcz33_2, hcz33_3, hcz33_4⟩ := blk_c5 BK104.out; obtain ⟨hfz33_0, hfz33_1, hfz33_2, hfz33_3, hfz33_4⟩ := blk_f5 BK104.out)); go_ret; exact ⟨eE, hB⟩
 · intro H; have c3b0 := beq_eq_false_iff_ne.mpr c3; have c3b1 := bne_iff_ne.mpr c3; obtain rfl := Option.some.inj H; go_enter Try.func17, Try.ntmps17
   go_wp2_with (first | ((with_reducible refine gD 2 ?_); refine bE 2 #[.int .i64 a0_0, .int .i64 a0_1, .int .i64 a0_2, .int .i64 a0_3, .slice A0_4 l0_4.length c0_4] 29 ?_; intro gb103 hg w34 hbox hb; have BK103 := aM (hbox); have GW103 := aM ((sZ hg : w.heap.size ≤ gb103)); have GE103 := aM ((sZ hg : w.heap.size ≤ gb103)); replace HB := aM (below_step hB hb); clear hb hbox hg) | ((with_reducible refine gD 3 ?_); refine bE 3 #[.int .i64 a1_0, .int .i64 a1_1, .int .i64 a1_2, .int .i64 a1_3, .slice A1_4 l1_4.length c1_4] 29 ?_; intro gb104 hg w35 hbox hb; have BK104 := aM (hbox); have GW104 := aM ((sZ hg : w.heap.size ≤ gb104)); have GE104 := aM ((sZ hg : w.heap.size ≤ gb104)); replace HB := aM (below_step hB hb); have NB103_104 := aM ((nL BK103 hg : gb103 ≠ gb104)); have NB104_103 := aM ((nG BK103 hg : gb104 ≠ gb103)); replace BK103 := aM (blk_below (g := gb103) (o := .cells #[.int .i64 a0_0, .int .i64 a0_1, .int .i64 a0_2, .int .i64 a0_3, .slice A0_4 l0_4.length c0_4] 29 (0, 0)) (bI BK103.out) hb); clear hb hbox hg; have hnb36 := NB103_104.out; have hnc36 := NB104_103.out; obtain ⟨hcz37_0, hcz37_1, hcz37_2, hcz37_3, hcz37_4⟩ := blk_c5 BK103.out; obtain ⟨hfz37_0, hfz37_1, hfz37_2, hfz37_3, hfz37_4⟩ := blk_f5 BK103.out; obtain ⟨hcz38_0, hcz38_1, hcz38_2, hcz38_3, hcz38_4⟩ := blk_c5 BK104.out; obtain ⟨hfz38_0, hfz38_1, hfz38_2, hfz38_3, hfz38_4⟩ := blk_f5 BK104.out)); go_ret; exact ⟨eE, hB⟩

/-! ### laws_markIntS: function 69 -/
def laws_markIntS.l0 : Nat → List Int → Int → Int → Option (Int × List Int)
  | 0, _, _, _ => none
  | k + 1, x0, x1, x5 => if x5 < (x0.length : Int) then (if 0 ≤ x5 then (laws_markIntS.l0 k (x0.set (x5 : Int).toNat x1) (wrap64 (x1 + 1)) (wrap64 (x5 + 1))) else (none)) else (some (x1, x0))
def laws_markIntS.f (k : Nat) (l0 : List Int) (a1 : Int) : Option (Int × List Int) := laws_markIntS.l0 k l0 a1 0
set_option maxHeartbeats 8000000 in
set_option maxRecDepth 100000 in
theorem laws_markIntS.calls (k : Nat) (P0_ : Nat → Prop) (u9000_ : Value) (l0 : List Int) (a1 : Int) (r1 : Int) (r2 : List Int) (w0 w : World) (hB : Below w0.heap.size w0 w) (ho0 : Kd.R (Kd.int .i64) 3 w w0.heap.size P0_ u9000_ l0) (h : laws_markIntS.f k l0 a1 = some (r1, r2)) :
 Calls Try.prog 69 #[u9000_, .int .i64 a1] w fun e w' => e = .returned (.int .i64 r1) ∧ Kd.R (Kd.int .i64) 3 w' w0.heap.size (fun k_ => (P0_ k_ ∨ w.heap.size ≤ k_)) u9000_ r2 ∧ Below w0.heap.size w0 w' ∧ Kept w w' (fun k_ => P0_ k_) := by
 have HO0 := aM (show Kd.R (Kd.int .i64) 3 w w0.heap.size (fun k_ => (P0_ k_ ∨ w.heap.size ≤ k_)) u9000_ l0 from Kd.R_mono ho0 (fun k_ hk => (.inl hk))); have HK := aM (Kept.refl w (fun k_ => P0_ k_)); have HW0 := aM hB.size; have HB := aM hB; clear hB; have H : (laws_markIntS.l0 k l0 a1 0) = some (r1, r2) := h; clear h; revert H; refine adR fun H' => ?_; go_enter Try.func69, Try.ntmps69; go_wp2
 go_loopg [1, 5] k (fun kq v1 v5 w' => ∃ (x0_1 : List Int) (x1_1 : Int) (x5_1 : Int), v1 = .int .i64 x1_1 ∧ v5 = .int .i64 x5_1 ∧ Aside0 (laws_markIntS.l0 kq x0_1 x1_1 x5_1 = some (r1, r2)) ∧ Aside0 (kq ≤ k) ∧ Aside0 (Kd.R (Kd.int .i64) 3 w' w0.heap.size (fun k_ => (P0_ k_ ∨ w.heap.size ≤ k_)) u9000_ x0_1) ∧ Aside0 (Kept w w' (fun k_ => P0_ k_)) ∧ Aside0 (Below w0.heap.size w0 w'))
 case atStart => exact ⟨(l0), (a1), (0), eQ, eQ, H', ⟨Nat.le_refl _⟩, ⟨Kd.R_i HO0.out⟩, ⟨by repeat (first | (with_reducible first | exact HK.out | apply Kept.alloc | apply Kept.drewN | apply Kept.drew) | exact HK.out)⟩, ⟨hB⟩⟩
 case round =>
  clear H'; (try clear p2); obtain ⟨x0_1, x1_1, x5_1, rfl, rfl, HA, HK1, HO_0, HK, HB⟩ := hrel; rcases gk with _ | k1
  · exact absurd HA.out (by simp [laws_markIntS.l0])
  revert HA; refine aoR ?_; intro H; simp only [laws_markIntS.l0] at H; revert H
  refine ifB (fun c3 => ?_) (fun c3 => ?_)
  · intro H; have c3b0 := decide_eq_true c3; clear c3; revert H; refine ifR fun c4 => ?_; intro H; have c4b0 := decide_eq_true c4; clear c4; obtain ⟨y106, hy106⟩ : ∃ y_ : List Int, y_ = (x0_1.set (x5_1 : Int).toNat x1_1) := ⟨_, rfl⟩; replace H : (laws_markIntS.l0 k1 y106 (wrap64 (x1_1 + 1)) (wrap64 (x5_1 + 1))) = some (r1, r2) := by first | (rw [hy106]; with_reducible exact H) | (have H2_ := (Option.bind_some _ _).symm.trans H; rw [hy106]; with_reducible exact H2_) | (have H2_ := (Option.bind_some _ _).symm.trans H; with_reducible exact H2_) | with_reducible exact H | (rw [hy106]; exact H) | exact H
    have Ny106 := aM hy106; clear hy106; revert H; refine adR fun H' => ?_; obtain ⟨Ao6, co6, eo6⟩ := Kd.R_slice HO_0.out; subst eo6; have p5 : 0 ≤ (x5_1 : Int) := bD; have q5 : (x5_1 : Int) < ((x0_1.length : Int) : Int) := bD; obtain ⟨go5, co5, eo5, gb5, gl5, cl5, HG5⟩ := Kd.R_form HO_0.out (by omega)
    (first | cases eo5 | (injection eo5 with ea_ en_ ec_; (first | subst ea_ | (injection ea_ with ea_; subst ea_)); subst ec_; clear en_)); have GB5 := aM gb5; have GG5 := aM HG5; clear gb5 gl5 HG5; have HMgo5 := aM (show (P0_ go5 ∨ w.heap.size ≤ go5) from (HO_0.out.1 _ rfl)); obtain ⟨hx5_0, hf5_0⟩ := Kd.R_celln 0 HO_0.out (x5_1 : Int) p5 q5; replace p5 := eq_true p5; replace q5 := eq_true q5; have HP7 := Kd.R_putg HO_0.out (x5_1 : Int) x1_1
    go_wp2_with (first | ((with_reducible refine gate_store (t := 3) (p := 15) rfl ?_); refine store_event (t := 3) (p := 15) (v := ?vo_w8) (w1 := (wr.setCell ⟨go5, (x5_1 : Int).toNat, none⟩ (.int .i64 x1_1))) ?hg ?ho ?hn ?hr ?_; (case ho => rfl); (case hg => rfl); (case hn => rfl); (case hr => first | (go_simp; done) | (go_simp; rfl)); intro w8 hw; have hg : wr.grownBy w8 (some go5) := (by rw [hw]; exact HP7.2); have hp_ : Kd.R (Kd.int .i64) 3 w8 w0.heap.size (fun k_ => (P0_ k_ ∨ w.heap.size ≤ k_)) (.slice (some ⟨go5, 0, none⟩) x0_1.length co6) y106 := (by rw [hw, Ny106.out]; exact HP7.1); clear HP7; replace HB := aM ((by rw [hw]; exact below_set (HB.out) GB5.out : Below w0.heap.size w0 w8)); replace HK := aM (Kept.of_grown (S := (fun k_ => P0_ k_)) hg (by repeat (first | (with_reducible first | exact HK.out | apply Kept.alloc | apply Kept.drewN | apply Kept.drew) | exact HK.out)) (fun k_ e_ => (HO_0.out.1 k_ e_))); replace HO_0 := aM (hp_); clear hg hw hp_)); go_roundg k1
    case measure => have := HK1.out; omega
    case rel => exact ⟨(y106), (wrap64 (x1_1 + 1)), (wrap64 (x5_1 + 1)), eQ, eQ, H', ⟨by have := HK1.out; omega⟩, ⟨Kd.R_i HO_0.out⟩, ⟨by repeat (first | (with_reducible first | exact HK.out | apply Kept.alloc | apply Kept.drewN | apply Kept.drew) | exact HK.out)⟩, ⟨hB⟩⟩
  · intro H; have c3b0 := decide_eq_false c3; clear c3; simp only [Option.some.injEq, Prod.mk.injEq] at H; obtain ⟨rfl, rfl⟩ := H; obtain ⟨Ao9, co9, eo9⟩ := Kd.R_slice HO_0.out; subst eo9; go_wp2; go_ret; exact ⟨eE, Kd.R_i HO_0.out, hB, by repeat (first | (with_reducible first | exact HK.out | apply Kept.alloc | apply Kept.drewN | apply Kept.drew) | exact HK.out)⟩

/-! ### laws_markRaster: function 18 -/
def laws_markRaster.f (k : Nat) (a0_0 : Int) (a0_1 : Int) (a0_2 : Int) (a0_3 : Int) (l0_4 : List Int) (a1 : Int) : Option (Int × List Int) := (laws_markIntS.f k l0_4 a1).bind fun bt108 => (some (bt108.1, bt108.2))
set_option maxHeartbeats 8000000 in
set_option maxRecDepth 100000 in
theorem laws_markRaster.calls (k : Nat) (a0_0 : Int) (a0_1 : Int) (a0_2 : Int) (a0_3 : Int) (P0_4_ : Nat → Prop) (u9000_ : Value) (l0_4 : List Int) (a1 : Int) (r1 : Int) (r2 : List Int) (w0 w : World) (hB : Below w0.heap.size w0 w) (ho0_4 : Kd.R (Kd.int .i64) 3 w w0.heap.size P0_4_ u9000_ l0_4) (h : laws_markRaster.f k a0_0 a0_1 a0_2 a0_3 l0_4 a1 = some (r1, r2)) :
 Calls Try.prog 18 #[.agg #[.int .i64 a0_0, .int .i64 a0_1, .int .i64 a0_2, .int .i64 a0_3, u9000_], .int .i64 a1] w fun e w' => e = .returned (.int .i64 r1) ∧ Kd.R (Kd.int .i64) 3 w' w0.heap.size (fun k_ => (P0_4_ k_ ∨ w.heap.size ≤ k_)) u9000_ r2 ∧ Below w0.heap.size w0 w' ∧ Kept w w' (fun k_ => P0_4_ k_) := by
 have hu29 := Try.underlying29; have HO0_4 := aM (show Kd.R (Kd.int .i64) 3 w w0.heap.size (fun k_ => (P0_4_ k_ ∨ w.heap.size ≤ k_)) u9000_ l0_4 from Kd.R_mono ho0_4 (fun k_ hk => (.inl hk))); have HK := aM (Kept.refl w (fun k_ => P0_4_ k_)); have HW0 := aM hB.size; have HB := aM hB; clear hB; have H : ((laws_markIntS.f k l0_4 a1).bind fun bt108 => (some (bt108.1, bt108.2))) = some (r1, r2) := h; clear h; revert H; refine bdR fun ⟨t108, t109⟩ A3 => ?_; intro H
 try dsimp only at H
 simp only [Option.some.injEq, Prod.mk.injEq] at H; obtain ⟨rfl, rfl⟩ := H; obtain ⟨Ao4, co4, eo4⟩ := Kd.R_slice HO0_4.out; subst eo4; go_enter Try.func18, Try.ntmps18
 go_wp2_with (first | ((with_reducible refine gD 2 ?_); refine bE 2 #[.int .i64 a0_0, .int .i64 a0_1, .int .i64 a0_2, .int .i64 a0_3, .slice Ao4 l0_4.length co4] 29 ?_; intro gb107 hg w5 hbox hb; replace HO0_4 := aM (Kd.R_below (Kd.R_i HO0_4.out) hb); have BK107 := aM (hbox); have GW107 := aM ((by rw [hg]; exact (by first | exact HK.out.1 | exact (show Kept w _ (fun k_ => P0_4_ k_) from by repeat (first | (with_reducible first | exact HK.out | apply Kept.alloc | apply Kept.drewN | apply Kept.drew) | exact HK.out)).1) : w.heap.size ≤ gb107)); replace HK := aM (Kept.below (S := (fun k_ => P0_4_ k_)) (by repeat (first | (with_reducible first | exact HK.out | apply Kept.alloc | apply Kept.drewN | apply Kept.drew) | exact HK.out)) hb); have GE107 := aM ((sZ hg : w0.heap.size ≤ gb107)); replace HB := aM (below_step hB hb); clear hb hbox hg; obtain ⟨hcz6_0, hcz6_1, hcz6_2, hcz6_3, hcz6_4⟩ := blk_c5 BK107.out; obtain ⟨hfz6_0, hfz6_1, hfz6_2, hfz6_3, hfz6_4⟩ := blk_f5 BK107.out) | ((with_reducible refine gC 69 ?_); refine gL (some 8) Try.func69 #[.slice Ao4 l0_4.length co4, .int .i64 a1] ?_; (with_reducible refine (laws_markIntS.calls k (fun k_ => some k_ = (.slice Ao4 l0_4.length co4 : Value).ownBlock) (.slice Ao4 l0_4.length co4) l0_4 a1 t108 t109 w0 _ ?side1 ?side2 A3.out).mono ?_); (case side1 => exact hB); (case side2 => exact Kd.R_tight rfl HO0_4.out); rintro e w7 ⟨rfl, hy0, hb, hkp⟩; refine ⟨_, rfl, ?_⟩; replace BK107 := aM (blk_kept (bI BK107.out) hkp (fun hs_ => (fun e_ => (Kd.R_ne HO0_4.out BK107.out (by decide)) e_) hs_)); replace HK := aM (Kept.then_ (S := (fun k_ => P0_4_ k_)) (by repeat (first | (with_reducible first | exact HK.out | apply Kept.alloc | apply Kept.drewN | apply Kept.drew | refine Kept.setCell ?_ (.inr GW107.out) _) | exact HK.out)) hkp (fun k_ hs_ => (fun e_ => (HO0_4.out.1 k_ e_.symm)) hs_)); replace HO0_4 := aM (Kd.R_reok rfl hy0 (fun k_ e_ => HO0_4.out.1 k_ e_)); replace HB := aM (hb); (try clear hb); (try clear hkp); (try clear hy0))); go_ret; exact ⟨eE, Kd.R_i HO0_4.out, hB, by repeat (first | (with_reducible first | exact HK.out | apply Kept.alloc | apply Kept.drewN | apply Kept.drew | refine Kept.setCell ?_ (.inr GW107.out) _) | exact HK.out)⟩

/-! ### laws_heldIntS: function 70 -/
def laws_heldIntS.l0 : Nat → List Int → Int → Int → Option (Int)
  | 0, _, _, _ => none
  | k + 1, x0, x1, x5 => if x5 < (x0.length : Int) then (if 0 ≤ x5 then (if (rd x0 x5) = x1 then (laws_heldIntS.l0 k x0 (wrap64 (x1 + 1)) (wrap64 (x5 + 1))) else (some (-1))) else (none)) else (some x1)
def laws_heldIntS.f (k : Nat) (l0 : List Int) (a1 : Int) : Option (Int) := laws_heldIntS.l0 k l0 a1 0
set_option maxHeartbeats 8000000 in
set_option maxRecDepth 100000 in
theorem laws_heldIntS.calls (k : Nat) (A0 : Option Addr) (c0 : Nat) (l0 : List Int) (a1 : Int) (r : Int) (w : World) (hr0 : Kd.C (Kd.int .i64) w A0 l0.length l0) (hc0 : l0.length ≤ c0) (h : laws_heldIntS.f k l0 a1 = some r) :
 Calls Try.prog 70 #[.slice A0 l0.length c0, .int .i64 a1] w fun e w' => e = .returned (.int .i64 r) ∧ Drawn0 w w' := by
 have HR0 := aM hr0; have HC0 := aM hc0; clear hr0 hc0; have H : (laws_heldIntS.l0 k l0 a1 0) = some r := h; clear h; revert H; refine adR fun H' => ?_; go_enter Try.func70, Try.ntmps70; go_wp2
 go_loopg [1, 5] k (fun kq v1 v5 w' => ∃ (x1_1 : Int) (x5_1 : Int), v1 = .int .i64 x1_1 ∧ v5 = .int .i64 x5_1 ∧ Aside0 (laws_heldIntS.l0 kq l0 x1_1 x5_1 = some r) ∧ Aside0 (kq ≤ k) ∧ Drawn0 w w')
 case atStart => exact ⟨(a1), (0), eQ, eQ, H', ⟨Nat.le_refl _⟩, dQ⟩
 case round =>
  clear H'; (try clear p2); obtain ⟨x1_1, x5_1, rfl, rfl, HA, HK1, ⟨m1, rfl⟩⟩ := hrel; rcases gk with _ | k1
  · exact absurd HA.out (by simp [laws_heldIntS.l0])
  revert HA; refine aoR ?_; intro H; simp only [laws_heldIntS.l0] at H; revert H
  refine ifB (fun c3 => ?_) (fun c3 => ?_)
  · intro H; have c3b0 := decide_eq_true c3; clear c3; revert H; refine ifR fun c4 => ?_; intro H; have c4b0 := decide_eq_true c4; clear c4; revert H
    refine ifB (fun c5 => ?_) (fun c5 => ?_)
    · intro H; have c5b0 := beq_iff_eq.mpr c5; have c5b1 := bne_eq_false_iff_eq.mpr c5; clear c5; revert H; refine adR fun H' => ?_; have p110 : 0 ≤ (x5_1 : Int) := bD; have q110 : x5_1 < (l0.length : Int) := bD; obtain ⟨ad110, e110, hx110_0⟩ := Kd.at_int HR0.out x5_1 p110 q110; cases e110; replace p110 := eq_true p110; replace q110 := eq_true q110; go_wp2; go_roundg k1
      case measure => have := HK1.out; omega
      case rel => exact ⟨(wrap64 (x1_1 + 1)), (wrap64 (x5_1 + 1)), eQ, eQ, H', ⟨by have := HK1.out; omega⟩, dQ⟩
    · intro H; have c5b0 := beq_eq_false_iff_ne.mpr c5; have c5b1 := bne_iff_ne.mpr c5; obtain rfl := Option.some.inj H; have p110 : 0 ≤ (x5_1 : Int) := bD; have q110 : x5_1 < (l0.length : Int) := bD; obtain ⟨ad110, e110, hx110_0⟩ := Kd.at_int HR0.out x5_1 p110 q110; cases e110; replace p110 := eq_true p110; replace q110 := eq_true q110; go_wp2; go_ret; exact ⟨eQ, dQ⟩
  · intro H; have c3b0 := decide_eq_false c3; clear c3; obtain rfl := Option.some.inj H; go_wp2; go_ret; exact ⟨eQ, dQ⟩

/-! ### laws_heldRaster: function 38 -/
def laws_heldRaster.f (k : Nat) (a0_0 : Int) (a0_1 : Int) (a0_2 : Int) (a0_3 : Int) (l0_4 : List Int) (a1 : Int) : Option (Int) := (laws_heldIntS.f k l0_4 a1).bind fun t112 => (if t112 < 0 then (some (-1)) else (some t112))
set_option maxHeartbeats 8000000 in
set_option maxRecDepth 100000 in
theorem laws_heldRaster.calls (k : Nat) (a0_0 : Int) (a0_1 : Int) (a0_2 : Int) (a0_3 : Int) (A0_4 : Option Addr) (c0_4 : Nat) (l0_4 : List Int) (a1 : Int) (r : Int) (w : World) (hr0_4 : Kd.C (Kd.int .i64) w A0_4 l0_4.length l0_4) (hc0_4 : l0_4.length ≤ c0_4) (h : laws_heldRaster.f k a0_0 a0_1 a0_2 a0_3 l0_4 a1 = some r) :
 Calls Try.prog 38 #[.agg #[.int .i64 a0_0, .int .i64 a0_1, .int .i64 a0_2, .int .i64 a0_3, .slice A0_4 l0_4.length c0_4], .int .i64 a1] w fun e w' => e = .returned (.int .i64 r) ∧ Below w.heap.size w w' := by
 have hu29 := Try.underlying29; have HR0_4 := aM hr0_4; have HC0_4 := aM hc0_4; clear hr0_4 hc0_4; have HB := aM (Below.refl w.heap.size w); have H : ((laws_heldIntS.f k l0_4 a1).bind fun t112 => (if t112 < 0 then (some (-1)) else (some t112))) = some r := h; clear h; revert H; refine bdR fun t112 A3 => ?_
 refine ifB (fun c4 => ?_) (fun c4 => ?_)
 · intro H; have c4b0 := decide_eq_true c4; clear c4; obtain rfl := Option.some.inj H; go_enter Try.func38, Try.ntmps38
   go_wp2_with (first | ((with_reducible refine gD 2 ?_); refine bE 2 #[.int .i64 a0_0, .int .i64 a0_1, .int .i64 a0_2, .int .i64 a0_3, .slice A0_4 l0_4.length c0_4] 29 ?_; intro gb111 hg w5 hbox hb; have BK111 := aM (hbox); have GW111 := aM ((sZ hg : w.heap.size ≤ gb111)); have GE111 := aM ((sZ hg : w.heap.size ≤ gb111)); replace HB := aM (below_step hB hb); clear hb hbox hg; obtain ⟨hcz6_0, hcz6_1, hcz6_2, hcz6_3, hcz6_4⟩ := blk_c5 BK111.out; obtain ⟨hfz6_0, hfz6_1, hfz6_2, hfz6_3, hfz6_4⟩ := blk_f5 BK111.out) | ((with_reducible refine gC 70 ?_); refine gL (some 8) Try.func70 #[.slice A0_4 l0_4.length c0_4, .int .i64 a1] ?_; (with_reducible refine (laws_heldIntS.calls k _ _ l0_4 a1 t112 _ ?side1 ?side2 A3.out).mono ?_); (case side1 => repeat (first | exact (Kd.C_below HR0_4.out HB.out) | (with_reducible refine Kd.C_alloc ?_ _) | (with_reducible refine Kd.C_drewN ?_ _) | (with_reducible refine Kd.C_drew ?_))); (case side2 => exact HC0_4.out); rintro e w' ⟨rfl, ⟨nd, rfl⟩⟩; refine ⟨_, rfl, ?_⟩)); go_ret; exact ⟨eE, hB⟩
 · intro H; have c4b0 := decide_eq_false c4; clear c4; obtain rfl := Option.some.inj H; go_enter Try.func38, Try.ntmps38
   go_wp2_with (first | ((with_reducible refine gD 2 ?_); refine bE 2 #[.int .i64 a0_0, .int .i64 a0_1, .int .i64 a0_2, .int .i64 a0_3, .slice A0_4 l0_4.length c0_4] 29 ?_; intro gb111 hg w7 hbox hb; have BK111 := aM (hbox); have GW111 := aM ((sZ hg : w.heap.size ≤ gb111)); have GE111 := aM ((sZ hg : w.heap.size ≤ gb111)); replace HB := aM (below_step hB hb); clear hb hbox hg; obtain ⟨hcz8_0, hcz8_1, hcz8_2, hcz8_3, hcz8_4⟩ := blk_c5 BK111.out; obtain ⟨hfz8_0, hfz8_1, hfz8_2, hfz8_3, hfz8_4⟩ := blk_f5 BK111.out) | ((with_reducible refine gC 70 ?_); refine gL (some 8) Try.func70 #[.slice A0_4 l0_4.length c0_4, .int .i64 a1] ?_; (with_reducible refine (laws_heldIntS.calls k _ _ l0_4 a1 t112 _ ?side1 ?side2 A3.out).mono ?_); (case side1 => repeat (first | exact (Kd.C_below HR0_4.out HB.out) | (with_reducible refine Kd.C_alloc ?_ _) | (with_reducible refine Kd.C_drewN ?_ _) | (with_reducible refine Kd.C_drew ?_))); (case side2 => exact HC0_4.out); rintro e w' ⟨rfl, ⟨nd, rfl⟩⟩; refine ⟨_, rfl, ?_⟩)); go_ret; exact ⟨eE, hB⟩

/-! ### impl_ChannelsOf: function 65 -/
def impl_ChannelsOf.j0 : Nat → Int → Bool → Option (Int)
  | 0, _, _ => none
  | k + 1, x3, x4 => if x4 = true then (some 1) else (if x3 = 4 then (some 2) else (if x3 = 2 then (some 3) else (if x3 = 6 then (some 4) else (some 0))))
def impl_ChannelsOf.f (k : Nat) (a0 : Int) : Option (Int) := if a0 = 0 then (impl_ChannelsOf.j0 k a0 (a0 == 0)) else (impl_ChannelsOf.j0 k a0 (a0 == 3))
set_option maxHeartbeats 8000000 in
set_option maxRecDepth 100000 in
theorem impl_ChannelsOf.calls (k : Nat) (a0 : Int) (r : Int) (w : World) (h : impl_ChannelsOf.f k a0 = some r) :
 Calls Try.prog 65 #[.int .i64 a0] w fun e w' => e = .returned (.int .i64 r) ∧ Drawn0 w w' := by
 have H : (if a0 = 0 then (impl_ChannelsOf.j0 k a0 (a0 == 0)) else (impl_ChannelsOf.j0 k a0 (a0 == 3))) = some r := h; clear h; revert H; refine adR fun HC2 => ?_; go_enter Try.func65, Try.ntmps65
 go_upto_if 4 with (fail)
 go_cut [4] (fun v4 wc => ∃ (kq : Nat) (x4_1 : Bool), v4 = .bool x4_1 ∧ Aside0 (impl_ChannelsOf.j0 kq a0 x4_1 = some r) ∧ Aside0 (kq ≤ k) ∧ Drawn0 w wc)
 case first =>
  revert HC2; refine aoR ?_
  refine ifB (fun c3 => ?_) (fun c3 => ?_)
  · intro H; have c3b0 := beq_iff_eq.mpr c3; have c3b1 := bne_eq_false_iff_eq.mpr c3; clear c3
    (first | rw [c3b0] | (simp only [i64_w, i32_w]; rw [c3b0]) | skip); revert H; refine adR fun H' => ?_; go_wp2; go_meet
    case rel => exact ⟨_, ((a0 == 0)), eQ, H', ⟨lE⟩, dQ⟩
  · intro H; have c3b0 := beq_eq_false_iff_ne.mpr c3; have c3b1 := bne_iff_ne.mpr c3
    (first | rw [c3b0] | (simp only [i64_w, i32_w]; rw [c3b0]) | skip); revert H; refine adR fun H' => ?_; go_wp2; go_meet
    case rel => exact ⟨_, ((a0 == 3)), eQ, H', ⟨lE⟩, dQ⟩
 case rest =>
  clear HC2; (try clear p2); (try clear c3); (try clear c3b0); (try clear c3b1); obtain ⟨kq, x4_1, rfl, HA, HJ1, ⟨mc1, rfl⟩⟩ := hcut; rcases kq with _ | kj1
  · exact absurd HA.out (by simp [impl_ChannelsOf.j0])
  revert HA; refine aoR ?_; intro H; simp only [impl_ChannelsOf.j0] at H; revert H
  refine ifB (fun c4 => ?_) (fun c4 => ?_)
  · intro H; subst c4; obtain rfl := Option.some.inj H; go_wp2; go_ret; exact ⟨eQ, dQ⟩
  · intro H; replace c4 := Bool.eq_false_iff.mpr c4; subst c4; revert H
    refine ifB (fun c5 => ?_) (fun c5 => ?_)
    · intro H; have c5b0 := beq_iff_eq.mpr c5; have c5b1 := bne_eq_false_iff_eq.mpr c5; clear c5; obtain rfl := Option.some.inj H; go_wp2; go_ret; exact ⟨eQ, dQ⟩
    · intro H; have c5b0 := beq_eq_false_iff_ne.mpr c5; have c5b1 := bne_iff_ne.mpr c5; revert H
      refine ifB (fun c6 => ?_) (fun c6 => ?_)
      · intro H; have c6b0 := beq_iff_eq.mpr c6; have c6b1 := bne_eq_false_iff_eq.mpr c6; clear c6; obtain rfl := Option.some.inj H; go_wp2; go_ret; exact ⟨eQ, dQ⟩
      · intro H; have c6b0 := beq_eq_false_iff_ne.mpr c6; have c6b1 := bne_iff_ne.mpr c6; revert H
        refine ifB (fun c7 => ?_) (fun c7 => ?_)
        · intro H; have c7b0 := beq_iff_eq.mpr c7; have c7b1 := bne_eq_false_iff_eq.mpr c7; clear c7; obtain rfl := Option.some.inj H; go_wp2; go_ret; exact ⟨eQ, dQ⟩
        · intro H; have c7b0 := beq_eq_false_iff_ne.mpr c7; have c7b1 := bne_iff_ne.mpr c7; obtain rfl := Option.some.inj H; go_wp2; go_ret; exact ⟨eQ, dQ⟩

/-! ### impl_within: function 82 -/
def impl_within.f (a0 : Int) (a1 : Int) (a2 : Int) : Option (Bool) := if a0 ≥ a1 then (some (decide (a0 ≤ a2))) else (some false)
set_option maxHeartbeats 8000000 in
set_option maxRecDepth 100000 in
theorem impl_within.calls (a0 : Int) (a1 : Int) (a2 : Int) (r : Bool) (w : World) (h : impl_within.f a0 a1 a2 = some r) :
 Calls Try.prog 82 #[.int .i64 a0, .int .i64 a1, .int .i64 a2] w fun e w' => e = .returned (.bool r) ∧ Drawn0 w w' := by
 have H : (if a0 ≥ a1 then (some (decide (a0 ≤ a2))) else (some false)) = some r := h; clear h; revert H
 refine ifB (fun c4 => ?_) (fun c4 => ?_)
 · intro H; have c4b0 := decide_eq_true c4; clear c4; obtain rfl := Option.some.inj H; go_enter Try.func82, Try.ntmps82; go_wp2; go_ret; exact ⟨eQ, dQ⟩
 · intro H; have c4b0 := decide_eq_false c4; clear c4; obtain rfl := Option.some.inj H; go_enter Try.func82, Try.ntmps82; go_wp2; go_ret; exact ⟨eQ, dQ⟩

/-! ### impl_isSide: function 92 -/
def impl_isSide.f (a0 : Int) : Option (Bool) := (impl_within.f a0 1 24).bind fun t113 => (some t113)
set_option maxHeartbeats 8000000 in
set_option maxRecDepth 100000 in
theorem impl_isSide.calls (a0 : Int) (r : Bool) (w : World) (h : impl_isSide.f a0 = some r) :
 Calls Try.prog 92 #[.int .i64 a0] w fun e w' => e = .returned (.bool r) ∧ Drawn0 w w' := by
 have H : ((impl_within.f a0 1 24).bind fun t113 => (some t113)) = some r := h; clear h; revert H; refine bdR fun t113 A2 => ?_; intro H; obtain rfl := Option.some.inj H; go_enter Try.func92, Try.ntmps92
 go_wp2_with (first | ((with_reducible refine gC 82 ?_); refine gL (some 4) Try.func82 #[.int .i64 a0, .int .i64 1, .int .i64 24] ?_; (with_reducible refine (impl_within.calls a0 1 24 t113 _ A2.out).mono ?_); rintro e w' ⟨rfl, ⟨nd, rfl⟩⟩; refine ⟨_, rfl, ?_⟩)); go_ret; exact ⟨eQ, dQ⟩

/-! ### impl_isDepth: function 164 -/
def impl_isDepth.f (a0 : Int) : Option (Bool) := if a0 = 1 then (some true) else (if a0 = 2 then (some true) else (if a0 = 4 then (some true) else (if a0 = 8 then (some true) else (some (a0 == 16)))))
set_option maxHeartbeats 8000000 in
set_option maxRecDepth 100000 in
theorem impl_isDepth.calls (a0 : Int) (r : Bool) (w : World) (h : impl_isDepth.f a0 = some r) :
 Calls Try.prog 164 #[.int .i64 a0] w fun e w' => e = .returned (.bool r) ∧ Drawn0 w w' := by
 have H : (if a0 = 1 then (some true) else (if a0 = 2 then (some true) else (if a0 = 4 then (some true) else (if a0 = 8 then (some true) else (some (a0 == 16)))))) = some r := h; clear h; revert H
 refine ifB (fun c2 => ?_) (fun c2 => ?_)
 · intro H; have c2b0 := beq_iff_eq.mpr c2; have c2b1 := bne_eq_false_iff_eq.mpr c2; clear c2; obtain rfl := Option.some.inj H; go_enter Try.func164, Try.ntmps164; go_wp2; go_ret; exact ⟨eQ, dQ⟩
 · intro H; have c2b0 := beq_eq_false_iff_ne.mpr c2; have c2b1 := bne_iff_ne.mpr c2; revert H
   refine ifB (fun c3 => ?_) (fun c3 => ?_)
   · intro H; have c3b0 := beq_iff_eq.mpr c3; have c3b1 := bne_eq_false_iff_eq.mpr c3; clear c3; obtain rfl := Option.some.inj H; go_enter Try.func164, Try.ntmps164; go_wp2; go_ret; exact ⟨eQ, dQ⟩
   · intro H; have c3b0 := beq_eq_false_iff_ne.mpr c3; have c3b1 := bne_iff_ne.mpr c3; revert H
     refine ifB (fun c4 => ?_) (fun c4 => ?_)
     · intro H; have c4b0 := beq_iff_eq.mpr c4; have c4b1 := bne_eq_false_iff_eq.mpr c4; clear c4; obtain rfl := Option.some.inj H; go_enter Try.func164, Try.ntmps164; go_wp2; go_ret; exact ⟨eQ, dQ⟩
     · intro H; have c4b0 := beq_eq_false_iff_ne.mpr c4; have c4b1 := bne_iff_ne.mpr c4; revert H
       refine ifB (fun c5 => ?_) (fun c5 => ?_)
       · intro H; have c5b0 := beq_iff_eq.mpr c5; have c5b1 := bne_eq_false_iff_eq.mpr c5; clear c5; obtain rfl := Option.some.inj H; go_enter Try.func164, Try.ntmps164; go_wp2; go_ret; exact ⟨eQ, dQ⟩
       · intro H; have c5b0 := beq_eq_false_iff_ne.mpr c5; have c5b1 := bne_iff_ne.mpr c5; obtain rfl := Option.some.inj H; go_enter Try.func164, Try.ntmps164; go_wp2; go_ret; exact ⟨eQ, dQ⟩

end Go.Proofs.Ytajnobmnkbkkgaa.PFnExactScanRead
