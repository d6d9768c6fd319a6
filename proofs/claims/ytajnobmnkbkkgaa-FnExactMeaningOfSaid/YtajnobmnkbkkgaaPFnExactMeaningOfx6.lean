/- Walks of functions that the law FnExactMeaningOf reaches: each call comes to what the Lean function of its name tells. Written by p2.py, a program of this session, by way of the kit's print. -/
import Derived.Test.YtajnobmnkbkkgaaVFnExactMeaningOf
import Derived.Test.YtajnobmnkbkkgaaPFnExactMeaningOfx0
import Derived.Test.YtajnobmnkbkkgaaPFnExactMeaningOfx3
import Derived.Test.YtajnobmnkbkkgaaPFnExactMeaningOfx4
namespace Go.Proofs.Ytajnobmnkbkkgaa.PFnExactMeaningOf
open Go.RowKit Go.Proofs.YtajnobmnkbkkgaaW.PrintWords Go.Proofs.YtajnobmnkbkkgaaW.PrintLast Go.Proofs.YtajnobmnkbkkgaaW.PrintMore
attribute [local go_sem] max2_int min2_int max_two min_two max_three min_three max_four min_four   -- for this text's walks alone
set_option linter.unusedVariables false
set_option linter.unusedSimpArgs false

/-! ### spec_l17Depth: function 146 -/
def spec_l17Depth.f (a0_0 : Int) (a0_1 : Int) (a0_2 : Int) (a0_3 : Int) (a0_4 : Bool) : Option (Int) := (spec_l01In.f a0_2 0 16).bind fun t208 => (if t208 = true then (some a0_2) else (some 0))
set_option maxHeartbeats 8000000 in
set_option maxRecDepth 100000 in
theorem spec_l17Depth.calls (a0_0 : Int) (a0_1 : Int) (a0_2 : Int) (a0_3 : Int) (a0_4 : Bool) (r : Int) (w : World) (h : spec_l17Depth.f a0_0 a0_1 a0_2 a0_3 a0_4 = some r) :
 Calls Try.prog 146 #[.agg #[.int .i64 a0_0, .int .i64 a0_1, .int .i64 a0_2, .int .i64 a0_3, .bool a0_4]] w fun e w' => e = .returned (.int .i64 r) ∧ Below w.heap.size w w' := by
 have hu39 := Try.underlying39; have HB := aM (Below.refl w.heap.size w); have H : ((spec_l01In.f a0_2 0 16).bind fun t208 => (if t208 = true then (some a0_2) else (some 0))) = some r := h; clear h; revert H; refine bdR fun t208 A2 => ?_
 refine ifB (fun c3 => ?_) (fun c3 => ?_)
 · intro H; subst c3; obtain rfl := Option.some.inj H; go_enter Try.func146, Try.ntmps146
   go_wp2_with (first | ((with_reducible refine gD 1 ?_); refine bE 1 #[.int .i64 a0_0, .int .i64 a0_1, .int .i64 a0_2, .int .i64 a0_3, .bool a0_4] 39 ?_; intro gb207 hg w4 hbox hb; have BK207 := aM hbox; have GW207 := aM (sZ hg); have GE207 := GW207; replace HB := hS hb; clear hb hbox hg; have hz5 := bz5 BK207) | ((with_reducible refine gC 129 ?_); refine gL (some 5) Try.func129 #[.int .i64 a0_2, .int .i64 0, .int .i64 16] ?_; (with_reducible refine (spec_l01In.calls a0_2 0 16 true _ A2.out).mono ?_); rintro e w' ⟨rfl, ⟨nd, rfl⟩⟩; refine ⟨_, rfl, ?_⟩)); go_ret; exact ⟨eE, hB⟩
 · intro H; replace c3 := Bool.eq_false_iff.mpr c3; subst c3; obtain rfl := Option.some.inj H; go_enter Try.func146, Try.ntmps146
   go_wp2_with (first | ((with_reducible refine gD 1 ?_); refine bE 1 #[.int .i64 a0_0, .int .i64 a0_1, .int .i64 a0_2, .int .i64 a0_3, .bool a0_4] 39 ?_; intro gb207 hg w6 hbox hb; have BK207 := aM hbox; have GW207 := aM (sZ hg); have GE207 := GW207; replace HB := hS hb; clear hb hbox hg; have hz7 := bz5 BK207) | ((with_reducible refine gC 129 ?_); refine gL (some 5) Try.func129 #[.int .i64 a0_2, .int .i64 0, .int .i64 16] ?_; (with_reducible refine (spec_l01In.calls a0_2 0 16 false _ A2.out).mono ?_); rintro e w' ⟨rfl, ⟨nd, rfl⟩⟩; refine ⟨_, rfl, ?_⟩)); go_ret; exact ⟨eE, hB⟩

/-! ### spec_ClearOk: function 86 -/
mutual
def spec_ClearOk.j0 : Nat → List Int → Int → Int → Option (Bool)
  | 0, _, _, _ => none
  | k + 1, x2, x7, x8 => if (x2.length : Int) = 0 then (some true) else (spec_ClearOk.l0 k x2 x7 x8 0)
def spec_ClearOk.l0 : Nat → List Int → Int → Int → Int → Option (Bool)
  | 0, _, _, _, _ => none
  | k + 1, x2, x7, x8, x9 => if x9 < (x2.length : Int) then (if 0 ≤ x9 then ((spec_l01In.f (rd x2 x9) 0 x7).bind fun t215 => (if t215 = true then (spec_ClearOk.l0 k x2 x7 x8 (wrap64 (x9 + 1))) else (some false))) else (none)) else (some ((x2.length : Int) == x8))
end
def spec_ClearOk.f (k : Nat) (a0_0 : Int) (a0_1 : Int) (a0_2 : Int) (a0_3 : Int) (a0_4 : Bool) (a1 : Int) (l2 : List Int) : Option (Bool) := if a0_3 = 0 then ((spec_l17Depth.f a0_0 a0_1 a0_2 a0_3 a0_4).bind fun t210 => ((spec_l01Pow.f k t210).bind fun t211 => (spec_ClearOk.j0 k l2 (wrap64 (t211 - 1)) 1))) else (if a0_3 = 2 then ((spec_l17Depth.f a0_0 a0_1 a0_2 a0_3 a0_4).bind fun t212 => ((spec_l01Pow.f k t212).bind fun t213 => (spec_ClearOk.j0 k l2 (wrap64 (t213 - 1)) 3))) else (if a0_3 = 3 then (if (l2.length : Int) > a1 then (some false) else (spec_ClearOk.j0 k l2 255 (l2.length : Int))) else (spec_ClearOk.j0 k l2 0 0)))
set_option maxHeartbeats 8000000 in
set_option maxRecDepth 100000 in
theorem spec_ClearOk.calls (k : Nat) (a0_0 : Int) (a0_1 : Int) (a0_2 : Int) (a0_3 : Int) (a0_4 : Bool) (a1 : Int) (A2 : Option Addr) (c2 : Nat) (l2 : List Int) (r : Bool) (w : World) (hr2 : Kd.C (Kd.int .i64) w A2 l2.length l2) (hc2 : l2.length ≤ c2) (h : spec_ClearOk.f k a0_0 a0_1 a0_2 a0_3 a0_4 a1 l2 = some r) :
 Calls Try.prog 86 #[.agg #[.int .i64 a0_0, .int .i64 a0_1, .int .i64 a0_2, .int .i64 a0_3, .bool a0_4], .int .i64 a1, .slice A2 l2.length c2] w fun e w' => e = .returned (.bool r) ∧ Below w.heap.size w w' := by
 have hu39 := Try.underlying39; have HR2 := aM hr2; have HC2 := aM hc2; clear hr2 hc2; have HB := aM (Below.refl w.heap.size w); unfold spec_ClearOk.f at h; have H := h; clear h; revert H; refine adR fun HC4 => ?_; go_enter Try.func86, Try.ntmps86
 go_upto_block 0 with (first | ((with_reducible refine gD 3 ?_); refine bE 3 #[.int .i64 a0_0, .int .i64 a0_1, .int .i64 a0_2, .int .i64 a0_3, .bool a0_4] 39 ?_; intro gb209 hg w5 hbox hb; have BK209 := aM hbox; have GW209 := aM (sZ hg); have GE209 := GW209; replace HB := hS hb; clear hb hbox hg; have hz6 := bz5 BK209))
 (try simp only [Act.put, List.setIfInBounds_toArray, List.set_cons_zero, List.set_cons_succ])
 go_cut [7, 8] (fun v7 v8 wc => ∃ (kq : Nat) (x7_3 : Int) (x8_3 : Int), v7 = .int .i64 x7_3 ∧ v8 = .int .i64 x8_3 ∧ Aside0 (spec_ClearOk.j0 kq l2 x7_3 x8_3 = some r) ∧ Aside0 (kq ≤ k) ∧ Aside0 (wc.heap[gb209]? = some (.cells #[.int .i64 a0_0, .int .i64 a0_1, .int .i64 a0_2, .int .i64 a0_3, .bool a0_4] 39 (0, 0))) ∧ Aside0 (Below w.heap.size w wc))
 case first =>
  revert HC4; refine aoR ?_
  refine ifB (fun c7 => ?_) (fun c7 => ?_)
  · intro H; have c7b0 := beq_iff_eq.mpr c7; have c7b1 := bne_eq_false_iff_eq.mpr c7; clear c7
    (first | rw [c7b0] | (simp only [i64_w, i32_w]; rw [c7b0]) | skip); revert H; refine bdR fun t210 A8 => ?_; refine bdR fun t211 A9 => ?_; refine adR fun H' => ?_; have hz10 := bz5 BK209
    go_wp2_with (first | ((with_reducible refine gC 146 ?_); refine gL (some 15) Try.func146 #[.agg #[.int .i64 a0_0, .int .i64 a0_1, .int .i64 a0_2, .int .i64 a0_3, .bool a0_4]] ?_; (with_reducible refine (spec_l17Depth.calls a0_0 a0_1 a0_2 a0_3 a0_4 t210 _ A8.out).mono ?_); rintro e w11 ⟨rfl, hb⟩; refine ⟨_, rfl, ?_⟩; replace BK209 := bW BK209 hb; replace HB := hS hb; clear hb) | ((with_reducible refine gC 99 ?_); refine gL (some 16) Try.func99 #[.int .i64 t210] ?_; (with_reducible refine (spec_l01Pow.calls k t210 t211 _ A9.out).mono ?_); rintro e w' ⟨rfl, ⟨nd, rfl⟩⟩; refine ⟨_, rfl, ?_⟩)); go_meet
    case rel => exact ⟨_, (wrap64 (t211 - 1)), (1), eQ, eQ, H', ⟨lE⟩, ⟨bI BK209.out⟩, ⟨hB⟩⟩
  · intro H; have c7b0 := beq_eq_false_iff_ne.mpr c7; have c7b1 := bne_iff_ne.mpr c7
    (first | rw [c7b0] | (simp only [i64_w, i32_w]; rw [c7b0]) | skip); revert H
    refine ifB (fun c12 => ?_) (fun c12 => ?_)
    · intro H; have c12b0 := beq_iff_eq.mpr c12; have c12b1 := bne_eq_false_iff_eq.mpr c12; clear c12; revert H; refine bdR fun t212 A13 => ?_; refine bdR fun t213 A14 => ?_; refine adR fun H' => ?_; have hz15 := bz5 BK209
      go_wp2_with (first | ((with_reducible refine gC 146 ?_); refine gL (some 21) Try.func146 #[.agg #[.int .i64 a0_0, .int .i64 a0_1, .int .i64 a0_2, .int .i64 a0_3, .bool a0_4]] ?_; (with_reducible refine (spec_l17Depth.calls a0_0 a0_1 a0_2 a0_3 a0_4 t212 _ A13.out).mono ?_); rintro e w16 ⟨rfl, hb⟩; refine ⟨_, rfl, ?_⟩; replace BK209 := bW BK209 hb; replace HB := hS hb; clear hb) | ((with_reducible refine gC 99 ?_); refine gL (some 22) Try.func99 #[.int .i64 t212] ?_; (with_reducible refine (spec_l01Pow.calls k t212 t213 _ A14.out).mono ?_); rintro e w' ⟨rfl, ⟨nd, rfl⟩⟩; refine ⟨_, rfl, ?_⟩)); go_meet
      case rel => exact ⟨_, (wrap64 (t213 - 1)), (3), eQ, eQ, H', ⟨lE⟩, ⟨bI BK209.out⟩, ⟨hB⟩⟩
    · intro H; have c12b0 := beq_eq_false_iff_ne.mpr c12; have c12b1 := bne_iff_ne.mpr c12; revert H
      refine ifB (fun c17 => ?_) (fun c17 => ?_)
      · intro H; have c17b0 := beq_iff_eq.mpr c17; have c17b1 := bne_eq_false_iff_eq.mpr c17; clear c17; revert H
        refine ifB (fun c18 => ?_) (fun c18 => ?_)
        · intro H; have c18b0 := decide_eq_true c18; clear c18; obtain rfl := Option.some.inj H; go_wp2; go_ret; exact ⟨eE, hB⟩
        · intro H; have c18b0 := decide_eq_false c18; clear c18; revert H; refine adR fun H' => ?_; go_wp2; go_meet
          case rel => exact ⟨_, (255), ((l2.length : Int)), eQ, eQ, H', ⟨lE⟩, ⟨bI BK209.out⟩, ⟨hB⟩⟩
      · intro H; have c17b0 := beq_eq_false_iff_ne.mpr c17; have c17b1 := bne_iff_ne.mpr c17; revert H; refine adR fun H' => ?_; go_wp2; go_meet
        case rel => exact ⟨_, (0), (0), eQ, eQ, H', ⟨lE⟩, ⟨bI BK209.out⟩, ⟨hB⟩⟩
 case rest =>
  clear HC4; (try clear c1); (try clear c2); (try clear p2); (try clear c5); (try clear p6); (try clear c7); (try clear c7b0); (try clear c7b1); (try clear c8); (try clear c9); (try clear c12); (try clear c12b0); (try clear c12b1); (try clear c14); (try clear c17); (try clear c17b0); (try clear c17b1); (try clear c18); (try clear c18b0); (try clear hz10); (try clear hz15); (try clear hz6); obtain ⟨kq, x7_3, x8_3, rfl, rfl, HA, HJ3, BK209, HB⟩ := hcut; rcases kq with _ | kj3
  · exact absurd HA.out (by simp [spec_ClearOk.j0])
  revert HA; refine aoR ?_; intro H; simp only [spec_ClearOk.j0] at H; revert H
  refine ifB (fun c19 => ?_) (fun c19 => ?_)
  · intro H; have c19b0 := beq_iff_eq.mpr c19; have c19b1 := bne_eq_false_iff_eq.mpr c19; clear c19; obtain rfl := Option.some.inj H; go_wp2; go_ret; exact ⟨eE, hB⟩
  · intro H; have c19b0 := beq_eq_false_iff_ne.mpr c19; have c19b1 := bne_iff_ne.mpr c19; have c19b2 : ¬ (l2 = []) := fun h_ => c19 (by rw [h_]; rfl)
    revert H; refine adR fun H' => ?_; go_wp2
    go_loopg [9] kj3 (fun kq v9 w' => ∃ (x9_2 : Int), v9 = .int .i64 x9_2 ∧ Aside0 (spec_ClearOk.l0 kq l2 x7_3 x8_3 x9_2 = some r) ∧ Aside0 (kq ≤ kj3) ∧ Aside0 (w'.heap[gb209]? = some (.cells #[.int .i64 a0_0, .int .i64 a0_1, .int .i64 a0_2, .int .i64 a0_3, .bool a0_4] 39 (0, 0))) ∧ Aside0 (Below w.heap.size w w'))
    case atStart => exact ⟨(0), eQ, H', ⟨Nat.le_refl _⟩, ⟨bI BK209.out⟩, ⟨hB⟩⟩
    case round =>
     clear H'; (try clear c1); (try clear c2); (try clear p2); (try clear c5); (try clear p6); (try clear c7); (try clear c7b0); (try clear c7b1); (try clear c8); (try clear c9); (try clear c12); (try clear c12b0); (try clear c12b1); (try clear c14); (try clear c17); (try clear c17b0); (try clear c17b1); (try clear c18); (try clear c18b0); (try clear c19); (try clear c19b0); (try clear c19b1); (try clear c19b2); (try clear hz10); (try clear hz15); (try clear hz6); obtain ⟨x9_2, rfl, HA, HK2, BK209, HB⟩ := hrel; rcases gk with _ | k2
     · exact absurd HA.out (by simp [spec_ClearOk.l0])
     revert HA; refine aoR ?_; intro H; simp only [spec_ClearOk.l0] at H; revert H
     refine ifB (fun c20 => ?_) (fun c20 => ?_)
     · intro H; have c20b0 := decide_eq_true c20; clear c20; revert H; refine ifR fun c21 => ?_; intro H; have c21b0 := decide_eq_true c21; clear c21; revert H; refine bdR fun t215 A22 => ?_
       refine ifB (fun c23 => ?_) (fun c23 => ?_)
       · intro H; subst c23; revert H; refine adR fun H' => ?_; have p214 : 0 ≤ (x9_2 : Int) := bD; have q214 : x9_2 < (l2.length : Int) := bD; obtain ⟨ad214, e214, hx214_0⟩ := Kd.at_int HR2.out x9_2 p214 q214; cases e214; replace hx214_0 := cB0 HB hx214_0; replace p214 := eq_true p214; replace q214 := eq_true q214
         go_wp2_with (first | ((with_reducible refine gC 129 ?_); refine gL (some 45) Try.func129 #[.int .i64 (rd l2 x9_2), .int .i64 0, .int .i64 x7_3] ?_; (with_reducible refine (spec_l01In.calls (rd l2 x9_2) 0 x7_3 true _ A22.out).mono ?_); rintro e w' ⟨rfl, ⟨nd, rfl⟩⟩; refine ⟨_, rfl, ?_⟩)); go_roundg k2
         case measure => have := HJ3.out; have := HK2.out; omega
         case rel => exact ⟨(wrap64 (x9_2 + 1)), eQ, H', ⟨by have := HJ3.out; have := HK2.out; omega⟩, ⟨bI BK209.out⟩, ⟨hB⟩⟩
       · intro H; replace c23 := Bool.eq_false_iff.mpr c23; subst c23; obtain rfl := Option.some.inj H; have p214 : 0 ≤ (x9_2 : Int) := bD; have q214 : x9_2 < (l2.length : Int) := bD; obtain ⟨ad214, e214, hx214_0⟩ := Kd.at_int HR2.out x9_2 p214 q214; cases e214; replace hx214_0 := cB0 HB hx214_0; replace p214 := eq_true p214; replace q214 := eq_true q214
         go_wp2_with (first | ((with_reducible refine gC 129 ?_); refine gL (some 45) Try.func129 #[.int .i64 (rd l2 x9_2), .int .i64 0, .int .i64 x7_3] ?_; (with_reducible refine (spec_l01In.calls (rd l2 x9_2) 0 x7_3 false _ A22.out).mono ?_); rintro e w' ⟨rfl, ⟨nd, rfl⟩⟩; refine ⟨_, rfl, ?_⟩)); go_ret; exact ⟨eE, hB⟩
     · intro H; have c20b0 := decide_eq_false c20; clear c20; obtain rfl := Option.some.inj H; go_wp2; go_ret; exact ⟨eE, hB⟩

/-! ### spec_l16Letter: function 192 -/
def spec_l16Letter.f (a0 : Int) : Option (Bool) := if a0 ≥ 65 then (if a0 ≤ 90 then (some true) else (if a0 ≥ 97 then (some (decide (a0 ≤ 122))) else (some false))) else (if a0 ≥ 97 then (some (decide (a0 ≤ 122))) else (some false))
set_option maxHeartbeats 8000000 in
set_option maxRecDepth 100000 in
theorem spec_l16Letter.calls (a0 : Int) (r : Bool) (w : World) (h : spec_l16Letter.f a0 = some r) :
 Calls Try.prog 192 #[.int .u8 a0] w fun e w' => e = .returned (.bool r) ∧ Drawn0 w w' := by
 have H : (if a0 ≥ 65 then (if a0 ≤ 90 then (some true) else (if a0 ≥ 97 then (some (decide (a0 ≤ 122))) else (some false))) else (if a0 ≥ 97 then (some (decide (a0 ≤ 122))) else (some false))) = some r := h; clear h; revert H
 refine ifB (fun c2 => ?_) (fun c2 => ?_)
 · intro H; have c2b0 := decide_eq_true c2; clear c2; revert H
   refine ifB (fun c3 => ?_) (fun c3 => ?_)
   · intro H; have c3b0 := decide_eq_true c3; clear c3; obtain rfl := Option.some.inj H; go_enter Try.func192, Try.ntmps192; go_wp2; go_ret; exact ⟨eQ, dQ⟩
   · intro H; have c3b0 := decide_eq_false c3; clear c3; revert H
     refine ifB (fun c4 => ?_) (fun c4 => ?_)
     · intro H; have c4b0 := decide_eq_true c4; clear c4; obtain rfl := Option.some.inj H; go_enter Try.func192, Try.ntmps192; go_wp2; go_ret; exact ⟨eQ, dQ⟩
     · intro H; have c4b0 := decide_eq_false c4; clear c4; obtain rfl := Option.some.inj H; go_enter Try.func192, Try.ntmps192; go_wp2; go_ret; exact ⟨eQ, dQ⟩
 · intro H; have c2b0 := decide_eq_false c2; clear c2; revert H
   refine ifB (fun c5 => ?_) (fun c5 => ?_)
   · intro H; have c5b0 := decide_eq_true c5; clear c5; obtain rfl := Option.some.inj H; go_enter Try.func192, Try.ntmps192; go_wp2; go_ret; exact ⟨eQ, dQ⟩
   · intro H; have c5b0 := decide_eq_false c5; clear c5; obtain rfl := Option.some.inj H; go_enter Try.func192, Try.ntmps192; go_wp2; go_ret; exact ⟨eQ, dQ⟩

/-! ### spec_NameOk: function 178 -/
def spec_NameOk.f (a0 : ByteArray) : Option (Bool) := if (a0.size : Int) = 4 then (if 0 < (a0.size : Int) then ((spec_l16Letter.f (bt a0 0)).bind fun t216 => (if t216 = true then (if 1 < (a0.size : Int) then ((spec_l16Letter.f (bt a0 1)).bind fun t217 => (if t217 = true then (if 2 < (a0.size : Int) then ((spec_l16Letter.f (bt a0 2)).bind fun t218 => (if t218 = true then (if 3 < (a0.size : Int) then ((spec_l16Letter.f (bt a0 3)).bind fun t219 => (if t219 = true then (some (decide ((bt a0 2) ≤ 90))) else (some false))) else (none)) else (some false))) else (none)) else (some false))) else (none)) else (some false))) else (none)) else (some false)
set_option maxHeartbeats 8000000 in
set_option maxRecDepth 100000 in
theorem spec_NameOk.calls (a0 : ByteArray) (r : Bool) (w : World) (h : spec_NameOk.f a0 = some r) :
 Calls Try.prog 178 #[.string a0] w fun e w' => e = .returned (.bool r) ∧ Drawn0 w w' := by
 unfold spec_NameOk.f at h; have H := h; clear h; revert H
 refine ifB (fun c2 => ?_) (fun c2 => ?_)
 · intro H; have c2b0 := beq_iff_eq.mpr c2; have c2b1 := bne_eq_false_iff_eq.mpr c2; clear c2; revert H; refine ifR fun c3 => ?_; intro H; have c3b0 := decide_eq_true c3; have c3b1 : decide (0 < a0.size) = true := decide_eq_true (by omega); clear c3; revert H; refine bdR fun t216 A5 => ?_
   refine ifB (fun c6 => ?_) (fun c6 => ?_)
   · intro H; subst c6; revert H; refine ifR fun c7 => ?_; intro H; have c7b0 := decide_eq_true c7; have c7b1 : decide (1 < a0.size) = true := decide_eq_true (by omega); clear c7; revert H; refine bdR fun t217 A9 => ?_
     refine ifB (fun c10 => ?_) (fun c10 => ?_)
     · intro H; subst c10; revert H; refine ifR fun c11 => ?_; intro H; have c11b0 := decide_eq_true c11; have c11b1 : decide (2 < a0.size) = true := decide_eq_true (by omega); clear c11; revert H; refine bdR fun t218 A13 => ?_
       refine ifB (fun c14 => ?_) (fun c14 => ?_)
       · intro H; subst c14; revert H; refine ifR fun c15 => ?_; intro H; have c15b0 := decide_eq_true c15; have c15b1 : decide (3 < a0.size) = true := decide_eq_true (by omega); clear c15; revert H; refine bdR fun t219 A17 => ?_
         refine ifB (fun c18 => ?_) (fun c18 => ?_)
         · intro H; subst c18; obtain rfl := Option.some.inj H; have p4 : 0 ≤ (0 : Int) := (by omega); have q4 : 0 < a0.size := (by have : (0 : Int) < (a0.size : Int) := bD; omega); have hx4 : ∀ h : 0 < a0.size, ((a0[0]'h).toNat : Int) = bt a0 0 := bt_at a0 0; clear p4; have qi4 : (0 < (a0.size : Int)) = True := eq_true (bD); replace q4 := eq_true q4; go_enter Try.func178, Try.ntmps178
           go_wp2_with (first | (go_at_call 192; (with_reducible refine (spec_l16Letter.calls (bt a0 0) true _ A5.out).mono ?_); rintro e w' ⟨rfl, ⟨nd, rfl⟩⟩; have p8 : 0 ≤ (1 : Int) := (by omega); have q8 : 1 < a0.size := (by have : (1 : Int) < (a0.size : Int) := bD; omega); have hx8 : ∀ h : 1 < a0.size, ((a0[1]'h).toNat : Int) = bt a0 1 := bt_at a0 1; clear p8; have qi8 : (1 < (a0.size : Int)) = True := eq_true (bD); replace q8 := eq_true q8) | (go_at_call 192; (with_reducible refine (spec_l16Letter.calls (bt a0 1) true _ A9.out).mono ?_); rintro e w' ⟨rfl, ⟨nd, rfl⟩⟩; have p12 : 0 ≤ (2 : Int) := (by omega); have q12 : 2 < a0.size := (by have : (2 : Int) < (a0.size : Int) := bD; omega); have hx12 : ∀ h : 2 < a0.size, ((a0[2]'h).toNat : Int) = bt a0 2 := bt_at a0 2; clear p12; have qi12 : (2 < (a0.size : Int)) = True := eq_true (bD); replace q12 := eq_true q12) | (go_at_call 192; (with_reducible refine (spec_l16Letter.calls (bt a0 2) true _ A13.out).mono ?_); rintro e w' ⟨rfl, ⟨nd, rfl⟩⟩; have p16 : 0 ≤ (3 : Int) := (by omega); have q16 : 3 < a0.size := (by have : (3 : Int) < (a0.size : Int) := bD; omega); have hx16 : ∀ h : 3 < a0.size, ((a0[3]'h).toNat : Int) = bt a0 3 := bt_at a0 3; clear p16; have qi16 : (3 < (a0.size : Int)) = True := eq_true (bD); replace q16 := eq_true q16) | (go_at_call 192; (with_reducible refine (spec_l16Letter.calls (bt a0 3) true _ A17.out).mono ?_); rintro e w' ⟨rfl, ⟨nd, rfl⟩⟩; have p19 : 0 ≤ (2 : Int) := (by omega); have q19 : 2 < a0.size := (by have : (2 : Int) < (a0.size : Int) := bD; omega); have hx19 : ∀ h : 2 < a0.size, ((a0[2]'h).toNat : Int) = bt a0 2 := bt_at a0 2; clear p19; have qi19 : (2 < (a0.size : Int)) = True := eq_true (bD); replace q19 := eq_true q19)); go_ret; exact ⟨eQ, dQ⟩
         · intro H; replace c18 := Bool.eq_false_iff.mpr c18; subst c18; obtain rfl := Option.some.inj H; have p4 : 0 ≤ (0 : Int) := (by omega); have q4 : 0 < a0.size := (by have : (0 : Int) < (a0.size : Int) := bD; omega); have hx4 : ∀ h : 0 < a0.size, ((a0[0]'h).toNat : Int) = bt a0 0 := bt_at a0 0; clear p4; have qi4 : (0 < (a0.size : Int)) = True := eq_true (bD); replace q4 := eq_true q4; go_enter Try.func178, Try.ntmps178
           go_wp2_with (first | (go_at_call 192; (with_reducible refine (spec_l16Letter.calls (bt a0 0) true _ A5.out).mono ?_); rintro e w' ⟨rfl, ⟨nd, rfl⟩⟩; have p8 : 0 ≤ (1 : Int) := (by omega); have q8 : 1 < a0.size := (by have : (1 : Int) < (a0.size : Int) := bD; omega); have hx8 : ∀ h : 1 < a0.size, ((a0[1]'h).toNat : Int) = bt a0 1 := bt_at a0 1; clear p8; have qi8 : (1 < (a0.size : Int)) = True := eq_true (bD); replace q8 := eq_true q8) | (go_at_call 192; (with_reducible refine (spec_l16Letter.calls (bt a0 1) true _ A9.out).mono ?_); rintro e w' ⟨rfl, ⟨nd, rfl⟩⟩; have p12 : 0 ≤ (2 : Int) := (by omega); have q12 : 2 < a0.size := (by have : (2 : Int) < (a0.size : Int) := bD; omega); have hx12 : ∀ h : 2 < a0.size, ((a0[2]'h).toNat : Int) = bt a0 2 := bt_at a0 2; clear p12; have qi12 : (2 < (a0.size : Int)) = True := eq_true (bD); replace q12 := eq_true q12) | (go_at_call 192; (with_reducible refine (spec_l16Letter.calls (bt a0 2) true _ A13.out).mono ?_); rintro e w' ⟨rfl, ⟨nd, rfl⟩⟩; have p16 : 0 ≤ (3 : Int) := (by omega); have q16 : 3 < a0.size := (by have : (3 : Int) < (a0.size : Int) := bD; omega); have hx16 : ∀ h : 3 < a0.size, ((a0[3]'h).toNat : Int) = bt a0 3 := bt_at a0 3; clear p16; have qi16 : (3 < (a0.size : Int)) = True := eq_true (bD); replace q16 := eq_true q16) | (go_at_call 192; (with_reducible refine (spec_l16Letter.calls (bt a0 3) false _ A17.out).mono ?_); rintro e w' ⟨rfl, ⟨nd, rfl⟩⟩)); go_ret; exact ⟨eQ, dQ⟩
       · intro H; replace c14 := Bool.eq_false_iff.mpr c14; subst c14; obtain rfl := Option.some.inj H; have p4 : 0 ≤ (0 : Int) := (by omega); have q4 : 0 < a0.size := (by have : (0 : Int) < (a0.size : Int) := bD; omega); have hx4 : ∀ h : 0 < a0.size, ((a0[0]'h).toNat : Int) = bt a0 0 := bt_at a0 0; clear p4; have qi4 : (0 < (a0.size : Int)) = True := eq_true (bD); replace q4 := eq_true q4; go_enter Try.func178, Try.ntmps178
         go_wp2_with (first | (go_at_call 192; (with_reducible refine (spec_l16Letter.calls (bt a0 0) true _ A5.out).mono ?_); rintro e w' ⟨rfl, ⟨nd, rfl⟩⟩; have p8 : 0 ≤ (1 : Int) := (by omega); have q8 : 1 < a0.size := (by have : (1 : Int) < (a0.size : Int) := bD; omega); have hx8 : ∀ h : 1 < a0.size, ((a0[1]'h).toNat : Int) = bt a0 1 := bt_at a0 1; clear p8; have qi8 : (1 < (a0.size : Int)) = True := eq_true (bD); replace q8 := eq_true q8) | (go_at_call 192; (with_reducible refine (spec_l16Letter.calls (bt a0 1) true _ A9.out).mono ?_); rintro e w' ⟨rfl, ⟨nd, rfl⟩⟩; have p12 : 0 ≤ (2 : Int) := (by omega); have q12 : 2 < a0.size := (by have : (2 : Int) < (a0.size : Int) := bD; omega); have hx12 : ∀ h : 2 < a0.size, ((a0[2]'h).toNat : Int) = bt a0 2 := bt_at a0 2; clear p12; have qi12 : (2 < (a0.size : Int)) = True := eq_true (bD); replace q12 := eq_true q12) | (go_at_call 192; (with_reducible refine (spec_l16Letter.calls (bt a0 2) false _ A13.out).mono ?_); rintro e w' ⟨rfl, ⟨nd, rfl⟩⟩)); go_ret; exact ⟨eQ, dQ⟩
     · intro H; replace c10 := Bool.eq_false_iff.mpr c10; subst c10; obtain rfl := Option.some.inj H; have p4 : 0 ≤ (0 : Int) := (by omega); have q4 : 0 < a0.size := (by have : (0 : Int) < (a0.size : Int) := bD; omega); have hx4 : ∀ h : 0 < a0.size, ((a0[0]'h).toNat : Int) = bt a0 0 := bt_at a0 0; clear p4; have qi4 : (0 < (a0.size : Int)) = True := eq_true (bD); replace q4 := eq_true q4; go_enter Try.func178, Try.ntmps178
       go_wp2_with (first | (go_at_call 192; (with_reducible refine (spec_l16Letter.calls (bt a0 0) true _ A5.out).mono ?_); rintro e w' ⟨rfl, ⟨nd, rfl⟩⟩; have p8 : 0 ≤ (1 : Int) := (by omega); have q8 : 1 < a0.size := (by have : (1 : Int) < (a0.size : Int) := bD; omega); have hx8 : ∀ h : 1 < a0.size, ((a0[1]'h).toNat : Int) = bt a0 1 := bt_at a0 1; clear p8; have qi8 : (1 < (a0.size : Int)) = True := eq_true (bD); replace q8 := eq_true q8) | (go_at_call 192; (with_reducible refine (spec_l16Letter.calls (bt a0 1) false _ A9.out).mono ?_); rintro e w' ⟨rfl, ⟨nd, rfl⟩⟩)); go_ret; exact ⟨eQ, dQ⟩
   · intro H; replace c6 := Bool.eq_false_iff.mpr c6; subst c6; obtain rfl := Option.some.inj H; have p4 : 0 ≤ (0 : Int) := (by omega); have q4 : 0 < a0.size := (by have : (0 : Int) < (a0.size : Int) := bD; omega); have hx4 : ∀ h : 0 < a0.size, ((a0[0]'h).toNat : Int) = bt a0 0 := bt_at a0 0; clear p4; have qi4 : (0 < (a0.size : Int)) = True := eq_true (bD); replace q4 := eq_true q4; go_enter Try.func178, Try.ntmps178
     go_wp2_with (first | (go_at_call 192; (with_reducible refine (spec_l16Letter.calls (bt a0 0) false _ A5.out).mono ?_); rintro e w' ⟨rfl, ⟨nd, rfl⟩⟩)); go_ret; exact ⟨eQ, dQ⟩
 · intro H; have c2b0 := beq_eq_false_iff_ne.mpr c2; have c2b1 := bne_iff_ne.mpr c2; obtain rfl := Option.some.inj H; go_enter Try.func178, Try.ntmps178; go_wp2; go_ret; exact ⟨eQ, dQ⟩

/-! ### spec_Needless: function 150 -/
def spec_Needless.f (a0 : ByteArray) : Option (Bool) := (spec_NameOk.f a0).bind fun t220 => (if t220 = true then (if 0 < (a0.size : Int) then (some (decide ((bt a0 0) ≥ 97))) else (none)) else (some false))
set_option maxHeartbeats 8000000 in
set_option maxRecDepth 100000 in
theorem spec_Needless.calls (a0 : ByteArray) (r : Bool) (w : World) (h : spec_Needless.f a0 = some r) :
 Calls Try.prog 150 #[.string a0] w fun e w' => e = .returned (.bool r) ∧ Drawn0 w w' := by
 have H : ((spec_NameOk.f a0).bind fun t220 => (if t220 = true then (if 0 < (a0.size : Int) then (some (decide ((bt a0 0) ≥ 97))) else (none)) else (some false))) = some r := h; clear h; revert H; refine bdR fun t220 A2 => ?_
 refine ifB (fun c3 => ?_) (fun c3 => ?_)
 · intro H; subst c3; revert H; refine ifR fun c4 => ?_; intro H; have c4b0 := decide_eq_true c4; have c4b1 : decide (0 < a0.size) = true := decide_eq_true (by omega); clear c4; obtain rfl := Option.some.inj H; go_enter Try.func150, Try.ntmps150
   go_wp2_with (first | ((with_reducible refine gC 178 ?_); refine gL (some 4) Try.func178 #[.string a0] ?_; (with_reducible refine (spec_NameOk.calls a0 true _ A2.out).mono ?_); rintro e w' ⟨rfl, ⟨nd, rfl⟩⟩; refine ⟨_, rfl, ?_⟩; have p5 : 0 ≤ (0 : Int) := (by omega); have q5 : 0 < a0.size := (by have : (0 : Int) < (a0.size : Int) := bD; omega); have hx5 : ∀ h : 0 < a0.size, ((a0[0]'h).toNat : Int) = bt a0 0 := bt_at a0 0; clear p5; have qi5 : (0 < (a0.size : Int)) = True := eq_true (bD); replace q5 := eq_true q5)); go_ret; exact ⟨eQ, dQ⟩
 · intro H; replace c3 := Bool.eq_false_iff.mpr c3; subst c3; obtain rfl := Option.some.inj H; go_enter Try.func150, Try.ntmps150
   go_wp2_with (first | ((with_reducible refine gC 178 ?_); refine gL (some 4) Try.func178 #[.string a0] ?_; (with_reducible refine (spec_NameOk.calls a0 false _ A2.out).mono ?_); rintro e w' ⟨rfl, ⟨nd, rfl⟩⟩; refine ⟨_, rfl, ?_⟩)); go_ret; exact ⟨eQ, dQ⟩

/-! ### spec_l18Kept: function 97 -/
def spec_l18Kept.l0 : Nat → List (S168) → Int → Option (Bool)
  | 0, _, _ => none
  | k + 1, x0, x3 => if x3 < (x0.length : Int) then (if 0 ≤ x3 then ((spec_Needless.f ((rd_T168 x0 x3).f0)).bind fun t222 => (if t222 = true then (if ((rd_T168 x0 x3).f0).toList = ([116, 82, 78, 83] : List UInt8) then (some false) else (if (((rd_T168 x0 x3).f1).size : Int) > 2600 then (some false) else (spec_l18Kept.l0 k x0 (wrap64 (x3 + 1))))) else (some false))) else (none)) else (some true)
def spec_l18Kept.f (k : Nat) (l0 : List (S168)) : Option (Bool) := if (l0.length : Int) > 32 then (some false) else (spec_l18Kept.l0 k l0 0)
set_option maxHeartbeats 8000000 in
set_option maxRecDepth 100000 in
theorem spec_l18Kept.calls (k : Nat) (A0 : Option Addr) (c0 : Nat) (l0 : List (S168)) (r : Bool) (w : World) (hr0 : Kd.C k168 w A0 l0.length l0) (hc0 : l0.length ≤ c0) (h : spec_l18Kept.f k l0 = some r) :
 Calls Try.prog 97 #[.slice A0 l0.length c0] w fun e w' => e = .returned (.bool r) ∧ Drawn0 w w' := by
 have HR0 := aM hr0; have HC0 := aM hc0; clear hr0 hc0; have H : (if (l0.length : Int) > 32 then (some false) else (spec_l18Kept.l0 k l0 0)) = some r := h; clear h; revert H
 refine ifB (fun c2 => ?_) (fun c2 => ?_)
 · intro H; have c2b0 := decide_eq_true c2; have c2b1 : decide (32 < l0.length) = true := decide_eq_true (by omega); clear c2; obtain rfl := Option.some.inj H; go_enter Try.func97, Try.ntmps97; go_wp2; go_ret; exact ⟨eQ, dQ⟩
 · intro H; have c2b0 := decide_eq_false c2; have c2b1 : decide (32 < l0.length) = false := decide_eq_false (by omega); clear c2; revert H; refine adR fun H' => ?_; go_enter Try.func97, Try.ntmps97; go_wp2
   go_loopg [3] k (fun kq v3 w' => ∃ (x3_1 : Int), v3 = .int .i64 x3_1 ∧ Aside0 (spec_l18Kept.l0 kq l0 x3_1 = some r) ∧ Aside0 (kq ≤ k) ∧ Drawn0 w w')
   case atStart => exact ⟨(0), eQ, H', ⟨Nat.le_refl _⟩, dQ⟩
   case round =>
    clear H'; (try clear c2); (try clear c2b0); (try clear c2b1); (try clear p2); obtain ⟨x3_1, rfl, HA, HK1, ⟨m1, rfl⟩⟩ := hrel; rcases gk with _ | k1
    · exact absurd HA.out (by simp [spec_l18Kept.l0])
    revert HA; refine aoR ?_; intro H; simp only [spec_l18Kept.l0] at H; revert H
    refine ifB (fun c3 => ?_) (fun c3 => ?_)
    · intro H; have c3b0 := decide_eq_true c3; clear c3; revert H; refine ifR fun c4 => ?_; intro H; have c4b0 := decide_eq_true c4; clear c4; revert H; refine bdR fun t222 A5 => ?_
      refine ifB (fun c6 => ?_) (fun c6 => ?_)
      · intro H; subst c6; revert H
        refine ifB (fun c7 => ?_) (fun c7 => ?_)
        · intro H; have c7b0 := beq_iff_eq.mpr c7; have c7b1 := bne_eq_false_iff_eq.mpr c7; clear c7; obtain rfl := Option.some.inj H; have p221 : 0 ≤ (x3_1 : Int) := bD; have q221 : x3_1 < (l0.length : Int) := bD; obtain ⟨ad221, e221, hx221_0, hx221_1⟩ := at_T168 HR0.out x3_1 p221 q221; cases e221; replace p221 := eq_true p221; replace q221 := eq_true q221
          go_wp2_with (first | ((with_reducible refine gC 150 ?_); refine gL (some 18) Try.func150 #[.string ((rd_T168 l0 x3_1).f0)] ?_; (with_reducible refine (spec_Needless.calls ((rd_T168 l0 x3_1).f0) true _ A5.out).mono ?_); rintro e w' ⟨rfl, ⟨nd, rfl⟩⟩; refine ⟨_, rfl, ?_⟩; have p223 : 0 ≤ (x3_1 : Int) := bD; have q223 : x3_1 < (l0.length : Int) := bD; obtain ⟨ad223, e223, hx223_0, hx223_1⟩ := at_T168 HR0.out x3_1 p223 q223; obtain rfl : ad221 = ad223 := (by injection e223); replace p223 := eq_true p223; replace q223 := eq_true q223)); go_ret; exact ⟨eQ, dQ⟩
        · intro H; have c7b0 := beq_eq_false_iff_ne.mpr c7; have c7b1 := bne_iff_ne.mpr c7; revert H
          refine ifB (fun c8 => ?_) (fun c8 => ?_)
          · intro H; have c8b0 := decide_eq_true c8; have c8b1 : decide (2600 < ((rd_T168 l0 x3_1).f1).size) = true := decide_eq_true (by omega); clear c8; obtain rfl := Option.some.inj H; have p221 : 0 ≤ (x3_1 : Int) := bD; have q221 : x3_1 < (l0.length : Int) := bD; obtain ⟨ad221, e221, hx221_0, hx221_1⟩ := at_T168 HR0.out x3_1 p221 q221; cases e221; replace p221 := eq_true p221; replace q221 := eq_true q221
            go_wp2_with (first | ((with_reducible refine gC 150 ?_); refine gL (some 18) Try.func150 #[.string ((rd_T168 l0 x3_1).f0)] ?_; (with_reducible refine (spec_Needless.calls ((rd_T168 l0 x3_1).f0) true _ A5.out).mono ?_); rintro e w' ⟨rfl, ⟨nd, rfl⟩⟩; refine ⟨_, rfl, ?_⟩; have p223 : 0 ≤ (x3_1 : Int) := bD; have q223 : x3_1 < (l0.length : Int) := bD; obtain ⟨ad223, e223, hx223_0, hx223_1⟩ := at_T168 HR0.out x3_1 p223 q223; obtain rfl : ad221 = ad223 := (by injection e223); replace p223 := eq_true p223; replace q223 := eq_true q223; have p224 : 0 ≤ (x3_1 : Int) := bD; have q224 : x3_1 < (l0.length : Int) := bD; obtain ⟨ad224, e224, hx224_0, hx224_1⟩ := at_T168 HR0.out x3_1 p224 q224; obtain rfl : ad221 = ad224 := (by injection e224); replace p224 := eq_true p224; replace q224 := eq_true q224)); go_ret; exact ⟨eQ, dQ⟩
          · intro H; have c8b0 := decide_eq_false c8; have c8b1 : decide (2600 < ((rd_T168 l0 x3_1).f1).size) = false := decide_eq_false (by omega); clear c8; revert H; refine adR fun H' => ?_; have p221 : 0 ≤ (x3_1 : Int) := bD; have q221 : x3_1 < (l0.length : Int) := bD; obtain ⟨ad221, e221, hx221_0, hx221_1⟩ := at_T168 HR0.out x3_1 p221 q221; cases e221; replace p221 := eq_true p221; replace q221 := eq_true q221
            go_wp2_with (first | ((with_reducible refine gC 150 ?_); refine gL (some 18) Try.func150 #[.string ((rd_T168 l0 x3_1).f0)] ?_; (with_reducible refine (spec_Needless.calls ((rd_T168 l0 x3_1).f0) true _ A5.out).mono ?_); rintro e w' ⟨rfl, ⟨nd, rfl⟩⟩; refine ⟨_, rfl, ?_⟩; have p223 : 0 ≤ (x3_1 : Int) := bD; have q223 : x3_1 < (l0.length : Int) := bD; obtain ⟨ad223, e223, hx223_0, hx223_1⟩ := at_T168 HR0.out x3_1 p223 q223; obtain rfl : ad221 = ad223 := (by injection e223); replace p223 := eq_true p223; replace q223 := eq_true q223; have p224 : 0 ≤ (x3_1 : Int) := bD; have q224 : x3_1 < (l0.length : Int) := bD; obtain ⟨ad224, e224, hx224_0, hx224_1⟩ := at_T168 HR0.out x3_1 p224 q224; obtain rfl : ad221 = ad224 := (by injection e224); replace p224 := eq_true p224; replace q224 := eq_true q224)); go_roundg k1
            case measure => have := HK1.out; omega
            case rel => exact ⟨(wrap64 (x3_1 + 1)), eQ, H', ⟨by have := HK1.out; omega⟩, dQ⟩
      · intro H; replace c6 := Bool.eq_false_iff.mpr c6; subst c6; obtain rfl := Option.some.inj H; have p221 : 0 ≤ (x3_1 : Int) := bD; have q221 : x3_1 < (l0.length : Int) := bD; obtain ⟨ad221, e221, hx221_0, hx221_1⟩ := at_T168 HR0.out x3_1 p221 q221; cases e221; replace p221 := eq_true p221; replace q221 := eq_true q221
        go_wp2_with (first | ((with_reducible refine gC 150 ?_); refine gL (some 18) Try.func150 #[.string ((rd_T168 l0 x3_1).f0)] ?_; (with_reducible refine (spec_Needless.calls ((rd_T168 l0 x3_1).f0) false _ A5.out).mono ?_); rintro e w' ⟨rfl, ⟨nd, rfl⟩⟩; refine ⟨_, rfl, ?_⟩)); go_ret; exact ⟨eQ, dQ⟩
    · intro H; have c3b0 := decide_eq_false c3; clear c3; obtain rfl := Option.some.inj H; go_wp2; go_ret; exact ⟨eQ, dQ⟩

/-! ### spec_l17Byte: function 151 -/
def spec_l17Byte.f (a0 : Int) : Option (Bool) := (spec_l01In.f a0 0 255).bind fun t225 => (some t225)
set_option maxHeartbeats 8000000 in
set_option maxRecDepth 100000 in
theorem spec_l17Byte.calls (a0 : Int) (r : Bool) (w : World) (h : spec_l17Byte.f a0 = some r) :
 Calls Try.prog 151 #[.int .i64 a0] w fun e w' => e = .returned (.bool r) ∧ Drawn0 w w' := by
 have H : ((spec_l01In.f a0 0 255).bind fun t225 => (some t225)) = some r := h; clear h; revert H; refine bdR fun t225 A2 => ?_; intro H; obtain rfl := Option.some.inj H; go_enter Try.func151, Try.ntmps151
 go_wp2_with (first | ((with_reducible refine gC 129 ?_); refine gL (some 4) Try.func129 #[.int .i64 a0, .int .i64 0, .int .i64 255] ?_; (with_reducible refine (spec_l01In.calls a0 0 255 t225 _ A2.out).mono ?_); rintro e w' ⟨rfl, ⟨nd, rfl⟩⟩; refine ⟨_, rfl, ?_⟩)); go_ret; exact ⟨eQ, dQ⟩

end Go.Proofs.Ytajnobmnkbkkgaa.PFnExactMeaningOf
