/- Walks of functions that the law FnExactNoCover reaches: each call comes to what the Lean function of its name tells. Written by p2.py, a program of this session, by way of the kit's print. -/
import Derived.Test.YtajnobmnkbkkgaaVFnExactNoCover
import Derived.Test.YtajnobmnkbkkgaaPFnExactNoCoverx0
import Derived.Test.YtajnobmnkbkkgaaPFnExactNoCoverx4
namespace Go.Proofs.Ytajnobmnkbkkgaa.PFnExactNoCover
open Go.RowKit Go.Proofs.YtajnobmnkbkkgaaW.PrintWords Go.Proofs.YtajnobmnkbkkgaaW.PrintLast Go.Proofs.YtajnobmnkbkkgaaW.PrintMore
attribute [local go_sem] max2_int min2_int max_two min_two max_three min_three max_four min_four   -- for this text's walks alone
set_option linter.unusedVariables false
set_option linter.unusedSimpArgs false

/-! ### spec_l17Depth: function 146 -/
def spec_l17Depth.f (a0_0 : Int) (a0_1 : Int) (a0_2 : Int) (a0_3 : Int) (a0_4 : Bool) : Option (Int) := (spec_l01In.f a0_2 0 16).bind fun t231 => (if t231 = true then (some a0_2) else (some 0))
set_option maxHeartbeats 8000000 in
set_option maxRecDepth 100000 in
theorem spec_l17Depth.calls (a0_0 : Int) (a0_1 : Int) (a0_2 : Int) (a0_3 : Int) (a0_4 : Bool) (r : Int) (w : World) (h : spec_l17Depth.f a0_0 a0_1 a0_2 a0_3 a0_4 = some r) :
 Calls Try.prog 146 #[.agg #[.int .i64 a0_0, .int .i64 a0_1, .int .i64 a0_2, .int .i64 a0_3, .bool a0_4]] w fun e w' => e = .returned (.int .i64 r) ∧ Below w.heap.size w w' := by
 have hu39 := Try.underlying39; have HB := aM (Below.refl w.heap.size w); have H : ((spec_l01In.f a0_2 0 16).bind fun t231 => (if t231 = true then (some a0_2) else (some 0))) = some r := h; clear h; revert H; refine bdR fun t231 A2 => ?_
 refine ifB (fun c3 => ?_) (fun c3 => ?_)
 · intro H; subst c3; obtain rfl := Option.some.inj H; go_enter Try.func146, Try.ntmps146
   go_wp2_with (first | ((with_reducible refine gD 1 ?_); refine bE 1 #[.int .i64 a0_0, .int .i64 a0_1, .int .i64 a0_2, .int .i64 a0_3, .bool a0_4] 39 ?_; intro gb230 hg w4 hbox hb; have BK230 := aM hbox; have GW230 := aM (sZ hg); have GE230 := GW230; replace HB := hS hb; clear hb hbox hg; have hz5 := bz5 BK230) | ((with_reducible refine gC 129 ?_); refine gL (some 5) Try.func129 #[.int .i64 a0_2, .int .i64 0, .int .i64 16] ?_; (with_reducible refine (spec_l01In.calls a0_2 0 16 true _ A2.out).mono ?_); rintro e w' ⟨rfl, ⟨nd, rfl⟩⟩; refine ⟨_, rfl, ?_⟩)); go_ret; exact ⟨eE, hB⟩
 · intro H; replace c3 := Bool.eq_false_iff.mpr c3; subst c3; obtain rfl := Option.some.inj H; go_enter Try.func146, Try.ntmps146
   go_wp2_with (first | ((with_reducible refine gD 1 ?_); refine bE 1 #[.int .i64 a0_0, .int .i64 a0_1, .int .i64 a0_2, .int .i64 a0_3, .bool a0_4] 39 ?_; intro gb230 hg w6 hbox hb; have BK230 := aM hbox; have GW230 := aM (sZ hg); have GE230 := GW230; replace HB := hS hb; clear hb hbox hg; have hz7 := bz5 BK230) | ((with_reducible refine gC 129 ?_); refine gL (some 5) Try.func129 #[.int .i64 a0_2, .int .i64 0, .int .i64 16] ?_; (with_reducible refine (spec_l01In.calls a0_2 0 16 false _ A2.out).mono ?_); rintro e w' ⟨rfl, ⟨nd, rfl⟩⟩; refine ⟨_, rfl, ?_⟩)); go_ret; exact ⟨eE, hB⟩

/-! ### spec_ClearOk: function 86 -/
mutual
def spec_ClearOk.j0 : Nat → List Int → Int → Int → Option (Bool)
  | 0, _, _, _ => none
  | k + 1, x2, x7, x8 => if (x2.length : Int) = 0 then (some true) else (spec_ClearOk.l0 k x2 x7 x8 0)
def spec_ClearOk.l0 : Nat → List Int → Int → Int → Int → Option (Bool)
  | 0, _, _, _, _ => none
  | k + 1, x2, x7, x8, x9 => if x9 < (x2.length : Int) then (if 0 ≤ x9 then ((spec_l01In.f (rd x2 x9) 0 x7).bind fun t238 => (if t238 = true then (spec_ClearOk.l0 k x2 x7 x8 (wrap64 (x9 + 1))) else (some false))) else (none)) else (some ((x2.length : Int) == x8))
end
def spec_ClearOk.f (k : Nat) (a0_0 : Int) (a0_1 : Int) (a0_2 : Int) (a0_3 : Int) (a0_4 : Bool) (a1 : Int) (l2 : List Int) : Option (Bool) := if a0_3 = 0 then ((spec_l17Depth.f a0_0 a0_1 a0_2 a0_3 a0_4).bind fun t233 => ((spec_l01Pow.f k t233).bind fun t234 => (spec_ClearOk.j0 k l2 (wrap64 (t234 - 1)) 1))) else (if a0_3 = 2 then ((spec_l17Depth.f a0_0 a0_1 a0_2 a0_3 a0_4).bind fun t235 => ((spec_l01Pow.f k t235).bind fun t236 => (spec_ClearOk.j0 k l2 (wrap64 (t236 - 1)) 3))) else (if a0_3 = 3 then (if (l2.length : Int) > a1 then (some false) else (spec_ClearOk.j0 k l2 255 (l2.length : Int))) else (spec_ClearOk.j0 k l2 0 0)))
set_option maxHeartbeats 8000000 in
set_option maxRecDepth 100000 in
theorem spec_ClearOk.calls (k : Nat) (a0_0 : Int) (a0_1 : Int) (a0_2 : Int) (a0_3 : Int) (a0_4 : Bool) (a1 : Int) (A2 : Option Addr) (c2 : Nat) (l2 : List Int) (r : Bool) (w : World) (hr2 : Kd.C (Kd.int .i64) w A2 l2.length l2) (hc2 : l2.length ≤ c2) (h : spec_ClearOk.f k a0_0 a0_1 a0_2 a0_3 a0_4 a1 l2 = some r) :
 Calls Try.prog 86 #[.agg #[.int .i64 a0_0, .int .i64 a0_1, .int .i64 a0_2, .int .i64 a0_3, .bool a0_4], .int .i64 a1, .slice A2 l2.length c2] w fun e w' => e = .returned (.bool r) ∧ Below w.heap.size w w' := by
 have hu39 := Try.underlying39; have HR2 := aM hr2; have HC2 := aM hc2; clear hr2 hc2; have HB := aM (Below.refl w.heap.size w); unfold spec_ClearOk.f at h; have H := h; clear h; revert H; refine adR fun HC4 => ?_; go_enter Try.func86, Try.ntmps86
 go_upto_block 0 with (first | ((with_reducible refine gD 3 ?_); refine bE 3 #[.int .i64 a0_0, .int .i64 a0_1, .int .i64 a0_2, .int .i64 a0_3, .bool a0_4] 39 ?_; intro gb232 hg w5 hbox hb; have BK232 := aM hbox; have GW232 := aM (sZ hg); have GE232 := GW232; replace HB := hS hb; clear hb hbox hg; have hz6 := bz5 BK232))
 (try simp only [Act.put, List.setIfInBounds_toArray, List.set_cons_zero, List.set_cons_succ])
 go_cut [7, 8] (fun v7 v8 wc => ∃ (kq : Nat) (x7_3 : Int) (x8_3 : Int), v7 = .int .i64 x7_3 ∧ v8 = .int .i64 x8_3 ∧ Aside0 (spec_ClearOk.j0 kq l2 x7_3 x8_3 = some r) ∧ Aside0 (kq ≤ k) ∧ Aside0 (wc.heap[gb232]? = some (.cells #[.int .i64 a0_0, .int .i64 a0_1, .int .i64 a0_2, .int .i64 a0_3, .bool a0_4] 39 (0, 0))) ∧ Aside0 (Below w.heap.size w wc))
 case first =>
  revert HC4; refine aoR ?_
  refine ifB (fun c7 => ?_) (fun c7 => ?_)
  · intro H; have c7b0 := beq_iff_eq.mpr c7; have c7b1 := bne_eq_false_iff_eq.mpr c7; clear c7
    (first | rw [c7b0] | (simp only [i64_w, i32_w]; rw [c7b0]) | skip); revert H; refine bdR fun t233 A8 => ?_; refine bdR fun t234 A9 => ?_; refine adR fun H' => ?_; have hz10 := bz5 BK232
    go_wp2_with (first | ((with_reducible refine gC 146 ?_); refine gL (some 15) Try.func146 #[.agg #[.int .i64 a0_0, .int .i64 a0_1, .int .i64 a0_2, .int .i64 a0_3, .bool a0_4]] ?_; (with_reducible refine (spec_l17Depth.calls a0_0 a0_1 a0_2 a0_3 a0_4 t233 _ A8.out).mono ?_); rintro e w11 ⟨rfl, hb⟩; refine ⟨_, rfl, ?_⟩; replace BK232 := bW BK232 hb; replace HB := hS hb; clear hb) | ((with_reducible refine gC 99 ?_); refine gL (some 16) Try.func99 #[.int .i64 t233] ?_; (with_reducible refine (spec_l01Pow.calls k t233 t234 _ A9.out).mono ?_); rintro e w' ⟨rfl, ⟨nd, rfl⟩⟩; refine ⟨_, rfl, ?_⟩)); go_meet
    case rel => exact ⟨_, (wrap64 (t234 - 1)), (1), eQ, eQ, H', ⟨lE⟩, ⟨bI BK232.out⟩, ⟨hB⟩⟩
  · intro H; have c7b0 := beq_eq_false_iff_ne.mpr c7; have c7b1 := bne_iff_ne.mpr c7
    (first | rw [c7b0] | (simp only [i64_w, i32_w]; rw [c7b0]) | skip); revert H
    refine ifB (fun c12 => ?_) (fun c12 => ?_)
    · intro H; have c12b0 := beq_iff_eq.mpr c12; have c12b1 := bne_eq_false_iff_eq.mpr c12; clear c12; revert H; refine bdR fun t235 A13 => ?_; refine bdR fun t236 A14 => ?_; refine adR fun H' => ?_; have hz15 := bz5 BK232
      go_wp2_with (first | ((with_reducible refine gC 146 ?_); refine gL (some 21) Try.func146 #[.agg #[.int .i64 a0_0, .int .i64 a0_1, .int .i64 a0_2, .int .i64 a0_3, .bool a0_4]] ?_; (with_reducible refine (spec_l17Depth.calls a0_0 a0_1 a0_2 a0_3 a0_4 t235 _ A13.out).mono ?_); rintro e w16 ⟨rfl, hb⟩; refine ⟨_, rfl, ?_⟩; replace BK232 := bW BK232 hb; replace HB := hS hb; clear hb) | ((with_reducible refine gC 99 ?_); refine gL (some 22) Try.func99 #[.int .i64 t235] ?_; (with_reducible refine (spec_l01Pow.calls k t235 t236 _ A14.out).mono ?_); rintro e w' ⟨rfl, ⟨nd, rfl⟩⟩; refine ⟨_, rfl, ?_⟩)); go_meet
      case rel => exact ⟨_, (wrap64 (t236 - 1)), (3), eQ, eQ, H', ⟨lE⟩, ⟨bI BK232.out⟩, ⟨hB⟩⟩
    · intro H; have c12b0 := beq_eq_false_iff_ne.mpr c12; have c12b1 := bne_iff_ne.mpr c12; revert H
      refine ifB (fun c17 => ?_) (fun c17 => ?_)
      · intro H; have c17b0 := beq_iff_eq.mpr c17; have c17b1 := bne_eq_false_iff_eq.mpr c17; clear c17; revert H
        refine ifB (fun c18 => ?_) (fun c18 => ?_)
        · intro H; have c18b0 := decide_eq_true c18; clear c18; obtain rfl := Option.some.inj H; go_wp2; go_ret; exact ⟨eE, hB⟩
        · intro H; have c18b0 := decide_eq_false c18; clear c18; revert H; refine adR fun H' => ?_; go_wp2; go_meet
          case rel => exact ⟨_, (255), ((l2.length : Int)), eQ, eQ, H', ⟨lE⟩, ⟨bI BK232.out⟩, ⟨hB⟩⟩
      · intro H; have c17b0 := beq_eq_false_iff_ne.mpr c17; have c17b1 := bne_iff_ne.mpr c17; revert H; refine adR fun H' => ?_; go_wp2; go_meet
        case rel => exact ⟨_, (0), (0), eQ, eQ, H', ⟨lE⟩, ⟨bI BK232.out⟩, ⟨hB⟩⟩
 case rest =>
  clear HC4; (try clear c1); (try clear c2); (try clear p2); (try clear c5); (try clear p6); (try clear c7); (try clear c7b0); (try clear c7b1); (try clear c8); (try clear c9); (try clear c12); (try clear c12b0); (try clear c12b1); (try clear c14); (try clear c17); (try clear c17b0); (try clear c17b1); (try clear c18); (try clear c18b0); (try clear hz10); (try clear hz15); (try clear hz6); obtain ⟨kq, x7_3, x8_3, rfl, rfl, HA, HJ3, BK232, HB⟩ := hcut; rcases kq with _ | kj3
  · exact absurd HA.out (by simp [spec_ClearOk.j0])
  revert HA; refine aoR ?_; intro H; simp only [spec_ClearOk.j0] at H; revert H
  refine ifB (fun c19 => ?_) (fun c19 => ?_)
  · intro H; have c19b0 := beq_iff_eq.mpr c19; have c19b1 := bne_eq_false_iff_eq.mpr c19; clear c19; obtain rfl := Option.some.inj H; go_wp2; go_ret; exact ⟨eE, hB⟩
  · intro H; have c19b0 := beq_eq_false_iff_ne.mpr c19; have c19b1 := bne_iff_ne.mpr c19; have c19b2 : ¬ (l2 = []) := fun h_ => c19 (by rw [h_]; rfl)
    revert H; refine adR fun H' => ?_; go_wp2
    go_loopg [9] kj3 (fun kq v9 w' => ∃ (x9_2 : Int), v9 = .int .i64 x9_2 ∧ Aside0 (spec_ClearOk.l0 kq l2 x7_3 x8_3 x9_2 = some r) ∧ Aside0 (kq ≤ kj3) ∧ Aside0 (w'.heap[gb232]? = some (.cells #[.int .i64 a0_0, .int .i64 a0_1, .int .i64 a0_2, .int .i64 a0_3, .bool a0_4] 39 (0, 0))) ∧ Aside0 (Below w.heap.size w w'))
    case atStart => exact ⟨(0), eQ, H', ⟨Nat.le_refl _⟩, ⟨bI BK232.out⟩, ⟨hB⟩⟩
    case round =>
     clear H'; (try clear c1); (try clear c2); (try clear p2); (try clear c5); (try clear p6); (try clear c7); (try clear c7b0); (try clear c7b1); (try clear c8); (try clear c9); (try clear c12); (try clear c12b0); (try clear c12b1); (try clear c14); (try clear c17); (try clear c17b0); (try clear c17b1); (try clear c18); (try clear c18b0); (try clear c19); (try clear c19b0); (try clear c19b1); (try clear c19b2); (try clear hz10); (try clear hz15); (try clear hz6); obtain ⟨x9_2, rfl, HA, HK2, BK232, HB⟩ := hrel; rcases gk with _ | k2
     · exact absurd HA.out (by simp [spec_ClearOk.l0])
     revert HA; refine aoR ?_; intro H; simp only [spec_ClearOk.l0] at H; revert H
     refine ifB (fun c20 => ?_) (fun c20 => ?_)
     · intro H; have c20b0 := decide_eq_true c20; clear c20; revert H; refine ifR fun c21 => ?_; intro H; have c21b0 := decide_eq_true c21; clear c21; revert H; refine bdR fun t238 A22 => ?_
       refine ifB (fun c23 => ?_) (fun c23 => ?_)
       · intro H; subst c23; revert H; refine adR fun H' => ?_; have p237 : 0 ≤ (x9_2 : Int) := bD; have q237 : x9_2 < (l2.length : Int) := bD; obtain ⟨ad237, e237, hx237_0⟩ := Kd.at_int HR2.out x9_2 p237 q237; cases e237; replace hx237_0 := cB0 HB hx237_0; replace p237 := eq_true p237; replace q237 := eq_true q237
         go_wp2_with (first | ((with_reducible refine gC 129 ?_); refine gL (some 45) Try.func129 #[.int .i64 (rd l2 x9_2), .int .i64 0, .int .i64 x7_3] ?_; (with_reducible refine (spec_l01In.calls (rd l2 x9_2) 0 x7_3 true _ A22.out).mono ?_); rintro e w' ⟨rfl, ⟨nd, rfl⟩⟩; refine ⟨_, rfl, ?_⟩)); go_roundg k2
         case measure => have := HJ3.out; have := HK2.out; omega
         case rel => exact ⟨(wrap64 (x9_2 + 1)), eQ, H', ⟨by have := HJ3.out; have := HK2.out; omega⟩, ⟨bI BK232.out⟩, ⟨hB⟩⟩
       · intro H; replace c23 := Bool.eq_false_iff.mpr c23; subst c23; obtain rfl := Option.some.inj H; have p237 : 0 ≤ (x9_2 : Int) := bD; have q237 : x9_2 < (l2.length : Int) := bD; obtain ⟨ad237, e237, hx237_0⟩ := Kd.at_int HR2.out x9_2 p237 q237; cases e237; replace hx237_0 := cB0 HB hx237_0; replace p237 := eq_true p237; replace q237 := eq_true q237
         go_wp2_with (first | ((with_reducible refine gC 129 ?_); refine gL (some 45) Try.func129 #[.int .i64 (rd l2 x9_2), .int .i64 0, .int .i64 x7_3] ?_; (with_reducible refine (spec_l01In.calls (rd l2 x9_2) 0 x7_3 false _ A22.out).mono ?_); rintro e w' ⟨rfl, ⟨nd, rfl⟩⟩; refine ⟨_, rfl, ?_⟩)); go_ret; exact ⟨eE, hB⟩
     · intro H; have c20b0 := decide_eq_false c20; clear c20; obtain rfl := Option.some.inj H; go_wp2; go_ret; exact ⟨eE, hB⟩

/-! ### spec_l16Letter: function 192 -/
def spec_l16Letter.f (a0 : Int) : Option (Bool) := if a0 ≥ 65 then (if a0 ≤ 90 then (some true) else (if a0 ≥ 97 then (some (decide (a0 ≤ 122))) else (some false))) else (if a0 ≥ 97 then (some (decide (a0 ≤ 122))) else (some false))
set_option maxHeartbeats 8000000 in
set_option maxRecDepth 100000 in
theorem spec_l16Letter.calls (a0 : Int) (r : Bool) (w : World) (h : spec_l16Letter.f a0 = some r) :
 Calls Try.prog 192 #[.int .u8 a0] w fun e w' => e = .returned (.bool r) ∧ Drawn0 w w' := by
 have H : (if a0 ≥ 65 then (if a0 ≤ 90 then (some true) else (if a0 ≥ 97 then (some (decide (a0 ≤ 122))) else (some false))) else (if a0 ≥ 97 then (some (decide (a0 ≤ 122))) else (some false))) = some r := h; clear h; revert H
 refine ifB (fun c2 => ?_) (fun c2 => ?_)
 · intro H; have c2b0 := decide_eq_true c2; clear c2; revert H
   refine ifB (fun c3 => ?_) (fun c3 => ?_)
   · intro H; have c3b0 := decide_eq_true c3; clear c3; obtain rfl := Option.some.inj H; go_enter Try.func192, Try.ntmps192; go_wp2; go_ret; exact ⟨eQ, dQ⟩
   · intro H; have c3b0 := decide_eq_false c3; clear c3; revert H
     refine ifB (fun c4 => ?_) (fun c4 => ?_)
     · intro H; have c4b0 := decide_eq_true c4; clear c4; obtain rfl := Option.some.inj H; go_enter Try.func192, Try.ntmps192; go_wp2; go_ret; exact ⟨eQ, dQ⟩
     · intro H; have c4b0 := decide_eq_false c4; clear c4; obtain rfl := Option.some.inj H; go_enter Try.func192, Try.ntmps192; go_wp2; go_ret; exact ⟨eQ, dQ⟩
 · intro H; have c2b0 := decide_eq_false c2; clear c2; revert H
   refine ifB (fun c5 => ?_) (fun c5 => ?_)
   · intro H; have c5b0 := decide_eq_true c5; clear c5; obtain rfl := Option.some.inj H; go_enter Try.func192, Try.ntmps192; go_wp2; go_ret; exact ⟨eQ, dQ⟩
   · intro H; have c5b0 := decide_eq_false c5; clear c5; obtain rfl := Option.some.inj H; go_enter Try.func192, Try.ntmps192; go_wp2; go_ret; exact ⟨eQ, dQ⟩

/-! ### spec_NameOk: function 178 -/
def spec_NameOk.f (a0 : ByteArray) : Option (Bool) := if (a0.size : Int) = 4 then (if 0 < (a0.size : Int) then ((spec_l16Letter.f (bt a0 0)).bind fun t239 => (if t239 = true then (if 1 < (a0.size : Int) then ((spec_l16Letter.f (bt a0 1)).bind fun t240 => (if t240 = true then (if 2 < (a0.size : Int) then ((spec_l16Letter.f (bt a0 2)).bind fun t241 => (if t241 = true then (if 3 < (a0.size : Int) then ((spec_l16Letter.f (bt a0 3)).bind fun t242 => (if t242 = true then (some (decide ((bt a0 2) ≤ 90))) else (some false))) else (none)) else (some false))) else (none)) else (some false))) else (none)) else (some false))) else (none)) else (some false)
set_option maxHeartbeats 8000000 in
set_option maxRecDepth 100000 in
theorem spec_NameOk.calls (a0 : ByteArray) (r : Bool) (w : World) (h : spec_NameOk.f a0 = some r) :
 Calls Try.prog 178 #[.string a0] w fun e w' => e = .returned (.bool r) ∧ Drawn0 w w' := by
 unfold spec_NameOk.f at h; have H := h; clear h; revert H
 refine ifB (fun c2 => ?_) (fun c2 => ?_)
 · intro H; have c2b0 := beq_iff_eq.mpr c2; have c2b1 := bne_eq_false_iff_eq.mpr c2; clear c2; revert H; refine ifR fun c3 => ?_; intro H; have c3b0 := decide_eq_true c3; have c3b1 : decide (0 < a0.size) = true := decide_eq_true (by omega); clear c3; revert H; refine bdR fun t239 A5 => ?_
   refine ifB (fun c6 => ?_) (fun c6 => ?_)
   · intro H; subst c6; revert H; refine ifR fun c7 => ?_; intro H; have c7b0 := decide_eq_true c7; have c7b1 : decide (1 < a0.size) = true := decide_eq_true (by omega); clear c7; revert H; refine bdR fun t240 A9 => ?_
     refine ifB (fun c10 => ?_) (fun c10 => ?_)
     · intro H; subst c10; revert H; refine ifR fun c11 => ?_; intro H; have c11b0 := decide_eq_true c11; have c11b1 : decide (2 < a0.size) = true := decide_eq_true (by omega); clear c11; revert H; refine bdR fun t241 A13 => ?_
       refine ifB (fun c14 => ?_) (fun c14 => ?_)
       · intro H; subst c14; revert H; refine ifR fun c15 => ?_; intro H; have c15b0 := decide_eq_true c15; have c15b1 : decide (3 < a0.size) = true := decide_eq_true (by omega); clear c15; revert H; refine bdR fun t242 A17 => ?_
         refine ifB (fun c18 => ?_) (fun c18 => ?_)
         · intro H; subst c18; obtain rfl := Option.some.inj H; have p4 : 0 ≤ (0 : Int) := (by omega); have q4 : 0 < a0.size := (by have : (0 : Int) < (a0.size : Int) := bD; omega); have hx4 : ∀ h : 0 < a0.size, ((a0[0]'h).toNat : Int) = bt a0 0 := bt_at a0 0; clear p4; have qi4 : (0 < (a0.size : Int)) = True := eq_true (bD); replace q4 := eq_true q4; go_enter Try.func178, Try.ntmps178
           go_wp2_with (first | (go_at_call 192; (with_reducible refine (spec_l16Letter.calls (bt a0 0) true _ A5.out).mono ?_); rintro e w' ⟨rfl, ⟨nd, rfl⟩⟩; have p8 : 0 ≤ (1 : Int) := (by omega); have q8 : 1 < a0.size := (by have : (1 : Int) < (a0.size : Int) := bD; omega); have hx8 : ∀ h : 1 < a0.size, ((a0[1]'h).toNat : Int) = bt a0 1 := bt_at a0 1; clear p8; have qi8 : (1 < (a0.size : Int)) = True := eq_true (bD); replace q8 := eq_true q8) | (go_at_call 192; (with_reducible refine (spec_l16Letter.calls (bt a0 1) true _ A9.out).mono ?_); rintro e w' ⟨rfl, ⟨nd, rfl⟩⟩; have p12 : 0 ≤ (2 : Int) := (by omega); have q12 : 2 < a0.size := (by have : (2 : Int) < (a0.size : Int) := bD; omega); have hx12 : ∀ h : 2 < a0.size, ((a0[2]'h).toNat : Int) = bt a0 2 := bt_at a0 2; clear p12; have qi12 : (2 < (a0.size : Int)) = True := eq_true (bD); replace q12 := eq_true q12) | (go_at_call 192; (with_reducible refine (spec_l16Letter.calls (bt a0 2) true _ A13.out).mono ?_); rintro e w' ⟨rfl, ⟨nd, rfl⟩⟩; have p16 : 0 ≤ (3 : Int) := (by omega); have q16 : 3 < a0.size := (by have : (3 : Int) < (a0.size : Int) := bD; omega); have hx16 : ∀ h : 3 < a0.size, ((a0[3]'h).toNat : Int) = bt a0 3 := bt_at a0 3; clear p16; have qi16 : (3 < (a0.size : Int)) = True := eq_true (bD); replace q16 := eq_true q16) | (go_at_call 192; (with_reducible refine (spec_l16Letter.calls (bt a0 3) true _ A17.out).mono ?_); rintro e w' ⟨rfl, ⟨nd, rfl⟩⟩; have p19 : 0 ≤ (2 : Int) := (by omega); have q19 : 2 < a0.size := (by have : (2 : Int) < (a0.size : Int) := bD; omega); have hx19 : ∀ h : 2 < a0.size, ((a0[2]'h).toNat : Int) = bt a0 2 := bt_at a0 2; clear p19; have qi19 : (2 < (a0.size : Int)) = True := eq_true (bD); replace q19 := eq_true q19)); go_ret; exact ⟨eQ, dQ⟩
         · intro H; replace c18 := Bool.eq_false_iff.mpr c18; subst c18; obtain rfl := Option.some.inj H; have p4 : 0 ≤ (0 : Int) := (by omega); have q4 : 0 < a0.size := (by have : (0 : Int) < (a0.size : Int) := bD; omega); have hx4 : ∀ h : 0 < a0.size, ((a0[0]'h).toNat : Int) = bt a0 0 := bt_at a0 0; clear p4; have qi4 : (0 < (a0.size : Int)) = True := eq_true (bD); replace q4 := eq_true q4; go_enter Try.func178, Try.ntmps178
           go_wp2_with (first | (go_at_call 192; (with_reducible refine (spec_l16Letter.calls (bt a0 0) true _ A5.out).mono ?_); rintro e w' ⟨rfl, ⟨nd, rfl⟩⟩; have p8 : 0 ≤ (1 : Int) := (by omega); have q8 : 1 < a0.size := (by have : (1 : Int) < (a0.size : Int) := bD; omega); have hx8 : ∀ h : 1 < a0.size, ((a0[1]'h).toNat : Int) = bt a0 1 := bt_at a0 1; clear p8; have qi8 : (1 < (a0.size : Int)) = True := eq_true (bD); replace q8 := eq_true q8) | (go_at_call 192; (with_reducible refine (spec_l16Letter.calls (bt a0 1) true _ A9.out).mono ?_); rintro e w' ⟨rfl, ⟨nd, rfl⟩⟩; have p12 : 0 ≤ (2 : Int) := (by omega); have q12 : 2 < a0.size := (by have : (2 : Int) < (a0.size : Int) := bD; omega); have hx12 : ∀ h : 2 < a0.size, ((a0[2]'h).toNat : Int) = bt a0 2 := bt_at a0 2; clear p12; have qi12 : (2 < (a0.size : Int)) = True := eq_true (bD); replace q12 := eq_true q12) | (go_at_call 192; (with_reducible refine (spec_l16Letter.calls (bt a0 2) true _ A13.out).mono ?_); rintro e w' ⟨rfl, ⟨nd, rfl⟩⟩; have p16 : 0 ≤ (3 : Int) := (by omega); have q16 : 3 < a0.size := (by have : (3 : Int) < (a0.size : Int) := bD; omega); have hx16 : ∀ h : 3 < a0.size, ((a0[3]'h).toNat : Int) = bt a0 3 := bt_at a0 3; clear p16; have qi16 : (3 < (a0.size : Int)) = True := eq_true (bD); replace q16 := eq_true q16) | (go_at_call 192; (with_reducible refine (spec_l16Letter.calls (bt a0 3) false _ A17.out).mono ?_); rintro e w' ⟨rfl, ⟨nd, rfl⟩⟩)); go_ret; exact ⟨eQ, dQ⟩
       · intro H; replace c14 := Bool.eq_false_iff.mpr c14; subst c14; obtain rfl := Option.some.inj H; have p4 : 0 ≤ (0 : Int) := (by omega); have q4 : 0 < a0.size := (by have : (0 : Int) < (a0.size : Int) := bD; omega); have hx4 : ∀ h : 0 < a0.size, ((a0[0]'h).toNat : Int) = bt a0 0 := bt_at a0 0; clear p4; have qi4 : (0 < (a0.size : Int)) = True := eq_true (bD); replace q4 := eq_true q4; go_enter Try.func178, Try.ntmps178
         go_wp2_with (first | (go_at_call 192; (with_reducible refine (spec_l16Letter.calls (bt a0 0) true _ A5.out).mono ?_); rintro e w' ⟨rfl, ⟨nd, rfl⟩⟩; have p8 : 0 ≤ (1 : Int) := (by omega); have q8 : 1 < a0.size := (by have : (1 : Int) < (a0.size : Int) := bD; omega); have hx8 : ∀ h : 1 < a0.size, ((a0[1]'h).toNat : Int) = bt a0 1 := bt_at a0 1; clear p8; have qi8 : (1 < (a0.size : Int)) = True := eq_true (bD); replace q8 := eq_true q8) | (go_at_call 192; (with_reducible refine (spec_l16Letter.calls (bt a0 1) true _ A9.out).mono ?_); rintro e w' ⟨rfl, ⟨nd, rfl⟩⟩; have p12 : 0 ≤ (2 : Int) := (by omega); have q12 : 2 < a0.size := (by have : (2 : Int) < (a0.size : Int) := bD; omega); have hx12 : ∀ h : 2 < a0.size, ((a0[2]'h).toNat : Int) = bt a0 2 := bt_at a0 2; clear p12; have qi12 : (2 < (a0.size : Int)) = True := eq_true (bD); replace q12 := eq_true q12) | (go_at_call 192; (with_reducible refine (spec_l16Letter.calls (bt a0 2) false _ A13.out).mono ?_); rintro e w' ⟨rfl, ⟨nd, rfl⟩⟩)); go_ret; exact ⟨eQ, dQ⟩
     · intro H; replace c10 := Bool.eq_false_iff.mpr c10; subst c10; obtain rfl := Option.some.inj H; have p4 : 0 ≤ (0 : Int) := (by omega); have q4 : 0 < a0.size := (by have : (0 : Int) < (a0.size : Int) := bD; omega); have hx4 : ∀ h : 0 < a0.size, ((a0[0]'h).toNat : Int) = bt a0 0 := bt_at a0 0; clear p4; have qi4 : (0 < (a0.size : Int)) = True := eq_true (bD); replace q4 := eq_true q4; go_enter Try.func178, Try.ntmps178
       go_wp2_with (first | (go_at_call 192; (with_reducible refine (spec_l16Letter.calls (bt a0 0) true _ A5.out).mono ?_); rintro e w' ⟨rfl, ⟨nd, rfl⟩⟩; have p8 : 0 ≤ (1 : Int) := (by omega); have q8 : 1 < a0.size := (by have : (1 : Int) < (a0.size : Int) := bD; omega); have hx8 : ∀ h : 1 < a0.size, ((a0[1]'h).toNat : Int) = bt a0 1 := bt_at a0 1; clear p8; have qi8 : (1 < (a0.size : Int)) = True := eq_true (bD); replace q8 := eq_true q8) | (go_at_call 192; (with_reducible refine (spec_l16Letter.calls (bt a0 1) false _ A9.out).mono ?_); rintro e w' ⟨rfl, ⟨nd, rfl⟩⟩)); go_ret; exact ⟨eQ, dQ⟩
   · intro H; replace c6 := Bool.eq_false_iff.mpr c6; subst c6; obtain rfl := Option.some.inj H; have p4 : 0 ≤ (0 : Int) := (by omega); have q4 : 0 < a0.size := (by have : (0 : Int) < (a0.size : Int) := bD; omega); have hx4 : ∀ h : 0 < a0.size, ((a0[0]'h).toNat : Int) = bt a0 0 := bt_at a0 0; clear p4; have qi4 : (0 < (a0.size : Int)) = True := eq_true (bD); replace q4 := eq_true q4; go_enter Try.func178, Try.ntmps178
     go_wp2_with (first | (go_at_call 192; (with_reducible refine (spec_l16Letter.calls (bt a0 0) false _ A5.out).mono ?_); rintro e w' ⟨rfl, ⟨nd, rfl⟩⟩)); go_ret; exact ⟨eQ, dQ⟩
 · intro H; have c2b0 := beq_eq_false_iff_ne.mpr c2; have c2b1 := bne_iff_ne.mpr c2; obtain rfl := Option.some.inj H; go_enter Try.func178, Try.ntmps178; go_wp2; go_ret; exact ⟨eQ, dQ⟩

/-! ### spec_Needless: function 150 -/
def spec_Needless.f (a0 : ByteArray) : Option (Bool) := (spec_NameOk.f a0).bind fun t243 => (if t243 = true then (if 0 < (a0.size : Int) then (some (decide ((bt a0 0) ≥ 97))) else (none)) else (some false))
set_option maxHeartbeats 8000000 in
set_option maxRecDepth 100000 in
theorem spec_Needless.calls (a0 : ByteArray) (r : Bool) (w : World) (h : spec_Needless.f a0 = some r) :
 Calls Try.prog 150 #[.string a0] w fun e w' => e = .returned (.bool r) ∧ Drawn0 w w' := by
 have H : ((spec_NameOk.f a0).bind fun t243 => (if t243 = true then (if 0 < (a0.size : Int) then (some (decide ((bt a0 0) ≥ 97))) else (none)) else (some false))) = some r := h; clear h; revert H; refine bdR fun t243 A2 => ?_
 refine ifB (fun c3 => ?_) (fun c3 => ?_)
 · intro H; subst c3; revert H; refine ifR fun c4 => ?_; intro H; have c4b0 := decide_eq_true c4; have c4b1 : decide (0 < a0.size) = true := decide_eq_true (by omega); clear c4; obtain rfl := Option.some.inj H; go_enter Try.func150, Try.ntmps150
   go_wp2_with (first | ((with_reducible refine gC 178 ?_); refine gL (some 4) Try.func178 #[.string a0] ?_; (with_reducible refine (spec_NameOk.calls a0 true _ A2.out).mono ?_); rintro e w' ⟨rfl, ⟨nd, rfl⟩⟩; refine ⟨_, rfl, ?_⟩; have p5 : 0 ≤ (0 : Int) := (by omega); have q5 : 0 < a0.size := (by have : (0 : Int) < (a0.size : Int) := bD; omega); have hx5 : ∀ h : 0 < a0.size, ((a0[0]'h).toNat : Int) = bt a0 0 := bt_at a0 0; clear p5; have qi5 : (0 < (a0.size : Int)) = True := eq_true (bD); replace q5 := eq_true q5)); go_ret; exact ⟨eQ, dQ⟩
 · intro H; replace c3 := Bool.eq_false_iff.mpr c3; subst c3; obtain rfl := Option.some.inj H; go_enter Try.func150, Try.ntmps150
   go_wp2_with (first | ((with_reducible refine gC 178 ?_); refine gL (some 4) Try.func178 #[.string a0] ?_; (with_reducible refine (spec_NameOk.calls a0 false _ A2.out).mono ?_); rintro e w' ⟨rfl, ⟨nd, rfl⟩⟩; refine ⟨_, rfl, ?_⟩)); go_ret; exact ⟨eQ, dQ⟩

/-! ### spec_l18Kept: function 97 -/
def spec_l18Kept.l0 : Nat → List (S168) → Int → Option (Bool)
  | 0, _, _ => none
  | k + 1, x0, x3 => if x3 < (x0.length : Int) then (if 0 ≤ x3 then ((spec_Needless.f ((rd_T168 x0 x3).f0)).bind fun t245 => (if t245 = true then (if ((rd_T168 x0 x3).f0).toList = ([116, 82, 78, 83] : List UInt8) then (some false) else (if (((rd_T168 x0 x3).f1).size : Int) > 2600 then (some false) else (spec_l18Kept.l0 k x0 (wrap64 (x3 + 1))))) else (some false))) else (none)) else (some true)
def spec_l18Kept.f (k : Nat) (l0 : List (S168)) : Option (Bool) := if (l0.length : Int) > 32 then (some false) else (spec_l18Kept.l0 k l0 0)
set_option maxHeartbeats 8000000 in
set_option maxRecDepth 100000 in
theorem spec_l18Kept.calls (k : Nat) (A0 : Option Addr) (c0 : Nat) (l0 : List (S168)) (r : Bool) (w : World) (hr0 : Kd.C k168 w A0 l0.length l0) (hc0 : l0.length ≤ c0) (h : spec_l18Kept.f k l0 = some r) :
 Calls Try.prog 97 #[.slice A0 l0.length c0] w fun e w' => e = .returned (.bool r) ∧ Drawn0 w w' := by
 have HR0 := aM hr0; have HC0 := aM hc0; clear hr0 hc0; have H : (if (l0.length : Int) > 32 then (some false) else (spec_l18Kept.l0 k l0 0)) = some r := h; clear h; revert H
 refine ifB (fun c2 => ?_) (fun c2 => ?_)
 · intro H; have c2b0 := decide_eq_true c2; have c2b1 : decide (32 < l0.length) = true := decide_eq_true (by omega); clear c2; obtain rfl := Option.some.inj H; go_enter Try.func97, Try.ntmps97; go_wp2; go_ret; exact ⟨eQ, dQ⟩
 · intro H; have c2b0 := decide_eq_false c2; have c2b1 : decide (32 < l0.length) = false := decide_eq_false (by omega); clear c2; revert H; refine adR fun H' => ?_; go_enter Try.func97, Try.ntmps97; go_wp2
   go_loopg [3] k (fun kq v3 w' => ∃ (x3_1 : Int), v3 = .int .i64 x3_1 ∧ Aside0 (spec_l18Kept.l0 kq l0 x3_1 = some r) ∧ Aside0 (kq ≤ k) ∧ Drawn0 w w')
   case atStart => exact ⟨(0), eQ, H', ⟨Nat.le_refl _⟩, dQ⟩
   case round =>
    clear H'; (try clear c2); (try clear c2b0); (try clear c2b1); (try clear p2); obtain ⟨x3_1, rfl, HA, HK1, ⟨m1, rfl⟩⟩ := hrel; rcases gk with _ | k1
    · exact absurd HA.out (by simp [spec_l18Kept.l0])
    revert HA; refine aoR ?_; intro H; simp only [spec_l18Kept.l0] at H; revert H
    refine ifB (fun c3 => ?_) (fun c3 => ?_)
    · intro H; have c3b0 := decide_eq_true c3; clear c3; revert H; refine ifR fun c4 => ?_; intro H; have c4b0 := decide_eq_true c4; clear c4; revert H; refine bdR fun t245 A5 => ?_
      refine ifB (fun c6 => ?_) (fun c6 => ?_)
      · intro H; subst c6; revert H
        refine ifB (fun c7 => ?_) (fun c7 => ?_)
        · intro H; have c7b0 := beq_iff_eq.mpr c7; have c7b1 := bne_eq_false_iff_eq.mpr c7; clear c7; obtain rfl := Option.some.inj H; have p244 : 0 ≤ (x3_1 : Int) := bD; have q244 : x3_1 < (l0.length : Int) := bD; obtain ⟨ad244, e244, hx244_0, hx244_1⟩ := at_T168 HR0.out x3_1 p244 q244; cases e244; replace p244 := eq_true p244; replace q244 := eq_true q244
          go_wp2_with (first | ((with_reducible refine gC 150 ?_); refine gL (some 18) Try.func150 #[.string ((rd_T168 l0 x3_1).f0)] ?_; (with_reducible refine (spec_Needless.calls ((rd_T168 l0 x3_1).f0) true _ A5.out).mono ?_); rintro e w' ⟨rfl, ⟨nd, rfl⟩⟩; refine ⟨_, rfl, ?_⟩; have p246 : 0 ≤ (x3_1 : Int) := bD; have q246 : x3_1 < (l0.length : Int) := bD; obtain ⟨ad246, e246, hx246_0, hx246_1⟩ := at_T168 HR0.out x3_1 p246 q246; obtain rfl : ad244 = ad246 := (by injection e246); replace p246 := eq_true p246; replace q246 := eq_true q246)); go_ret; exact ⟨eQ, dQ⟩
        · intro H; have c7b0 := beq_eq_false_iff_ne.mpr c7; have c7b1 := bne_iff_ne.mpr c7; revert H
          refine ifB (fun c8 => ?_) (fun c8 => ?_)
          · intro H; have c8b0 := decide_eq_true c8; have c8b1 : decide (2600 < ((rd_T168 l0 x3_1).f1).size) = true := decide_eq_true (by omega); clear c8; obtain rfl := Option.some.inj H; have p244 : 0 ≤ (x3_1 : Int) := bD; have q244 : x3_1 < (l0.length : Int) := bD; obtain ⟨ad244, e244, hx244_0, hx244_1⟩ := at_T168 HR0.out x3_1 p244 q244; cases e244; replace p244 := eq_true p244; replace q244 := eq_true q244
            go_wp2_with (first | ((with_reducible refine gC 150 ?_); refine gL (some 18) Try.func150 #[.string ((rd_T168 l0 x3_1).f0)] ?_; (with_reducible refine (spec_Needless.calls ((rd_T168 l0 x3_1).f0) true _ A5.out).mono ?_); rintro e w' ⟨rfl, ⟨nd, rfl⟩⟩; refine ⟨_, rfl, ?_⟩; have p246 : 0 ≤ (x3_1 : Int) := bD; have q246 : x3_1 < (l0.length : Int) := bD; obtain ⟨ad246, e246, hx246_0, hx246_1⟩ := at_T168 HR0.out x3_1 p246 q246; obtain rfl : ad244 = ad246 := (by injection e246); replace p246 := eq_true p246; replace q246 := eq_true q246; have p247 : 0 ≤ (x3_1 : Int) := bD; have q247 : x3_1 < (l0.length : Int) := bD; obtain ⟨ad247, e247, hx247_0, hx247_1⟩ := at_T168 HR0.out x3_1 p247 q247; obtain rfl : ad244 = ad247 := (by injection e247); replace p247 := eq_true p247; replace q247 := eq_true q247)); go_ret; exact ⟨eQ, dQ⟩
          · intro H; have c8b0 := decide_eq_false c8; have c8b1 : decide (2600 < ((rd_T168 l0 x3_1).f1).size) = false := decide_eq_false (by omega); clear c8; revert H; refine adR fun H' => ?_; have p244 : 0 ≤ (x3_1 : Int) := bD; have q244 : x3_1 < (l0.length : Int) := bD; obtain ⟨ad244, e244, hx244_0, hx244_1⟩ := at_T168 HR0.out x3_1 p244 q244; cases e244; replace p244 := eq_true p244; replace q244 := eq_true q244
            go_wp2_with (first | ((with_reducible refine gC 150 ?_); refine gL (some 18) Try.func150 #[.string ((rd_T168 l0 x3_1).f0)] ?_; (with_reducible refine (spec_Needless.calls ((rd_T168 l0 x3_1).f0) true _ A5.out).mono ?_); rintro e w' ⟨rfl, ⟨nd, rfl⟩⟩; refine ⟨_, rfl, ?_⟩; have p246 : 0 ≤ (x3_1 : Int) := bD; have q246 : x3_1 < (l0.length : Int) := bD; obtain ⟨ad246, e246, hx246_0, hx246_1⟩ := at_T168 HR0.out x3_1 p246 q246; obtain rfl : ad244 = ad246 := (by injection e246); replace p246 := eq_true p246; replace q246 := eq_true q246; have p247 : 0 ≤ (x3_1 : Int) := bD; have q247 : x3_1 < (l0.length : Int) := bD; obtain ⟨ad247, e247, hx247_0, hx247_1⟩ := at_T168 HR0.out x3_1 p247 q247; obtain rfl : ad244 = ad247 := (by injection e247); replace p247 := eq_true p247; replace q247 := eq_true q247)); go_roundg k1
            case measure => have := HK1.out; omega
            case rel => exact ⟨(wrap64 (x3_1 + 1)), eQ, H', ⟨by have := HK1.out; omega⟩, dQ⟩
      · intro H; replace c6 := Bool.eq_false_iff.mpr c6; subst c6; obtain rfl := Option.some.inj H; have p244 : 0 ≤ (x3_1 : Int) := bD; have q244 : x3_1 < (l0.length : Int) := bD; obtain ⟨ad244, e244, hx244_0, hx244_1⟩ := at_T168 HR0.out x3_1 p244 q244; cases e244; replace p244 := eq_true p244; replace q244 := eq_true q244
        go_wp2_with (first | ((with_reducible refine gC 150 ?_); refine gL (some 18) Try.func150 #[.string ((rd_T168 l0 x3_1).f0)] ?_; (with_reducible refine (spec_Needless.calls ((rd_T168 l0 x3_1).f0) false _ A5.out).mono ?_); rintro e w' ⟨rfl, ⟨nd, rfl⟩⟩; refine ⟨_, rfl, ?_⟩)); go_ret; exact ⟨eQ, dQ⟩
    · intro H; have c3b0 := decide_eq_false c3; clear c3; obtain rfl := Option.some.inj H; go_wp2; go_ret; exact ⟨eQ, dQ⟩

/-! ### spec_l17Byte: function 151 -/
def spec_l17Byte.f (a0 : Int) : Option (Bool) := (spec_l01In.f a0 0 255).bind fun t248 => (some t248)
set_option maxHeartbeats 8000000 in
set_option maxRecDepth 100000 in
theorem spec_l17Byte.calls (a0 : Int) (r : Bool) (w : World) (h : spec_l17Byte.f a0 = some r) :
 Calls Try.prog 151 #[.int .i64 a0] w fun e w' => e = .returned (.bool r) ∧ Drawn0 w w' := by
 have H : ((spec_l01In.f a0 0 255).bind fun t248 => (some t248)) = some r := h; clear h; revert H; refine bdR fun t248 A2 => ?_; intro H; obtain rfl := Option.some.inj H; go_enter Try.func151, Try.ntmps151
 go_wp2_with (first | ((with_reducible refine gC 129 ?_); refine gL (some 4) Try.func129 #[.int .i64 a0, .int .i64 0, .int .i64 255] ?_; (with_reducible refine (spec_l01In.calls a0 0 255 t248 _ A2.out).mono ?_); rintro e w' ⟨rfl, ⟨nd, rfl⟩⟩; refine ⟨_, rfl, ?_⟩)); go_ret; exact ⟨eQ, dQ⟩

end Go.Proofs.Ytajnobmnkbkkgaa.PFnExactNoCover
