/- Walks of functions that the law FnExactNoCover reaches: each call comes to what the Lean function of its name tells. Written by p2.py, a program of this session, by way of the kit's print. -/
import Derived.Test.YtajnobmnkbkkgaaVFnExactNoCover
import Derived.Test.YtajnobmnkbkkgaaPFnExactNoCoverx0
import Derived.Test.YtajnobmnkbkkgaaPFnExactNoCoverx11
namespace Go.Proofs.Ytajnobmnkbkkgaa.PFnExactNoCover
open Go.RowKit Go.Proofs.YtajnobmnkbkkgaaW.PrintWords Go.Proofs.YtajnobmnkbkkgaaW.PrintLast Go.Proofs.YtajnobmnkbkkgaaW.PrintMore
attribute [local go_sem] max2_int min2_int max_two min_two max_three min_three max_four min_four   -- for this text's walks alone
set_option linter.unusedVariables false
set_option linter.unusedSimpArgs false

/-! ### impl_NameOk: function 179 -/
def impl_NameOk.l0 : Nat → ByteArray → Int → Int → Option (Bool)
  | 0, _, _, _ => none
  | k + 1, x0, x5, x6 => if x6 < x5 then (if 0 ≤ x6 then (if x6 < (x0.size : Int) then ((impl_isGreat.f (bt x0 x6)).bind fun t368 => (if t368 = true then (impl_NameOk.l0 k x0 x5 (wrap64 (x6 + 1))) else ((impl_isSmall.f (bt x0 x6)).bind fun t369 => (if t369 = true then (if x6 = 2 then (some false) else (impl_NameOk.l0 k x0 x5 (wrap64 (x6 + 1)))) else (some false))))) else (none)) else (none)) else (some ((x0.size : Int) == 4))
def impl_NameOk.f (k : Nat) (a0 : ByteArray) : Option (Bool) := impl_NameOk.l0 k a0 (a0.size : Int) 0
set_option maxHeartbeats 8000000 in
set_option maxRecDepth 100000 in
theorem impl_NameOk.calls (k : Nat) (a0 : ByteArray) (r : Bool) (w : World) (h : impl_NameOk.f k a0 = some r) :
 Calls Try.prog 179 #[.string a0] w fun e w' => e = .returned (.bool r) ∧ Drawn0 w w' := by
 have H : (impl_NameOk.l0 k a0 (a0.size : Int) 0) = some r := h; clear h; revert H; refine adR fun H' => ?_; go_enter Try.func179, Try.ntmps179; go_wp2
 go_loopg [6] k (fun kq v6 w' => ∃ (x6_1 : Int), v6 = .int .i64 x6_1 ∧ Aside0 (impl_NameOk.l0 kq a0 (a0.size : Int) x6_1 = some r) ∧ Aside0 (kq ≤ k) ∧ Drawn0 w w')
 case atStart => exact ⟨(0), eQ, H', ⟨Nat.le_refl _⟩, dQ⟩
 case round =>
  clear H'; (try clear c1); obtain ⟨x6_1, rfl, HA, HK1, ⟨m1, rfl⟩⟩ := hrel; rcases gk with _ | k1
  · exact absurd HA.out (by simp [impl_NameOk.l0])
  revert HA; refine aoR ?_; intro H; simp only [impl_NameOk.l0] at H; revert H
  refine ifB (fun c2 => ?_) (fun c2 => ?_)
  · intro H; have c2b0 := decide_eq_true c2; clear c2; revert H; refine ifR fun c3 => ?_; intro H; have c3b0 := decide_eq_true c3; clear c3; revert H; refine ifR fun c4 => ?_; intro H; have c4b0 := decide_eq_true c4; clear c4; revert H; refine bdR fun t368 A6 => ?_
    refine ifB (fun c7 => ?_) (fun c7 => ?_)
    · intro H; subst c7; revert H; refine adR fun H' => ?_; have p5 : 0 ≤ (x6_1 : Int) := bD; have q5 : x6_1 < (a0.size : Int) := bD; have hx5 := bt_at a0 x6_1; replace p5 := eq_true p5; replace q5 := eq_true q5
      go_wp2_with (first | ((with_reducible refine gC 193 ?_); refine gL (some 12) Try.func193 #[.int .u8 (bt a0 x6_1)] ?_; (with_reducible refine (impl_isGreat.calls (bt a0 x6_1) true _ A6.out).mono ?_); rintro e w' ⟨rfl, ⟨nd, rfl⟩⟩; refine ⟨_, rfl, ?_⟩)); go_roundg k1
      case measure => have := HK1.out; omega
      case rel => exact ⟨(wrap64 (x6_1 + 1)), eQ, H', ⟨by have := HK1.out; omega⟩, dQ⟩
    · intro H; replace c7 := Bool.eq_false_iff.mpr c7; subst c7; revert H; refine bdR fun t369 A9 => ?_
      refine ifB (fun c10 => ?_) (fun c10 => ?_)
      · intro H; subst c10; revert H
        refine ifB (fun c11 => ?_) (fun c11 => ?_)
        · intro H; have c11b0 := beq_iff_eq.mpr c11; have c11b1 := bne_eq_false_iff_eq.mpr c11; clear c11; obtain rfl := Option.some.inj H; have p5 : 0 ≤ (x6_1 : Int) := bD; have q5 : x6_1 < (a0.size : Int) := bD; have hx5 := bt_at a0 x6_1; replace p5 := eq_true p5; replace q5 := eq_true q5
          go_wp2_with (first | ((with_reducible refine gC 193 ?_); refine gL (some 12) Try.func193 #[.int .u8 (bt a0 x6_1)] ?_; (with_reducible refine (impl_isGreat.calls (bt a0 x6_1) false _ A6.out).mono ?_); rintro e w' ⟨rfl, ⟨nd, rfl⟩⟩; refine ⟨_, rfl, ?_⟩; have p8 : 0 ≤ (x6_1 : Int) := bD; have q8 : x6_1 < (a0.size : Int) := bD; have hx8 := bt_at a0 x6_1; replace p8 := eq_true p8; replace q8 := eq_true q8) | (go_at_call 180; (with_reducible refine (impl_isSmall.calls (bt a0 x6_1) true _ A9.out).mono ?_); rintro e w' ⟨rfl, ⟨nd, rfl⟩⟩)); go_ret; exact ⟨eQ, dQ⟩
        · intro H; have c11b0 := beq_eq_false_iff_ne.mpr c11; have c11b1 := bne_iff_ne.mpr c11; revert H; refine adR fun H' => ?_; have p5 : 0 ≤ (x6_1 : Int) := bD; have q5 : x6_1 < (a0.size : Int) := bD; have hx5 := bt_at a0 x6_1; replace p5 := eq_true p5; replace q5 := eq_true q5
          go_wp2_with (first | ((with_reducible refine gC 193 ?_); refine gL (some 12) Try.func193 #[.int .u8 (bt a0 x6_1)] ?_; (with_reducible refine (impl_isGreat.calls (bt a0 x6_1) false _ A6.out).mono ?_); rintro e w' ⟨rfl, ⟨nd, rfl⟩⟩; refine ⟨_, rfl, ?_⟩; have p8 : 0 ≤ (x6_1 : Int) := bD; have q8 : x6_1 < (a0.size : Int) := bD; have hx8 := bt_at a0 x6_1; replace p8 := eq_true p8; replace q8 := eq_true q8) | (go_at_call 180; (with_reducible refine (impl_isSmall.calls (bt a0 x6_1) true _ A9.out).mono ?_); rintro e w' ⟨rfl, ⟨nd, rfl⟩⟩)); go_roundg k1
          case measure => have := HK1.out; omega
          case rel => exact ⟨(wrap64 (x6_1 + 1)), eQ, H', ⟨by have := HK1.out; omega⟩, dQ⟩
      · intro H; replace c10 := Bool.eq_false_iff.mpr c10; subst c10; obtain rfl := Option.some.inj H; have p5 : 0 ≤ (x6_1 : Int) := bD; have q5 : x6_1 < (a0.size : Int) := bD; have hx5 := bt_at a0 x6_1; replace p5 := eq_true p5; replace q5 := eq_true q5
        go_wp2_with (first | ((with_reducible refine gC 193 ?_); refine gL (some 12) Try.func193 #[.int .u8 (bt a0 x6_1)] ?_; (with_reducible refine (impl_isGreat.calls (bt a0 x6_1) false _ A6.out).mono ?_); rintro e w' ⟨rfl, ⟨nd, rfl⟩⟩; refine ⟨_, rfl, ?_⟩; have p8 : 0 ≤ (x6_1 : Int) := bD; have q8 : x6_1 < (a0.size : Int) := bD; have hx8 := bt_at a0 x6_1; replace p8 := eq_true p8; replace q8 := eq_true q8) | (go_at_call 180; (with_reducible refine (impl_isSmall.calls (bt a0 x6_1) false _ A9.out).mono ?_); rintro e w' ⟨rfl, ⟨nd, rfl⟩⟩)); go_ret; exact ⟨eQ, dQ⟩
  · intro H; have c2b0 := decide_eq_false c2; clear c2; obtain rfl := Option.some.inj H; go_wp2; go_ret; exact ⟨eQ, dQ⟩

/-! ### impl_Needless: function 154 -/
def impl_Needless.f (k : Nat) (a0 : ByteArray) : Option (Bool) := (impl_NameOk.f k a0).bind fun t370 => (if t370 = true then (if 0 < (a0.size : Int) then ((impl_isSmall.f (bt a0 0)).bind fun t371 => (some t371)) else (none)) else (some false))
set_option maxHeartbeats 8000000 in
set_option maxRecDepth 100000 in
theorem impl_Needless.calls (k : Nat) (a0 : ByteArray) (r : Bool) (w : World) (h : impl_Needless.f k a0 = some r) :
 Calls Try.prog 154 #[.string a0] w fun e w' => e = .returned (.bool r) ∧ Drawn0 w w' := by
 have H : ((impl_NameOk.f k a0).bind fun t370 => (if t370 = true then (if 0 < (a0.size : Int) then ((impl_isSmall.f (bt a0 0)).bind fun t371 => (some t371)) else (none)) else (some false))) = some r := h; clear h; revert H; refine bdR fun t370 A2 => ?_
 refine ifB (fun c3 => ?_) (fun c3 => ?_)
 · intro H; subst c3; revert H; refine ifR fun c4 => ?_; intro H; have c4b0 := decide_eq_true c4; have c4b1 : decide (0 < a0.size) = true := decide_eq_true (by omega); clear c4; revert H; refine bdR fun t371 A6 => ?_; intro H; obtain rfl := Option.some.inj H; go_enter Try.func154, Try.ntmps154
   go_wp2_with (first | ((with_reducible refine gC 179 ?_); refine gL (some 4) Try.func179 #[.string a0] ?_; (with_reducible refine (impl_NameOk.calls k a0 true _ A2.out).mono ?_); rintro e w' ⟨rfl, ⟨nd, rfl⟩⟩; refine ⟨_, rfl, ?_⟩; have p5 : 0 ≤ (0 : Int) := (by omega); have q5 : 0 < a0.size := (by have : (0 : Int) < (a0.size : Int) := bD; omega); have hx5 : ∀ h : 0 < a0.size, ((a0[0]'h).toNat : Int) = bt a0 0 := bt_at a0 0; clear p5; have qi5 : (0 < (a0.size : Int)) = True := eq_true (bD); replace q5 := eq_true q5) | (go_at_call 180; (with_reducible refine (impl_isSmall.calls (bt a0 0) t371 _ A6.out).mono ?_); rintro e w' ⟨rfl, ⟨nd, rfl⟩⟩)); go_ret; exact ⟨eQ, dQ⟩
 · intro H; replace c3 := Bool.eq_false_iff.mpr c3; subst c3; obtain rfl := Option.some.inj H; go_enter Try.func154, Try.ntmps154
   go_wp2_with (first | ((with_reducible refine gC 179 ?_); refine gL (some 4) Try.func179 #[.string a0] ?_; (with_reducible refine (impl_NameOk.calls k a0 false _ A2.out).mono ?_); rintro e w' ⟨rfl, ⟨nd, rfl⟩⟩; refine ⟨_, rfl, ?_⟩)); go_ret; exact ⟨eQ, dQ⟩

/-! ### impl_keptOk: function 104 -/
def impl_keptOk.l0 : Nat → List (S168) → List (S168) → Int → Int → Option (Bool)
  | 0, _, _, _, _ => none
  | k + 1, x0, x5, x6, x7 => if x7 < x6 then (if 0 ≤ x7 then (if x7 < (x5.length : Int) then ((impl_Needless.f k ((rd_T168 x5 x7).f0)).bind fun t374 => (if t374 = true then (if ((rd_T168 x5 x7).f0).toList = ([116, 82, 78, 83] : List UInt8) then (some false) else (if (((rd_T168 x5 x7).f1).size : Int) > 2600 then (some false) else (impl_keptOk.l0 k x0 x5 x6 (wrap64 (x7 + 1))))) else (some false))) else (none)) else (none)) else (some (decide ((x0.length : Int) ≤ 32)))
def impl_keptOk.f (k : Nat) (l0 : List (S168)) : Option (Bool) := impl_keptOk.l0 k l0 l0 (l0.length : Int) 0
set_option maxHeartbeats 8000000 in
set_option maxRecDepth 100000 in
theorem impl_keptOk.calls (k : Nat) (A0 : Option Addr) (c0 : Nat) (l0 : List (S168)) (r : Bool) (w : World) (hr0 : Kd.C k168 w A0 l0.length l0) (hc0 : l0.length ≤ c0) (h : impl_keptOk.f k l0 = some r) :
 Calls Try.prog 104 #[.slice A0 l0.length c0] w fun e w' => e = .returned (.bool r) ∧ Below w.heap.size w w' := by
 have hu168 := Try.underlying168; have HR0 := aM hr0; have HC0 := aM hc0; clear hr0 hc0; have HB := aM (Below.refl w.heap.size w); have H : (impl_keptOk.l0 k l0 l0 (l0.length : Int) 0) = some r := h; clear h; revert H; refine adR fun H' => ?_; go_enter Try.func104, Try.ntmps104; go_wp2
 go_loopg [7] k (fun kq v7 w' => ∃ (x7_1 : Int), v7 = .int .i64 x7_1 ∧ Aside0 (impl_keptOk.l0 kq l0 l0 (l0.length : Int) x7_1 = some r) ∧ Aside0 (kq ≤ k) ∧ Aside0 (Below w.heap.size w w'))
 case atStart => exact ⟨(0), eQ, H', ⟨Nat.le_refl _⟩, ⟨hB⟩⟩
 case round =>
  clear H'; (try clear c1); obtain ⟨x7_1, rfl, HA, HK1, HB⟩ := hrel; rcases gk with _ | k1
  · exact absurd HA.out (by simp [impl_keptOk.l0])
  revert HA; refine aoR ?_; intro H; simp only [impl_keptOk.l0] at H; revert H
  refine ifB (fun c2 => ?_) (fun c2 => ?_)
  · intro H; have c2b0 := decide_eq_true c2; clear c2; revert H; refine ifR fun c3 => ?_; intro H; have c3b0 := decide_eq_true c3; clear c3; revert H; refine ifR fun c4 => ?_; intro H; have c4b0 := decide_eq_true c4; clear c4; revert H; refine bdR fun t374 A5 => ?_
    refine ifB (fun c6 => ?_) (fun c6 => ?_)
    · intro H; subst c6; revert H
      refine ifB (fun c7 => ?_) (fun c7 => ?_)
      · intro H; have c7b0 := beq_iff_eq.mpr c7; have c7b1 := bne_eq_false_iff_eq.mpr c7; clear c7; obtain rfl := Option.some.inj H; have p372 : 0 ≤ (x7_1 : Int) := bD; have q372 : x7_1 < (l0.length : Int) := bD; obtain ⟨ad372, e372, hx372_0, hx372_1⟩ := at_T168 HR0.out x7_1 p372 q372; cases e372; replace hx372_0 := cB0 HB hx372_0; replace hx372_1 := cB0 HB hx372_1; replace p372 := eq_true p372; replace q372 := eq_true q372
        go_wp2_with (first | ((with_reducible refine gD 4 ?_); (try (refine gate_guard (by rfl) ?_; dsimp only)); refine bE 4 #[.string (⟨#[]⟩ : ByteArray), .string (⟨#[]⟩ : ByteArray)] 168 ?_; intro gb373 hg w8 hbox hb; have BK373 := aM hbox; have GW373 := aM (sZ hg); have GE373 := GW373; replace HB := hS hb; clear hb hbox hg; have hz9 := bz2 BK373) | ((with_reducible refine gC 154 ?_); refine gL (some 13) Try.func154 #[.string ((rd_T168 l0 x7_1).f0)] ?_; (with_reducible refine (impl_Needless.calls k1 ((rd_T168 l0 x7_1).f0) true _ A5.out).mono ?_); rintro e w' ⟨rfl, ⟨nd, rfl⟩⟩; refine ⟨_, rfl, ?_⟩)); go_ret; exact ⟨eE, hB⟩
      · intro H; have c7b0 := beq_eq_false_iff_ne.mpr c7; have c7b1 := bne_iff_ne.mpr c7; revert H
        refine ifB (fun c10 => ?_) (fun c10 => ?_)
        · intro H; have c10b0 := decide_eq_true c10; have c10b1 : decide (2600 < ((rd_T168 l0 x7_1).f1).size) = true := decide_eq_true (by omega); clear c10; obtain rfl := Option.some.inj H; have p372 : 0 ≤ (x7_1 : Int) := bD; have q372 : x7_1 < (l0.length : Int) := bD; obtain ⟨ad372, e372, hx372_0, hx372_1⟩ := at_T168 HR0.out x7_1 p372 q372; cases e372; replace hx372_0 := cB0 HB hx372_0; replace hx372_1 := cB0 HB hx372_1; replace p372 := eq_true p372; replace q372 := eq_true q372
          go_wp2_with (first | ((with_reducible refine gD 4 ?_); (try (refine gate_guard (by rfl) ?_; dsimp only)); refine bE 4 #[.string (⟨#[]⟩ : ByteArray), .string (⟨#[]⟩ : ByteArray)] 168 ?_; intro gb373 hg w11 hbox hb; have BK373 := aM hbox; have GW373 := aM (sZ hg); have GE373 := GW373; replace HB := hS hb; clear hb hbox hg; have hz12 := bz2 BK373) | ((with_reducible refine gC 154 ?_); refine gL (some 13) Try.func154 #[.string ((rd_T168 l0 x7_1).f0)] ?_; (with_reducible refine (impl_Needless.calls k1 ((rd_T168 l0 x7_1).f0) true _ A5.out).mono ?_); rintro e w' ⟨rfl, ⟨nd, rfl⟩⟩; refine ⟨_, rfl, ?_⟩)); go_ret; exact ⟨eE, hB⟩
        · intro H; have c10b0 := decide_eq_false c10; have c10b1 : decide (2600 < ((rd_T168 l0 x7_1).f1).size) = false := decide_eq_false (by omega); clear c10; revert H; refine adR fun H' => ?_; have p372 : 0 ≤ (x7_1 : Int) := bD; have q372 : x7_1 < (l0.length : Int) := bD; obtain ⟨ad372, e372, hx372_0, hx372_1⟩ := at_T168 HR0.out x7_1 p372 q372; cases e372; replace hx372_0 := cB0 HB hx372_0; replace hx372_1 := cB0 HB hx372_1; replace p372 := eq_true p372; replace q372 := eq_true q372
          go_wp2_with (first | ((with_reducible refine gD 4 ?_); (try (refine gate_guard (by rfl) ?_; dsimp only)); refine bE 4 #[.string (⟨#[]⟩ : ByteArray), .string (⟨#[]⟩ : ByteArray)] 168 ?_; intro gb373 hg w13 hbox hb; have BK373 := aM hbox; have GW373 := aM (sZ hg); have GE373 := GW373; replace HB := hS hb; clear hb hbox hg; have hz14 := bz2 BK373) | ((with_reducible refine gC 154 ?_); refine gL (some 13) Try.func154 #[.string ((rd_T168 l0 x7_1).f0)] ?_; (with_reducible refine (impl_Needless.calls k1 ((rd_T168 l0 x7_1).f0) true _ A5.out).mono ?_); rintro e w' ⟨rfl, ⟨nd, rfl⟩⟩; refine ⟨_, rfl, ?_⟩)); go_roundg k1
          case measure => have := HK1.out; omega
          case rel => exact ⟨(wrap64 (x7_1 + 1)), eQ, H', ⟨by have := HK1.out; omega⟩, ⟨hB⟩⟩
    · intro H; replace c6 := Bool.eq_false_iff.mpr c6; subst c6; obtain rfl := Option.some.inj H; have p372 : 0 ≤ (x7_1 : Int) := bD; have q372 : x7_1 < (l0.length : Int) := bD; obtain ⟨ad372, e372, hx372_0, hx372_1⟩ := at_T168 HR0.out x7_1 p372 q372; cases e372; replace hx372_0 := cB0 HB hx372_0; replace hx372_1 := cB0 HB hx372_1; replace p372 := eq_true p372; replace q372 := eq_true q372
      go_wp2_with (first | ((with_reducible refine gD 4 ?_); (try (refine gate_guard (by rfl) ?_; dsimp only)); refine bE 4 #[.string (⟨#[]⟩ : ByteArray), .string (⟨#[]⟩ : ByteArray)] 168 ?_; intro gb373 hg w15 hbox hb; have BK373 := aM hbox; have GW373 := aM (sZ hg); have GE373 := GW373; replace HB := hS hb; clear hb hbox hg; have hz16 := bz2 BK373) | ((with_reducible refine gC 154 ?_); refine gL (some 13) Try.func154 #[.string ((rd_T168 l0 x7_1).f0)] ?_; (with_reducible refine (impl_Needless.calls k1 ((rd_T168 l0 x7_1).f0) false _ A5.out).mono ?_); rintro e w' ⟨rfl, ⟨nd, rfl⟩⟩; refine ⟨_, rfl, ?_⟩)); go_ret; exact ⟨eE, hB⟩
  · intro H; have c2b0 := decide_eq_false c2; clear c2; obtain rfl := Option.some.inj H; go_wp2; go_ret; exact ⟨eE, hB⟩

/-! ### impl_inTable: function 105 -/
def impl_inTable.l0 : Nat → List Int → Int → Int → Int → Int → Int → Int → Bool → List (S52) → List Int → Int → Int → Int → Int → List Int → List (S168) → Option (Bool)
  | 0, _, _, _, _, _, _, _, _, _, _, _, _, _, _, _, _ => none
  | k + 1, x7, x8, x9, x376000, x376001, x376002, x376003, x376004, x376005, x376006, x376007, x376008, x376009, x376010, x376011, x376012 => if x9 < x8 then (if 0 ≤ x9 then (if x9 < (x7.length : Int) then (if (rd x7 x9) ≥ (x376005.length : Int) then (some false) else (impl_inTable.l0 k x7 x8 (wrap64 (x9 + 1)) x376000 x376001 x376002 x376003 x376004 x376005 x376006 x376007 x376008 x376009 x376010 x376011 x376012)) else (none)) else (none)) else (some true)
def impl_inTable.f (k : Nat) (a0_0 : Int) (a0_1 : Int) (a0_2 : Int) (a0_3 : Int) (a0_4 : Bool) (l0_5 : List (S52)) (l0_6 : List Int) (a0_7 : Int) (a0_8 : Int) (a0_9 : Int) (a0_10 : Int) (l0_11 : List Int) (l0_12 : List (S168)) : Option (Bool) := impl_inTable.l0 k l0_11 (l0_11.length : Int) 0 a0_0 a0_1 a0_2 a0_3 a0_4 l0_5 l0_6 a0_7 a0_8 a0_9 a0_10 l0_11 l0_12
set_option maxHeartbeats 8000000 in
set_option maxRecDepth 100000 in
theorem impl_inTable.calls (k : Nat) (a0_0 : Int) (a0_1 : Int) (a0_2 : Int) (a0_3 : Int) (a0_4 : Bool) (A0_5 : Option Addr) (c0_5 : Nat) (l0_5 : List (S52)) (A0_6 : Option Addr) (c0_6 : Nat) (l0_6 : List Int) (a0_7 : Int) (a0_8 : Int) (a0_9 : Int) (a0_10 : Int) (A0_11 : Option Addr) (c0_11 : Nat) (l0_11 : List Int) (A0_12 : Option Addr) (c0_12 : Nat) (l0_12 : List (S168)) (r : Bool) (w : World) (hr0_5 : Kd.C k52 w A0_5 l0_5.length l0_5) (hc0_5 : l0_5.length ≤ c0_5) (hr0_6 : Kd.C (Kd.int .i64) w A0_6 l0_6.length l0_6) (hc0_6 : l0_6.length ≤ c0_6) (hr0_11 : Kd.C (Kd.int .i64) w A0_11 l0_11.length l0_11) (hc0_11 : l0_11.length ≤ c0_11) (hr0_12 : Kd.C k168 w A0_12 l0_12.length l0_12) (hc0_12 : l0_12.length ≤ c0_12) (h : impl_inTable.f k a0_0 a0_1 a0_2 a0_3 a0_4 l0_5 l0_6 a0_7 a0_8 a0_9 a0_10 l0_11 l0_12 = some r) :
 Calls Try.prog 105 #[.agg #[.int .i64 a0_0, .int .i64 a0_1, .int .i64 a0_2, .int .i64 a0_3, .bool a0_4, .slice A0_5 l0_5.length c0_5, .slice A0_6 l0_6.length c0_6, .int .i64 a0_7, .int .i64 a0_8, .int .i64 a0_9, .int .i64 a0_10, .slice A0_11 l0_11.length c0_11, .slice A0_12 l0_12.length c0_12]] w fun e w' => e = .returned (.bool r) ∧ Below w.heap.size w w' := by
 have hu74 := Try.underlying74; have HR0_5 := aM hr0_5; have HC0_5 := aM hc0_5; clear hr0_5 hc0_5; have HR0_6 := aM hr0_6; have HC0_6 := aM hc0_6; clear hr0_6 hc0_6; have HR0_11 := aM hr0_11; have HC0_11 := aM hc0_11; clear hr0_11 hc0_11; have HR0_12 := aM hr0_12; have HC0_12 := aM hc0_12; clear hr0_12 hc0_12; have HB := aM (Below.refl w.heap.size w); have H : (impl_inTable.l0 k l0_11 (l0_11.length : Int) 0 a0_0 a0_1 a0_2 a0_3 a0_4 l0_5 l0_6 a0_7 a0_8 a0_9 a0_10 l0_11 l0_12) = some r := h; clear h; revert H; refine adR fun H' => ?_; go_enter Try.func105, Try.ntmps105
 go_wp2_with (first | ((with_reducible refine gD 1 ?_); refine bE 1 #[.int .i64 a0_0, .int .i64 a0_1, .int .i64 a0_2, .int .i64 a0_3, .bool a0_4, .slice A0_5 l0_5.length c0_5, .slice A0_6 l0_6.length c0_6, .int .i64 a0_7, .int .i64 a0_8, .int .i64 a0_9, .int .i64 a0_10, .slice A0_11 l0_11.length c0_11, .slice A0_12 l0_12.length c0_12] 74 ?_; intro gb375 hg w2 hbox hb; have BK375 := aM hbox; have GW375 := aM (sZ hg); have GE375 := GW375; replace HB := hS hb; clear hb hbox hg; have hz3 := bz13 BK375))
 go_loopg [9] k (fun kq v9 w' => ∃ (x9_1 : Int), v9 = .int .i64 x9_1 ∧ Aside0 (impl_inTable.l0 kq l0_11 (l0_11.length : Int) x9_1 a0_0 a0_1 a0_2 a0_3 a0_4 l0_5 l0_6 a0_7 a0_8 a0_9 a0_10 l0_11 l0_12 = some r) ∧ Aside0 (kq ≤ k) ∧ Aside0 (w'.heap[gb375]? = some (.cells #[.int .i64 a0_0, .int .i64 a0_1, .int .i64 a0_2, .int .i64 a0_3, .bool a0_4, (.slice A0_5 l0_5.length c0_5), (.slice A0_6 l0_6.length c0_6), .int .i64 a0_7, .int .i64 a0_8, .int .i64 a0_9, .int .i64 a0_10, (.slice A0_11 l0_11.length c0_11), (.slice A0_12 l0_12.length c0_12)] 74 (0, 0))) ∧ Aside0 (Below w.heap.size w w'))
 case atStart => exact ⟨(0), eQ, H', ⟨Nat.le_refl _⟩, ⟨bI BK375.out⟩, ⟨hB⟩⟩
 case round =>
  clear H'; (try clear c1); (try clear p2); (try clear hz3); obtain ⟨x9_1, rfl, HA, HK1, BK375, HB⟩ := hrel; rcases gk with _ | k1
  · exact absurd HA.out (by simp [impl_inTable.l0])
  revert HA; refine aoR ?_; intro H; simp only [impl_inTable.l0] at H; revert H
  refine ifB (fun c4 => ?_) (fun c4 => ?_)
  · intro H; have c4b0 := decide_eq_true c4; clear c4; revert H; refine ifR fun c5 => ?_; intro H; have c5b0 := decide_eq_true c5; clear c5; revert H; refine ifR fun c6 => ?_; intro H; have c6b0 := decide_eq_true c6; clear c6; revert H
    refine ifB (fun c7 => ?_) (fun c7 => ?_)
    · intro H; have c7b0 := decide_eq_true c7; clear c7; obtain rfl := Option.some.inj H; have p376 : 0 ≤ (x9_1 : Int) := bD; have q376 : x9_1 < (l0_11.length : Int) := bD; obtain ⟨ad376, e376, hx376_0⟩ := Kd.at_int HR0_11.out x9_1 p376 q376; cases e376; replace hx376_0 := cB0 HB hx376_0; replace p376 := eq_true p376; replace q376 := eq_true q376; have hz8 := bz13 BK375; go_wp2; go_ret; exact ⟨eE, hB⟩
    · intro H; have c7b0 := decide_eq_false c7; clear c7; revert H; refine adR fun H' => ?_; have p376 : 0 ≤ (x9_1 : Int) := bD; have q376 : x9_1 < (l0_11.length : Int) := bD; obtain ⟨ad376, e376, hx376_0⟩ := Kd.at_int HR0_11.out x9_1 p376 q376; cases e376; replace hx376_0 := cB0 HB hx376_0; replace p376 := eq_true p376; replace q376 := eq_true q376; have hz9 := bz13 BK375; go_wp2; go_roundg k1
      case measure => have := HK1.out; omega
      case rel => exact ⟨(wrap64 (x9_1 + 1)), eQ, H', ⟨by have := HK1.out; omega⟩, ⟨bI BK375.out⟩, ⟨hB⟩⟩
  · intro H; have c4b0 := decide_eq_false c4; clear c4; obtain rfl := Option.some.inj H; go_wp2; go_ret; exact ⟨eE, hB⟩

end Go.Proofs.Ytajnobmnkbkkgaa.PFnExactNoCover
