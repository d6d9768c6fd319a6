/- Walks of functions that the law FnExactFromPasses reaches: each call comes to what the Lean function of its name tells. Written by p2.py, a program of this session, by way of the kit's print. -/
import Derived.Test.YtajnobmnkbkkgaaVFnExactFromPasses
import Derived.Test.YtajnobmnkbkkgaaPFnExactFromPassesx0
namespace Go.Proofs.Ytajnobmnkbkkgaa.PFnExactFromPasses
open Go.RowKit Go.Proofs.YtajnobmnkbkkgaaW.PrintWords Go.Proofs.YtajnobmnkbkkgaaW.PrintLast Go.Proofs.YtajnobmnkbkkgaaW.PrintMore
attribute [local go_sem] max2_int min2_int max_two min_two max_three min_three max_four min_four   -- for this text's walks alone
set_option linter.unusedVariables false
set_option linter.unusedSimpArgs false

/-! ### laws_toIntS: function 63 -/
def laws_toIntS.l0 : Nat → List Int → List Int → Int → Option (List Int)
  | 0, _, _, _ => none
  | k + 1, x0, x3, x4 => if x4 < (x0.length : Int) then (if 0 ≤ x4 then (if x4 < (x3.length : Int) then (laws_toIntS.l0 k x0 (x3.set (x4 : Int).toNat (rd x0 x4)) (wrap64 (x4 + 1))) else (none)) else (none)) else (some x3)
def laws_toIntS.f (k : Nat) (l0 : List Int) : Option (List Int) := if 0 ≤ (l0.length : Int) then (if ((l0.length : Int) : Int).toNat ≤ 35184372088832 then (laws_toIntS.l0 k l0 (List.replicate ((l0.length : Int) : Int).toNat 0) 0) else (none)) else (none)
set_option maxHeartbeats 8000000 in
set_option maxRecDepth 100000 in
theorem laws_toIntS.calls (k : Nat) (A0 : Option Addr) (c0 : Nat) (l0 : List Int) (r : List Int) (w : World) (hr0 : Kd.C (Kd.int .i64) w A0 l0.length l0) (hc0 : l0.length ≤ c0) (h : laws_toIntS.f k l0 = some r) :
 Calls Try.prog 63 #[.slice A0 l0.length c0] w fun e w' => ∃ v0_ : Value, e = .returned (v0_) ∧ Kd.R (Kd.int .i64) 3 w' w.heap.size (fun _ => True) v0_ r ∧ Below w.heap.size w w' := by
 have HR0 := aM hr0; have HC0 := aM hc0; clear hr0 hc0; have HB := aM (Below.refl w.heap.size w); have H : (if 0 ≤ (l0.length : Int) then (if ((l0.length : Int) : Int).toNat ≤ 35184372088832 then (laws_toIntS.l0 k l0 (List.replicate ((l0.length : Int) : Int).toNat 0) 0) else (none)) else (none)) = some r := h; clear h; revert H; refine ifR fun c2 => ?_; intro H; have c2b0 := eq_true c2; have c2b1 := decide_eq_true c2; clear c2; revert H; refine ifR fun c3 => ?_; intro H; have c3b0 := eq_true c3; have c3b1 := decide_eq_true c3; clear c3; obtain ⟨y203, hy_⟩ : ∃ y_ : List Int, y_ = (List.replicate ((l0.length : Int) : Int).toNat 0) := ⟨_, rfl⟩; replace H : (laws_toIntS.l0 k l0 y203 0) = some r := nH; have Ny203 := aM hy_; clear hy_; revert H; refine adR fun H' => ?_; go_enter Try.func63, Try.ntmps63
 go_wp2_with (first | ((with_reducible refine gD 7 ?_); refine Kd.R_make (Kd.int .i64) _ 3 rfl (N := 7) rfl 22 _ _ rfl (l0.length : Int) rfl rfl Try.underlying22 (.int .i64 0) 8 info3 rfl (by decide) (by omega) 0 (ok := fun _ => True) (okp := fun _ => True) rfl (fun _ hk => hk) trivial (bD) (Nat.le_trans (Nat.mul_le_mul_right _ (bD : (l0.length : Int).toNat ≤ 35184372088832)) (by omega)) (Below.refl _ _) (Nat.le_refl _) ?_; intro v204 w4 ho5 hb hg_ hnew_; clear hg_ hnew_; (first | rw [← Ny203.out] at ho5 | (simp only [Int.reduceToNat] at ho5; rw [← Ny203.out] at ho5)); have HO205 := aM (Kd.R_lower ho5 (below_size hB)); replace HB := hS hb; clear hb ho5))
 go_loopg [4] k (fun kq v4 w' => ∃ (x3_1 : List Int) (x4_1 : Int), v4 = .int .i64 x4_1 ∧ Aside0 (laws_toIntS.l0 kq l0 x3_1 x4_1 = some r) ∧ Aside0 (kq ≤ k) ∧ Aside0 (Kd.R (Kd.int .i64) 3 w' w.heap.size (fun _ => True) v204 x3_1) ∧ Aside0 (Below w.heap.size w w'))
 case atStart => exact ⟨(y203), (0), eQ, H', ⟨Nat.le_refl _⟩, ⟨Kd.R_i HO205.out⟩, ⟨hB⟩⟩
 case round =>
  clear H'; (try clear c2); (try clear c2b0); (try clear c2b1); (try clear p2); (try clear c3); (try clear c3b0); (try clear c3b1); obtain ⟨x3_1, x4_1, rfl, HA, HK1, HO_3, HB⟩ := hrel; rcases gk with _ | k1
  · exact absurd HA.out (by simp [laws_toIntS.l0])
  revert HA; refine aoR ?_; intro H; simp only [laws_toIntS.l0] at H; revert H
  refine ifB (fun c6 => ?_) (fun c6 => ?_)
  · intro H; have c6b0 := decide_eq_true c6; clear c6; revert H; refine ifR fun c7 => ?_; intro H; have c7b0 := decide_eq_true c7; clear c7; revert H; refine ifR fun c8 => ?_; intro H; have c8b0 := decide_eq_true c8; clear c8; obtain ⟨y207, hy_⟩ : ∃ y_ : List Int, y_ = (x3_1.set (x4_1 : Int).toNat (rd l0 x4_1)) := ⟨_, rfl⟩; replace H : (laws_toIntS.l0 k1 l0 y207 (wrap64 (x4_1 + 1))) = some r := nH; have Ny207 := aM hy_; clear hy_; revert H; refine adR fun H' => ?_; have p206 : 0 ≤ (x4_1 : Int) := bD; have q206 : x4_1 < (l0.length : Int) := bD; obtain ⟨ad206, e206, hx206_0⟩ := Kd.at_int HR0.out x4_1 p206 q206; cases e206; replace hx206_0 := cB0 HB hx206_0; replace p206 := eq_true p206; replace q206 := eq_true q206; have p9 : 0 ≤ (x4_1 : Int) := bD; have q9 : (x4_1 : Int) < ((x3_1.length : Int) : Int) := bD; obtain ⟨go9, co9, eo9, gb9, gl9, cl9, HG9⟩ := Kd.R_form HO_3.out (by omega)
    (first | cases eo9 | (injection eo9 with ea_ en_ ec_; (first | subst ea_ | (injection ea_ with ea_; subst ea_)); subst ec_; clear en_)); have GB9 := aM gb9; have GG9 := aM HG9; clear gb9 gl9 HG9; obtain ⟨hx9_0, hf9_0⟩ := Kd.R_celln 0 HO_3.out (x4_1 : Int) p9 q9; replace p9 := eq_true p9; replace q9 := eq_true q9; have HP10 := Kd.R_putg HO_3.out (x4_1 : Int) (rd l0 x4_1)
    go_wp2_with (first | ((with_reducible refine gate_store (t := 3) (p := 20) rfl ?_); refine store_event (t := 3) (p := 20) (v := ?vo_w11) (w1 := (wr.setCell ⟨go9, (x4_1 : Int).toNat, none⟩ (.int .i64 (rd l0 x4_1)))) ?hg ?ho ?hn ?hr ?_; (case ho => rfl); (case hg => rfl); (case hn => rfl); (case hr => first | (go_simp; done) | (go_simp; rfl)); intro w11 hw; have hg : wr.grownBy w11 (some go9) := (by rw [hw]; exact HP10.2); have hp_ : Kd.R (Kd.int .i64) 3 w11 w.heap.size (fun _ => True) (.slice (some ⟨go9, 0, none⟩) x3_1.length co9) y207 := (by rw [hw, Ny207.out]; exact HP10.1); clear HP10; replace HO_3 := aM hp_; replace HB := aM ((by rw [hw]; exact below_set (HB.out) GB9.out : Below w.heap.size w w11)); clear hg hw hp_)); go_roundg k1
    case measure => have := HK1.out; omega
    case rel => exact ⟨(y207), (wrap64 (x4_1 + 1)), eQ, H', ⟨by have := HK1.out; omega⟩, ⟨Kd.R_i HO_3.out⟩, ⟨hB⟩⟩
  · intro H; have c6b0 := decide_eq_false c6; clear c6; obtain rfl := Option.some.inj H; go_wp2; go_ret; exact ⟨_, eE, Kd.R_i HO_3.out, hB⟩

/-! ### laws_toRaster: function 14 -/
def laws_toRaster.f (k : Nat) (a0_0 : Int) (a0_1 : Int) (a0_2 : Int) (a0_3 : Int) (l0_4 : List Int) : Option (Int × Int × Int × Int × List Int) := (laws_toIntS.f k l0_4).bind fun t211 => (some (a0_0, a0_1, a0_2, a0_3, t211))
set_option maxHeartbeats 8000000 in
set_option maxRecDepth 100000 in
theorem laws_toRaster.calls (k : Nat) (a0_0 : Int) (a0_1 : Int) (a0_2 : Int) (a0_3 : Int) (A0_4 : Option Addr) (c0_4 : Nat) (l0_4 : List Int) (r1 : Int) (r2 : Int) (r3 : Int) (r4 : Int) (r5 : List Int) (w : World) (hr0_4 : Kd.C (Kd.int .i64) w A0_4 l0_4.length l0_4) (hc0_4 : l0_4.length ≤ c0_4) (h : laws_toRaster.f k a0_0 a0_1 a0_2 a0_3 l0_4 = some (r1, r2, r3, r4, r5)) :
 Calls Try.prog 14 #[.agg #[.int .i64 a0_0, .int .i64 a0_1, .int .i64 a0_2, .int .i64 a0_3, .slice A0_4 l0_4.length c0_4]] w fun e w' => ∃ v4_ : Value, e = .returned (.agg #[.int .i64 r1, .int .i64 r2, .int .i64 r3, .int .i64 r4, v4_]) ∧ Kd.R (Kd.int .i64) 3 w' w.heap.size (fun _ => True) v4_ r5 ∧ Below w.heap.size w w' := by
 have hu24 := Try.underlying24; have hu29 := Try.underlying29; have HR0_4 := aM hr0_4; have HC0_4 := aM hc0_4; clear hr0_4 hc0_4; have HB := aM (Below.refl w.heap.size w); have H : ((laws_toIntS.f k l0_4).bind fun t211 => (some (a0_0, a0_1, a0_2, a0_3, t211))) = some (r1, r2, r3, r4, r5) := h; clear h; revert H; refine bdR fun t211 A2 => ?_; intro H; simp only [Option.some.injEq, Prod.mk.injEq] at H; obtain ⟨rfl, rfl, rfl, rfl, rfl⟩ := H; go_enter Try.func14, Try.ntmps14
 go_wp2_with (first | ((with_reducible refine gD 1 ?_); refine bE 1 #[.int .i64 a0_0, .int .i64 a0_1, .int .i64 a0_2, .int .i64 a0_3, .slice A0_4 l0_4.length c0_4] 24 ?_; intro gb208 hg w3 hbox hb; have BK208 := aM hbox; have GW208 := aM (sZ hg); have GE208 := GW208; replace HB := hS hb; clear hb hbox hg) | ((with_reducible refine gD 2 ?_); refine bE 2 #[.int .i64 0, .int .i64 0, .int .i64 0, .int .i64 0, .slice none 0 0] 29 ?_; intro gb209 hg w4 hbox hb; have BK209 := aM hbox; have GW209 := aM (sZ hg); have GE209 := GW209; replace HB := hS hb; have NB208_209 := aM (nL BK208 hg); have NB209_208 := aM (nG BK208 hg); replace BK208 := bW BK208 hb; clear hb hbox hg) | ((with_reducible refine gD 3 ?_); refine bE 3 #[.int .i64 0, .int .i64 0, .int .i64 0, .int .i64 0, .slice none 0 0] 29 ?_; intro gb210 hg w5 hbox hb; have BK210 := aM hbox; have GW210 := aM (sZ hg); have GE210 := GW210; replace HB := hS hb; have NB208_210 := aM (nL BK208 hg); have NB210_208 := aM (nG BK208 hg); replace BK208 := bW BK208 hb; have NB209_210 := aM (nL BK209 hg); have NB210_209 := aM (nG BK209 hg); replace BK209 := bW BK209 hb; clear hb hbox hg; have hnb6 := NB208_209.out; have hnc6 := NB209_208.out; have hnb7 := NB208_210.out; have hnc7 := NB210_208.out; have hz8 := bz5 BK208; have hnb9 := NB210_209.out; have hnc9 := NB209_210.out; have hz10 := bz5 BK210) | ((with_reducible refine gC 63 ?_); refine gL (some 18) Try.func63 #[.slice A0_4 l0_4.length c0_4] ?_; (with_reducible refine (laws_toIntS.calls k _ _ l0_4 t211 _ ?side1 HC0_4.out A2.out).mono ?_); (case side1 => exact Kd.C_below HR0_4.out hB); rintro e w11 ⟨v212, rfl, ho0, hb⟩; refine ⟨_, rfl, ?_⟩; have n0_ := aM (Kd.R_lower ho0 (below_size hB)); have n1_ := aM (blk_below (g := gb208) (o := .cells #[.int .i64 a0_0, .int .i64 a0_1, .int .i64 a0_2, .int .i64 a0_3, .slice A0_4 l0_4.length c0_4] 24 (0, 0)) kB hb); have n2_ := aM (blk_below (g := gb209) (o := .cells #[.int .i64 0, .int .i64 0, .int .i64 0, .int .i64 0, .slice none 0 0] 29 (0, 0)) kB hb); have n3_ := aM (blk_below (g := gb210) (o := .cells #[.int .i64 a0_0, .int .i64 a0_1, .int .i64 a0_2, .int .i64 a0_3, .slice none 0 0] 29 (0, 0)) kB hb); have n4_ := hS hb; clear BK208; clear BK209; clear BK210; clear HB; have HO213 := n0_; have BK208 := n1_; have BK209 := n2_; have BK210 := n3_; have HB := n4_; clear n0_ n1_ n2_ n3_ n4_; clear hb ho0; obtain ⟨Ao12, co12, eo12⟩ := Kd.R_slice HO213.out; subst eo12; have hz13 := bz5 BK210; have hz14 := bz5 BK209))
 refine bodyPost_ret (results_cell_row rfl _ _ gb209 29 #[.int .i64 a0_0, .int .i64 a0_1, .int .i64 a0_2, .int .i64 a0_3, .slice Ao12 t211.length co12] (0, 0) _ rfl kB Try.underlying29 rfl (by kernel_rfl)) rfl ?_; exact ⟨_, eE, Kd.R_i (Kd.R_mono (Kd.R_far (p := ⟨gb209, 4, none⟩) (Kd.R_far (p := ⟨gb209, 3, none⟩) (Kd.R_far (p := ⟨gb209, 2, none⟩) (Kd.R_far (p := ⟨gb209, 1, none⟩) (Kd.R_far (p := ⟨gb209, 0, none⟩) (Kd.R_far (p := ⟨gb210, 4, none⟩) (Kd.R_types (Kd.R_types HO213.out BK210.out (by decide)) BK209.out (by decide)) (fun _ hk => hk.1.2) (.slice Ao12 t211.length co12)) (fun _ hk => hk.2) (.int .i64 a0_0)) (fun _ hk => hk.2) (.int .i64 a0_1)) (fun _ hk => hk.2) (.int .i64 a0_2)) (fun _ hk => hk.2) (.int .i64 a0_3)) (fun _ hk => hk.2) (.slice Ao12 t211.length co12)) (fun _ hk => trivial)), hB⟩

/-! ### laws_toRasterS: function 36 -/
def laws_toRasterS.l0 : Nat → List (S24) → List (S29) → Int → Option ((List (S29)))
  | 0, _, _, _ => none
  | k + 1, x0, x3, x4 => if x4 < (x0.length : Int) then (if 0 ≤ x4 then ((laws_toRaster.f k ((rd_T24 x0 x4).f0) ((rd_T24 x0 x4).f1) ((rd_T24 x0 x4).f2) ((rd_T24 x0 x4).f3) ((rd_T24 x0 x4).f4)).bind fun bt218 => (if x4 < (x3.length : Int) then (laws_toRasterS.l0 k x0 (x3.set (x4 : Int).toNat (⟨bt218.1, bt218.2.1, bt218.2.2.1, bt218.2.2.2.1, bt218.2.2.2.2⟩ : S29)) (wrap64 (x4 + 1))) else (none))) else (none)) else (some x3)
def laws_toRasterS.f (k : Nat) (l0 : List (S24)) : Option ((List (S29))) := if 0 ≤ (l0.length : Int) then (if ((l0.length : Int) : Int).toNat ≤ 5026338869833 then (laws_toRasterS.l0 k l0 (List.replicate ((l0.length : Int) : Int).toNat z29) 0) else (none)) else (none)
set_option maxHeartbeats 8000000 in
set_option maxRecDepth 100000 in
theorem laws_toRasterS.calls (k : Nat) (A0 : Option Addr) (c0 : Nat) (l0 : List (S24)) (r : List (S29)) (w : World) (hr0 : Kd.C k24 w A0 l0.length l0) (hc0 : l0.length ≤ c0) (h : laws_toRasterS.f k l0 = some r) :
 Calls Try.prog 36 #[.slice A0 l0.length c0] w fun e w' => ∃ v0_ : Value, e = .returned (v0_) ∧ Kd.S k29 29 w' w.heap.size (fun _ => True) v0_ r ∧ Below w.heap.size w w' := by
 have hu24 := Try.underlying24; have hu29 := Try.underlying29; have HR0 := aM hr0; have HC0 := aM hc0; clear hr0 hc0; have HB := aM (Below.refl w.heap.size w); have H : (if 0 ≤ (l0.length : Int) then (if ((l0.length : Int) : Int).toNat ≤ 5026338869833 then (laws_toRasterS.l0 k l0 (List.replicate ((l0.length : Int) : Int).toNat z29) 0) else (none)) else (none)) = some r := h; clear h; revert H; refine ifR fun c2 => ?_; intro H; have c2b0 := eq_true c2; have c2b1 := decide_eq_true c2; clear c2; revert H; refine ifR fun c3 => ?_; intro H; have c3b0 := eq_true c3; have c3b1 := decide_eq_true c3; clear c3; obtain ⟨y214, hy_⟩ : ∃ y_ : List (S29), y_ = (List.replicate ((l0.length : Int) : Int).toNat z29) := ⟨_, rfl⟩; replace H : (laws_toRasterS.l0 k l0 y214 0) = some r := nH; have Ny214 := aM hy_; clear hy_; revert H; refine adR fun H' => ?_; go_enter Try.func36, Try.ntmps36
 go_wp2_with (first | ((with_reducible refine gD 7 ?_); refine Kd.S_make k29 _ 29 rfl (N := 7) rfl 26 _ _ rfl (l0.length : Int) rfl rfl Try.underlying26 (.agg #[(.int .i64 0), (.int .i64 0), (.int .i64 0), (.int .i64 0), (.slice none 0 0)]) 56 info29 rfl (by decide) (by omega) z29 (ok := fun _ => True) (okp := fun _ => True) (k29_mkM _ _ _ z29 (Kd.R_nil _ _ _ _ _)) (fun _ hk => hk) trivial (bD) (Nat.le_trans (Nat.mul_le_mul_right _ (bD : (l0.length : Int).toNat ≤ 5026338869833)) (by omega)) (Below.refl _ _) (Nat.le_refl _) ?_; intro v215 w4 ho5 hb hg_ hnew_; clear hg_ hnew_; (first | rw [← Ny214.out] at ho5 | (simp only [Int.reduceToNat] at ho5; rw [← Ny214.out] at ho5)); have HO216 := aM (Kd.S_lower ho5 (below_size hB)); replace HB := hS hb; clear hb ho5))
 go_loopg [4] k (fun kq v4 w' => ∃ (x3_1 : List (S29)) (x4_1 : Int), v4 = .int .i64 x4_1 ∧ Aside0 (laws_toRasterS.l0 kq l0 x3_1 x4_1 = some r) ∧ Aside0 (kq ≤ k) ∧ Aside0 (Kd.S k29 29 w' w.heap.size (fun _ => True) v215 x3_1) ∧ Aside0 (Below w.heap.size w w'))
 case atStart => exact ⟨(y214), (0), eQ, H', ⟨Nat.le_refl _⟩, ⟨Kd.S_i HO216.out⟩, ⟨hB⟩⟩
 case round =>
  clear H'; (try clear c2); (try clear c2b0); (try clear c2b1); (try clear p2); (try clear c3); (try clear c3b0); (try clear c3b1); obtain ⟨x3_1, x4_1, rfl, HA, HK1, HO_3, HB⟩ := hrel; rcases gk with _ | k1
  · exact absurd HA.out (by simp [laws_toRasterS.l0])
  revert HA; refine aoR ?_; intro H; simp only [laws_toRasterS.l0] at H; revert H
  refine ifB (fun c6 => ?_) (fun c6 => ?_)
  · intro H; have c6b0 := decide_eq_true c6; clear c6; revert H; refine ifR fun c7 => ?_; intro H; have c7b0 := decide_eq_true c7; clear c7; revert H; refine bdR fun ⟨t218, t219, t220, t221, t222⟩ A8 => ?_; intro H
    try dsimp only at H
    revert H; refine ifR fun c9 => ?_; intro H; have c9b0 := decide_eq_true c9; clear c9; obtain ⟨y225, hy_⟩ : ∃ y_ : List (S29), y_ = (x3_1.set (x4_1 : Int).toNat (⟨t218, t219, t220, t221, t222⟩ : S29)) := ⟨_, rfl⟩; replace H : (laws_toRasterS.l0 k1 l0 y225 (wrap64 (x4_1 + 1))) = some r := nH; have Ny225 := aM hy_; clear hy_; revert H; refine adR fun H' => ?_; have p217 : 0 ≤ (x4_1 : Int) := bD; have q217 : x4_1 < (l0.length : Int) := bD; obtain ⟨ad217, A217_4, c217_4, e217, hx217_0, hx217_1, hx217_2, hx217_3, hx217_4, hl217_4, hi217_4⟩ := at_T24 HR0.out x4_1 p217 q217; cases e217; replace hx217_0 := cB0 HB hx217_0; replace hx217_1 := cB0 HB hx217_1; replace hx217_2 := cB0 HB hx217_2; replace hx217_3 := cB0 HB hx217_3; replace hx217_4 := cB0 HB hx217_4; have HR217_4 := aM hi217_4; have HC217_4 := aM hl217_4; clear hi217_4 hl217_4; replace p217 := eq_true p217; replace q217 := eq_true q217
    go_wp2_with (first | ((with_reducible refine gC 14 ?_); refine gL (some 20) Try.func14 #[.agg #[.int .i64 ((rd_T24 l0 x4_1).f0), .int .i64 ((rd_T24 l0 x4_1).f1), .int .i64 ((rd_T24 l0 x4_1).f2), .int .i64 ((rd_T24 l0 x4_1).f3), .slice A217_4 ((rd_T24 l0 x4_1).f4).length c217_4]] ?_; (with_reducible refine (laws_toRaster.calls k1 ((rd_T24 l0 x4_1).f0) ((rd_T24 l0 x4_1).f1) ((rd_T24 l0 x4_1).f2) ((rd_T24 l0 x4_1).f3) _ _ ((rd_T24 l0 x4_1).f4) t218 t219 t220 t221 t222 _ (Kd.C_i (Kd.C_below HR217_4.out HB.out)) HC217_4.out A8.out).mono ?_); rintro e w11 ⟨v223, rfl, ho0, hb⟩; refine ⟨_, rfl, ?_⟩; replace HO_3 := aM (Kd.S_elder' (Kd.S_i HO_3.out) (Kd.R_base ho0) hb); have HO224 := aM (Kd.R_lower ho0 (below_size hB)); replace HB := hS hb; clear hb ho0; obtain ⟨Ao9v223, co9v223, eo9v223⟩ := Kd.R_slice HO224.out; subst eo9v223; have p10 : 0 ≤ (x4_1 : Int) := bD; have q10 : (x4_1 : Int) < ((x3_1.length : Int) : Int) := bD; obtain ⟨go10, co10, eo10, gb10, gl10, cl10, HG10⟩ := Kd.S_form HO_3.out (by omega); (first | cases eo10 | (injection eo10 with ea_ en_ ec_; (first | subst ea_ | (injection ea_ with ea_; subst ea_)); subst ec_; clear en_)); have GB10 := aM gb10; have GG10 := aM HG10; clear gb10 gl10 HG10; obtain ⟨_, ce10, hcl10, hM10, hcc10, hfr10, _, _⟩ := Kd.S_elem HO_3.out z29 (x4_1 : Int) p10 q10; obtain ⟨ve10_4, rfl, ge10_4⟩ := k29_openM hM10; have hx10_0 : w11.cell? ⟨go10, (x4_1 : Int).toNat * 5, none⟩ = some (.int .i64 ((rd_T29 x3_1 x4_1).f0)) := hcc10 0 _ rfl; have hx10_1 : w11.cell? ⟨go10, (x4_1 : Int).toNat * 5 + 1, none⟩ = some (.int .i64 ((rd_T29 x3_1 x4_1).f1)) := hcc10 1 _ rfl; have hx10_2 : w11.cell? ⟨go10, (x4_1 : Int).toNat * 5 + 2, none⟩ = some (.int .i64 ((rd_T29 x3_1 x4_1).f2)) := hcc10 2 _ rfl; have hx10_3 : w11.cell? ⟨go10, (x4_1 : Int).toNat * 5 + 3, none⟩ = some (.int .i64 ((rd_T29 x3_1 x4_1).f3)) := hcc10 3 _ rfl; have hx10_4 : w11.cell? ⟨go10, (x4_1 : Int).toNat * 5 + 4, none⟩ = some (ve10_4) := hcc10 4 _ rfl; have hf10_0 : w11.frozen? ⟨go10, (x4_1 : Int).toNat * 5, none⟩ = false := hfr10 0; have hf10_1 : w11.frozen? ⟨go10, (x4_1 : Int).toNat * 5 + 1, none⟩ = false := hfr10 1; have hf10_2 : w11.frozen? ⟨go10, (x4_1 : Int).toNat * 5 + 2, none⟩ = false := hfr10 2; have hf10_3 : w11.frozen? ⟨go10, (x4_1 : Int).toNat * 5 + 3, none⟩ = false := hfr10 3; have hf10_4 : w11.frozen? ⟨go10, (x4_1 : Int).toNat * 5 + 4, none⟩ = false := hfr10 4; clear hcl10 hcc10 hfr10 hM10; replace p10 := eq_true p10; replace q10 := eq_true q10; have n_ := aM (Kd.S_mono (ok' := (fun k_ => some k_ ≠ ((.slice Ao9v223 t222.length co9v223) : Value).ownBlock)) HO_3.out (fun k_ hk => hk.2)); clear HO_3; have HO_3 := n_; clear n_; have HX12 := aM (show Kd.S k29 29 w11 w.heap.size (fun k_ => ((fun _ => True)) k_ ∧ ¬ ((fun k_ => some k_ = ((.slice Ao9v223 t222.length co9v223) : Value).ownBlock)) k_) (.slice (some ⟨go10, 0, none⟩) x3_1.length co10) x3_1 from (Kd.S_i (Kd.S_mono HO_3.out (fun k_ hk => ⟨trivial, fun e_ => hk e_⟩)))); obtain ⟨oki12, ce12, hcl12, hM12, hcc12, hfr12, hoki12, hH12⟩ := Kd.S_elem HX12.out z29 (x4_1 : Int) (bD) (by have h_ : (x4_1 : Int) < ((x3_1.length : Int) : Int) := bD; first | exact h_ | (have e_ := (Kd.S_reads' HO_3.out).1; omega) | simpa using h_); obtain ⟨ve12_4, rfl, ge12_4⟩ := k29_openM hM12; have HP12 := Kd.S_seg hH12 (bD) (by have h_ : (x4_1 : Int) < ((x3_1.length : Int) : Int) := bD; first | exact h_ | (have e_ := (Kd.S_reads' HO_3.out).1; omega) | simpa using h_) (seg := [.int .i64 t218, .int .i64 t219, .int .i64 t220, .int .i64 t221, (.slice Ao9v223 t222.length co9v223)]) (j := 0) (show 5 ≤ 5 from by decide) (x' := (⟨t218, t219, t220, t221, t222⟩ : S29)) (k29_mkM _ _ _ (⟨t218, t219, t220, t221, t222⟩ : S29) (Kd.R_mono (Kd.R_tight rfl (Kd.R_mono (ok' := fun k_ => ((fun _ => True)) k_ ∧ k_ ≠ go10) (Kd.R_apart' (HO224.out) (Kd.S_typed HO_3.out) (by decide)) (fun k_ hk => ⟨trivial, fun e_ => (hk.2) (by rw [e_]; rfl)⟩))) (fun _ h_ => Or.inr (h_)))) (fun _ hk => hk) (fun k_ hk_ => ((Kd.R_mono (ok' := fun k_ => ((fun _ => True)) k_ ∧ k_ ≠ go10) (Kd.R_apart' (HO224.out) (Kd.S_typed HO_3.out) (by decide)) (fun k_ hk => ⟨trivial, fun e_ => (hk.2) (by rw [e_]; rfl)⟩))).1 k_ hk_.symm); have hx12_0 := hcc12 0 _ rfl; (try simp only [show (k29).sz = 5 from rfl, Nat.mul_one, Nat.add_zero] at hx12_0); have hf12_0 := hfr12 0; (try simp only [show (k29).sz = 5 from rfl, Nat.mul_one, Nat.add_zero] at hf12_0); have hx12_1 := hcc12 1 _ rfl; (try simp only [show (k29).sz = 5 from rfl, Nat.mul_one, Nat.add_zero] at hx12_1); have hf12_1 := hfr12 1; (try simp only [show (k29).sz = 5 from rfl, Nat.mul_one, Nat.add_zero] at hf12_1); have hx12_2 := hcc12 2 _ rfl; (try simp only [show (k29).sz = 5 from rfl, Nat.mul_one, Nat.add_zero] at hx12_2); have hf12_2 := hfr12 2; (try simp only [show (k29).sz = 5 from rfl, Nat.mul_one, Nat.add_zero] at hf12_2); have hx12_3 := hcc12 3 _ rfl; (try simp only [show (k29).sz = 5 from rfl, Nat.mul_one, Nat.add_zero] at hx12_3); have hf12_3 := hfr12 3; (try simp only [show (k29).sz = 5 from rfl, Nat.mul_one, Nat.add_zero] at hf12_3); have hx12_4 := hcc12 4 _ rfl; (try simp only [show (k29).sz = 5 from rfl, Nat.mul_one, Nat.add_zero] at hx12_4); have hf12_4 := hfr12 4; (try simp only [show (k29).sz = 5 from rfl, Nat.mul_one, Nat.add_zero] at hf12_4); clear hcl12 hcc12 hfr12 hM12 hoki12 hH12) | ((with_reducible refine gate_store (t := 29) (p := 21) rfl ?_); refine store_event (t := 29) (p := 21) (v := ?vo_w13) (w1 := (((((w11.setCell ⟨go10, (x4_1 : Int).toNat * 5, none⟩ (.int .i64 t218)).setCell ⟨go10, (x4_1 : Int).toNat * 5 + 1, none⟩ (.int .i64 t219)).setCell ⟨go10, (x4_1 : Int).toNat * 5 + 2, none⟩ (.int .i64 t220)).setCell ⟨go10, (x4_1 : Int).toNat * 5 + 3, none⟩ (.int .i64 t221)).setCell ⟨go10, (x4_1 : Int).toNat * 5 + 4, none⟩ (.slice Ao9v223 t222.length co9v223))) ?hg ?ho ?hn ?hr ?_; (case ho => rfl); (case hg => rfl); (case hn => rfl); (case hr => first | (go_simp; done) | (go_simp; rfl)); intro w13 hw; have hg : w11.grownBy w13 (some go10) := (by rw [hw]; exact HP12.2); have hp_ : Kd.S k29 29 w13 w.heap.size (fun _ => True) (.slice (some ⟨go10, 0, none⟩) x3_1.length co10) y225 := (by rw [hw, Ny225.out]; exact HP12.1); clear HP12; replace HO_3 := aM hp_; replace HB := aM ((by rw [hw]; exact below_set (below_set (below_set (below_set (below_set (HB.out) GB10.out) GB10.out) GB10.out) GB10.out) GB10.out : Below w.heap.size w w13)); clear HO224; clear hg hw hp_)); go_roundg k1
    case measure => have := HK1.out; omega
    case rel => exact ⟨(y225), (wrap64 (x4_1 + 1)), eQ, H', ⟨by have := HK1.out; omega⟩, ⟨Kd.S_i HO_3.out⟩, ⟨hB⟩⟩
  · intro H; have c6b0 := decide_eq_false c6; clear c6; obtain rfl := Option.some.inj H; go_wp2; go_ret; exact ⟨_, eE, Kd.S_i HO_3.out, hB⟩

/-! ### impl_ChannelsOf: function 65 -/
def impl_ChannelsOf.j0 : Nat → Int → Bool → Option (Int)
  | 0, _, _ => none
  | k + 1, x3, x4 => if x4 = true then (some 1) else (if x3 = 4 then (some 2) else (if x3 = 2 then (some 3) else (if x3 = 6 then (some 4) else (some 0))))
def impl_ChannelsOf.f (k : Nat) (a0 : Int) : Option (Int) := if a0 = 0 then (impl_ChannelsOf.j0 k a0 (a0 == 0)) else (impl_ChannelsOf.j0 k a0 (a0 == 3))
set_option maxHeartbeats 8000000 in
set_option maxRecDepth 100000 in
theorem impl_ChannelsOf.calls (k : Nat) (a0 : Int) (r : Int) (w : World) (h : impl_ChannelsOf.f k a0 = some r) :
 Calls Try.prog 65 #[.int .i64 a0] w fun e w' => e = .returned (.int .i64 r) ∧ Drawn0 w w' := by
 have H : (if a0 = 0 then (impl_ChannelsOf.j0 k a0 (a0 == 0)) else (impl_ChannelsOf.j0 k a0 (a0 == 3))) = some r := h; clear h; revert H; refine adR fun HC2 => ?_; go_enter Try.func65, Try.ntmps65
 go_upto_if 4 with (fail)
 go_cut [4] (fun v4 wc => ∃ (kq : Nat) (x4_1 : Bool), v4 = .bool x4_1 ∧ Aside0 (impl_ChannelsOf.j0 kq a0 x4_1 = some r) ∧ Aside0 (kq ≤ k) ∧ Drawn0 w wc)
 case first =>
  revert HC2; refine aoR ?_
  refine ifB (fun c3 => ?_) (fun c3 => ?_)
  · intro H; have c3b0 := beq_iff_eq.mpr c3; have c3b1 := bne_eq_false_iff_eq.mpr c3; clear c3
    (first | rw [c3b0] | (simp only [i64_w, i32_w]; rw [c3b0]) | skip); revert H; refine adR fun H' => ?_; go_wp2; go_meet
    case rel => exact ⟨_, ((a0 == 0)), eQ, H', ⟨lE⟩, dQ⟩
  · intro H; have c3b0 := beq_eq_false_iff_ne.mpr c3; have c3b1 := bne_iff_ne.mpr c3
    (first | rw [c3b0] | (simp only [i64_w, i32_w]; rw [c3b0]) | skip); revert H; refine adR fun H' => ?_; go_wp2; go_meet
    case rel => exact ⟨_, ((a0 == 3)), eQ, H', ⟨lE⟩, dQ⟩
 case rest =>
  clear HC2; (try clear p2); (try clear c3); (try clear c3b0); (try clear c3b1); obtain ⟨kq, x4_1, rfl, HA, HJ1, ⟨mc1, rfl⟩⟩ := hcut; rcases kq with _ | kj1
  · exact absurd HA.out (by simp [impl_ChannelsOf.j0])
  revert HA; refine aoR ?_; intro H; simp only [impl_ChannelsOf.j0] at H; revert H
  refine ifB (fun c4 => ?_) (fun c4 => ?_)
  · intro H; subst c4; obtain rfl := Option.some.inj H; go_wp2; go_ret; exact ⟨eQ, dQ⟩
  · intro H; replace c4 := Bool.eq_false_iff.mpr c4; subst c4; revert H
    refine ifB (fun c5 => ?_) (fun c5 => ?_)
    · intro H; have c5b0 := beq_iff_eq.mpr c5; have c5b1 := bne_eq_false_iff_eq.mpr c5; clear c5; obtain rfl := Option.some.inj H; go_wp2; go_ret; exact ⟨eQ, dQ⟩
    · intro H; have c5b0 := beq_eq_false_iff_ne.mpr c5; have c5b1 := bne_iff_ne.mpr c5; revert H
      refine ifB (fun c6 => ?_) (fun c6 => ?_)
      · intro H; have c6b0 := beq_iff_eq.mpr c6; have c6b1 := bne_eq_false_iff_eq.mpr c6; clear c6; obtain rfl := Option.some.inj H; go_wp2; go_ret; exact ⟨eQ, dQ⟩
      · intro H; have c6b0 := beq_eq_false_iff_ne.mpr c6; have c6b1 := bne_iff_ne.mpr c6; revert H
        refine ifB (fun c7 => ?_) (fun c7 => ?_)
        · intro H; have c7b0 := beq_iff_eq.mpr c7; have c7b1 := bne_eq_false_iff_eq.mpr c7; clear c7; obtain rfl := Option.some.inj H; go_wp2; go_ret; exact ⟨eQ, dQ⟩
        · intro H; have c7b0 := beq_eq_false_iff_ne.mpr c7; have c7b1 := bne_iff_ne.mpr c7; obtain rfl := Option.some.inj H; go_wp2; go_ret; exact ⟨eQ, dQ⟩

/-! ### impl_within: function 82 -/
def impl_within.f (a0 : Int) (a1 : Int) (a2 : Int) : Option (Bool) := if a0 ≥ a1 then (some (decide (a0 ≤ a2))) else (some false)
set_option maxHeartbeats 8000000 in
set_option maxRecDepth 100000 in
theorem impl_within.calls (a0 : Int) (a1 : Int) (a2 : Int) (r : Bool) (w : World) (h : impl_within.f a0 a1 a2 = some r) :
 Calls Try.prog 82 #[.int .i64 a0, .int .i64 a1, .int .i64 a2] w fun e w' => e = .returned (.bool r) ∧ Drawn0 w w' := by
 have H : (if a0 ≥ a1 then (some (decide (a0 ≤ a2))) else (some false)) = some r := h; clear h; revert H
 refine ifB (fun c4 => ?_) (fun c4 => ?_)
 · intro H; have c4b0 := decide_eq_true c4; clear c4; obtain rfl := Option.some.inj H; go_enter Try.func82, Try.ntmps82; go_wp2; go_ret; exact ⟨eQ, dQ⟩
 · intro H; have c4b0 := decide_eq_false c4; clear c4; obtain rfl := Option.some.inj H; go_enter Try.func82, Try.ntmps82; go_wp2; go_ret; exact ⟨eQ, dQ⟩

/-! ### impl_isSide: function 92 -/
def impl_isSide.f (a0 : Int) : Option (Bool) := (impl_within.f a0 1 24).bind fun t226 => (some t226)
set_option maxHeartbeats 8000000 in
set_option maxRecDepth 100000 in
theorem impl_isSide.calls (a0 : Int) (r : Bool) (w : World) (h : impl_isSide.f a0 = some r) :
 Calls Try.prog 92 #[.int .i64 a0] w fun e w' => e = .returned (.bool r) ∧ Drawn0 w w' := by
 have H : ((impl_within.f a0 1 24).bind fun t226 => (some t226)) = some r := h; clear h; revert H; refine bdR fun t226 A2 => ?_; intro H; obtain rfl := Option.some.inj H; go_enter Try.func92, Try.ntmps92
 go_wp2_with (first | ((with_reducible refine gC 82 ?_); refine gL (some 4) Try.func82 #[.int .i64 a0, .int .i64 1, .int .i64 24] ?_; (with_reducible refine (impl_within.calls a0 1 24 t226 _ A2.out).mono ?_); rintro e w' ⟨rfl, ⟨nd, rfl⟩⟩; refine ⟨_, rfl, ?_⟩)); go_ret; exact ⟨eQ, dQ⟩

/-! ### impl_isDepth: function 164 -/
def impl_isDepth.f (a0 : Int) : Option (Bool) := if a0 = 1 then (some true) else (if a0 = 2 then (some true) else (if a0 = 4 then (some true) else (if a0 = 8 then (some true) else (some (a0 == 16)))))
set_option maxHeartbeats 8000000 in
set_option maxRecDepth 100000 in
theorem impl_isDepth.calls (a0 : Int) (r : Bool) (w : World) (h : impl_isDepth.f a0 = some r) :
 Calls Try.prog 164 #[.int .i64 a0] w fun e w' => e = .returned (.bool r) ∧ Drawn0 w w' := by
 have H : (if a0 = 1 then (some true) else (if a0 = 2 then (some true) else (if a0 = 4 then (some true) else (if a0 = 8 then (some true) else (some (a0 == 16)))))) = some r := h; clear h; revert H
 refine ifB (fun c2 => ?_) (fun c2 => ?_)
 · intro H; have c2b0 := beq_iff_eq.mpr c2; have c2b1 := bne_eq_false_iff_eq.mpr c2; clear c2; obtain rfl := Option.some.inj H; go_enter Try.func164, Try.ntmps164; go_wp2; go_ret; exact ⟨eQ, dQ⟩
 · intro H; have c2b0 := beq_eq_false_iff_ne.mpr c2; have c2b1 := bne_iff_ne.mpr c2; revert H
   refine ifB (fun c3 => ?_) (fun c3 => ?_)
   · intro H; have c3b0 := beq_iff_eq.mpr c3; have c3b1 := bne_eq_false_iff_eq.mpr c3; clear c3; obtain rfl := Option.some.inj H; go_enter Try.func164, Try.ntmps164; go_wp2; go_ret; exact ⟨eQ, dQ⟩
   · intro H; have c3b0 := beq_eq_false_iff_ne.mpr c3; have c3b1 := bne_iff_ne.mpr c3; revert H
     refine ifB (fun c4 => ?_) (fun c4 => ?_)
     · intro H; have c4b0 := beq_iff_eq.mpr c4; have c4b1 := bne_eq_false_iff_eq.mpr c4; clear c4; obtain rfl := Option.some.inj H; go_enter Try.func164, Try.ntmps164; go_wp2; go_ret; exact ⟨eQ, dQ⟩
     · intro H; have c4b0 := beq_eq_false_iff_ne.mpr c4; have c4b1 := bne_iff_ne.mpr c4; revert H
       refine ifB (fun c5 => ?_) (fun c5 => ?_)
       · intro H; have c5b0 := beq_iff_eq.mpr c5; have c5b1 := bne_eq_false_iff_eq.mpr c5; clear c5; obtain rfl := Option.some.inj H; go_enter Try.func164, Try.ntmps164; go_wp2; go_ret; exact ⟨eQ, dQ⟩
       · intro H; have c5b0 := beq_eq_false_iff_ne.mpr c5; have c5b1 := bne_iff_ne.mpr c5; obtain rfl := Option.some.inj H; go_enter Try.func164, Try.ntmps164; go_wp2; go_ret; exact ⟨eQ, dQ⟩

/-! ### impl_DepthOk: function 114 -/
def impl_DepthOk.f (k : Nat) (a0 : Int) (a1 : Int) : Option (Bool) := if a0 = 0 then ((impl_isDepth.f a1).bind fun t227 => (some t227)) else (if a0 = 3 then ((impl_isDepth.f a1).bind fun t228 => (if t228 = true then (some (decide (a1 < 16))) else (some false))) else ((impl_ChannelsOf.f k a0).bind fun t229 => (if t229 > 0 then (if a1 = 8 then (some true) else (some (a1 == 16))) else (some false))))
set_option maxHeartbeats 8000000 in
set_option maxRecDepth 100000 in
theorem impl_DepthOk.calls (k : Nat) (a0 : Int) (a1 : Int) (r : Bool) (w : World) (h : impl_DepthOk.f k a0 a1 = some r) :
 Calls Try.prog 114 #[.int .i64 a0, .int .i64 a1] w fun e w' => e = .returned (.bool r) ∧ Drawn0 w w' := by
 unfold impl_DepthOk.f at h; have H := h; clear h; revert H
 refine ifB (fun c3 => ?_) (fun c3 => ?_)
 · intro H; have c3b0 := beq_iff_eq.mpr c3; have c3b1 := bne_eq_false_iff_eq.mpr c3; clear c3; revert H; refine bdR fun t227 A4 => ?_; intro H; obtain rfl := Option.some.inj H; go_enter Try.func114, Try.ntmps114
   go_wp2_with (first | ((with_reducible refine gC 164 ?_); refine gL (some 9) Try.func164 #[.int .i64 a1] ?_; (with_reducible refine (impl_isDepth.calls a1 t227 _ A4.out).mono ?_); rintro e w' ⟨rfl, ⟨nd, rfl⟩⟩; refine ⟨_, rfl, ?_⟩)); go_ret; exact ⟨eQ, dQ⟩
 · intro H; have c3b0 := beq_eq_false_iff_ne.mpr c3; have c3b1 := bne_iff_ne.mpr c3; revert H
   refine ifB (fun c5 => ?_) (fun c5 => ?_)
   · intro H; have c5b0 := beq_iff_eq.mpr c5; have c5b1 := bne_eq_false_iff_eq.mpr c5; clear c5; revert H; refine bdR fun t228 A6 => ?_
     refine ifB (fun c7 => ?_) (fun c7 => ?_)
     · intro H; subst c7; obtain rfl := Option.some.inj H; go_enter Try.func114, Try.ntmps114
       go_wp2_with (first | ((with_reducible refine gC 164 ?_); refine gL (some 13) Try.func164 #[.int .i64 a1] ?_; (with_reducible refine (impl_isDepth.calls a1 true _ A6.out).mono ?_); rintro e w' ⟨rfl, ⟨nd, rfl⟩⟩; refine ⟨_, rfl, ?_⟩)); go_ret; exact ⟨eQ, dQ⟩
     · intro H; replace c7 := Bool.eq_false_iff.mpr c7; subst c7; obtain rfl := Option.some.inj H; go_enter Try.func114, Try.ntmps114
       go_wp2_with (first | ((with_reducible refine gC 164 ?_); refine gL (some 13) Try.func164 #[.int .i64 a1] ?_; (with_reducible refine (impl_isDepth.calls a1 false _ A6.out).mono ?_); rintro e w' ⟨rfl, ⟨nd, rfl⟩⟩; refine ⟨_, rfl, ?_⟩)); go_ret; exact ⟨eQ, dQ⟩
   · intro H; have c5b0 := beq_eq_false_iff_ne.mpr c5; have c5b1 := bne_iff_ne.mpr c5; revert H; refine bdR fun t229 A8 => ?_
     refine ifB (fun c9 => ?_) (fun c9 => ?_)
     · intro H; have c9b0 := decide_eq_true c9; clear c9; revert H
       refine ifB (fun c10 => ?_) (fun c10 => ?_)
       · intro H; have c10b0 := beq_iff_eq.mpr c10; have c10b1 := bne_eq_false_iff_eq.mpr c10; clear c10; obtain rfl := Option.some.inj H; go_enter Try.func114, Try.ntmps114
         go_wp2_with (first | ((with_reducible refine gC 65 ?_); refine gL (some 19) Try.func65 #[.int .i64 a0] ?_; (with_reducible refine (impl_ChannelsOf.calls k a0 t229 _ A8.out).mono ?_); rintro e w' ⟨rfl, ⟨nd, rfl⟩⟩; refine ⟨_, rfl, ?_⟩)); go_ret; exact ⟨eQ, dQ⟩
       · intro H; have c10b0 := beq_eq_false_iff_ne.mpr c10; have c10b1 := bne_iff_ne.mpr c10; obtain rfl := Option.some.inj H; go_enter Try.func114, Try.ntmps114
         go_wp2_with (first | ((with_reducible refine gC 65 ?_); refine gL (some 19) Try.func65 #[.int .i64 a0] ?_; (with_reducible refine (impl_ChannelsOf.calls k a0 t229 _ A8.out).mono ?_); rintro e w' ⟨rfl, ⟨nd, rfl⟩⟩; refine ⟨_, rfl, ?_⟩)); go_ret; exact ⟨eQ, dQ⟩
     · intro H; have c9b0 := decide_eq_false c9; clear c9; obtain rfl := Option.some.inj H; go_enter Try.func114, Try.ntmps114
       go_wp2_with (first | ((with_reducible refine gC 65 ?_); refine gL (some 19) Try.func65 #[.int .i64 a0] ?_; (with_reducible refine (impl_ChannelsOf.calls k a0 t229 _ A8.out).mono ?_); rintro e w' ⟨rfl, ⟨nd, rfl⟩⟩; refine ⟨_, rfl, ?_⟩)); go_ret; exact ⟨eQ, dQ⟩

/-! ### impl_powerOf: function 126 -/
def impl_powerOf.f (a0 : Int) : Option (Int) := (impl_within.f a0 0 62).bind fun t230 => (if t230 = true then (if 0 ≤ a0 then (some (shl .i64 1 a0)) else (none)) else (some 0))
set_option maxHeartbeats 8000000 in
set_option maxRecDepth 100000 in
theorem impl_powerOf.calls (a0 : Int) (r : Int) (w : World) (h : impl_powerOf.f a0 = some r) :
 Calls Try.prog 126 #[.int .i64 a0] w fun e w' => e = .returned (.int .i64 r) ∧ Drawn0 w w' := by
 have H : ((impl_within.f a0 0 62).bind fun t230 => (if t230 = true then (if 0 ≤ a0 then (some (shl .i64 1 a0)) else (none)) else (some 0))) = some r := h; clear h; revert H; refine bdR fun t230 A2 => ?_
 refine ifB (fun c3 => ?_) (fun c3 => ?_)
 · intro H; subst c3; revert H; refine ifR fun c4 => ?_; intro H; have c4b0 := eq_true c4; have c4b1 := decide_eq_true c4; clear c4; obtain ⟨ji5, hji5⟩ : ∃ j_ : Int, (shl .i64 1 a0) = j_ := ⟨_, rfl⟩; replace H : (some ji5) = some r := by first | (rw [hji5] at H; exact H) | (simp only [hji5] at H ⊢; exact H)
   (try rw [hji5] at A2); have hji5_ : (IntKind.i64.wrap (1 * 2 ^ min a0.toNat 64)) = ji5 := hji5; have hji5z : a0 ≤ 64 → (IntKind.i64.wrap (1 * 2 ^ a0.toNat)) = ji5 := shl_small hji5; have hji5u : (IntKind.i64.wrap (2 ^ min a0.toNat 64)) = ji5 := by have h_ := hji5_; rw [Int.one_mul] at h_; exact h_
   have hji5v : a0 ≤ 64 → (IntKind.i64.wrap (2 ^ a0.toNat)) = ji5 := fun hle_ => by have h_ := hji5z hle_; rw [Int.one_mul] at h_; exact h_
   have hji5y : (wrap64 (1 * 2 ^ min a0.toNat 64)) = ji5 := (i64_w _).symm.trans hji5_; have hji5x : a0 ≤ 64 → (wrap64 (1 * 2 ^ a0.toNat)) = ji5 := fun h_ => (i64_w _).symm.trans (hji5z h_)
   obtain rfl := Option.some.inj H; go_enter Try.func126, Try.ntmps126
   go_wp2_with (first | ((with_reducible refine gC 82 ?_); refine gL (some 4) Try.func82 #[.int .i64 a0, .int .i64 0, .int .i64 62] ?_; (with_reducible refine (impl_within.calls a0 0 62 true _ A2.out).mono ?_); rintro e w' ⟨rfl, ⟨nd, rfl⟩⟩; refine ⟨_, rfl, ?_⟩)); go_ret; exact ⟨by first | rfl | (simp; done) | (simp only [← hji5] <;> (first | rfl | simp)) | (simp [*]; done), dQ⟩
 · intro H; replace c3 := Bool.eq_false_iff.mpr c3; subst c3; obtain rfl := Option.some.inj H; go_enter Try.func126, Try.ntmps126
   go_wp2_with (first | ((with_reducible refine gC 82 ?_); refine gL (some 4) Try.func82 #[.int .i64 a0, .int .i64 0, .int .i64 62] ?_; (with_reducible refine (impl_within.calls a0 0 62 false _ A2.out).mono ?_); rintro e w' ⟨rfl, ⟨nd, rfl⟩⟩; refine ⟨_, rfl, ?_⟩)); go_ret; exact ⟨eQ, dQ⟩

/-! ### impl_samplesOk: function 139 -/
def impl_samplesOk.l0 : Nat → Int → List Int → Int → Int → Option (Bool)
  | 0, _, _, _, _ => none
  | k + 1, x1, x7, x8, x9 => if x9 < x8 then (if 0 ≤ x9 then (if x9 < (x7.length : Int) then ((impl_powerOf.f x1).bind fun t232 => ((impl_within.f (rd x7 x9) 0 (wrap64 (t232 - 1))).bind fun t233 => (if t233 = true then (impl_samplesOk.l0 k x1 x7 x8 (wrap64 (x9 + 1))) else (some false)))) else (none)) else (none)) else (some true)
def impl_samplesOk.f (k : Nat) (l0 : List Int) (a1 : Int) : Option (Bool) := impl_samplesOk.l0 k a1 l0 (l0.length : Int) 0
set_option maxHeartbeats 8000000 in
set_option maxRecDepth 100000 in
theorem impl_samplesOk.calls (k : Nat) (A0 : Option Addr) (c0 : Nat) (l0 : List Int) (a1 : Int) (r : Bool) (w : World) (hr0 : Kd.C (Kd.int .i64) w A0 l0.length l0) (hc0 : l0.length ≤ c0) (h : impl_samplesOk.f k l0 a1 = some r) :
 Calls Try.prog 139 #[.slice A0 l0.length c0, .int .i64 a1] w fun e w' => e = .returned (.bool r) ∧ Drawn0 w w' := by
 have HR0 := aM hr0; have HC0 := aM hc0; clear hr0 hc0; have H : (impl_samplesOk.l0 k a1 l0 (l0.length : Int) 0) = some r := h; clear h; revert H; refine adR fun H' => ?_; go_enter Try.func139, Try.ntmps139; go_wp2
 go_loopg [9] k (fun kq v9 w' => ∃ (x9_1 : Int), v9 = .int .i64 x9_1 ∧ Aside0 (impl_samplesOk.l0 kq a1 l0 (l0.length : Int) x9_1 = some r) ∧ Aside0 (kq ≤ k) ∧ Drawn0 w w')
 case atStart => exact ⟨(0), eQ, H', ⟨Nat.le_refl _⟩, dQ⟩
 case round =>
  clear H'; (try clear c1); (try clear p2); obtain ⟨x9_1, rfl, HA, HK1, ⟨m1, rfl⟩⟩ := hrel; rcases gk with _ | k1
  · exact absurd HA.out (by simp [impl_samplesOk.l0])
  revert HA; refine aoR ?_; intro H; simp only [impl_samplesOk.l0] at H; revert H
  refine ifB (fun c3 => ?_) (fun c3 => ?_)
  · intro H; have c3b0 := decide_eq_true c3; clear c3; revert H; refine ifR fun c4 => ?_; intro H; have c4b0 := decide_eq_true c4; clear c4; revert H; refine ifR fun c5 => ?_; intro H; have c5b0 := decide_eq_true c5; clear c5; revert H; refine bdR fun t232 A6 => ?_; refine bdR fun t233 A7 => ?_
    refine ifB (fun c8 => ?_) (fun c8 => ?_)
    · intro H; subst c8; revert H; refine adR fun H' => ?_; have p231 : 0 ≤ (x9_1 : Int) := bD; have q231 : x9_1 < (l0.length : Int) := bD; obtain ⟨ad231, e231, hx231_0⟩ := Kd.at_int HR0.out x9_1 p231 q231; cases e231; replace p231 := eq_true p231; replace q231 := eq_true q231
      go_wp2_with (first | ((with_reducible refine gC 126 ?_); refine gL (some 15) Try.func126 #[.int .i64 a1] ?_; (with_reducible refine (impl_powerOf.calls a1 t232 _ A6.out).mono ?_); rintro e w' ⟨rfl, ⟨nd, rfl⟩⟩; refine ⟨_, rfl, ?_⟩) | ((with_reducible refine gC 82 ?_); refine gL (some 17) Try.func82 #[.int .i64 (rd l0 x9_1), .int .i64 0, .int .i64 (wrap64 (t232 - 1))] ?_; (with_reducible refine (impl_within.calls (rd l0 x9_1) 0 (wrap64 (t232 - 1)) true _ A7.out).mono ?_); rintro e w' ⟨rfl, ⟨nd, rfl⟩⟩; refine ⟨_, rfl, ?_⟩)); go_roundg k1
      case measure => have := HK1.out; omega
      case rel => exact ⟨(wrap64 (x9_1 + 1)), eQ, H', ⟨by have := HK1.out; omega⟩, dQ⟩
    · intro H; replace c8 := Bool.eq_false_iff.mpr c8; subst c8; obtain rfl := Option.some.inj H; have p231 : 0 ≤ (x9_1 : Int) := bD; have q231 : x9_1 < (l0.length : Int) := bD; obtain ⟨ad231, e231, hx231_0⟩ := Kd.at_int HR0.out x9_1 p231 q231; cases e231; replace p231 := eq_true p231; replace q231 := eq_true q231
      go_wp2_with (first | ((with_reducible refine gC 126 ?_); refine gL (some 15) Try.func126 #[.int .i64 a1] ?_; (with_reducible refine (impl_powerOf.calls a1 t232 _ A6.out).mono ?_); rintro e w' ⟨rfl, ⟨nd, rfl⟩⟩; refine ⟨_, rfl, ?_⟩) | ((with_reducible refine gC 82 ?_); refine gL (some 17) Try.func82 #[.int .i64 (rd l0 x9_1), .int .i64 0, .int .i64 (wrap64 (t232 - 1))] ?_; (with_reducible refine (impl_within.calls (rd l0 x9_1) 0 (wrap64 (t232 - 1)) false _ A7.out).mono ?_); rintro e w' ⟨rfl, ⟨nd, rfl⟩⟩; refine ⟨_, rfl, ?_⟩)); go_ret; exact ⟨eQ, dQ⟩
  · intro H; have c3b0 := decide_eq_false c3; clear c3; obtain rfl := Option.some.inj H; go_wp2; go_ret; exact ⟨eQ, dQ⟩

end Go.Proofs.Ytajnobmnkbkkgaa.PFnExactFromPasses
