/- Walks of functions that the law FnExactNoCover reaches: each call comes to what the Lean function of its name tells. Written by p2.py, a program of this session, by way of the kit's print. -/
import Derived.Test.YtajnobmnkbkkgaaVFnExactNoCover
import Derived.Test.YtajnobmnkbkkgaaPFnExactNoCoverx0
import Derived.Test.YtajnobmnkbkkgaaPFnExactNoCoverx3
namespace Go.Proofs.Ytajnobmnkbkkgaa.PFnExactNoCover
open Go.RowKit Go.Proofs.YtajnobmnkbkkgaaW.PrintWords Go.Proofs.YtajnobmnkbkkgaaW.PrintLast Go.Proofs.YtajnobmnkbkkgaaW.PrintMore
attribute [local go_sem] max2_int min2_int max_two min_two max_three min_three max_four min_four   -- for this text's walks alone
set_option linter.unusedVariables false
set_option linter.unusedSimpArgs false

/-! ### laws_markText: function 167 -/
def laws_markText.l0 : Nat → Int → ByteArray → Option (ByteArray)
  | 0, _, _ => none
  | k + 1, x0, x3 => if x0 > 0 then ((some (([(wrap64 (48 + (Int.tmod x0 10))) % 256] : List Int) : List Int)).bind fun y201 => (if (strOfNums y201).size + x3.size ≤ 9223372036854775807 then (laws_markText.l0 k (wrap64 (Int.tdiv x0 10)) ((strOfNums y201) ++ x3)) else (none))) else (if 1 + x3.size ≤ 9223372036854775807 then (some ((⟨#[109]⟩ : ByteArray) ++ x3)) else (none))
def laws_markText.f (k : Nat) (a0 : Int) : Option (ByteArray) := if a0 ≤ 0 then (some (⟨#[109, 48]⟩ : ByteArray)) else (laws_markText.l0 k a0 (⟨#[]⟩ : ByteArray))
set_option maxHeartbeats 8000000 in
set_option maxRecDepth 100000 in
theorem laws_markText.calls (k : Nat) (a0 : Int) (r : ByteArray) (w : World) (h : laws_markText.f k a0 = some r) :
 Calls Try.prog 167 #[.int .i64 a0] w fun e w' => e = .returned (.string r) ∧ Below w.heap.size w w' := by
 have HB := aM (Below.refl w.heap.size w); have H : (if a0 ≤ 0 then (some (⟨#[109, 48]⟩ : ByteArray)) else (laws_markText.l0 k a0 (⟨#[]⟩ : ByteArray))) = some r := h; clear h; revert H
 refine ifB (fun c2 => ?_) (fun c2 => ?_)
 · intro H; have c2b0 := decide_eq_true c2; clear c2; obtain rfl := Option.some.inj H; go_enter Try.func167, Try.ntmps167; go_wp2; go_ret; exact ⟨eE, hB⟩
 · intro H; have c2b0 := decide_eq_false c2; clear c2; revert H; refine adR fun H' => ?_; go_enter Try.func167, Try.ntmps167; go_wp2
   go_loopg [0, 3] k (fun kq v0 v3 w' => ∃ (x0_1 : Int) (x3_1 : ByteArray), v0 = .int .i64 x0_1 ∧ v3 = .string x3_1 ∧ Aside0 (laws_markText.l0 kq x0_1 x3_1 = some r) ∧ Aside0 (kq ≤ k) ∧ Aside0 (Below w.heap.size w w'))
   case atStart => exact ⟨(a0), ((⟨#[]⟩ : ByteArray)), eQ, eQ, H', ⟨Nat.le_refl _⟩, ⟨hB⟩⟩
   case round =>
    clear H'; (try clear c1); (try clear c2); (try clear c2b0); (try clear p2); obtain ⟨x0_1, x3_1, rfl, rfl, HA, HK1, HB⟩ := hrel; rcases gk with _ | k1
    · exact absurd HA.out (by simp [laws_markText.l0])
    revert HA; refine aoR ?_; intro H; simp only [laws_markText.l0] at H; revert H
    refine ifB (fun c3 => ?_) (fun c3 => ?_)
    · intro H; have c3b0 := decide_eq_true c3; clear c3; obtain ⟨y201, hy_⟩ : ∃ y_ : List Int, y_ = (([(wrap64 (48 + (Int.tmod x0_1 10))) % 256] : List Int)) := ⟨_, rfl⟩; replace H : (if (strOfNums y201).size + x3_1.size ≤ 9223372036854775807 then (laws_markText.l0 k1 (wrap64 (Int.tdiv x0_1 10)) ((strOfNums y201) ++ x3_1)) else (none)) = some r := nH; have Ny201 := aM hy_; clear hy_; revert H; refine ifR fun c4 => ?_; intro H; have c4b0 := eq_true c4; have c4b1 := decide_eq_true c4
      try have c4b2 := eq_false (Nat.not_lt.2 c4)
      revert H; refine adR fun H' => ?_
      go_wp2_with (first | ((with_reducible refine gD 12 ?_); refine Kd.R_lit (Kd.int .u8) _ 5 ?hg (N := 12) ?hd (xs := ([(wrap64 (48 + (Int.tmod x0_1 10))) % 256] : List Int)) (inner := [.int .u8 ((wrap64 (48 + (Int.tmod x0_1 10))) % 256)]) (ok := fun _ => True) (okp := fun _ => True) ?hr ?hp (fun _ hk => hk) trivial (Below.refl _ _) (Nat.le_refl _) (by simp) ?_; (case hd => rfl); (case hg => rfl); (case hr => first | (go_simp; done) | (go_simp; rfl)); (case hp => exact (Reps.one (show Kd.M (Kd.int .u8) _ _ _ ((wrap64 (48 + (Int.tmod x0_1 10))) % 256) [.int .u8 ((wrap64 (48 + (Int.tmod x0_1 10))) % 256)] from rfl) (Reps.none _ _))); intro v202 w5 ho6 hb hg_ hnew_; clear hg_ hnew_; (first | rw [← Ny201.out] at ho6 | (simp only [Int.reduceToNat] at ho6; rw [← Ny201.out] at ho6)); have HO203 := aM (Kd.R_lower ho6 (below_size hB)); replace HB := hS hb; clear hb ho6; have hcv7 := own_string (P := Try.prog) Try.underlying36 Try.underlying5 Try.underlying9 (Kd.own_of_R HO203.out))); go_roundg k1
      case measure => have := HK1.out; omega
      case rel => exact ⟨(wrap64 (Int.tdiv x0_1 10)), ((strOfNums y201) ++ x3_1), eQ, eQ, H', ⟨by have := HK1.out; omega⟩, ⟨hB⟩⟩
    · intro H; have c3b0 := decide_eq_false c3; clear c3; revert H; refine ifR fun c8 => ?_; intro H; have c8b0 := eq_true c8; have c8b1 := decide_eq_true c8
      try have c8b2 := eq_false (Nat.not_lt.2 c8)
      obtain rfl := Option.some.inj H; go_wp2; go_ret; exact ⟨eE, hB⟩

/-! ### laws_markChunkS: function 121 -/
def laws_markChunkS.l0 : Nat → List (S168) → Int → Int → Option (Int × (List (S168)))
  | 0, _, _, _ => none
  | k + 1, x0, x1, x5 => if x5 < (x0.length : Int) then ((laws_markText.f k x1).bind fun t204 => (if 0 ≤ x5 then ((some (x0.set (x5 : Int).toNat (⟨t204, (rd_T168 x0 x5).f1⟩ : S168) : List (S168))).bind fun y205 => ((laws_markText.f k (wrap64 (x1 + 1))).bind fun t206 => (laws_markChunkS.l0 k (y205.set (x5 : Int).toNat (⟨(rd_T168 y205 x5).f0, t206⟩ : S168)) (wrap64 ((wrap64 (x1 + 1)) + 1)) (wrap64 (x5 + 1))))) else (none))) else (some (x1, x0))
def laws_markChunkS.f (k : Nat) (l0 : List (S168)) (a1 : Int) : Option (Int × (List (S168))) := laws_markChunkS.l0 k l0 a1 0
set_option maxHeartbeats 8000000 in
set_option maxRecDepth 100000 in
theorem laws_markChunkS.calls (k : Nat) (P0_ : Nat → Prop) (u9000_ : Value) (l0 : List (S168)) (a1 : Int) (r1 : Int) (r2 : List (S168)) (w0 w : World) (hB : Below w0.heap.size w0 w) (ho0 : Kd.R k168 168 w w0.heap.size P0_ u9000_ l0) (h : laws_markChunkS.f k l0 a1 = some (r1, r2)) :
 Calls Try.prog 121 #[u9000_, .int .i64 a1] w fun e w' => e = .returned (.int .i64 r1) ∧ Kd.R k168 168 w' w0.heap.size (fun k_ => (P0_ k_ ∨ w.heap.size ≤ k_)) u9000_ r2 ∧ Below w0.heap.size w0 w' ∧ Kept w w' (fun k_ => P0_ k_) := by
 have HO0 := aM (show Kd.R k168 168 w w0.heap.size (fun k_ => (P0_ k_ ∨ w.heap.size ≤ k_)) u9000_ l0 from Kd.R_mono ho0 (fun k_ hk => (.inl hk))); have HK := aM (Kept.refl w (fun k_ => P0_ k_)); have HW0 := aM hB.size; have HB := aM hB; clear hB; have H : (laws_markChunkS.l0 k l0 a1 0) = some (r1, r2) := h; clear h; revert H; refine adR fun H' => ?_; go_enter Try.func121, Try.ntmps121; go_wp2
 go_loopg [1, 5] k (fun kq v1 v5 w' => ∃ (x0_1 : List (S168)) (x1_1 : Int) (x5_1 : Int), v1 = .int .i64 x1_1 ∧ v5 = .int .i64 x5_1 ∧ Aside0 (laws_markChunkS.l0 kq x0_1 x1_1 x5_1 = some (r1, r2)) ∧ Aside0 (kq ≤ k) ∧ Aside0 (Kd.R k168 168 w' w0.heap.size (fun k_ => (P0_ k_ ∨ w.heap.size ≤ k_)) u9000_ x0_1) ∧ Aside0 (Kept w w' (fun k_ => P0_ k_)) ∧ Aside0 (Below w0.heap.size w0 w'))
 case atStart => exact ⟨(l0), (a1), (0), eQ, eQ, H', ⟨Nat.le_refl _⟩, ⟨Kd.R_i HO0.out⟩, ⟨by repeat (first | (with_reducible first | exact HK.out | apply Kept.alloc | apply Kept.drewN | apply Kept.drew) | exact HK.out)⟩, ⟨hB⟩⟩
 case round =>
  clear H'; (try clear c1); (try clear p2); obtain ⟨x0_1, x1_1, x5_1, rfl, rfl, HA, HK1, HO_0, HK, HB⟩ := hrel; rcases gk with _ | k1
  · exact absurd HA.out (by simp [laws_markChunkS.l0])
  revert HA; refine aoR ?_; intro H; simp only [laws_markChunkS.l0] at H; revert H
  refine ifB (fun c3 => ?_) (fun c3 => ?_)
  · intro H; have c3b0 := decide_eq_true c3; clear c3; revert H; refine bdR fun t204 A4 => ?_; refine ifR fun c5 => ?_; intro H; have c5b0 := decide_eq_true c5; clear c5; obtain ⟨y205, hy_⟩ : ∃ y_ : List (S168), y_ = (x0_1.set (x5_1 : Int).toNat (⟨t204, (rd_T168 x0_1 x5_1).f1⟩ : S168)) := ⟨_, rfl⟩; replace H : ((laws_markText.f k1 (wrap64 (x1_1 + 1))).bind fun t206 => (laws_markChunkS.l0 k1 (y205.set (x5_1 : Int).toNat (⟨(rd_T168 y205 x5_1).f0, t206⟩ : S168)) (wrap64 ((wrap64 (x1_1 + 1)) + 1)) (wrap64 (x5_1 + 1)))) = some (r1, r2) := nH; have Ny205 := aM hy_; clear hy_; revert H; refine bdR fun t206 A7 => ?_; intro H; obtain ⟨y207, hy_⟩ : ∃ y_ : List (S168), y_ = (y205.set (x5_1 : Int).toNat (⟨(rd_T168 y205 x5_1).f0, t206⟩ : S168)) := ⟨_, rfl⟩; replace H : (laws_markChunkS.l0 k1 y207 (wrap64 ((wrap64 (x1_1 + 1)) + 1)) (wrap64 (x5_1 + 1))) = some (r1, r2) := nH; have Ny207 := aM hy_; clear hy_; revert H; refine adR fun H' => ?_; obtain ⟨Ao9, co9, eo9⟩ := Kd.R_slice HO_0.out; subst eo9
    go_wp2_with (first | ((with_reducible refine gC 167 ?_); refine gL (some 15) Try.func167 #[.int .i64 x1_1] ?_; (with_reducible refine (laws_markText.calls k1 x1_1 t204 _ A4.out).mono ?_); rintro e w10 ⟨rfl, hb⟩; refine ⟨_, rfl, ?_⟩; replace HO_0 := Kd.wR HO_0 hb; replace HK := aM (Kept.below (S := (fun k_ => P0_ k_)) (by repeat (first | (with_reducible first | exact HK.out | apply Kept.alloc | apply Kept.drewN | apply Kept.drew) | exact HK.out)) hb); replace HB := hS hb; clear hb; have p6 : 0 ≤ (x5_1 : Int) := bD; have q6 : (x5_1 : Int) < ((x0_1.length : Int) : Int) := bD; obtain ⟨go6, co6, eo6, gb6, gl6, cl6, HG6⟩ := Kd.R_form HO_0.out (by omega); (first | cases eo6 | (injection eo6 with ea_ en_ ec_; (first | subst ea_ | (injection ea_ with ea_; subst ea_)); subst ec_; clear en_)); have GB6 := aM gb6; have GG6 := aM HG6; clear gb6 gl6 HG6; have HMgo6 := aM (show (P0_ go6 ∨ w.heap.size ≤ go6) from (HO_0.out.1 _ rfl)); obtain ⟨ce6, hcl6, hM6, hcc6, hfr6⟩ := Kd.R_elem HO_0.out z168 (x5_1 : Int) p6 q6; obtain rfl := k168_openM hM6; have hx6_0 : w10.cell? ⟨go6, (x5_1 : Int).toNat * 2, none⟩ = some (.string ((rd_T168 x0_1 x5_1).f0)) := hcc6 0 _ rfl; have hx6_1 : w10.cell? ⟨go6, (x5_1 : Int).toNat * 2 + 1, none⟩ = some (.string ((rd_T168 x0_1 x5_1).f1)) := hcc6 1 _ rfl; have hf6_0 : w10.frozen? ⟨go6, (x5_1 : Int).toNat * 2, none⟩ = false := hfr6 0; have hf6_1 : w10.frozen? ⟨go6, (x5_1 : Int).toNat * 2 + 1, none⟩ = false := hfr6 1; clear hcl6 hcc6 hfr6 hM6; replace p6 := eq_true p6; replace q6 := eq_true q6; have HX11 := aM (show Kd.R k168 168 w10 w0.heap.size (fun k_ => (P0_ k_ ∨ w.heap.size ≤ k_)) (.slice (some ⟨go6, 0, none⟩) x0_1.length co9) x0_1 from (Kd.R_i HO_0.out)); obtain ⟨ce11, hcl11, hM11, hcc11, hfr11⟩ := Kd.R_elem HX11.out z168 (x5_1 : Int) (bD) (by have h_ : (x5_1 : Int) < ((x0_1.length : Int) : Int) := bD; first | exact h_ | (have e_ := (Kd.R_reads' HO_0.out).1; omega) | simpa using h_); obtain rfl := k168_openM hM11; have HP11 := Kd.R_seg HX11.out (x5_1 : Int) (bD) (by have h_ : (x5_1 : Int) < ((x0_1.length : Int) : Int) := bD; first | exact h_ | (have e_ := (Kd.R_reads' HO_0.out).1; omega) | simpa using h_) (seg := [.string t204]) (j := 0) hcl11 hcc11 (show 1 ≤ 2 from by decide) (x' := (⟨t204, (rd_T168 x0_1 x5_1).f1⟩ : S168)) (k168_mkM _ _ _ (⟨t204, (rd_T168 x0_1 x5_1).f1⟩ : S168) ) (fun _ hk => hk); have hx11_0 := hcc11 0 _ rfl; (try simp only [show (k168).sz = 2 from rfl, Nat.mul_one, Nat.add_zero] at hx11_0); have hf11_0 := hfr11 0; (try simp only [show (k168).sz = 2 from rfl, Nat.mul_one, Nat.add_zero] at hf11_0); clear hcl11 hcc11 hfr11 hM11) | ((with_reducible refine gate_store (t := 9) (p := 17) rfl ?_); refine store_event (t := 9) (p := 17) (v := ?vo_w12) (w1 := (w10.setCell ⟨go6, (x5_1 : Int).toNat * 2, none⟩ (.string t204))) ?hg ?ho ?hn ?hr ?_; (case ho => rfl); (case hg => rfl); (case hn => rfl); (case hr => first | (go_simp; done) | (go_simp; rfl)); intro w12 hw; have hg : w10.grownBy w12 (some go6) := (by rw [hw]; exact HP11.2); have hp_ : Kd.R k168 168 w12 w0.heap.size (fun k_ => (P0_ k_ ∨ w.heap.size ≤ k_)) (.slice (some ⟨go6, 0, none⟩) x0_1.length co9) y205 := (by rw [hw, Ny205.out]; exact HP11.1); clear HP11; replace HB := aM ((by rw [hw]; exact below_set (HB.out) GB6.out : Below w0.heap.size w0 w12)); replace HK := aM (Kept.of_grown (S := (fun k_ => P0_ k_)) hg (by repeat (first | (with_reducible first | exact HK.out | apply Kept.alloc | apply Kept.drewN | apply Kept.drew) | exact HK.out)) (fun k_ e_ => (HO_0.out.1 k_ e_))); replace HO_0 := aM hp_; clear hg hw hp_) | ((with_reducible refine gC 167 ?_); refine gL (some 23) Try.func167 #[.int .i64 (wrap64 (x1_1 + 1))] ?_; (with_reducible refine (laws_markText.calls k1 (wrap64 (x1_1 + 1)) t206 _ A7.out).mono ?_); rintro e w13 ⟨rfl, hb⟩; refine ⟨_, rfl, ?_⟩; replace HO_0 := Kd.wR HO_0 hb; replace HK := aM (Kept.below (S := (fun k_ => P0_ k_)) (by repeat (first | (with_reducible first | exact HK.out | apply Kept.alloc | apply Kept.drewN | apply Kept.drew) | exact HK.out)) hb); replace HB := hS hb; clear hb; have p8 : 0 ≤ (x5_1 : Int) := bD; have q8 : (x5_1 : Int) < ((x0_1.length : Int) : Int) := bD; obtain ⟨ce8, hcl8, hM8, hcc8, hfr8⟩ := Kd.R_elem HO_0.out z168 (x5_1 : Int) p8 q8; obtain rfl := k168_openM hM8; have hx8_0 : w13.cell? ⟨go6, (x5_1 : Int).toNat * 2, none⟩ = some (.string ((rd_T168 y205 x5_1).f0)) := hcc8 0 _ rfl; have hx8_1 : w13.cell? ⟨go6, (x5_1 : Int).toNat * 2 + 1, none⟩ = some (.string ((rd_T168 y205 x5_1).f1)) := hcc8 1 _ rfl; have hf8_0 : w13.frozen? ⟨go6, (x5_1 : Int).toNat * 2, none⟩ = false := hfr8 0; have hf8_1 : w13.frozen? ⟨go6, (x5_1 : Int).toNat * 2 + 1, none⟩ = false := hfr8 1; clear hcl8 hcc8 hfr8 hM8; replace p8 := eq_true p8; replace q8 := eq_true q8; have HX14 := aM (show Kd.R k168 168 w13 w0.heap.size (fun k_ => (P0_ k_ ∨ w.heap.size ≤ k_)) (.slice (some ⟨go6, 0, none⟩) x0_1.length co9) y205 from (Kd.R_i HO_0.out)); obtain ⟨ce14, hcl14, hM14, hcc14, hfr14⟩ := Kd.R_elem HX14.out z168 (x5_1 : Int) (bD) (by have h_ : (x5_1 : Int) < ((x0_1.length : Int) : Int) := bD; first | exact h_ | (have e_ := (Kd.R_reads' HO_0.out).1; omega) | simpa using h_); obtain rfl := k168_openM hM14; have HP14 := Kd.R_seg HX14.out (x5_1 : Int) (bD) (by have h_ : (x5_1 : Int) < ((x0_1.length : Int) : Int) := bD; first | exact h_ | (have e_ := (Kd.R_reads' HO_0.out).1; omega) | simpa using h_) (seg := [.string t206]) (j := 1) hcl14 hcc14 (show 2 ≤ 2 from by decide) (x' := (⟨(rd_T168 y205 x5_1).f0, t206⟩ : S168)) (k168_mkM _ _ _ (⟨(rd_T168 y205 x5_1).f0, t206⟩ : S168) ) (fun _ hk => hk); have hx14_1 := hcc14 1 _ rfl; (try simp only [show (k168).sz = 2 from rfl, Nat.mul_one, Nat.add_zero] at hx14_1); have hf14_1 := hfr14 1; (try simp only [show (k168).sz = 2 from rfl, Nat.mul_one, Nat.add_zero] at hf14_1); clear hcl14 hcc14 hfr14 hM14) | ((with_reducible refine gate_store (t := 9) (p := 25) rfl ?_); refine store_event (t := 9) (p := 25) (v := ?vo_w15) (w1 := (w13.setCell ⟨go6, (x5_1 : Int).toNat * 2 + 1, none⟩ (.string t206))) ?hg ?ho ?hn ?hr ?_; (case ho => rfl); (case hg => rfl); (case hn => rfl); (case hr => first | (go_simp; done) | (go_simp; rfl)); intro w15 hw; have hg : w13.grownBy w15 (some go6) := (by rw [hw]; exact HP14.2); have hp_ : Kd.R k168 168 w15 w0.heap.size (fun k_ => (P0_ k_ ∨ w.heap.size ≤ k_)) (.slice (some ⟨go6, 0, none⟩) x0_1.length co9) y207 := (by rw [hw, Ny207.out]; exact HP14.1); clear HP14; replace HB := aM ((by rw [hw]; exact below_set (HB.out) GB6.out : Below w0.heap.size w0 w15)); replace HK := aM (Kept.of_grown (S := (fun k_ => P0_ k_)) hg (by repeat (first | (with_reducible first | exact HK.out | apply Kept.alloc | apply Kept.drewN | apply Kept.drew) | exact HK.out)) (fun k_ e_ => (HO_0.out.1 k_ e_))); replace HO_0 := aM hp_; clear hg hw hp_)); go_roundg k1
    case measure => have := HK1.out; omega
    case rel => exact ⟨(y207), (wrap64 ((wrap64 (x1_1 + 1)) + 1)), (wrap64 (x5_1 + 1)), eQ, eQ, H', ⟨by have := HK1.out; omega⟩, ⟨Kd.R_i HO_0.out⟩, ⟨by repeat (first | (with_reducible first | exact HK.out | apply Kept.alloc | apply Kept.drewN | apply Kept.drew) | exact HK.out)⟩, ⟨hB⟩⟩
  · intro H; have c3b0 := decide_eq_false c3; clear c3; simp only [Option.some.injEq, Prod.mk.injEq] at H; obtain ⟨rfl, rfl⟩ := H; obtain ⟨Ao16, co16, eo16⟩ := Kd.R_slice HO_0.out; subst eo16; go_wp2; go_ret; exact ⟨eE, Kd.R_i HO_0.out, hB, by repeat (first | (with_reducible first | exact HK.out | apply Kept.alloc | apply Kept.drewN | apply Kept.drew) | exact HK.out)⟩

/-! ### laws_markPng: function 52 -/
def laws_markPng.f (k : Nat) (a0_0 : Int) (a0_1 : Int) (a0_2 : Int) (a0_3 : Int) (a0_4 : Bool) (l0_5 : List (S52)) (l0_6 : List Int) (a0_7 : Int) (a0_8 : Int) (a0_9 : Int) (a0_10 : Int) (l0_11 : List Int) (l0_12 : List (S168)) (a1 : Int) : Option (Int × (List (S52)) × List Int × List Int × (List (S168))) := (laws_markRgbS.f k l0_5 a1).bind fun bt209 => ((laws_markIntS.f k l0_6 bt209.1).bind fun bt211 => ((laws_markRaster.f k a0_7 a0_8 a0_9 a0_10 l0_11 bt211.1).bind fun bt213 => ((laws_markChunkS.f k l0_12 bt213.1).bind fun bt215 => (some (bt215.1, bt209.2, bt211.2, bt213.2, bt215.2)))))
set_option maxHeartbeats 8000000 in
set_option maxRecDepth 100000 in
theorem laws_markPng.calls (k : Nat) (a0_0 : Int) (a0_1 : Int) (a0_2 : Int) (a0_3 : Int) (a0_4 : Bool) (P0_5_ : Nat → Prop) (u9000_ : Value) (l0_5 : List (S52)) (P0_6_ : Nat → Prop) (u9001_ : Value) (l0_6 : List Int) (a0_7 : Int) (a0_8 : Int) (a0_9 : Int) (a0_10 : Int) (P0_11_ : Nat → Prop) (u9002_ : Value) (l0_11 : List Int) (P0_12_ : Nat → Prop) (u9003_ : Value) (l0_12 : List (S168)) (a1 : Int) (r1 : Int) (r2 : List (S52)) (r3 : List Int) (r4 : List Int) (r5 : List (S168)) (w0 w : World) (hB : Below w0.heap.size w0 w) (ho0_5 : Kd.R k52 52 w w0.heap.size P0_5_ u9000_ l0_5) (ho0_6 : Kd.R (Kd.int .i64) 3 w w0.heap.size P0_6_ u9001_ l0_6) (hp0_6_0_11 : ∀ k_, P0_6_ k_ → ¬ P0_11_ k_) (ho0_11 : Kd.R (Kd.int .i64) 3 w w0.heap.size P0_11_ u9002_ l0_11) (hp0_11_0_6 : ∀ k_, P0_11_ k_ → ¬ P0_6_ k_) (ho0_12 : Kd.R k168 168 w w0.heap.size P0_12_ u9003_ l0_12) (h : laws_markPng.f k a0_0 a0_1 a0_2 a0_3 a0_4 l0_5 l0_6 a0_7 a0_8 a0_9 a0_10 l0_11 l0_12 a1 = some (r1, r2, r3, r4, r5)) :
 Calls Try.prog 52 #[.agg #[.int .i64 a0_0, .int .i64 a0_1, .int .i64 a0_2, .int .i64 a0_3, .bool a0_4, u9000_, u9001_, .int .i64 a0_7, .int .i64 a0_8, .int .i64 a0_9, .int .i64 a0_10, u9002_, u9003_], .int .i64 a1] w fun e w' => e = .returned (.int .i64 r1) ∧ Kd.R k52 52 w' w0.heap.size (fun k_ => ((P0_5_ k_ ∨ P0_6_ k_ ∨ P0_11_ k_ ∨ P0_12_ k_) ∨ w.heap.size ≤ k_)) u9000_ r2 ∧ Kd.R (Kd.int .i64) 3 w' w0.heap.size (fun k_ => ((P0_5_ k_ ∨ P0_6_ k_ ∨ P0_11_ k_ ∨ P0_12_ k_) ∨ w.heap.size ≤ k_)) u9001_ r3 ∧ Kd.R (Kd.int .i64) 3 w' w0.heap.size (fun k_ => ((P0_5_ k_ ∨ P0_6_ k_ ∨ P0_11_ k_ ∨ P0_12_ k_) ∨ w.heap.size ≤ k_)) u9002_ r4 ∧ Kd.R k168 168 w' w0.heap.size (fun k_ => ((P0_5_ k_ ∨ P0_6_ k_ ∨ P0_11_ k_ ∨ P0_12_ k_) ∨ w.heap.size ≤ k_)) u9003_ r5 ∧ Below w0.heap.size w0 w' ∧ Kept w w' (fun k_ => P0_5_ k_ ∨ P0_6_ k_ ∨ P0_11_ k_ ∨ P0_12_ k_) := by
 have hu74 := Try.underlying74; have hu29 := Try.underlying29; have HO0_5 := aM (show Kd.R k52 52 w w0.heap.size (fun k_ => ((P0_5_ k_ ∨ P0_6_ k_ ∨ P0_11_ k_ ∨ P0_12_ k_) ∨ w.heap.size ≤ k_)) u9000_ l0_5 from Kd.R_mono ho0_5 (fun k_ hk => (.inl (.inl hk)))); have HO0_6 := aM (show Kd.R (Kd.int .i64) 3 w w0.heap.size (fun k_ => ((P0_5_ k_ ∨ P0_6_ k_ ∨ P0_11_ k_ ∨ P0_12_ k_) ∨ w.heap.size ≤ k_) ∧ some k_ ≠ (u9002_ : Value).ownBlock) u9001_ l0_6 from Kd.R_mono ho0_6 (fun k_ hk => ⟨(.inl (.inr (.inl hk))), fun e_ => hp0_6_0_11 k_ hk (ho0_11.1 k_ e_.symm)⟩)); have HO0_11 := aM (show Kd.R (Kd.int .i64) 3 w w0.heap.size (fun k_ => ((P0_5_ k_ ∨ P0_6_ k_ ∨ P0_11_ k_ ∨ P0_12_ k_) ∨ w.heap.size ≤ k_) ∧ some k_ ≠ (u9001_ : Value).ownBlock) u9002_ l0_11 from Kd.R_mono ho0_11 (fun k_ hk => ⟨(.inl (.inr (.inr (.inl hk)))), fun e_ => hp0_11_0_6 k_ hk (ho0_6.1 k_ e_.symm)⟩)); have HO0_12 := aM (show Kd.R k168 168 w w0.heap.size (fun k_ => ((P0_5_ k_ ∨ P0_6_ k_ ∨ P0_11_ k_ ∨ P0_12_ k_) ∨ w.heap.size ≤ k_)) u9003_ l0_12 from Kd.R_mono ho0_12 (fun k_ hk => (.inl (.inr (.inr (.inr hk)))))); have HK := aM (Kept.refl w (fun k_ => P0_5_ k_ ∨ P0_6_ k_ ∨ P0_11_ k_ ∨ P0_12_ k_)); have HW0 := aM hB.size; have HB := aM hB; clear hB; unfold laws_markPng.f at h; have H := h; clear h; revert H; refine bdR fun ⟨t209, t210⟩ A3 => ?_; intro H
 try dsimp only at H
 revert H; refine bdR fun ⟨t211, t212⟩ A4 => ?_; intro H
 try dsimp only at H
 revert H; refine bdR fun ⟨t213, t214⟩ A5 => ?_; intro H
 try dsimp only at H
 revert H; refine bdR fun ⟨t215, t216⟩ A6 => ?_; intro H
 try dsimp only at H
 simp only [Option.some.injEq, Prod.mk.injEq] at H; obtain ⟨rfl, rfl, rfl, rfl, rfl⟩ := H; obtain ⟨Ao7, co7, eo7⟩ := Kd.R_slice HO0_5.out; subst eo7; obtain ⟨Ao8, co8, eo8⟩ := Kd.R_slice HO0_6.out; subst eo8; obtain ⟨Ao9, co9, eo9⟩ := Kd.R_slice HO0_11.out; subst eo9; obtain ⟨Ao10, co10, eo10⟩ := Kd.R_slice HO0_12.out; subst eo10; go_enter Try.func52, Try.ntmps52
 go_wp2_with (first | ((with_reducible refine gD 2 ?_); refine bE 2 #[.int .i64 a0_0, .int .i64 a0_1, .int .i64 a0_2, .int .i64 a0_3, .bool a0_4, .slice Ao7 l0_5.length co7, .slice Ao8 l0_6.length co8, .int .i64 a0_7, .int .i64 a0_8, .int .i64 a0_9, .int .i64 a0_10, .slice Ao9 l0_11.length co9, .slice Ao10 l0_12.length co10] 74 ?_; intro gb208 hg w11 hbox hb; replace HO0_5 := Kd.wR HO0_5 hb; replace HO0_6 := Kd.wR HO0_6 hb; replace HO0_11 := Kd.wR HO0_11 hb; replace HO0_12 := Kd.wR HO0_12 hb; have BK208 := aM hbox; have GW208 := aM ((by rw [hg]; exact (by first | exact HK.out.1 | exact (show Kept w _ (fun k_ => P0_5_ k_ ∨ P0_6_ k_ ∨ P0_11_ k_ ∨ P0_12_ k_) from by repeat (first | (with_reducible first | exact HK.out | apply Kept.alloc | apply Kept.drewN | apply Kept.drew) | exact HK.out)).1) : w.heap.size ≤ gb208)); replace HK := aM (Kept.below (S := (fun k_ => P0_5_ k_ ∨ P0_6_ k_ ∨ P0_11_ k_ ∨ P0_12_ k_)) (by repeat (first | (with_reducible first | exact HK.out | apply Kept.alloc | apply Kept.drewN | apply Kept.drew) | exact HK.out)) hb); have GE208 := aM (sZ hg); replace HB := hS hb; clear hb hbox hg; have hz12 := bz13 BK208) | ((with_reducible refine gC 120 ?_); refine gL (some 8) Try.func120 #[.slice Ao7 l0_5.length co7, .int .i64 a1] ?_; (with_reducible refine (laws_markRgbS.calls k (fun k_ => some k_ = (.slice Ao7 l0_5.length co7 : Value).ownBlock) (.slice Ao7 l0_5.length co7) l0_5 a1 t209 t210 w0 _ ?side1 ?side2 A3.out).mono ?_); (case side1 => exact hB); (case side2 => exact Kd.R_tight rfl HO0_5.out); rintro e w13 ⟨rfl, hy0, hb, hkp⟩; refine ⟨_, rfl, ?_⟩; replace HO0_6 := aM (Kd.R_mono (ok' := fun k_ => ((P0_5_ k_ ∨ P0_6_ k_ ∨ P0_11_ k_ ∨ P0_12_ k_) ∨ w.heap.size ≤ k_) ∧ some k_ ≠ (.slice Ao9 l0_11.length co9 : Value).ownBlock) (Kd.R_keptB ((Kd.R_apart' HO0_6.out (Kd.R_typed HO0_5.out) (by decide))) hkp (fun k_ hk_ hs_ => (hk_.2) hs_)) (fun k_ hk_ => ⟨hk_.1.1.1, hk_.1.1.2⟩)); replace HO0_11 := aM (Kd.R_mono (ok' := fun k_ => ((P0_5_ k_ ∨ P0_6_ k_ ∨ P0_11_ k_ ∨ P0_12_ k_) ∨ w.heap.size ≤ k_) ∧ some k_ ≠ (.slice Ao8 l0_6.length co8 : Value).ownBlock) (Kd.R_keptB ((Kd.R_apart' HO0_11.out (Kd.R_typed HO0_5.out) (by decide))) hkp (fun k_ hk_ hs_ => (hk_.2) hs_)) (fun k_ hk_ => ⟨hk_.1.1.1, hk_.1.1.2⟩)); replace HO0_12 := aM (Kd.R_mono (ok' := fun k_ => ((P0_5_ k_ ∨ P0_6_ k_ ∨ P0_11_ k_ ∨ P0_12_ k_) ∨ w.heap.size ≤ k_)) (Kd.R_keptB ((Kd.R_apart' HO0_12.out (Kd.R_typed HO0_5.out) (by decide))) hkp (fun k_ hk_ hs_ => (hk_.2) hs_)) (fun k_ hk_ => hk_.1.1)); replace BK208 := aM (blk_kept (bI BK208.out) hkp (fun hs_ => (fun e_ => (Kd.R_ne HO0_5.out BK208.out (by decide)) e_) hs_)); replace HK := aM (Kept.then_ (S := (fun k_ => P0_5_ k_ ∨ P0_6_ k_ ∨ P0_11_ k_ ∨ P0_12_ k_)) (by repeat (first | (with_reducible first | exact HK.out | apply Kept.alloc | apply Kept.drewN | apply Kept.drew | refine Kept.setCell ?_ (.inr GW208.out) _) | exact HK.out)) hkp (fun k_ hs_ => (fun e_ => (HO0_5.out.1 k_ e_.symm)) hs_)); replace HO0_5 := aM (Kd.R_reok rfl hy0 (fun k_ e_ => HO0_5.out.1 k_ e_)); replace HB := aM hb; clear hb; (try clear hkp); (try clear hy0); have hz14 := bz13 BK208) | ((with_reducible refine gC 69 ?_); refine gL (some 12) Try.func69 #[.slice Ao8 l0_6.length co8, .int .i64 t209] ?_; (with_reducible refine (laws_markIntS.calls k (fun k_ => some k_ = (.slice Ao8 l0_6.length co8 : Value).ownBlock) (.slice Ao8 l0_6.length co8) l0_6 t209 t211 t212 w0 _ ?side1 ?side2 A4.out).mono ?_); (case side1 => exact hB); (case side2 => exact Kd.R_tight rfl HO0_6.out); rintro e w15 ⟨rfl, hy0, hb, hkp⟩; refine ⟨_, rfl, ?_⟩; replace HO0_5 := aM (Kd.R_mono (ok' := fun k_ => ((P0_5_ k_ ∨ P0_6_ k_ ∨ P0_11_ k_ ∨ P0_12_ k_) ∨ w.heap.size ≤ k_)) (Kd.R_keptB ((Kd.R_apart' HO0_5.out (Kd.R_typed HO0_6.out) (by decide))) hkp (fun k_ hk_ hs_ => (hk_.2) hs_)) (fun k_ hk_ => hk_.1.1)); replace HO0_11 := aM (Kd.R_mono (ok' := fun k_ => ((P0_5_ k_ ∨ P0_6_ k_ ∨ P0_11_ k_ ∨ P0_12_ k_) ∨ w.heap.size ≤ k_) ∧ some k_ ≠ (.slice Ao8 l0_6.length co8 : Value).ownBlock) (Kd.R_keptB (HO0_11.out) hkp (fun k_ hk_ hs_ => (hk_.2) hs_)) (fun k_ hk_ => ⟨hk_.1.1, hk_.1.2⟩)); replace HO0_12 := aM (Kd.R_mono (ok' := fun k_ => ((P0_5_ k_ ∨ P0_6_ k_ ∨ P0_11_ k_ ∨ P0_12_ k_) ∨ w.heap.size ≤ k_)) (Kd.R_keptB ((Kd.R_apart' HO0_12.out (Kd.R_typed HO0_6.out) (by decide))) hkp (fun k_ hk_ hs_ => (hk_.2) hs_)) (fun k_ hk_ => hk_.1.1)); replace BK208 := aM (blk_kept (bI BK208.out) hkp (fun hs_ => (fun e_ => (Kd.R_ne HO0_6.out BK208.out (by decide)) e_) hs_)); replace HK := aM (Kept.then_ (S := (fun k_ => P0_5_ k_ ∨ P0_6_ k_ ∨ P0_11_ k_ ∨ P0_12_ k_)) (by repeat (first | (with_reducible first | exact HK.out | apply Kept.alloc | apply Kept.drewN | apply Kept.drew | refine Kept.setCell ?_ (.inr GW208.out) _) | exact HK.out)) hkp (fun k_ hs_ => (fun e_ => (HO0_6.out.1 k_ e_.symm).1) hs_)); replace HO0_6 := aM (Kd.R_reok rfl hy0 (fun k_ e_ => HO0_6.out.1 k_ e_)); replace HB := aM hb; clear hb; (try clear hkp); (try clear hy0); have hz16 := bz13 BK208) | ((with_reducible refine gC 18 ?_); refine gL (some 16) Try.func18 #[.agg #[.int .i64 a0_7, .int .i64 a0_8, .int .i64 a0_9, .int .i64 a0_10, .slice Ao9 l0_11.length co9], .int .i64 t211] ?_; (with_reducible refine (laws_markRaster.calls k a0_7 a0_8 a0_9 a0_10 (fun k_ => some k_ = (.slice Ao9 l0_11.length co9 : Value).ownBlock) (.slice Ao9 l0_11.length co9) l0_11 t211 t213 t214 w0 _ ?side1 ?side2 A5.out).mono ?_); (case side1 => exact hB); (case side2 => exact Kd.R_tight rfl HO0_11.out); rintro e w17 ⟨rfl, hy0, hb, hkp⟩; refine ⟨_, rfl, ?_⟩; replace HO0_5 := aM (Kd.R_mono (ok' := fun k_ => ((P0_5_ k_ ∨ P0_6_ k_ ∨ P0_11_ k_ ∨ P0_12_ k_) ∨ w.heap.size ≤ k_)) (Kd.R_keptB ((Kd.R_apart' HO0_5.out (Kd.R_typed HO0_11.out) (by decide))) hkp (fun k_ hk_ hs_ => (hk_.2) hs_)) (fun k_ hk_ => hk_.1.1)); replace HO0_6 := aM (Kd.R_mono (ok' := fun k_ => ((P0_5_ k_ ∨ P0_6_ k_ ∨ P0_11_ k_ ∨ P0_12_ k_) ∨ w.heap.size ≤ k_) ∧ some k_ ≠ (.slice Ao9 l0_11.length co9 : Value).ownBlock) (Kd.R_keptB (HO0_6.out) hkp (fun k_ hk_ hs_ => (hk_.2) hs_)) (fun k_ hk_ => ⟨hk_.1.1, hk_.1.2⟩)); replace HO0_12 := aM (Kd.R_mono (ok' := fun k_ => ((P0_5_ k_ ∨ P0_6_ k_ ∨ P0_11_ k_ ∨ P0_12_ k_) ∨ w.heap.size ≤ k_)) (Kd.R_keptB ((Kd.R_apart' HO0_12.out (Kd.R_typed HO0_11.out) (by decide))) hkp (fun k_ hk_ hs_ => (hk_.2) hs_)) (fun k_ hk_ => hk_.1.1)); replace BK208 := aM (blk_kept (bI BK208.out) hkp (fun hs_ => (fun e_ => (Kd.R_ne HO0_11.out BK208.out (by decide)) e_) hs_)); replace HK := aM (Kept.then_ (S := (fun k_ => P0_5_ k_ ∨ P0_6_ k_ ∨ P0_11_ k_ ∨ P0_12_ k_)) (by repeat (first | (with_reducible first | exact HK.out | apply Kept.alloc | apply Kept.drewN | apply Kept.drew | refine Kept.setCell ?_ (.inr GW208.out) _) | exact HK.out)) hkp (fun k_ hs_ => (fun e_ => (HO0_11.out.1 k_ e_.symm).1) hs_)); replace HO0_11 := aM (Kd.R_reok rfl hy0 (fun k_ e_ => HO0_11.out.1 k_ e_)); replace HB := aM hb; clear hb; (try clear hkp); (try clear hy0); have hz18 := bz13 BK208) | ((with_reducible refine gC 121 ?_); refine gL (some 20) Try.func121 #[.slice Ao10 l0_12.length co10, .int .i64 t213] ?_; (with_reducible refine (laws_markChunkS.calls k (fun k_ => some k_ = (.slice Ao10 l0_12.length co10 : Value).ownBlock) (.slice Ao10 l0_12.length co10) l0_12 t213 t215 t216 w0 _ ?side1 ?side2 A6.out).mono ?_); (case side1 => exact hB); (case side2 => exact Kd.R_tight rfl HO0_12.out); rintro e w19 ⟨rfl, hy0, hb, hkp⟩; refine ⟨_, rfl, ?_⟩; replace HO0_5 := aM (Kd.R_mono (ok' := fun k_ => ((P0_5_ k_ ∨ P0_6_ k_ ∨ P0_11_ k_ ∨ P0_12_ k_) ∨ w.heap.size ≤ k_)) (Kd.R_keptB ((Kd.R_apart' HO0_5.out (Kd.R_typed HO0_12.out) (by decide))) hkp (fun k_ hk_ hs_ => (hk_.2) hs_)) (fun k_ hk_ => hk_.1.1)); replace HO0_6 := aM (Kd.R_mono (ok' := fun k_ => ((P0_5_ k_ ∨ P0_6_ k_ ∨ P0_11_ k_ ∨ P0_12_ k_) ∨ w.heap.size ≤ k_) ∧ some k_ ≠ (.slice Ao9 l0_11.length co9 : Value).ownBlock) (Kd.R_keptB ((Kd.R_apart' HO0_6.out (Kd.R_typed HO0_12.out) (by decide))) hkp (fun k_ hk_ hs_ => (hk_.2) hs_)) (fun k_ hk_ => ⟨hk_.1.1.1, hk_.1.1.2⟩)); replace HO0_11 := aM (Kd.R_mono (ok' := fun k_ => ((P0_5_ k_ ∨ P0_6_ k_ ∨ P0_11_ k_ ∨ P0_12_ k_) ∨ w.heap.size ≤ k_) ∧ some k_ ≠ (.slice Ao8 l0_6.length co8 : Value).ownBlock) (Kd.R_keptB ((Kd.R_apart' HO0_11.out (Kd.R_typed HO0_12.out) (by decide))) hkp (fun k_ hk_ hs_ => (hk_.2) hs_)) (fun k_ hk_ => ⟨hk_.1.1.1, hk_.1.1.2⟩)); replace BK208 := aM (blk_kept (bI BK208.out) hkp (fun hs_ => (fun e_ => (Kd.R_ne HO0_12.out BK208.out (by decide)) e_) hs_)); replace HK := aM (Kept.then_ (S := (fun k_ => P0_5_ k_ ∨ P0_6_ k_ ∨ P0_11_ k_ ∨ P0_12_ k_)) (by repeat (first | (with_reducible first | exact HK.out | apply Kept.alloc | apply Kept.drewN | apply Kept.drew | refine Kept.setCell ?_ (.inr GW208.out) _) | exact HK.out)) hkp (fun k_ hs_ => (fun e_ => (HO0_12.out.1 k_ e_.symm)) hs_)); replace HO0_12 := aM (Kd.R_reok rfl hy0 (fun k_ e_ => HO0_12.out.1 k_ e_)); replace HB := aM hb; clear hb; (try clear hkp); (try clear hy0))); go_ret; exact ⟨eE, Kd.R_i HO0_5.out, Kd.R_i (Kd.R_mono HO0_6.out (fun _ hk => hk.1)), Kd.R_i (Kd.R_mono HO0_11.out (fun _ hk => hk.1)), Kd.R_i HO0_12.out, hB, by repeat (first | (with_reducible first | exact HK.out | apply Kept.alloc | apply Kept.drewN | apply Kept.drew | refine Kept.setCell ?_ (.inr GW208.out) _) | exact HK.out)⟩

/-! ### spec_ChannelsOf: function 88 -/
def spec_ChannelsOf.j0 : Nat → Int → Bool → Option (Int)
  | 0, _, _ => none
  | k + 1, x3, x4 => if x4 = true then (some 1) else (if x3 = 2 then (some 3) else (if x3 = 4 then (some 2) else (if x3 = 6 then (some 4) else (some 0))))
def spec_ChannelsOf.f (k : Nat) (a0 : Int) : Option (Int) := if a0 = 0 then (spec_ChannelsOf.j0 k a0 (a0 == 0)) else (spec_ChannelsOf.j0 k a0 (a0 == 3))
set_option maxHeartbeats 8000000 in
set_option maxRecDepth 100000 in
theorem spec_ChannelsOf.calls (k : Nat) (a0 : Int) (r : Int) (w : World) (h : spec_ChannelsOf.f k a0 = some r) :
 Calls Try.prog 88 #[.int .i64 a0] w fun e w' => e = .returned (.int .i64 r) ∧ Drawn0 w w' := by
 have H : (if a0 = 0 then (spec_ChannelsOf.j0 k a0 (a0 == 0)) else (spec_ChannelsOf.j0 k a0 (a0 == 3))) = some r := h; clear h; revert H; refine adR fun HC2 => ?_; go_enter Try.func88, Try.ntmps88
 go_upto_if 4 with (fail)
 go_cut [4] (fun v4 wc => ∃ (kq : Nat) (x4_1 : Bool), v4 = .bool x4_1 ∧ Aside0 (spec_ChannelsOf.j0 kq a0 x4_1 = some r) ∧ Aside0 (kq ≤ k) ∧ Drawn0 w wc)
 case first =>
  revert HC2; refine aoR ?_
  refine ifB (fun c3 => ?_) (fun c3 => ?_)
  · intro H; have c3b0 := beq_iff_eq.mpr c3; have c3b1 := bne_eq_false_iff_eq.mpr c3; clear c3
    (first | rw [c3b0] | (simp only [i64_w, i32_w]; rw [c3b0]) | skip); revert H; refine adR fun H' => ?_; go_wp2; go_meet
    case rel => exact ⟨_, ((a0 == 0)), eQ, H', ⟨lE⟩, dQ⟩
  · intro H; have c3b0 := beq_eq_false_iff_ne.mpr c3; have c3b1 := bne_iff_ne.mpr c3
    (first | rw [c3b0] | (simp only [i64_w, i32_w]; rw [c3b0]) | skip); revert H; refine adR fun H' => ?_; go_wp2; go_meet
    case rel => exact ⟨_, ((a0 == 3)), eQ, H', ⟨lE⟩, dQ⟩
 case rest =>
  clear HC2; (try clear p2); (try clear c3); (try clear c3b0); (try clear c3b1); obtain ⟨kq, x4_1, rfl, HA, HJ1, ⟨mc1, rfl⟩⟩ := hcut; rcases kq with _ | kj1
  · exact absurd HA.out (by simp [spec_ChannelsOf.j0])
  revert HA; refine aoR ?_; intro H; simp only [spec_ChannelsOf.j0] at H; revert H
  refine ifB (fun c4 => ?_) (fun c4 => ?_)
  · intro H; subst c4; obtain rfl := Option.some.inj H; go_wp2; go_ret; exact ⟨eQ, dQ⟩
  · intro H; replace c4 := Bool.eq_false_iff.mpr c4; subst c4; revert H
    refine ifB (fun c5 => ?_) (fun c5 => ?_)
    · intro H; have c5b0 := beq_iff_eq.mpr c5; have c5b1 := bne_eq_false_iff_eq.mpr c5; clear c5; obtain rfl := Option.some.inj H; go_wp2; go_ret; exact ⟨eQ, dQ⟩
    · intro H; have c5b0 := beq_eq_false_iff_ne.mpr c5; have c5b1 := bne_iff_ne.mpr c5; revert H
      refine ifB (fun c6 => ?_) (fun c6 => ?_)
      · intro H; have c6b0 := beq_iff_eq.mpr c6; have c6b1 := bne_eq_false_iff_eq.mpr c6; clear c6; obtain rfl := Option.some.inj H; go_wp2; go_ret; exact ⟨eQ, dQ⟩
      · intro H; have c6b0 := beq_eq_false_iff_ne.mpr c6; have c6b1 := bne_iff_ne.mpr c6; revert H
        refine ifB (fun c7 => ?_) (fun c7 => ?_)
        · intro H; have c7b0 := beq_iff_eq.mpr c7; have c7b1 := bne_eq_false_iff_eq.mpr c7; clear c7; obtain rfl := Option.some.inj H; go_wp2; go_ret; exact ⟨eQ, dQ⟩
        · intro H; have c7b0 := beq_eq_false_iff_ne.mpr c7; have c7b1 := bne_iff_ne.mpr c7; obtain rfl := Option.some.inj H; go_wp2; go_ret; exact ⟨eQ, dQ⟩

/-! ### spec_l01Pow: function 99 -/
def spec_l01Pow.l0 : Nat → Int → Int → Int → Option (Int)
  | 0, _, _, _ => none
  | k + 1, x0, x3, x4 => if x4 < x0 then (spec_l01Pow.l0 k x0 (wrap64 (2 * x3)) (wrap64 (x4 + 1))) else (some x3)
def spec_l01Pow.f (k : Nat) (a0 : Int) : Option (Int) := spec_l01Pow.l0 k a0 1 0
set_option maxHeartbeats 8000000 in
set_option maxRecDepth 100000 in
theorem spec_l01Pow.calls (k : Nat) (a0 : Int) (r : Int) (w : World) (h : spec_l01Pow.f k a0 = some r) :
 Calls Try.prog 99 #[.int .i64 a0] w fun e w' => e = .returned (.int .i64 r) ∧ Drawn0 w w' := by
 have H : (spec_l01Pow.l0 k a0 1 0) = some r := h; clear h; revert H; refine adR fun H' => ?_; go_enter Try.func99, Try.ntmps99; go_wp2
 go_loopg [3, 4] k (fun kq v3 v4 w' => ∃ (x3_1 : Int) (x4_1 : Int), v3 = .int .i64 x3_1 ∧ v4 = .int .i64 x4_1 ∧ Aside0 (spec_l01Pow.l0 kq a0 x3_1 x4_1 = some r) ∧ Aside0 (kq ≤ k) ∧ Drawn0 w w')
 case atStart => exact ⟨(1), (0), eQ, eQ, H', ⟨Nat.le_refl _⟩, dQ⟩
 case round =>
  clear H'; obtain ⟨x3_1, x4_1, rfl, rfl, HA, HK1, ⟨m1, rfl⟩⟩ := hrel; rcases gk with _ | k1
  · exact absurd HA.out (by simp [spec_l01Pow.l0])
  revert HA; refine aoR ?_; intro H; simp only [spec_l01Pow.l0] at H; revert H
  refine ifB (fun c2 => ?_) (fun c2 => ?_)
  · intro H; have c2b0 := decide_eq_true c2; clear c2; revert H; refine adR fun H' => ?_; go_wp2; go_roundg k1
    case measure => have := HK1.out; omega
    case rel => exact ⟨(wrap64 (2 * x3_1)), (wrap64 (x4_1 + 1)), eQ, eQ, H', ⟨by have := HK1.out; omega⟩, dQ⟩
  · intro H; have c2b0 := decide_eq_false c2; clear c2; obtain rfl := Option.some.inj H; go_wp2; go_ret; exact ⟨eQ, dQ⟩

/-! ### spec_l01In: function 129 -/
def spec_l01In.f (a0 : Int) (a1 : Int) (a2 : Int) : Option (Bool) := if a0 ≥ a1 then (some (decide (a0 ≤ a2))) else (some false)
set_option maxHeartbeats 8000000 in
set_option maxRecDepth 100000 in
theorem spec_l01In.calls (a0 : Int) (a1 : Int) (a2 : Int) (r : Bool) (w : World) (h : spec_l01In.f a0 a1 a2 = some r) :
 Calls Try.prog 129 #[.int .i64 a0, .int .i64 a1, .int .i64 a2] w fun e w' => e = .returned (.bool r) ∧ Drawn0 w w' := by
 have H : (if a0 ≥ a1 then (some (decide (a0 ≤ a2))) else (some false)) = some r := h; clear h; revert H
 refine ifB (fun c4 => ?_) (fun c4 => ?_)
 · intro H; have c4b0 := decide_eq_true c4; clear c4; obtain rfl := Option.some.inj H; go_enter Try.func129, Try.ntmps129; go_wp2; go_ret; exact ⟨eQ, dQ⟩
 · intro H; have c4b0 := decide_eq_false c4; clear c4; obtain rfl := Option.some.inj H; go_enter Try.func129, Try.ntmps129; go_wp2; go_ret; exact ⟨eQ, dQ⟩

/-! ### spec_l12Side: function 77 -/
def spec_l12Side.f (a0 : Int) : Option (Bool) := (spec_l01In.f a0 1 24).bind fun t217 => (some t217)
set_option maxHeartbeats 8000000 in
set_option maxRecDepth 100000 in
theorem spec_l12Side.calls (a0 : Int) (r : Bool) (w : World) (h : spec_l12Side.f a0 = some r) :
 Calls Try.prog 77 #[.int .i64 a0] w fun e w' => e = .returned (.bool r) ∧ Drawn0 w w' := by
 have H : ((spec_l01In.f a0 1 24).bind fun t217 => (some t217)) = some r := h; clear h; revert H; refine bdR fun t217 A2 => ?_; intro H; obtain rfl := Option.some.inj H; go_enter Try.func77, Try.ntmps77
 go_wp2_with (first | ((with_reducible refine gC 129 ?_); refine gL (some 4) Try.func129 #[.int .i64 a0, .int .i64 1, .int .i64 24] ?_; (with_reducible refine (spec_l01In.calls a0 1 24 t217 _ A2.out).mono ?_); rintro e w' ⟨rfl, ⟨nd, rfl⟩⟩; refine ⟨_, rfl, ?_⟩)); go_ret; exact ⟨eQ, dQ⟩

/-! ### spec_DepthOk: function 78 -/
def spec_DepthOk.j0 : Nat → Int → Int → Bool → Option (Bool)
  | 0, _, _, _ => none
  | k + 1, x0, x1, x5 => if x0 = 0 then (if x5 = true then (some true) else (if x1 = 8 then (some true) else (some (x1 == 16)))) else (if x0 = 3 then (if x5 = true then (some true) else (some (x1 == 8))) else (if x0 = 2 then (if x1 = 8 then (some true) else (some (x1 == 16))) else (if x0 = 4 then (if x1 = 8 then (some true) else (some (x1 == 16))) else (if x0 = 6 then (if x1 = 8 then (some true) else (some (x1 == 16))) else (some false)))))
def spec_DepthOk.f (k : Nat) (a0 : Int) (a1 : Int) : Option (Bool) := if a1 = 1 then (spec_DepthOk.j0 k a0 a1 true) else (if a1 = 2 then (spec_DepthOk.j0 k a0 a1 true) else (spec_DepthOk.j0 k a0 a1 (a1 == 4)))
set_option maxHeartbeats 8000000 in
set_option maxRecDepth 100000 in
theorem spec_DepthOk.calls (k : Nat) (a0 : Int) (a1 : Int) (r : Bool) (w : World) (h : spec_DepthOk.f k a0 a1 = some r) :
 Calls Try.prog 78 #[.int .i64 a0, .int .i64 a1] w fun e w' => e = .returned (.bool r) ∧ Drawn0 w w' := by
 have H : (if a1 = 1 then (spec_DepthOk.j0 k a0 a1 true) else (if a1 = 2 then (spec_DepthOk.j0 k a0 a1 true) else (spec_DepthOk.j0 k a0 a1 (a1 == 4)))) = some r := h; clear h; revert H; refine adR fun HC3 => ?_; go_enter Try.func78, Try.ntmps78
 go_upto_region 1 with (fail)
 go_cut [5] (fun v5 wc => ∃ (kq : Nat) (x5_2 : Bool), v5 = .bool x5_2 ∧ Aside0 (spec_DepthOk.j0 kq a0 a1 x5_2 = some r) ∧ Aside0 (kq ≤ k) ∧ Drawn0 w wc)
 case first =>
  revert HC3; refine aoR ?_
  refine ifB (fun c4 => ?_) (fun c4 => ?_)
  · intro H; have c4b0 := beq_iff_eq.mpr c4; have c4b1 := bne_eq_false_iff_eq.mpr c4; clear c4
    (first | rw [c4b0] | (simp only [i64_w, i32_w]; rw [c4b0]) | skip); revert H; refine adR fun H' => ?_; go_wp2; go_meet
    case rel => exact ⟨_, (true), eQ, H', ⟨lE⟩, dQ⟩
  · intro H; have c4b0 := beq_eq_false_iff_ne.mpr c4; have c4b1 := bne_iff_ne.mpr c4
    (first | rw [c4b0] | (simp only [i64_w, i32_w]; rw [c4b0]) | skip); revert H
    refine ifB (fun c5 => ?_) (fun c5 => ?_)
    · intro H; have c5b0 := beq_iff_eq.mpr c5; have c5b1 := bne_eq_false_iff_eq.mpr c5; clear c5; revert H; refine adR fun H' => ?_; go_wp2; go_meet
      case rel => exact ⟨_, (true), eQ, H', ⟨lE⟩, dQ⟩
    · intro H; have c5b0 := beq_eq_false_iff_ne.mpr c5; have c5b1 := bne_iff_ne.mpr c5; revert H; refine adR fun H' => ?_; go_wp2; go_meet
      case rel => exact ⟨_, ((a1 == 4)), eQ, H', ⟨lE⟩, dQ⟩
 case rest =>
  clear HC3; (try clear p2); (try clear c4); (try clear c4b0); (try clear c4b1); (try clear c5); (try clear c5b0); (try clear c5b1); obtain ⟨kq, x5_2, rfl, HA, HJ2, ⟨mc2, rfl⟩⟩ := hcut; rcases kq with _ | kj2
  · exact absurd HA.out (by simp [spec_DepthOk.j0])
  revert HA; refine aoR ?_; intro H; simp only [spec_DepthOk.j0] at H; revert H
  refine ifB (fun c6 => ?_) (fun c6 => ?_)
  · intro H; have c6b0 := beq_iff_eq.mpr c6; have c6b1 := bne_eq_false_iff_eq.mpr c6; clear c6; revert H
    refine ifB (fun c7 => ?_) (fun c7 => ?_)
    · intro H; subst c7; obtain rfl := Option.some.inj H; go_wp2; go_ret; exact ⟨eQ, dQ⟩
    · intro H; replace c7 := Bool.eq_false_iff.mpr c7; subst c7; revert H
      refine ifB (fun c8 => ?_) (fun c8 => ?_)
      · intro H; have c8b0 := beq_iff_eq.mpr c8; have c8b1 := bne_eq_false_iff_eq.mpr c8; clear c8; obtain rfl := Option.some.inj H; go_wp2; go_ret; exact ⟨eQ, dQ⟩
      · intro H; have c8b0 := beq_eq_false_iff_ne.mpr c8; have c8b1 := bne_iff_ne.mpr c8; obtain rfl := Option.some.inj H; go_wp2; go_ret; exact ⟨eQ, dQ⟩
  · intro H; have c6b0 := beq_eq_false_iff_ne.mpr c6; have c6b1 := bne_iff_ne.mpr c6; revert H
    refine ifB (fun c9 => ?_) (fun c9 => ?_)
    · intro H; have c9b0 := beq_iff_eq.mpr c9; have c9b1 := bne_eq_false_iff_eq.mpr c9; clear c9; revert H
      refine ifB (fun c10 => ?_) (fun c10 => ?_)
      · intro H; subst c10; obtain rfl := Option.some.inj H; go_wp2; go_ret; exact ⟨eQ, dQ⟩
      · intro H; replace c10 := Bool.eq_false_iff.mpr c10; subst c10; obtain rfl := Option.some.inj H; go_wp2; go_ret; exact ⟨eQ, dQ⟩
    · intro H; have c9b0 := beq_eq_false_iff_ne.mpr c9; have c9b1 := bne_iff_ne.mpr c9; revert H
      refine ifB (fun c11 => ?_) (fun c11 => ?_)
      · intro H; have c11b0 := beq_iff_eq.mpr c11; have c11b1 := bne_eq_false_iff_eq.mpr c11; clear c11; revert H
        refine ifB (fun c12 => ?_) (fun c12 => ?_)
        · intro H; have c12b0 := beq_iff_eq.mpr c12; have c12b1 := bne_eq_false_iff_eq.mpr c12; clear c12; obtain rfl := Option.some.inj H; go_wp2; go_ret; exact ⟨eQ, dQ⟩
        · intro H; have c12b0 := beq_eq_false_iff_ne.mpr c12; have c12b1 := bne_iff_ne.mpr c12; obtain rfl := Option.some.inj H; go_wp2; go_ret; exact ⟨eQ, dQ⟩
      · intro H; have c11b0 := beq_eq_false_iff_ne.mpr c11; have c11b1 := bne_iff_ne.mpr c11; revert H
        refine ifB (fun c13 => ?_) (fun c13 => ?_)
        · intro H; have c13b0 := beq_iff_eq.mpr c13; have c13b1 := bne_eq_false_iff_eq.mpr c13; clear c13; revert H
          refine ifB (fun c14 => ?_) (fun c14 => ?_)
          · intro H; have c14b0 := beq_iff_eq.mpr c14; have c14b1 := bne_eq_false_iff_eq.mpr c14; clear c14; obtain rfl := Option.some.inj H; go_wp2; go_ret; exact ⟨eQ, dQ⟩
          · intro H; have c14b0 := beq_eq_false_iff_ne.mpr c14; have c14b1 := bne_iff_ne.mpr c14; obtain rfl := Option.some.inj H; go_wp2; go_ret; exact ⟨eQ, dQ⟩
        · intro H; have c13b0 := beq_eq_false_iff_ne.mpr c13; have c13b1 := bne_iff_ne.mpr c13; revert H
          refine ifB (fun c15 => ?_) (fun c15 => ?_)
          · intro H; have c15b0 := beq_iff_eq.mpr c15; have c15b1 := bne_eq_false_iff_eq.mpr c15; clear c15; revert H
            refine ifB (fun c16 => ?_) (fun c16 => ?_)
            · intro H; have c16b0 := beq_iff_eq.mpr c16; have c16b1 := bne_eq_false_iff_eq.mpr c16; clear c16; obtain rfl := Option.some.inj H; go_wp2; go_ret; exact ⟨eQ, dQ⟩
            · intro H; have c16b0 := beq_eq_false_iff_ne.mpr c16; have c16b1 := bne_iff_ne.mpr c16; obtain rfl := Option.some.inj H; go_wp2; go_ret; exact ⟨eQ, dQ⟩
          · intro H; have c15b0 := beq_eq_false_iff_ne.mpr c15; have c15b1 := bne_iff_ne.mpr c15; obtain rfl := Option.some.inj H; go_wp2; go_ret; exact ⟨eQ, dQ⟩

/-! ### spec_HeadOk: function 24 -/
def spec_HeadOk.f (k : Nat) (a0_0 : Int) (a0_1 : Int) (a0_2 : Int) (a0_3 : Int) (a0_4 : Bool) : Option (Bool) := (spec_l12Side.f a0_0).bind fun t219 => (if t219 = true then ((spec_l12Side.f a0_1).bind fun t220 => (if t220 = true then ((spec_DepthOk.f k a0_3 a0_2).bind fun t221 => (some t221)) else (some false))) else (some false))
set_option maxHeartbeats 8000000 in
set_option maxRecDepth 100000 in
theorem spec_HeadOk.calls (k : Nat) (a0_0 : Int) (a0_1 : Int) (a0_2 : Int) (a0_3 : Int) (a0_4 : Bool) (r : Bool) (w : World) (h : spec_HeadOk.f k a0_0 a0_1 a0_2 a0_3 a0_4 = some r) :
 Calls Try.prog 24 #[.agg #[.int .i64 a0_0, .int .i64 a0_1, .int .i64 a0_2, .int .i64 a0_3, .bool a0_4]] w fun e w' => e = .returned (.bool r) ∧ Below w.heap.size w w' := by
 have hu39 := Try.underlying39; have HB := aM (Below.refl w.heap.size w); unfold spec_HeadOk.f at h; have H := h; clear h; revert H; refine bdR fun t219 A2 => ?_
 refine ifB (fun c3 => ?_) (fun c3 => ?_)
 · intro H; subst c3; revert H; refine bdR fun t220 A4 => ?_
   refine ifB (fun c5 => ?_) (fun c5 => ?_)
   · intro H; subst c5; revert H; refine bdR fun t221 A6 => ?_; intro H; obtain rfl := Option.some.inj H; go_enter Try.func24, Try.ntmps24
     go_wp2_with (first | ((with_reducible refine gD 1 ?_); refine bE 1 #[.int .i64 a0_0, .int .i64 a0_1, .int .i64 a0_2, .int .i64 a0_3, .bool a0_4] 39 ?_; intro gb218 hg w7 hbox hb; have BK218 := aM hbox; have GW218 := aM (sZ hg); have GE218 := GW218; replace HB := hS hb; clear hb hbox hg; have hz8 := bz5 BK218) | ((with_reducible refine gC 77 ?_); refine gL (some 5) Try.func77 #[.int .i64 a0_0] ?_; (with_reducible refine (spec_l12Side.calls a0_0 true _ A2.out).mono ?_); rintro e w' ⟨rfl, ⟨nd, rfl⟩⟩; refine ⟨_, rfl, ?_⟩) | (go_at_call 77; (with_reducible refine (spec_l12Side.calls a0_1 true _ A4.out).mono ?_); rintro e w' ⟨rfl, ⟨nd, rfl⟩⟩) | (go_at_call 78; (with_reducible refine (spec_DepthOk.calls k a0_3 a0_2 t221 _ A6.out).mono ?_); rintro e w' ⟨rfl, ⟨nd, rfl⟩⟩)); go_ret; exact ⟨eE, hB⟩
   · intro H; replace c5 := Bool.eq_false_iff.mpr c5; subst c5; obtain rfl := Option.some.inj H; go_enter Try.func24, Try.ntmps24
     go_wp2_with (first | ((with_reducible refine gD 1 ?_); refine bE 1 #[.int .i64 a0_0, .int .i64 a0_1, .int .i64 a0_2, .int .i64 a0_3, .bool a0_4] 39 ?_; intro gb218 hg w9 hbox hb; have BK218 := aM hbox; have GW218 := aM (sZ hg); have GE218 := GW218; replace HB := hS hb; clear hb hbox hg; have hz10 := bz5 BK218) | ((with_reducible refine gC 77 ?_); refine gL (some 5) Try.func77 #[.int .i64 a0_0] ?_; (with_reducible refine (spec_l12Side.calls a0_0 true _ A2.out).mono ?_); rintro e w' ⟨rfl, ⟨nd, rfl⟩⟩; refine ⟨_, rfl, ?_⟩) | (go_at_call 77; (with_reducible refine (spec_l12Side.calls a0_1 false _ A4.out).mono ?_); rintro e w' ⟨rfl, ⟨nd, rfl⟩⟩)); go_ret; exact ⟨eE, hB⟩
 · intro H; replace c3 := Bool.eq_false_iff.mpr c3; subst c3; obtain rfl := Option.some.inj H; go_enter Try.func24, Try.ntmps24
   go_wp2_with (first | ((with_reducible refine gD 1 ?_); refine bE 1 #[.int .i64 a0_0, .int .i64 a0_1, .int .i64 a0_2, .int .i64 a0_3, .bool a0_4] 39 ?_; intro gb218 hg w11 hbox hb; have BK218 := aM hbox; have GW218 := aM (sZ hg); have GE218 := GW218; replace HB := hS hb; clear hb hbox hg; have hz12 := bz5 BK218) | ((with_reducible refine gC 77 ?_); refine gL (some 5) Try.func77 #[.int .i64 a0_0] ?_; (with_reducible refine (spec_l12Side.calls a0_0 false _ A2.out).mono ?_); rintro e w' ⟨rfl, ⟨nd, rfl⟩⟩; refine ⟨_, rfl, ?_⟩)); go_ret; exact ⟨eE, hB⟩

end Go.Proofs.Ytajnobmnkbkkgaa.PFnExactNoCover
