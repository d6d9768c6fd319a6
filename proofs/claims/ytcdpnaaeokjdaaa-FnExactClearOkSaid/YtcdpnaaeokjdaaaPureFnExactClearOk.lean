/- The program's ClearOk returns what the reference's returns, for all arguments. -/
import Derived.Test.YtcdpnaaeokjdaaaPFnExactClearOkx2
set_option linter.unusedVariables false
set_option linter.unusedSimpArgs false
namespace Go.Proofs.Ytcdpnaaeokjdaaa.Pure
open Go.RowKit Go.Proofs.Ytcdpnaaeokjdaaa.PFnExactClearOk Go.Proofs.YtcdpnaaeokjdaaaW.PrintWords Go.Proofs.YtcdpnaaeokjdaaaW.PrintLast

theorem w64 {x : Int} (h : -9223372036854775808 ≤ x) (h' : x ≤ 9223372036854775807) : wrap64 x = x := by unfold wrap64; omega
theorem wf_i64 {a : Int} (h : (Lit.int .i64 a).wf = true) : -9223372036854775808 ≤ a ∧ a ≤ 9223372036854775807 := by
  simpa [Lit.wf, IntKind.min, IntKind.max, IntKind.signed, IntKind.bits] using h
theorem wbt (s : ByteArray) (i : Int) : wrap64 (bt s i) = bt s i := w64 (by have := bt_range s i; omega) (by have := bt_range s i; omega)

def p2 (n : Int) : Int := 2 ^ n.toNat
theorem p2_nat (n : Nat) : p2 n = ((2 ^ n : Nat) : Int) := by simp [p2]
theorem p2_succ (n : Int) (h : 0 ≤ n) : p2 (n + 1) = 2 * p2 n := by
  obtain ⟨m, rfl⟩ := Int.eq_ofNat_of_zero_le h
  have : ((m : Int) + 1) = ((m + 1 : Nat) : Int) := by omega
  rw [this, p2_nat, p2_nat, Nat.pow_succ]; push_cast; omega
theorem p2_zero : p2 0 = 1 := rfl
theorem p2_pos (n : Int) : 1 ≤ p2 n := by
  unfold p2
  have h := Nat.one_le_two_pow (n := n.toNat)
  exact_mod_cast h
theorem p2_le {m n : Int} (h : m ≤ n) : p2 m ≤ p2 n := by
  unfold p2
  have h := Nat.pow_le_pow_right (n := 2) (by decide) (show m.toNat ≤ n.toNat by omega)
  exact_mod_cast h
theorem p2_62 {n : Int} (h : n ≤ 62) : p2 n ≤ 4611686018427387904 := p2_le (n := 62) h
theorem p2_16 {n : Int} (h : n ≤ 16) : p2 n ≤ 65536 := p2_le (n := 16) h

theorem rd_at (xs : List Int) (i : Nat) (h : i < xs.length) : rd xs i = xs[i] := by simp [rd, List.getD, h]
def inB (m x : Int) : Bool := decide (0 ≤ x) && decide (x ≤ m)
theorem drop_all (p : Int → Bool) (xs : List Int) (i : Nat) (h : i < xs.length) : (xs.drop i).all p = (p xs[i] && (xs.drop (i + 1)).all p) := by
  rw [List.drop_eq_getElem_cons h]; rfl
theorem drop_all_end (p : Int → Bool) (xs : List Int) (i : Nat) (h : xs.length ≤ i) : (xs.drop i).all p = true := by
  rw [List.drop_eq_nil_of_le h]; rfl

def depB (d : Int) : Int := if 0 ≤ d ∧ d ≤ 16 then d else 0
theorem depB_bd (d : Int) : 0 ≤ depB d ∧ depB d ≤ 16 := by unfold depB; split <;> omega
def clearOk (d c t : Int) (xs : List Int) : Bool :=
  if c = 3 then decide ((xs.length : Int) ≤ t) && xs.all (inB 255)
  else if xs.length = 0 then true
  else if c = 0 then decide (xs.length = 1) && xs.all (inB (p2 (depB d) - 1))
  else if c = 2 then decide (xs.length = 3) && xs.all (inB (p2 (depB d) - 1)) else false

theorem spec_l01In_eq (a b c : Int) : spec_l01In.f a b c = some (decide (b ≤ a) && decide (a ≤ c)) := by
  unfold spec_l01In.f
  by_cases h : b ≤ a <;> simp [h]

theorem spec_l01Pow_l0 (n : Int) (h62 : n ≤ 62) (d : Nat) : ∀ (k : Nat) (i : Int), 0 ≤ i → i ≤ n → n - i = d → d < k → spec_l01Pow.l0 k n (p2 i) i = some (p2 n) := by
  induction d with
  | zero =>
    intro k i h0 h1 hd hk
    obtain ⟨k, rfl⟩ : ∃ m, k = m + 1 := ⟨k - 1, by omega⟩
    obtain rfl : i = n := by omega
    simp only [spec_l01Pow.l0]
    rw [if_neg (by omega)]
  | succ d ih =>
    intro k i h0 h1 hd hk
    obtain ⟨k, rfl⟩ : ∃ m, k = m + 1 := ⟨k - 1, by omega⟩
    have b1 := p2_pos (i + 1)
    have b2 := p2_62 (n := i + 1) (by omega)
    have e := p2_succ i h0
    simp only [spec_l01Pow.l0]
    rw [if_pos (by omega), ← e, w64 (x := p2 (i + 1)) (by omega) (by omega), w64 (x := i + 1) (by omega) (by omega)]
    exact ih k (i + 1) (by omega) (by omega) (by omega) (by omega)
theorem spec_l01Pow_eq (k : Nat) (n : Int) (h62 : n ≤ 62) (hk : 64 ≤ k) : spec_l01Pow.f k n = some (p2 n) := by
  unfold spec_l01Pow.f
  by_cases h0 : 0 ≤ n
  · exact spec_l01Pow_l0 n h62 n.toNat k 0 (by omega) h0 (by omega) (by omega)
  · obtain ⟨k, rfl⟩ : ∃ m, k = m + 1 := ⟨k - 1, by omega⟩
    simp only [spec_l01Pow.l0]
    rw [if_neg (by omega)]
    have : n.toNat = 0 := by omega
    unfold p2; rw [this]; rfl

theorem spec_l17Depth_eq (w h d c : Int) (l : Bool) : spec_l17Depth.f w h d c l = some (depB d) := by
  unfold spec_l17Depth.f depB
  rw [spec_l01In_eq]
  simp only [Option.bind_some]
  by_cases h0 : 0 ≤ d <;> by_cases h1 : d ≤ 16 <;> simp [h0, h1]
theorem spec_ClearOk_l0 (m n : Int) (xs : List Int) (hx : xs.length ≤ 9223372036854775807) (d : Nat) : ∀ (k i : Nat), i ≤ xs.length → xs.length - i = d → d < k → spec_ClearOk.l0 k xs m n i = some ((xs.drop i).all (inB m) && decide ((xs.length : Int) = n)) := by
  induction d with
  | zero =>
    intro k i hi hd hk
    obtain ⟨k, rfl⟩ : ∃ m, k = m + 1 := ⟨k - 1, by omega⟩
    simp only [spec_ClearOk.l0]
    rw [if_neg (by omega), drop_all_end _ _ _ (by omega)]
    simp [Bool.beq_eq_decide_eq]
  | succ d ih =>
    intro k i hi hd hk
    obtain ⟨k, rfl⟩ : ∃ m, k = m + 1 := ⟨k - 1, by omega⟩
    have lt : i < xs.length := by omega
    simp only [spec_ClearOk.l0, spec_l01In_eq, Option.bind_some]
    rw [if_pos (by omega), if_pos (by omega), rd_at xs i lt, w64 (by omega) (by omega), drop_all _ _ _ lt]
    have step := ih k (i + 1) (by omega) (by omega) (by omega)
    push_cast at step
    rw [step]
    unfold inB
    cases (decide (0 ≤ xs[i]) && decide (xs[i] ≤ m)) <;> simp
theorem spec_ClearOk_j0 (m n : Int) (xs : List Int) (hx : xs.length ≤ 9223372036854775807) (k : Nat) (hk : xs.length + 1 < k) : spec_ClearOk.j0 k xs m n = some (decide (xs.length = 0) || (xs.all (inB m) && decide ((xs.length : Int) = n))) := by
  obtain ⟨k, rfl⟩ : ∃ m, k = m + 1 := ⟨k - 1, by omega⟩
  simp only [spec_ClearOk.j0]
  have R := spec_ClearOk_l0 m n xs hx xs.length k 0 (by omega) (by omega) (by omega)
  by_cases h : xs.length = 0
  · rw [if_pos (by omega)]; simp [h]
  · rw [if_neg (by omega)]
    simpa [h] using R
theorem spec_ClearOk_eq (w h d c : Int) (l : Bool) (t : Int) (xs : List Int) (hx : xs.length ≤ 9223372036854775807) (k : Nat) (hk : xs.length + 70 < k) : spec_ClearOk.f k w h d c l t xs = some (clearOk d c t xs) := by
  have b := depB_bd d
  have b1 := p2_pos (depB d)
  have b2 := p2_16 b.2
  unfold spec_ClearOk.f clearOk
  simp only [spec_l17Depth_eq, spec_l01Pow_eq k (depB d) (by omega) (by omega), Option.bind_some]
  rw [w64 (x := p2 (depB d) - 1) (by omega) (by omega)]
  simp only [spec_ClearOk_j0 _ _ xs hx k (by omega)]
  by_cases h0 : c = 0
  · subst h0
    simp only [if_true, show ¬ ((0 : Int) = 3) by decide, if_false]
    by_cases hl : xs.length = 0
    · simp [hl]
    · have e : decide ((xs.length : Int) = 1) = decide (xs.length = 1) := by rw [decide_eq_decide]; omega
      rw [e]
      simp [hl, Bool.and_comm]
  · by_cases h2 : c = 2
    · subst h2
      simp only [if_true, show ¬ ((2 : Int) = 3) by decide, show ¬ ((2 : Int) = 0) by decide, if_false]
      by_cases hl : xs.length = 0
      · simp [hl]
      · have e : decide ((xs.length : Int) = 3) = decide (xs.length = 3) := by rw [decide_eq_decide]; omega
        rw [e]
        simp [hl, Bool.and_comm]
    · by_cases h3 : c = 3
      · subst h3
        simp only [if_true, show ¬ ((3 : Int) = 2) by decide, show ¬ ((3 : Int) = 0) by decide, if_false]
        by_cases hl : xs.length = 0
        · have : xs = [] := List.eq_nil_of_length_eq_zero hl
          subst this
          by_cases ht : (0 : Int) ≤ t
          · rw [if_neg (by simp; omega)]; simp [ht]
          · rw [if_pos (by simp; omega)]; simp [ht]
        · by_cases ht : (xs.length : Int) ≤ t
          · rw [if_neg (by omega)]; simp [ht, hl]
          · rw [if_pos (by omega)]; simp [ht]
      · simp only [h0, h2, h3, if_false]
        by_cases hl : xs.length = 0
        · simp [hl]
        · have e : decide ((xs.length : Int) = 0) = false := by simp; exact fun h => hl (by simp [h])
          rw [e]; simp [hl]

theorem impl_within_eq (a b c : Int) : impl_within.f a b c = some (decide (b ≤ a) && decide (a ≤ c)) := by
  unfold impl_within.f
  by_cases h : b ≤ a <;> simp [h]

theorem shl_one (n : Int) (h0 : 0 ≤ n) (h62 : n ≤ 62) : shl .i64 1 n = p2 n := by
  have b1 := p2_pos n
  have b2 := p2_62 h62
  unfold shl
  rw [show min n.toNat IntKind.i64.bits = n.toNat by simp [IntKind.bits]; omega, Int.one_mul, IntKind.wrap_i64]
  show (p2 n + 9223372036854775808) % 18446744073709551616 - 9223372036854775808 = p2 n
  omega
theorem impl_powerOf_eq (n : Int) : impl_powerOf.f n = some (if 0 ≤ n ∧ n ≤ 62 then p2 n else 0) := by
  unfold impl_powerOf.f
  rw [impl_within_eq]
  simp only [Option.bind_some]
  by_cases h0 : 0 ≤ n
  · by_cases h1 : n ≤ 62
    · simp [h0, h1, shl_one n h0 h1]
    · simp [h0, h1]
  · simp [h0]

theorem impl_samplesOk_l0 (n : Int) (h0 : 0 ≤ n) (h1 : n ≤ 62) (xs : List Int) (hx : xs.length ≤ 9223372036854775807) (d : Nat) : ∀ (k i : Nat), i ≤ xs.length → xs.length - i = d → d < k → impl_samplesOk.l0 k n xs xs.length i = some ((xs.drop i).all (inB (p2 n - 1))) := by
  induction d with
  | zero =>
    intro k i hi hd hk
    obtain ⟨k, rfl⟩ : ∃ m, k = m + 1 := ⟨k - 1, by omega⟩
    simp only [impl_samplesOk.l0]
    rw [if_neg (by omega), drop_all_end _ _ _ (by omega)]
  | succ d ih =>
    intro k i hi hd hk
    obtain ⟨k, rfl⟩ : ∃ m, k = m + 1 := ⟨k - 1, by omega⟩
    have lt : i < xs.length := by omega
    have b1 := p2_pos n
    have b2 := p2_62 h1
    simp only [impl_samplesOk.l0, impl_powerOf_eq, Option.bind_some]
    rw [if_pos (by omega), if_pos (by omega), if_pos (by omega), if_pos ⟨h0, h1⟩, w64 (x := p2 n - 1) (by omega) (by omega), impl_within_eq, rd_at xs i lt, w64 (by omega) (by omega), drop_all _ _ _ lt]
    simp only [Option.bind_some]
    have step := ih k (i + 1) (by omega) (by omega) (by omega)
    push_cast at step
    rw [step]
    unfold inB
    cases (decide (0 ≤ xs[i]) && decide (xs[i] ≤ p2 n - 1)) <;> simp
theorem impl_samplesOk_eq (n : Int) (h0 : 0 ≤ n) (h1 : n ≤ 62) (xs : List Int) (hx : xs.length ≤ 9223372036854775807) (k : Nat) (hk : xs.length < k) : impl_samplesOk.f k xs n = some (xs.all (inB (p2 n - 1))) := by
  unfold impl_samplesOk.f
  have := impl_samplesOk_l0 n h0 h1 xs hx xs.length k 0 (by omega) (by omega) hk
  simpa using this

theorem impl_ClearOk_j0 (t : Int) (xs : List Int) (hx : xs.length ≤ 9223372036854775807) (hl : xs.length ≠ 0) (w h d c : Int) (l : Bool) (k : Nat) (hk : xs.length + 1 < k) : impl_ClearOk.j0 k t xs (depB d) w h d c l = some (clearOk d c t xs) := by
  obtain ⟨k, rfl⟩ : ∃ m, k = m + 1 := ⟨k - 1, by omega⟩
  have b := depB_bd d
  simp only [impl_ClearOk.j0, clearOk]
  rw [impl_samplesOk_eq (depB d) b.1 (by omega) xs hx k (by omega), impl_samplesOk_eq 8 (by omega) (by omega) xs hx k (by omega)]
  simp only [Option.bind_some, hl, if_false, show p2 8 - 1 = 255 from rfl]
  by_cases h0 : c = 0
  · subst h0
    simp only [if_true, show ¬ ((0 : Int) = 3) by decide, if_false]
    by_cases h1 : xs.length = 1
    · rw [if_pos (by omega)]; simp [h1]
    · rw [if_neg (by omega)]; simp [h1]
  · by_cases h2 : c = 2
    · subst h2
      simp only [if_true, show ¬ ((2 : Int) = 3) by decide, show ¬ ((2 : Int) = 0) by decide, if_false]
      by_cases h1 : xs.length = 3
      · rw [if_pos (by omega)]; simp [h1]
      · rw [if_neg (by omega)]; simp [h1]
    · by_cases h3 : c = 3
      · subst h3
        simp only [if_true, show ¬ ((3 : Int) = 2) by decide, show ¬ ((3 : Int) = 0) by decide, if_false]
        by_cases ht : (xs.length : Int) ≤ t
        · rw [if_pos ht]; simp [ht]
        · rw [if_neg ht]; simp [ht]
      · simp only [h0, h2, h3, if_false]
theorem impl_ClearOk_eq (w h d c : Int) (l : Bool) (t : Int) (xs : List Int) (hx : xs.length ≤ 9223372036854775807) (k : Nat) (hk : xs.length + 1 < k) : impl_ClearOk.f k w h d c l t xs = some (clearOk d c t xs) := by
  unfold impl_ClearOk.f
  by_cases hl : xs.length = 0
  · have e0 : xs = [] := List.eq_nil_of_length_eq_zero hl
    subst e0
    rw [if_pos (by simp)]
    unfold clearOk
    by_cases h3 : c = 3
    · simp [h3]
    · simp [h3]
  · rw [if_neg (by omega), impl_within_eq]
    simp only [Option.bind_some]
    have e := impl_ClearOk_j0 t xs hx hl w h d c l k hk
    by_cases hd : 0 ≤ d ∧ d ≤ 16
    · rw [if_pos (by simp; omega)]
      rw [show depB d = d from if_pos hd] at e
      exact e
    · rw [if_neg (by simp; omega)]
      rw [show depB d = 0 from if_neg hd] at e
      exact e

theorem laws_toIntS_l0 (xs : List Int) (hx : xs.length ≤ 9223372036854775807) (d : Nat) : ∀ (k i : Nat) (ys : List Int), i ≤ xs.length → xs.length - i = d → d < k → ys.length = xs.length → (∀ j : Nat, j < i → ys[j]? = xs[j]?) → laws_toIntS.l0 k xs ys i = some xs := by
  induction d with
  | zero =>
    intro k i ys hi hd hk hl hy
    obtain ⟨k, rfl⟩ : ∃ m, k = m + 1 := ⟨k - 1, by omega⟩
    simp only [laws_toIntS.l0]
    rw [if_neg (by omega)]
    congr 1
    apply List.ext_getElem?
    intro j
    by_cases hj : j < i
    · exact hy j hj
    · rw [List.getElem?_eq_none (by omega), List.getElem?_eq_none (by omega)]
  | succ d ih =>
    intro k i ys hi hd hk hl hy
    obtain ⟨k, rfl⟩ : ∃ m, k = m + 1 := ⟨k - 1, by omega⟩
    have lt : i < xs.length := by omega
    simp only [laws_toIntS.l0]
    rw [if_pos (by omega), if_pos (by omega), if_pos (by omega), rd_at xs i lt, w64 (by omega) (by omega), Int.toNat_natCast]
    refine ih k (i + 1) (ys.set i xs[i]) (by omega) (by omega) (by omega) (by simpa using hl) (fun j hj => ?_)
    by_cases e : j = i
    · subst e
      rw [List.getElem?_set_self (by omega), List.getElem?_eq_getElem lt]
    · rw [List.getElem?_set_ne (by omega), hy j (by omega)]
theorem laws_toIntS_eq (xs : List Int) (hx : xs.length ≤ 1048576) (k : Nat) (hk : xs.length < k) : laws_toIntS.f k xs = some xs := by
  unfold laws_toIntS.f
  rw [if_pos (by omega), if_pos (by omega), Int.toNat_natCast]
  exact laws_toIntS_l0 xs (by omega) xs.length k 0 _ (by omega) (by omega) hk (by simp) (fun j hj => absurd hj (by omega))

theorem laws_eqIntS_l0 (xs : List Int) (hx : xs.length ≤ 9223372036854775807) (d : Nat) : ∀ (k i : Nat), i ≤ xs.length → xs.length - i = d → d < k → laws_eqIntS.l0 k xs xs i = some true := by
  induction d with
  | zero =>
    intro k i hi hd hk
    obtain ⟨k, rfl⟩ : ∃ m, k = m + 1 := ⟨k - 1, by omega⟩
    simp only [laws_eqIntS.l0]
    rw [if_neg (by omega)]
  | succ d ih =>
    intro k i hi hd hk
    obtain ⟨k, rfl⟩ : ∃ m, k = m + 1 := ⟨k - 1, by omega⟩
    simp only [laws_eqIntS.l0]
    rw [if_pos (by omega), if_pos (by omega), if_pos (by omega)]
    simp only [if_true]
    rw [w64 (by omega) (by omega)]
    exact ih k (i + 1) (by omega) (by omega) (by omega)
theorem laws_eqIntS_refl (xs : List Int) (hx : xs.length ≤ 9223372036854775807) (k : Nat) (hk : xs.length < k) : laws_eqIntS.f k xs xs = some true := by
  unfold laws_eqIntS.f
  rw [if_pos rfl]
  exact laws_eqIntS_l0 xs hx xs.length k 0 (by omega) (by omega) hk

theorem FnExactClearOk (w h d c : Int) (l : Bool) (t : Int) (xs : List Int) (_ : (Lit.int .i64 w).wf = true) (_ : (Lit.int .i64 h).wf = true) (_ : (Lit.int .i64 d).wf = true) (_ : (Lit.int .i64 c).wf = true) (_ : (Lit.int .i64 t).wf = true) (hx : xs.length ≤ 9223372036854775807) (_ : ∀ x ∈ xs, (Lit.int .i64 x).wf = true) : ∃ k, laws_FnExactClearOk.f k w h d c l t xs = some true := by
  refine ⟨xs.length + 100, ?_⟩
  unfold laws_FnExactClearOk.f
  by_cases hl : (xs.length : Int) > 1048576
  · rw [if_pos hl]
  · rw [if_neg hl]
    simp only [laws_toHead.f, Option.bind_some]
    rw [laws_toIntS_eq xs (by omega) _ (by omega)]
    simp only [Option.bind_some]
    rw [spec_ClearOk_eq w h d c l t xs hx _ (by omega), impl_ClearOk_eq w h d c l t xs hx _ (by omega), laws_eqIntS_refl xs hx _ (by omega)]
    simp

end Go.Proofs.Ytcdpnaaeokjdaaa.Pure
