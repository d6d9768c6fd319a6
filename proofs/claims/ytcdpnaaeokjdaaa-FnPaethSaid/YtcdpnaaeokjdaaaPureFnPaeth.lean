/- Paeth of drawn bytes is one of them, and none of them is nearer to what is foretold. -/
import Derived.Test.YtcdpnaaeokjdaaaPFnPaethx2
set_option linter.unusedVariables false
set_option linter.unusedSimpArgs false
namespace Go.Proofs.Ytcdpnaaeokjdaaa.Pure
open Go.RowKit Go.Proofs.Ytcdpnaaeokjdaaa.PFnPaeth Go.Proofs.YtcdpnaaeokjdaaaW.PrintWords Go.Proofs.YtcdpnaaeokjdaaaW.PrintLast

theorem w64 {x : Int} (h : -9223372036854775808 ≤ x) (h' : x ≤ 9223372036854775807) : wrap64 x = x := by unfold wrap64; omega
theorem wf_i64 {a : Int} (h : (Lit.int .i64 a).wf = true) : -9223372036854775808 ≤ a ∧ a ≤ 9223372036854775807 := by
  simpa [Lit.wf, IntKind.min, IntKind.max, IntKind.signed, IntKind.bits] using h
theorem wbt (s : ByteArray) (i : Int) : wrap64 (bt s i) = bt s i := w64 (by have := bt_range s i; omega) (by have := bt_range s i; omega)

theorem rd_at (xs : List Int) (i : Nat) (h : i < xs.length) : rd xs i = xs[i] := by simp [rd, List.getD, h]
def inB (m x : Int) : Bool := decide (0 ≤ x) && decide (x ≤ m)
theorem drop_all (p : Int → Bool) (xs : List Int) (i : Nat) (h : i < xs.length) : (xs.drop i).all p = (p xs[i] && (xs.drop (i + 1)).all p) := by
  rw [List.drop_eq_getElem_cons h]; rfl
theorem drop_all_end (p : Int → Bool) (xs : List Int) (i : Nat) (h : xs.length ≤ i) : (xs.drop i).all p = true := by
  rw [List.drop_eq_nil_of_le h]; rfl

theorem and_bd (x : Int) (m : Nat) (hm : m < 9223372036854775808) : 0 ≤ Go.bits .and .i64 x m ∧ Go.bits .and .i64 x m ≤ m := by
  unfold Go.bits
  simp only [IntKind.wrap_i64]
  have h : (BitVec.ofInt IntKind.i64.bits x &&& BitVec.ofInt IntKind.i64.bits (m : Int)).toNat ≤ m := by
    rw [BitVec.toNat_and]
    refine Nat.le_trans Nat.and_le_right ?_
    rw [BitVec.ofInt_natCast, BitVec.toNat_ofNat]
    exact Nat.mod_le _ _
  omega
theorem and_255 (x : Int) : 0 ≤ Go.bits .and .i64 x 255 ∧ Go.bits .and .i64 x 255 ≤ 255 := and_bd x 255 (by omega)
theorem spec_l01New_l0 (l : List Int) (hl : l.length ≤ 1048576) (d : Nat) : ∀ (k i : Nat) (h : Int), i ≤ l.length → l.length - i = d → d < k → ∃ h', spec_l01New.l0 k l h i = some (l, 0, h') := by
  induction d with
  | zero =>
    intro k i h hi hd hk
    obtain ⟨k, rfl⟩ : ∃ m, k = m + 1 := ⟨k - 1, by omega⟩
    exact ⟨h, by simp only [spec_l01New.l0]; rw [if_neg (by omega)]⟩
  | succ d ih =>
    intro k i h hi hd hk
    obtain ⟨k, rfl⟩ : ∃ m, k = m + 1 := ⟨k - 1, by omega⟩
    simp only [spec_l01New.l0]
    rw [if_pos (by omega)]
    by_cases h4 : (i : Int) < 4000
    · rw [if_pos h4, if_pos (by omega), w64 (x := (i : Int) + 1) (by omega) (by omega)]
      exact ih k (i + 1) _ (by omega) (by omega) (by omega)
    · rw [if_neg h4]; exact ⟨h, rfl⟩
theorem spec_l01New_eq (l : List Int) (hl : l.length ≤ 1048576) (k : Nat) (hk : l.length < k) : ∃ h, spec_l01New.f k l = some (l, 0, h) := by
  unfold spec_l01New.f
  exact spec_l01New_l0 l hl l.length k 0 _ (by omega) (by omega) hk
/-- A cursor's place. -/
def Cur (l : List Int) (i : Int) : Prop := l.length ≤ 1048576 ∧ 0 ≤ i ∧ i ≤ l.length
theorem cur_new {l : List Int} (hl : l.length ≤ 1048576) : Cur l 0 := ⟨hl, by omega, by omega⟩
theorem spec_l01Byte_eq {l : List Int} {i : Int} (hc : Cur l i) (h : Int) : ∃ x i' h', spec_l01Byte.f l i h = some (x, i', h') ∧ 0 ≤ x ∧ x ≤ 255 ∧ Cur l i' := by
  obtain ⟨hl, h0, h1⟩ := hc
  unfold spec_l01Byte.f
  by_cases hi : i < l.length
  · rw [if_pos hi, if_pos h0, w64 (x := i + 1) (by omega) (by omega)]
    exact ⟨_, _, _, rfl, (and_255 _).1, (and_255 _).2, hl, by omega, by omega⟩
  · rw [if_neg hi]
    exact ⟨_, _, _, rfl, (and_255 _).1, (and_255 _).2, hl, h0, h1⟩
theorem spec_l01Below_eq {l : List Int} {i : Int} (hc : Cur l i) (h : Int) (n : Int) : ∃ x i' h', spec_l01Below.f l i h n = some (x, i', h') ∧ 0 ≤ x ∧ (0 < n → x < n) ∧ (n ≤ 0 → x = 0) ∧ Cur l i' := by
  unfold spec_l01Below.f
  by_cases h0 : n ≤ 0
  · rw [if_pos h0]
    exact ⟨_, _, _, rfl, by omega, by omega, fun _ => rfl, hc⟩
  · rw [if_neg h0]
    have tm : ∀ y : Int, 0 ≤ y → 0 ≤ Int.tmod y n ∧ Int.tmod y n < n := fun y hy => ⟨Int.tmod_nonneg _ hy, Int.tmod_lt_of_pos _ (by omega)⟩
    by_cases h1 : n ≤ 256
    · rw [if_pos h1]
      obtain ⟨x, i1, h1', e1, a1, b1, c1⟩ := spec_l01Byte_eq hc h
      rw [e1]
      simp only [Option.bind_some]
      rw [if_neg (by omega)]
      exact ⟨_, _, _, rfl, (tm x a1).1, fun _ => (tm x a1).2, by omega, c1⟩
    · rw [if_neg h1]
      obtain ⟨x, i1, h1', e1, a1, b1, c1⟩ := spec_l01Byte_eq hc h
      rw [e1]; simp only [Option.bind_some]
      obtain ⟨y, i2, h2', e2, a2, b2, c2⟩ := spec_l01Byte_eq c1 h1'
      rw [e2]; simp only [Option.bind_some]
      obtain ⟨z, i3, h3', e3, a3, b3, c3⟩ := spec_l01Byte_eq c2 h2'
      rw [e3]; simp only [Option.bind_some]
      obtain ⟨u, i4, h4', e4, a4, b4, c4⟩ := spec_l01Byte_eq c3 h3'
      rw [e4]; simp only [Option.bind_some]
      rw [if_neg (by omega), w64 (x := x * 16777216) (by omega) (by omega), w64 (x := y * 65536) (by omega) (by omega), w64 (x := x * 16777216 + y * 65536) (by omega) (by omega), w64 (x := z * 256) (by omega) (by omega), w64 (x := x * 16777216 + y * 65536 + z * 256) (by omega) (by omega), w64 (x := x * 16777216 + y * 65536 + z * 256 + u) (by omega) (by omega)]
      exact ⟨_, _, _, rfl, (tm _ (by omega)).1, fun _ => (tm _ (by omega)).2, by omega, c4⟩

theorem spec_l01PickInt_eq {l : List Int} {i : Int} (hc : Cur l i) (h : Int) (xs : List Int) (hx : xs ≠ []) : ∃ x i' h', spec_l01PickInt.f l i h xs = some (x, i', h') ∧ x ∈ xs ∧ Cur l i' := by
  unfold spec_l01PickInt.f
  obtain ⟨x, i1, h1, e1, a1, b1, _, c1⟩ := spec_l01Below_eq hc h (xs.length : Int)
  have hp : 0 < xs.length := List.length_pos_iff.2 hx
  have b := b1 (by omega)
  rw [e1]; simp only [Option.bind_some]
  rw [if_pos a1, if_pos b]
  obtain ⟨m, rfl⟩ := Int.eq_ofNat_of_zero_le a1
  refine ⟨_, _, _, rfl, ?_, c1⟩
  rw [rd_at xs m (by omega)]
  exact List.getElem_mem _

theorem laws_big_eq (l : List Int) : laws_big.f l = some (decide (1048576 < l.length)) := by
  unfold laws_big.f
  congr 1
  rw [Bool.eq_iff_iff]; simp; omega

def absD (x : Int) : Int := if x < 0 then -x else x
def inR (x : Int) : Bool := decide (-1000 ≤ x) && decide (x ≤ 1000)
/-- Paeth of numbers that are not too great. -/
def paeth (a b c : Int) : Int := if absD (b + a - c - a) ≤ absD (a + b - c - b) ∧ absD (b + a - c - a) ≤ absD (a + b - c - c) then a else if absD (a + b - c - b) ≤ absD (a + b - c - c) then b else c
def paethAll (a b c : Int) : Int := if inR a && inR b && inR c then paeth a b c else 0
theorem inR_iff (x : Int) : inR x = true ↔ -1000 ≤ x ∧ x ≤ 1000 := by simp [inR]

theorem spec_l01In_eq (a b c : Int) : spec_l01In.f a b c = some (decide (b ≤ a) && decide (a ≤ c)) := by
  unfold spec_l01In.f
  by_cases h : b ≤ a <;> simp [h]

theorem spec_l13Size_eq (a : Int) (h : -10000 ≤ a) (h' : a ≤ 10000) : spec_l13Size.f a = some (absD a) := by
  unfold spec_l13Size.f absD
  rw [w64 (by omega) (by omega)]
  split <;> rfl
theorem spec_Paeth_eq (k : Nat) (hk : 2 ≤ k) (a b c : Int) : spec_Paeth.f k a b c = some (paethAll a b c) := by
  obtain ⟨k, rfl⟩ : ∃ m, k = m + 2 := ⟨k - 2, by omega⟩
  unfold spec_Paeth.f paethAll
  simp only [spec_l01In_eq, Option.bind_some]
  change (if inR a = true then (if inR b = true then spec_Paeth.j0 (k + 2) a b c (!(inR c)) else spec_Paeth.j0 (k + 2) a b c true) else spec_Paeth.j0 (k + 2) a b c true) = _
  have yes : spec_Paeth.j0 (k + 2) a b c true = some 0 := by simp [spec_Paeth.j0]
  rw [yes]
  by_cases ha : inR a = true
  · by_cases hb : inR b = true
    · by_cases hc : inR c = true
      · simp only [ha, hb, hc, if_true, Bool.not_true, Bool.and_self]
        rw [inR_iff] at ha hb hc
        simp only [spec_Paeth.j0, spec_Paeth.j1]
        rw [w64 (x := a + b) (by omega) (by omega), w64 (x := a + b - c) (by omega) (by omega), w64 (x := a + b - c - a) (by omega) (by omega), w64 (x := a + b - c - b) (by omega) (by omega), w64 (x := a + b - c - c) (by omega) (by omega)]
        rw [spec_l13Size_eq _ (by omega) (by omega), spec_l13Size_eq _ (by omega) (by omega), spec_l13Size_eq _ (by omega) (by omega)]
        simp only [Option.bind_some, paeth, show b + a - c - a = a + b - c - a by omega]
        by_cases h1 : absD (a + b - c - a) ≤ absD (a + b - c - b)
        · by_cases h2 : absD (a + b - c - a) ≤ absD (a + b - c - c)
          · simp [h1, h2]
          · simp [h1, h2]; split <;> rfl
        · simp [h1]; split <;> rfl
      · simp [ha, hb, hc, yes]
    · simp [ha, hb]
  · simp [ha]

theorem impl_within_eq (a b c : Int) : impl_within.f a b c = some (decide (b ≤ a) && decide (a ≤ c)) := by
  unfold impl_within.f
  by_cases h : b ≤ a <;> simp [h]

theorem impl_distance_eq (a b : Int) (ha : -10000 ≤ a) (ha' : a ≤ 10000) (hb : -10000 ≤ b) (hb' : b ≤ 10000) : impl_distance.f a b = some (absD (b - a)) := by
  unfold impl_distance.f absD
  rw [w64 (x := a - b) (by omega) (by omega), w64 (x := b - a) (by omega) (by omega)]
  unfold mx
  split <;> split <;> congr 1 <;> omega
theorem impl_Paeth_l1 (k : Nat) (p x b c : Int) (hp : -10000 ≤ p) (hp' : p ≤ 10000) (hx : -10000 ≤ x) (hx' : x ≤ 10000) (hb : -10000 ≤ b) (hb' : b ≤ 10000) (hc : -10000 ≤ c) (hc' : c ≤ 10000) :
    impl_Paeth.l1 (k + 3) p x [b, c] 2 0 = some (if absD (p - c) < absD (p - (if absD (p - b) < absD (p - x) then b else x)) then c else if absD (p - b) < absD (p - x) then b else x) := by
  have r : ∀ (k : Nat) (y : Int) (i : Int) (z : Int), -10000 ≤ y → y ≤ 10000 → (i = 0 ∧ z = b ∨ i = 1 ∧ z = c) → impl_Paeth.l1 (k + 1) p y [b, c] 2 i = impl_Paeth.l1 k p (if absD (p - z) < absD (p - y) then z else y) [b, c] 2 (i + 1) := by
    intro k y i z hy hy' h
    have hi : 0 ≤ i ∧ i < 2 := by omega
    have hz : rd [b, c] i = z := by rcases h with ⟨rfl, rfl⟩ | ⟨rfl, rfl⟩ <;> rfl
    have hzb : -10000 ≤ z ∧ z ≤ 10000 := by rcases h with ⟨_, rfl⟩ | ⟨_, rfl⟩ <;> omega
    simp only [impl_Paeth.l1]
    rw [if_pos hi.2, if_pos hi.1, if_pos (by simpa using hi.2), hz, impl_distance_eq z p (by omega) (by omega) hp hp', impl_distance_eq y p hy hy' hp hp', w64 (by omega) (by omega)]
    simp only [Option.bind_some]
    split <;> rfl
  rw [r (k + 2) x 0 b hx hx' (.inl ⟨rfl, rfl⟩), r (k + 1) _ (0 + 1) c (by split <;> omega) (by split <;> omega) (.inr ⟨rfl, rfl⟩)]
  simp only [impl_Paeth.l1]
  rw [if_neg (by decide)]
theorem impl_Paeth_eq (k : Nat) (hk : 8 ≤ k) (a b c : Int) : impl_Paeth.f k a b c = some (paethAll a b c) := by
  obtain ⟨k, rfl⟩ : ∃ m, k = m + 8 := ⟨k - 8, by omega⟩
  unfold impl_Paeth.f paethAll
  simp only [Option.bind_some]
  have r : ∀ (k : Nat) (i z : Int), (i = 0 ∧ z = a ∨ i = 1 ∧ z = b ∨ i = 2 ∧ z = c) → impl_Paeth.l0 (k + 1) a b c [a, b, c] 3 i = if inR z = true then impl_Paeth.l0 k a b c [a, b, c] 3 (i + 1) else some 0 := by
    intro k i z h
    have hi : 0 ≤ i ∧ i < 3 := by omega
    have hz : rd [a, b, c] i = z := by rcases h with ⟨rfl, rfl⟩ | ⟨rfl, rfl⟩ | ⟨rfl, rfl⟩ <;> rfl
    simp only [impl_Paeth.l0]
    rw [if_pos hi.2, if_pos hi.1, if_pos (by simpa using hi.2), hz, impl_within_eq, w64 (by omega) (by omega)]
    rfl
  change impl_Paeth.l0 (k + 8) a b c [a, b, c] 3 0 = _
  rw [r (k + 7) 0 a (.inl ⟨rfl, rfl⟩), r (k + 6) (0 + 1) b (.inr (.inl ⟨rfl, rfl⟩)), r (k + 5) (0 + 1 + 1) c (.inr (.inr ⟨rfl, rfl⟩))]
  by_cases ha : inR a = true
  · by_cases hb : inR b = true
    · by_cases hc : inR c = true
      · simp only [ha, hb, hc, if_true, Bool.and_self]
        rw [inR_iff] at ha hb hc
        simp only [impl_Paeth.l0]
        rw [if_neg (by decide)]
        simp only [Option.bind_some]
        rw [w64 (x := a + b) (by omega) (by omega), w64 (x := a + b - c) (by omega) (by omega)]
        have := impl_Paeth_l1 (k + 1) (a + b - c) a b c (by omega) (by omega) (by omega) (by omega) (by omega) (by omega) (by omega) (by omega)
        change impl_Paeth.l1 (k + 4) (a + b - c) a [b, c] 2 0 = _
        rw [this]
        unfold paeth
        rw [show b + a - c - a = a + b - c - a by omega]
        congr 1
        by_cases h1 : absD (a + b - c - b) < absD (a + b - c - a)
        · rw [if_pos h1, if_neg (show ¬ (absD (a + b - c - a) ≤ absD (a + b - c - b) ∧ absD (a + b - c - a) ≤ absD (a + b - c - c)) by omega)]
          by_cases h2 : absD (a + b - c - c) < absD (a + b - c - b)
          · rw [if_pos h2, if_neg (by omega)]
          · rw [if_neg h2, if_pos (by omega)]
        · rw [if_neg h1]
          by_cases h2 : absD (a + b - c - c) < absD (a + b - c - a)
          · rw [if_pos h2, if_neg (by omega), if_neg (by omega)]
          · rw [if_neg h2, if_pos (by omega)]
      · simp [ha, hb, hc]
    · simp [ha, hb]
  · simp [ha]

theorem absD_paeth (a b c : Int) : (paeth a b c = a ∨ paeth a b c = b ∨ paeth a b c = c) ∧ absD (a + b - c - paeth a b c) ≤ absD (a + b - c - a) ∧ absD (a + b - c - paeth a b c) ≤ absD (a + b - c - b) ∧ absD (a + b - c - paeth a b c) ≤ absD (a + b - c - c) := by
  unfold paeth
  rw [show b + a - c - a = a + b - c - a by omega]
  split
  · rename_i h; exact ⟨.inl rfl, by omega, h.1, h.2⟩
  · split
    · rename_i h1 h2; exact ⟨.inr (.inl rfl), by omega, by omega, h2⟩
    · rename_i h1 h2; exact ⟨.inr (.inr rfl), by omega, by omega, by omega⟩
theorem laws_FnPaeth_l0 (k : Nat) (hk : 4 ≤ k) (a b c : Int) (ha : -1000 ≤ a ∧ a ≤ 1000) (hb : -1000 ≤ b ∧ b ≤ 1000) (hc : -1000 ≤ c ∧ c ≤ 1000) (x : Int) (hx : x = paeth a b c) :
    laws_FnPaeth.l0 k a b c x (a + b - c) [a, b, c] (absD (a + b - c - x)) 0 = some true := by
  obtain ⟨k, rfl⟩ : ∃ m, k = m + 4 := ⟨k - 4, by omega⟩
  have q := absD_paeth a b c
  rw [← hx] at q
  have r : ∀ (k : Nat) (i z : Int), (i = 0 ∧ z = a ∨ i = 1 ∧ z = b ∨ i = 2 ∧ z = c) → laws_FnPaeth.l0 (k + 1) a b c x (a + b - c) [a, b, c] (absD (a + b - c - x)) i = laws_FnPaeth.l0 k a b c x (a + b - c) [a, b, c] (absD (a + b - c - x)) (i + 1) := by
    intro k i z h
    have hi : 0 ≤ i ∧ i < 3 := by omega
    have hz : rd [a, b, c] i = z := by rcases h with ⟨rfl, rfl⟩ | ⟨rfl, rfl⟩ | ⟨rfl, rfl⟩ <;> rfl
    have zb : -1000 ≤ z ∧ z ≤ 1000 := by rcases h with ⟨_, rfl⟩ | ⟨_, rfl⟩ | ⟨_, rfl⟩ <;> assumption
    have lez : absD (a + b - c - x) ≤ absD (a + b - c - z) := by rcases h with ⟨_, rfl⟩ | ⟨_, rfl⟩ | ⟨_, rfl⟩ <;> omega
    simp only [laws_FnPaeth.l0]
    rw [if_pos hi.2, if_pos hi.1, if_pos (by simpa using hi.2), hz, w64 (x := a + b - c - z) (by omega) (by omega), w64 (x := -(a + b - c - z)) (by omega) (by omega), w64 (x := i + 1) (by omega) (by omega)]
    have ez : absD (a + b - c - z) = if a + b - c - z < 0 then -(a + b - c - z) else a + b - c - z := rfl
    rw [ez] at lez
    split
    · rename_i h; rw [if_pos h] at lez; rw [if_neg (by omega)]
    · rename_i h; rw [if_neg h] at lez; rw [if_neg (by omega)]
  rw [r (k + 3) 0 a (.inl ⟨rfl, rfl⟩), r (k + 2) (0 + 1) b (.inr (.inl ⟨rfl, rfl⟩)), r (k + 1) (0 + 1 + 1) c (.inr (.inr ⟨rfl, rfl⟩))]
  simp only [laws_FnPaeth.l0]
  rw [if_neg (by decide)]
  rcases q.1 with h | h | h
  · rw [if_pos h]
  · by_cases h' : x = a
    · rw [if_pos h']
    · rw [if_neg h', if_pos h]
  · by_cases h' : x = a
    · rw [if_pos h']
    · rw [if_neg h']
      by_cases h'' : x = b
      · rw [if_pos h'']
      · rw [if_neg h'', h]; simp
theorem laws_FnPaeth_j0 (k : Nat) (hk : 6 ≤ k) (a b c : Int) (ha : 0 ≤ a ∧ a ≤ 255) (hc : 0 ≤ c ∧ c ≤ 255) (hb : -1000 ≤ b ∧ b ≤ 1000) : laws_FnPaeth.j0 k a b c (paethAll a b c) false = some true := by
  obtain ⟨k, rfl⟩ : ∃ m, k = m + 2 := ⟨k - 2, by omega⟩
  have e : paethAll a b c = paeth a b c := by
    unfold paethAll
    rw [if_pos]
    simp only [Bool.and_eq_true, inR_iff]; omega
  have q := absD_paeth a b c
  have xb : -1000 ≤ paeth a b c ∧ paeth a b c ≤ 1000 := by omega
  rw [e]
  simp only [laws_FnPaeth.j0, laws_FnPaeth.j1, Option.bind_some]
  rw [if_neg (by decide), w64 (x := a + b) (by omega) (by omega), w64 (x := a + b - c) (by omega) (by omega), w64 (x := a + b - c - paeth a b c) (by omega) (by omega), w64 (x := -(a + b - c - paeth a b c)) (by omega) (by omega)]
  have L := laws_FnPaeth_l0 k (by omega) a b c (by omega) hb (by omega) (paeth a b c) rfl
  unfold absD at L
  split
  · rename_i h; rw [if_pos h] at L; exact L
  · rename_i h; rw [if_neg h] at L; exact L
theorem laws_FnPaeth_j0_true (k : Nat) (hk : 1 ≤ k) (a b c x : Int) (hx : x = 0) : laws_FnPaeth.j0 k a b c x true = some true := by
  obtain ⟨k, rfl⟩ : ∃ m, k = m + 1 := ⟨k - 1, by omega⟩
  simp [laws_FnPaeth.j0, hx]
theorem spec_DrawPaeth_eq (l : List Int) (hl : l.length ≤ 1048576) (k : Nat) (hk : l.length < k) : ∃ a b c, spec_DrawPaeth.f k l = some (a, b, c) ∧ (0 ≤ a ∧ a ≤ 255) ∧ (0 ≤ c ∧ c ≤ 255) ∧ (-1001 ≤ b ∧ b ≤ 1001) := by
  unfold spec_DrawPaeth.f
  obtain ⟨h, e⟩ := spec_l01New_eq l hl k hk
  rw [e]; simp only [Option.bind_some]
  obtain ⟨a, i1, h1, e1, a1, b1, _, c1⟩ := spec_l01Below_eq (cur_new hl) h 256
  rw [e1]; simp only [Option.bind_some]
  obtain ⟨b, i2, h2, e2, a2, b2, _, c2⟩ := spec_l01Below_eq c1 h1 256
  rw [e2]; simp only [Option.bind_some]
  obtain ⟨c, i3, h3, e3, a3, b3, _, c3⟩ := spec_l01Below_eq c2 h2 256
  rw [e3]; simp only [Option.bind_some]
  obtain ⟨d, i4, h4, e4, a4, b4, _, c4⟩ := spec_l01Below_eq c3 h3 6
  rw [e4]; simp only [Option.bind_some]
  have := b1 (by omega)
  have := b2 (by omega)
  have := b3 (by omega)
  split
  · exact ⟨_, _, _, rfl, by omega, by omega, by omega⟩
  · split
    · obtain ⟨y, i5, h5, e5, m5, c5⟩ := spec_l01PickInt_eq c4 h4 [(-1000), 1000, 1001, (-1001)] (by simp)
      rw [e5]; simp only [Option.bind_some]
      refine ⟨_, _, _, rfl, by omega, by omega, ?_⟩
      simp at m5; omega
    · exact ⟨_, _, _, rfl, by omega, by omega, by omega⟩
theorem FnPaeth : laws_FnPaeth.Pure := by
  intro l _ hl _
  refine ⟨l.length + 10, ?_⟩
  unfold laws_FnPaeth.f
  rw [laws_big_eq]
  simp only [Option.bind_some]
  by_cases hb : 1048576 < l.length
  · simp [hb]
  rw [if_neg (by simp; omega)]
  obtain ⟨a, b, c, e, ha, hc, hb⟩ := spec_DrawPaeth_eq l (by omega) (l.length + 10) (by omega)
  rw [e]; simp only [Option.bind_some]
  rw [impl_Paeth_eq _ (by omega), spec_Paeth_eq _ (by omega)]
  simp only [Option.bind_some, if_true]
  by_cases h1 : b < -1000
  · rw [if_pos h1]
    refine laws_FnPaeth_j0_true _ (by omega) _ _ _ _ ?_
    unfold paethAll
    rw [if_neg]
    simp only [Bool.and_eq_true, inR_iff]; omega
  · rw [if_neg h1]
    by_cases h2 : b > 1000
    · rw [decide_eq_true h2]
      refine laws_FnPaeth_j0_true _ (by omega) _ _ _ _ ?_
      unfold paethAll
      rw [if_neg]
      simp only [Bool.and_eq_true, inR_iff]; omega
    · rw [decide_eq_false h2]
      exact laws_FnPaeth_j0 _ (by omega) a b c ha hc (by omega)

end Go.Proofs.Ytcdpnaaeokjdaaa.Pure
