/- The program's RasterOk returns what the reference's returns, for all arguments. -/
import Derived.Test.YtcdpnaaeokjdaaaPFnExactRasterOkx4
set_option linter.unusedVariables false
set_option linter.unusedSimpArgs false
namespace Go.Proofs.Ytcdpnaaeokjdaaa.Pure
open Go.RowKit Go.Proofs.Ytcdpnaaeokjdaaa.PFnExactRasterOk Go.Proofs.YtcdpnaaeokjdaaaW.PrintWords Go.Proofs.YtcdpnaaeokjdaaaW.PrintLast

theorem w64 {x : Int} (h : -9223372036854775808 ≤ x) (h' : x ≤ 9223372036854775807) : wrap64 x = x := by unfold wrap64; omega
theorem wf_i64 {a : Int} (h : (Lit.int .i64 a).wf = true) : -9223372036854775808 ≤ a ∧ a ≤ 9223372036854775807 := by
  simpa [Lit.wf, IntKind.min, IntKind.max, IntKind.signed, IntKind.bits] using h
theorem wbt (s : ByteArray) (i : Int) : wrap64 (bt s i) = bt s i := w64 (by have := bt_range s i; omega) (by have := bt_range s i; omega)

def sideB (n : Int) : Bool := decide (1 ≤ n) && decide (n ≤ 24)
theorem sideB_iff (n : Int) : sideB n = true ↔ 1 ≤ n ∧ n ≤ 24 := by simp [sideB]

def smallD (d : Int) : Bool := d == 1 || d == 2 || d == 4
def bigD (d : Int) : Bool := d == 8 || d == 16
def dok (c d : Int) : Bool := if c = 0 then smallD d || bigD d else if c = 3 then smallD d || d == 8 else if c = 2 then bigD d else if c = 4 then bigD d else if c = 6 then bigD d else false
theorem some_or (a b : Bool) : (if a = true then some true else some b) = some (a || b) := by cases a <;> rfl
theorem spec_DepthOk_eq (k : Nat) (hk : 1 ≤ k) (c d : Int) : spec_DepthOk.f k c d = some (dok c d) := by
  obtain ⟨k, rfl⟩ : ∃ m, k = m + 1 := ⟨k - 1, by omega⟩
  have e : ∀ x : Bool, spec_DepthOk.j0 (k + 1) c d x = some (if c = 0 then x || bigD d else if c = 3 then x || d == 8 else if c = 2 then bigD d else if c = 4 then bigD d else if c = 6 then bigD d else false) := by
    intro x
    have h8 : (if d = 8 then some true else some (d == 16)) = some (bigD d) := by unfold bigD; by_cases h : d = 8 <;> simp [h]
    simp only [spec_DepthOk.j0, h8, some_or]
    repeat (first | rfl | split)
  simp only [spec_DepthOk.f, e, dok, smallD]
  by_cases h1 : d = 1
  · simp [h1]
  by_cases h2 : d = 2
  · simp [h2]
  · have e1 : (d == 1) = false := by simpa using h1
    have e2 : (d == 2) = false := by simpa using h2
    simp only [h1, h2, e1, e2, if_false, Bool.false_or]

def chan (c : Int) : Int := if c = 0 then 1 else if c = 3 then 1 else if c = 2 then 3 else if c = 4 then 2 else if c = 6 then 4 else 0

def p2 (n : Int) : Int := 2 ^ n.toNat
theorem p2_nat (n : Nat) : p2 n = ((2 ^ n : Nat) : Int) := by simp [p2]
theorem p2_succ (n : Int) (h : 0 ≤ n) : p2 (n + 1) = 2 * p2 n := by
  obtain ⟨m, rfl⟩ := Int.eq_ofNat_of_zero_le h
  have : ((m : Int) + 1) = ((m + 1 : Nat) : Int) := by omega
  rw [this, p2_nat, p2_nat, Nat.pow_succ]; push_cast; omega
theorem p2_zero : p2 0 = 1 := rfl
theorem p2_pos (n : Int) : 1 ≤ p2 n := by
  unfold p2
  have h := Nat.one_le_two_pow (n := n.toNat)
  exact_mod_cast h
theorem p2_le {m n : Int} (h : m ≤ n) : p2 m ≤ p2 n := by
  unfold p2
  have h := Nat.pow_le_pow_right (n := 2) (by decide) (show m.toNat ≤ n.toNat by omega)
  exact_mod_cast h
theorem p2_62 {n : Int} (h : n ≤ 62) : p2 n ≤ 4611686018427387904 := p2_le (n := 62) h
theorem p2_16 {n : Int} (h : n ≤ 16) : p2 n ≤ 65536 := p2_le (n := 16) h

theorem rd_at (xs : List Int) (i : Nat) (h : i < xs.length) : rd xs i = xs[i] := by simp [rd, List.getD, h]
def inB (m x : Int) : Bool := decide (0 ≤ x) && decide (x ≤ m)
theorem drop_all (p : Int → Bool) (xs : List Int) (i : Nat) (h : i < xs.length) : (xs.drop i).all p = (p xs[i] && (xs.drop (i + 1)).all p) := by
  rw [List.drop_eq_getElem_cons h]; rfl
theorem drop_all_end (p : Int → Bool) (xs : List Int) (i : Nat) (h : xs.length ≤ i) : (xs.drop i).all p = true := by
  rw [List.drop_eq_nil_of_le h]; rfl

def upB (n : Int) : Int := (n + 7) / 8
theorem upB_w (n : Int) (h : 0 ≤ n) (h' : n ≤ 9223372036854775800) : wrap64 (Int.tdiv (wrap64 (n + 7)) 8) = upB n := by
  unfold upB
  rw [w64 (x := n + 7) (by omega) (by omega), Int.tdiv_eq_ediv_of_nonneg (by omega), w64 (by omega) (by omega)]
theorem chan_bd (c : Int) : 0 ≤ chan c ∧ chan c ≤ 4 := by unfold chan; repeat (first | omega | split)
theorem dok_bd {c d : Int} (h : dok c d = true) : 1 ≤ d ∧ d ≤ 16 ∧ 1 ≤ chan c := by
  have hs : ∀ d : Int, smallD d = true → 1 ≤ d ∧ d ≤ 4 := by intro d h; simp [smallD] at h; omega
  have hb : ∀ d : Int, bigD d = true → 8 ≤ d ∧ d ≤ 16 := by intro d h; simp [bigD] at h; omega
  unfold dok at h
  unfold chan
  split at h
  · rename_i e; simp only [e, if_true, Bool.or_eq_true] at h ⊢
    rcases h with h | h
    · have := hs d h; omega
    · have := hb d h; omega
  · rename_i e0
    simp only [e0, if_false]
    split at h
    · rename_i e; simp only [e, if_true, Bool.or_eq_true, beq_iff_eq] at h ⊢
      rcases h with h | h
      · have := hs d h; omega
      · omega
    · rename_i e3
      simp only [e3, if_false]
      split at h
      · rename_i e; simp only [e, if_true]; have := hb d h; omega
      · rename_i e2
        simp only [e2, if_false]
        split at h
        · rename_i e; simp only [e, if_true]; have := hb d h; omega
        · rename_i e4
          simp only [e4, if_false]
          split at h
          · rename_i e; simp only [e, if_true]; have := hb d h; omega
          · cases h
theorem mul_bd {a b : Int} {m n : Int} (ha : 0 ≤ a) (ha' : a ≤ m) (hb : 0 ≤ b) (hb' : b ≤ n) : 0 ≤ a * b ∧ a * b ≤ m * n :=
  ⟨Int.mul_nonneg ha hb, Int.mul_le_mul ha' hb' hb (by omega)⟩
/-- How many bytes a row has. -/
def rowBytes (w c d : Int) : Int := if sideB w && dok c d then upB (w * chan c * d) else 0
theorem row_bd {w c d : Int} (h : sideB w = true) (h' : dok c d = true) : 0 ≤ w * chan c ∧ w * chan c ≤ 96 ∧ 0 ≤ w * chan c * d ∧ w * chan c * d ≤ 1536 := by
  rw [sideB_iff] at h
  have h2 := dok_bd h'
  have h3 := chan_bd c
  have h4 := mul_bd (a := w) (b := chan c) (m := 24) (n := 4) (by omega) (by omega) (by omega) (by omega)
  have h5 := mul_bd (a := w * chan c) (b := d) (m := 96) (n := 16) (by omega) (by omega) (by omega) (by omega)
  omega

def rasterOk (w h c d : Int) (xs : List Int) : Bool := sideB w && sideB h && dok c d && decide ((xs.length : Int) = w * h * chan c) && xs.all (inB (p2 d - 1))
theorem wh_bd {w h c : Int} (hw : sideB w = true) (hh : sideB h = true) : 0 ≤ w * h ∧ w * h ≤ 576 ∧ 0 ≤ w * h * chan c ∧ w * h * chan c ≤ 2304 := by
  rw [sideB_iff] at hw hh
  have h3 := chan_bd c
  have h4 := mul_bd (a := w) (b := h) (m := 24) (n := 24) (by omega) (by omega) (by omega) (by omega)
  have h5 := mul_bd (a := w * h) (b := chan c) (m := 576) (n := 4) (by omega) (by omega) (by omega) (by omega)
  omega

theorem spec_l01In_eq (a b c : Int) : spec_l01In.f a b c = some (decide (b ≤ a) && decide (a ≤ c)) := by
  unfold spec_l01In.f
  by_cases h : b ≤ a <;> simp [h]

theorem spec_l12Side_eq (n : Int) : spec_l12Side.f n = some (sideB n) := by simp [spec_l12Side.f, spec_l01In_eq, sideB]

theorem spec_ChannelsOf_eq (k : Nat) (hk : 1 ≤ k) (c : Int) : spec_ChannelsOf.f k c = some (chan c) := by
  obtain ⟨k, rfl⟩ : ∃ m, k = m + 1 := ⟨k - 1, by omega⟩
  simp only [spec_ChannelsOf.f, spec_ChannelsOf.j0, chan]
  by_cases h0 : c = 0
  · simp [h0]
  · by_cases h3 : c = 3
    · simp [h3]
    · simp [h0, h3]; repeat (first | split | rfl)

theorem spec_l01Pow_l0 (n : Int) (h62 : n ≤ 62) (d : Nat) : ∀ (k : Nat) (i : Int), 0 ≤ i → i ≤ n → n - i = d → d < k → spec_l01Pow.l0 k n (p2 i) i = some (p2 n) := by
  induction d with
  | zero =>
    intro k i h0 h1 hd hk
    obtain ⟨k, rfl⟩ : ∃ m, k = m + 1 := ⟨k - 1, by omega⟩
    obtain rfl : i = n := by omega
    simp only [spec_l01Pow.l0]
    rw [if_neg (by omega)]
  | succ d ih =>
    intro k i h0 h1 hd hk
    obtain ⟨k, rfl⟩ : ∃ m, k = m + 1 := ⟨k - 1, by omega⟩
    have b1 := p2_pos (i + 1)
    have b2 := p2_62 (n := i + 1) (by omega)
    have e := p2_succ i h0
    simp only [spec_l01Pow.l0]
    rw [if_pos (by omega), ← e, w64 (x := p2 (i + 1)) (by omega) (by omega), w64 (x := i + 1) (by omega) (by omega)]
    exact ih k (i + 1) (by omega) (by omega) (by omega) (by omega)
theorem spec_l01Pow_eq (k : Nat) (n : Int) (h62 : n ≤ 62) (hk : 64 ≤ k) : spec_l01Pow.f k n = some (p2 n) := by
  unfold spec_l01Pow.f
  by_cases h0 : 0 ≤ n
  · exact spec_l01Pow_l0 n h62 n.toNat k 0 (by omega) h0 (by omega) (by omega)
  · obtain ⟨k, rfl⟩ : ∃ m, k = m + 1 := ⟨k - 1, by omega⟩
    simp only [spec_l01Pow.l0]
    rw [if_neg (by omega)]
    have : n.toNat = 0 := by omega
    unfold p2; rw [this]; rfl

theorem spec_RasterOk_l0 (w h c d : Int) (hd2 : d ≤ 62) (xs : List Int) (hx : xs.length ≤ 9223372036854775807) (n : Nat) : ∀ (k i : Nat), i ≤ xs.length → xs.length - i = n → n + 64 < k → spec_RasterOk.l0 k i w h c d xs = some ((xs.drop i).all (inB (p2 d - 1))) := by
  induction n with
  | zero =>
    intro k i hi hd hk
    obtain ⟨k, rfl⟩ : ∃ m, k = m + 1 := ⟨k - 1, by omega⟩
    simp only [spec_RasterOk.l0]
    rw [if_neg (by omega), drop_all_end _ _ _ (by omega)]
  | succ n ih =>
    intro k i hi hd hk
    obtain ⟨k, rfl⟩ : ∃ m, k = m + 1 := ⟨k - 1, by omega⟩
    have lt : i < xs.length := by omega
    have b1 := p2_pos d
    have b2 := p2_62 hd2
    simp only [spec_RasterOk.l0]
    rw [if_pos (by omega), if_pos (by omega), spec_l01Pow_eq k d hd2 (by omega)]
    simp only [Option.bind_some]
    rw [w64 (x := p2 d - 1) (by omega) (by omega), spec_l01In_eq, rd_at xs i lt, w64 (by omega) (by omega), drop_all _ _ _ lt]
    simp only [Option.bind_some]
    have step := ih k (i + 1) (by omega) (by omega) (by omega)
    push_cast at step
    rw [step]
    unfold inB
    cases (decide (0 ≤ xs[i]) && decide (xs[i] ≤ p2 d - 1)) <;> simp
theorem spec_RasterOk_eq (w h c d : Int) (xs : List Int) (hx : xs.length ≤ 9223372036854775807) (k : Nat) (hk : xs.length + 70 ≤ k) : spec_RasterOk.f k w h c d xs = some (rasterOk w h c d xs) := by
  obtain ⟨k, rfl⟩ : ∃ m, k = m + 1 := ⟨k - 1, by omega⟩
  have no : spec_RasterOk.j0 (k + 1) true w h c d xs = some false := by simp [spec_RasterOk.j0]
  unfold spec_RasterOk.f rasterOk
  simp only [spec_l12Side_eq, spec_DepthOk_eq (k + 1) (by omega), spec_ChannelsOf_eq (k + 1) (by omega), Option.bind_some, no]
  by_cases hw : sideB w = true
  · by_cases hh : sideB h = true
    · by_cases hd : dok c d = true
      · have b := wh_bd (c := c) hw hh
        have bd := dok_bd hd
        simp only [hw, hh, hd, if_true, Bool.true_and]
        rw [w64 (x := w * h) (by omega) (by omega), w64 (x := w * h * chan c) (by omega) (by omega)]
        simp only [spec_RasterOk.j0]
        by_cases hl : (xs.length : Int) = w * h * chan c
        · have R := spec_RasterOk_l0 w h c d (by omega) xs hx xs.length k 0 (by omega) (by omega) (by omega)
          rw [if_neg (by simp [hl])]
          simpa [hl] using R
        · rw [if_pos (by simp [hl])]
          simp [hl]
      · simp [hw, hh, hd]
    · simp [hw, hh]
  · simp [hw]

theorem impl_within_eq (a b c : Int) : impl_within.f a b c = some (decide (b ≤ a) && decide (a ≤ c)) := by
  unfold impl_within.f
  by_cases h : b ≤ a <;> simp [h]

theorem impl_isSide_eq (n : Int) : impl_isSide.f n = some (sideB n) := by simp [impl_isSide.f, impl_within_eq, sideB]

theorem impl_ChannelsOf_eq (k : Nat) (hk : 1 ≤ k) (c : Int) : impl_ChannelsOf.f k c = some (chan c) := by
  obtain ⟨k, rfl⟩ : ∃ m, k = m + 1 := ⟨k - 1, by omega⟩
  simp only [impl_ChannelsOf.f, impl_ChannelsOf.j0, chan]
  by_cases h0 : c = 0
  · simp [h0]
  · by_cases h3 : c = 3
    · simp [h3]
    · by_cases h2 : c = 2
      · simp [h2]
      · by_cases h4 : c = 4
        · simp [h4]
        · simp [h0, h3, h2, h4]; repeat (first | split | rfl)

theorem impl_isDepth_eq (d : Int) : impl_isDepth.f d = some (smallD d || bigD d) := by
  simp only [impl_isDepth.f, smallD, bigD]
  by_cases h1 : d = 1
  · simp [h1]
  by_cases h2 : d = 2
  · simp [h2]
  by_cases h4 : d = 4
  · simp [h4]
  by_cases h8 : d = 8
  · simp [h8]
  · have e1 : (d == 1) = false := by simpa using h1
    have e2 : (d == 2) = false := by simpa using h2
    have e4 : (d == 4) = false := by simpa using h4
    have e8 : (d == 8) = false := by simpa using h8
    simp only [h1, h2, h4, h8, e1, e2, e4, e8, if_false, Bool.false_or]
theorem impl_DepthOk_eq (k : Nat) (hk : 1 ≤ k) (c d : Int) : impl_DepthOk.f k c d = some (dok c d) := by
  have h8 : (if d = 8 then some true else some (d == 16)) = some (bigD d) := by unfold bigD; by_cases h : d = 8 <;> simp [h]
  simp only [impl_DepthOk.f, impl_isDepth_eq, impl_ChannelsOf_eq k hk, Option.bind_some, dok, h8]
  by_cases h0 : c = 0
  · simp [h0]
  by_cases h3 : c = 3
  · subst h3
    simp only [show ¬ ((3 : Int) = 0) by decide, if_true, if_false]
    unfold smallD bigD
    by_cases h1 : d = 1
    · simp [h1]
    by_cases h2 : d = 2
    · simp [h2]
    by_cases h4 : d = 4
    · simp [h4]
    by_cases h8 : d = 8
    · simp [h8]
    by_cases h16 : d = 16
    · simp [h16]
    · simp [h1, h2, h4, h8, h16]
  · simp only [h0, h3, chan, if_false]
    by_cases h2 : c = 2
    · simp [h2]
    by_cases h4 : c = 4
    · simp [h4]
    by_cases h6 : c = 6
    · simp [h6]
    · simp [h2, h4, h6]

theorem shl_one (n : Int) (h0 : 0 ≤ n) (h62 : n ≤ 62) : shl .i64 1 n = p2 n := by
  have b1 := p2_pos n
  have b2 := p2_62 h62
  unfold shl
  rw [show min n.toNat IntKind.i64.bits = n.toNat by simp [IntKind.bits]; omega, Int.one_mul, IntKind.wrap_i64]
  show (p2 n + 9223372036854775808) % 18446744073709551616 - 9223372036854775808 = p2 n
  omega
theorem impl_powerOf_eq (n : Int) : impl_powerOf.f n = some (if 0 ≤ n ∧ n ≤ 62 then p2 n else 0) := by
  unfold impl_powerOf.f
  rw [impl_within_eq]
  simp only [Option.bind_some]
  by_cases h0 : 0 ≤ n
  · by_cases h1 : n ≤ 62
    · simp [h0, h1, shl_one n h0 h1]
    · simp [h0, h1]
  · simp [h0]

theorem impl_samplesOk_l0 (n : Int) (h0 : 0 ≤ n) (h1 : n ≤ 62) (xs : List Int) (hx : xs.length ≤ 9223372036854775807) (d : Nat) : ∀ (k i : Nat), i ≤ xs.length → xs.length - i = d → d < k → impl_samplesOk.l0 k n xs xs.length i = some ((xs.drop i).all (inB (p2 n - 1))) := by
  induction d with
  | zero =>
    intro k i hi hd hk
    obtain ⟨k, rfl⟩ : ∃ m, k = m + 1 := ⟨k - 1, by omega⟩
    simp only [impl_samplesOk.l0]
    rw [if_neg (by omega), drop_all_end _ _ _ (by omega)]
  | succ d ih =>
    intro k i hi hd hk
    obtain ⟨k, rfl⟩ : ∃ m, k = m + 1 := ⟨k - 1, by omega⟩
    have lt : i < xs.length := by omega
    have b1 := p2_pos n
    have b2 := p2_62 h1
    simp only [impl_samplesOk.l0, impl_powerOf_eq, Option.bind_some]
    rw [if_pos (by omega), if_pos (by omega), if_pos (by omega), if_pos ⟨h0, h1⟩, w64 (x := p2 n - 1) (by omega) (by omega), impl_within_eq, rd_at xs i lt, w64 (by omega) (by omega), drop_all _ _ _ lt]
    simp only [Option.bind_some]
    have step := ih k (i + 1) (by omega) (by omega) (by omega)
    push_cast at step
    rw [step]
    unfold inB
    cases (decide (0 ≤ xs[i]) && decide (xs[i] ≤ p2 n - 1)) <;> simp
theorem impl_samplesOk_eq (n : Int) (h0 : 0 ≤ n) (h1 : n ≤ 62) (xs : List Int) (hx : xs.length ≤ 9223372036854775807) (k : Nat) (hk : xs.length < k) : impl_samplesOk.f k xs n = some (xs.all (inB (p2 n - 1))) := by
  unfold impl_samplesOk.f
  have := impl_samplesOk_l0 n h0 h1 xs hx xs.length k 0 (by omega) (by omega) hk
  simpa using this

theorem impl_RasterOk_eq (w h c d : Int) (xs : List Int) (hx : xs.length ≤ 9223372036854775807) (k : Nat) (hk : xs.length + 3 ≤ k) : impl_RasterOk.f k w h c d xs = some (rasterOk w h c d xs) := by
  obtain ⟨k, rfl⟩ : ∃ m, k = m + 1 := ⟨k - 1, by omega⟩
  have no : impl_RasterOk.j0 (k + 1) true w h c d xs = some false := by simp [impl_RasterOk.j0]
  unfold impl_RasterOk.f rasterOk
  simp only [impl_isSide_eq, impl_DepthOk_eq (k + 1) (by omega), Option.bind_some, no]
  by_cases hw : sideB w = true
  · by_cases hh : sideB h = true
    · by_cases hd : dok c d = true
      · have b := wh_bd (c := c) hw hh
        have bd := dok_bd hd
        simp only [hw, hh, hd, if_true, Bool.true_and, Bool.not_true, impl_RasterOk.j0]
        rw [if_neg (by decide), impl_ChannelsOf_eq k (by omega)]
        simp only [Option.bind_some]
        rw [w64 (x := w * h) (by omega) (by omega), w64 (x := w * h * chan c) (by omega) (by omega), impl_samplesOk_eq d (by omega) (by omega) xs hx k (by omega)]
        by_cases hl : (xs.length : Int) = w * h * chan c
        · simp [hl]
        · simp [hl]
      · simp [hw, hh, hd, no]
    · simp [hw, hh]
  · simp [hw]

theorem laws_toIntS_l0 (xs : List Int) (hx : xs.length ≤ 9223372036854775807) (d : Nat) : ∀ (k i : Nat) (ys : List Int), i ≤ xs.length → xs.length - i = d → d < k → ys.length = xs.length → (∀ j : Nat, j < i → ys[j]? = xs[j]?) → laws_toIntS.l0 k xs ys i = some xs := by
  induction d with
  | zero =>
    intro k i ys hi hd hk hl hy
    obtain ⟨k, rfl⟩ : ∃ m, k = m + 1 := ⟨k - 1, by omega⟩
    simp only [laws_toIntS.l0]
    rw [if_neg (by omega)]
    congr 1
    apply List.ext_getElem?
    intro j
    by_cases hj : j < i
    · exact hy j hj
    · rw [List.getElem?_eq_none (by omega), List.getElem?_eq_none (by omega)]
  | succ d ih =>
    intro k i ys hi hd hk hl hy
    obtain ⟨k, rfl⟩ : ∃ m, k = m + 1 := ⟨k - 1, by omega⟩
    have lt : i < xs.length := by omega
    simp only [laws_toIntS.l0]
    rw [if_pos (by omega), if_pos (by omega), if_pos (by omega), rd_at xs i lt, w64 (by omega) (by omega), Int.toNat_natCast]
    refine ih k (i + 1) (ys.set i xs[i]) (by omega) (by omega) (by omega) (by simpa using hl) (fun j hj => ?_)
    by_cases e : j = i
    · subst e
      rw [List.getElem?_set_self (by omega), List.getElem?_eq_getElem lt]
    · rw [List.getElem?_set_ne (by omega), hy j (by omega)]
theorem laws_toIntS_eq (xs : List Int) (hx : xs.length ≤ 1048576) (k : Nat) (hk : xs.length < k) : laws_toIntS.f k xs = some xs := by
  unfold laws_toIntS.f
  rw [if_pos (by omega), if_pos (by omega), Int.toNat_natCast]
  exact laws_toIntS_l0 xs (by omega) xs.length k 0 _ (by omega) (by omega) hk (by simp) (fun j hj => absurd hj (by omega))

theorem laws_eqIntS_l0 (xs : List Int) (hx : xs.length ≤ 9223372036854775807) (d : Nat) : ∀ (k i : Nat), i ≤ xs.length → xs.length - i = d → d < k → laws_eqIntS.l0 k xs xs i = some true := by
  induction d with
  | zero =>
    intro k i hi hd hk
    obtain ⟨k, rfl⟩ : ∃ m, k = m + 1 := ⟨k - 1, by omega⟩
    simp only [laws_eqIntS.l0]
    rw [if_neg (by omega)]
  | succ d ih =>
    intro k i hi hd hk
    obtain ⟨k, rfl⟩ : ∃ m, k = m + 1 := ⟨k - 1, by omega⟩
    simp only [laws_eqIntS.l0]
    rw [if_pos (by omega), if_pos (by omega), if_pos (by omega)]
    simp only [if_true]
    rw [w64 (by omega) (by omega)]
    exact ih k (i + 1) (by omega) (by omega) (by omega)
theorem laws_eqIntS_refl (xs : List Int) (hx : xs.length ≤ 9223372036854775807) (k : Nat) (hk : xs.length < k) : laws_eqIntS.f k xs xs = some true := by
  unfold laws_eqIntS.f
  rw [if_pos rfl]
  exact laws_eqIntS_l0 xs hx xs.length k 0 (by omega) (by omega) hk

theorem laws_szIntS_eq (xs : List Int) (hx : xs.length ≤ 9223372036854775807) (a : Int) (h0 : 0 ≤ a) (h1 : a ≤ 1048576) : laws_szIntS.f xs a = some (if a < xs.length then -1 else a - xs.length) := by
  unfold laws_szIntS.f
  rw [w64 (by omega) (by omega)]
  split
  · rw [if_pos (by omega)]
  · rw [if_neg (by omega)]

theorem FnExactRasterOk (w h c d : Int) (xs : List Int) (_ : (Lit.int .i64 w).wf = true) (_ : (Lit.int .i64 h).wf = true) (_ : (Lit.int .i64 c).wf = true) (_ : (Lit.int .i64 d).wf = true) (hx : xs.length ≤ 9223372036854775807) (_ : ∀ x ∈ xs, (Lit.int .i64 x).wf = true) :
    ∃ k, laws_FnExactRasterOk.f k w h c d xs = some true := by
  refine ⟨xs.length + 100, ?_⟩
  unfold laws_FnExactRasterOk.f laws_szRaster.f laws_toRaster.f
  rw [laws_szIntS_eq xs hx _ (by omega) (by omega)]
  simp only [Option.bind_some]
  by_cases hl : (1048576 : Int) < xs.length
  · simp [hl]
  · rw [if_neg hl]
    have e : ((1048576 : Int) - xs.length < 0) = False := eq_false (by omega)
    simp only [e, if_false, Option.bind_some]
    rw [laws_toIntS_eq xs (by omega) _ (by omega)]
    simp only [Option.bind_some, spec_RasterOk_eq w h c d xs hx _ (Nat.le_of_lt (show xs.length + 70 < xs.length + 100 by omega)), impl_RasterOk_eq w h c d xs hx _ (Nat.le_of_lt (show xs.length + 3 < xs.length + 100 by omega)), laws_eqRaster.f]
    rw [laws_eqIntS_refl xs hx _ (by omega)]
    simp

end Go.Proofs.Ytcdpnaaeokjdaaa.Pure
