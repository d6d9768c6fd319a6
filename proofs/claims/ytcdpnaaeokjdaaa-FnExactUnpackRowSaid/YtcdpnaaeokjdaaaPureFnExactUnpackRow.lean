/- The program's UnpackRow returns what the reference's returns, for all arguments. -/
import Derived.Test.YtcdpnaaeokjdaaaPFnExactUnpackRowx3
set_option linter.unusedVariables false
set_option linter.unusedSimpArgs false
namespace Go.Proofs.Ytcdpnaaeokjdaaa.Pure
open Go.RowKit Go.Proofs.Ytcdpnaaeokjdaaa.PFnExactUnpackRow Go.Proofs.YtcdpnaaeokjdaaaW.PrintWords Go.Proofs.YtcdpnaaeokjdaaaW.PrintLast

theorem w64 {x : Int} (h : -9223372036854775808 ≤ x) (h' : x ≤ 9223372036854775807) : wrap64 x = x := by unfold wrap64; omega
theorem wf_i64 {a : Int} (h : (Lit.int .i64 a).wf = true) : -9223372036854775808 ≤ a ∧ a ≤ 9223372036854775807 := by
  simpa [Lit.wf, IntKind.min, IntKind.max, IntKind.signed, IntKind.bits] using h
theorem wbt (s : ByteArray) (i : Int) : wrap64 (bt s i) = bt s i := w64 (by have := bt_range s i; omega) (by have := bt_range s i; omega)

def p2 (n : Int) : Int := 2 ^ n.toNat
theorem p2_nat (n : Nat) : p2 n = ((2 ^ n : Nat) : Int) := by simp [p2]
theorem p2_succ (n : Int) (h : 0 ≤ n) : p2 (n + 1) = 2 * p2 n := by
  obtain ⟨m, rfl⟩ := Int.eq_ofNat_of_zero_le h
  have : ((m : Int) + 1) = ((m + 1 : Nat) : Int) := by omega
  rw [this, p2_nat, p2_nat, Nat.pow_succ]; push_cast; omega
theorem p2_zero : p2 0 = 1 := rfl
theorem p2_pos (n : Int) : 1 ≤ p2 n := by
  unfold p2
  have h := Nat.one_le_two_pow (n := n.toNat)
  exact_mod_cast h
theorem p2_le {m n : Int} (h : m ≤ n) : p2 m ≤ p2 n := by
  unfold p2
  have h := Nat.pow_le_pow_right (n := 2) (by decide) (show m.toNat ≤ n.toNat by omega)
  exact_mod_cast h
theorem p2_62 {n : Int} (h : n ≤ 62) : p2 n ≤ 4611686018427387904 := p2_le (n := 62) h
theorem p2_16 {n : Int} (h : n ≤ 16) : p2 n ≤ 65536 := p2_le (n := 16) h

theorem rd_at (xs : List Int) (i : Nat) (h : i < xs.length) : rd xs i = xs[i] := by simp [rd, List.getD, h]
def inB (m x : Int) : Bool := decide (0 ≤ x) && decide (x ≤ m)
theorem drop_all (p : Int → Bool) (xs : List Int) (i : Nat) (h : i < xs.length) : (xs.drop i).all p = (p xs[i] && (xs.drop (i + 1)).all p) := by
  rw [List.drop_eq_getElem_cons h]; rfl
theorem drop_all_end (p : Int → Bool) (xs : List Int) (i : Nat) (h : xs.length ≤ i) : (xs.drop i).all p = true := by
  rw [List.drop_eq_nil_of_le h]; rfl

theorem str_append (xs ys : List Int) : strOfNums xs ++ strOfNums ys = strOfNums (xs ++ ys) := by
  apply ByteArray.ext
  apply Array.ext'
  rw [ByteArray.data_append, Array.toList_append, strOfNums_data, strOfNums_data, strOfNums_data, List.map_append]
theorem str_nil : (⟨#[]⟩ : ByteArray) = strOfNums [] := rfl
theorem str_size (xs : List Int) : (strOfNums xs).size = xs.length := strOfNums_size xs

def smallD (d : Int) : Bool := d == 1 || d == 2 || d == 4
def bigD (d : Int) : Bool := d == 8 || d == 16
def dok (c d : Int) : Bool := if c = 0 then smallD d || bigD d else if c = 3 then smallD d || d == 8 else if c = 2 then bigD d else if c = 4 then bigD d else if c = 6 then bigD d else false
theorem some_or (a b : Bool) : (if a = true then some true else some b) = some (a || b) := by cases a <;> rfl
theorem spec_DepthOk_eq (k : Nat) (hk : 1 ≤ k) (c d : Int) : spec_DepthOk.f k c d = some (dok c d) := by
  obtain ⟨k, rfl⟩ : ∃ m, k = m + 1 := ⟨k - 1, by omega⟩
  have e : ∀ x : Bool, spec_DepthOk.j0 (k + 1) c d x = some (if c = 0 then x || bigD d else if c = 3 then x || d == 8 else if c = 2 then bigD d else if c = 4 then bigD d else if c = 6 then bigD d else false) := by
    intro x
    have h8 : (if d = 8 then some true else some (d == 16)) = some (bigD d) := by unfold bigD; by_cases h : d = 8 <;> simp [h]
    simp only [spec_DepthOk.j0, h8, some_or]
    repeat (first | rfl | split)
  simp only [spec_DepthOk.f, e, dok, smallD]
  by_cases h1 : d = 1
  · simp [h1]
  by_cases h2 : d = 2
  · simp [h2]
  · have e1 : (d == 1) = false := by simpa using h1
    have e2 : (d == 2) = false := by simpa using h2
    simp only [h1, h2, e1, e2, if_false, Bool.false_or]

def depthB (d : Int) : Bool := smallD d || bigD d
theorem depthB_nat {d : Int} (h : depthB d = true) : ∃ D : Nat, d = D ∧ (D = 1 ∨ D = 2 ∨ D = 4 ∨ D = 8 ∨ D = 16) := by
  simp [depthB, smallD, bigD] at h
  rcases h with h | h
  · rcases h with (h | h) | h <;> subst h
    · exact ⟨1, rfl, by omega⟩
    · exact ⟨2, rfl, by omega⟩
    · exact ⟨4, rfl, by omega⟩
  · rcases h with h | h <;> subst h
    · exact ⟨8, rfl, by omega⟩
    · exact ⟨16, rfl, by omega⟩
/-- Bit t of the samples, the highest of each first. -/
def bitF (xs : List Int) (D t : Nat) : Int := if t < xs.length * D then xs.getD (t / D) 0 / 2 ^ (D - 1 - t % D) % 2 else 0
theorem bitF_bd (xs : List Int) (D t : Nat) : 0 ≤ bitF xs D t ∧ bitF xs D t ≤ 1 := by unfold bitF; split <;> omega
theorem bitF_at (xs : List Int) (D i k : Nat) (hi : i < xs.length) (hk : k < D) : bitF xs D (i * D + k) = xs[i] / 2 ^ (D - 1 - k) % 2 := by
  have h1 : (i * D + k) / D = i := by
    rw [Nat.mul_comm, Nat.mul_add_div (by omega), Nat.div_eq_of_lt hk, Nat.add_zero]
  have h2 : (i * D + k) % D = k := by
    rw [Nat.mul_comm, Nat.mul_add_mod, Nat.mod_eq_of_lt hk]
  have h3 : i * D + k < xs.length * D := by
    have : (i + 1) * D ≤ xs.length * D := Nat.mul_le_mul_right _ hi
    rw [Nat.succ_mul] at this; omega
  unfold bitF
  rw [if_pos h3, h1, h2]
  simp [List.getD, hi]
theorem bitF_past (xs : List Int) (D t : Nat) (h : xs.length * D ≤ t) : bitF xs D t = 0 := by
  unfold bitF; rw [if_neg (by omega)]
/-- Eight bits as a byte. -/
def byteV (f : Nat → Int) (j : Nat) : Int := f (8 * j) * 128 + f (8 * j + 1) * 64 + f (8 * j + 2) * 32 + f (8 * j + 3) * 16 + f (8 * j + 4) * 8 + f (8 * j + 5) * 4 + f (8 * j + 6) * 2 + f (8 * j + 7)
def isBits (f : Nat → Int) : Prop := ∀ t, 0 ≤ f t ∧ f t ≤ 1
theorem byteV_bd {f : Nat → Int} (h : isBits f) (j : Nat) : 0 ≤ byteV f j ∧ byteV f j ≤ 255 := by
  have := h (8 * j); have := h (8 * j + 1); have := h (8 * j + 2); have := h (8 * j + 3); have := h (8 * j + 4); have := h (8 * j + 5); have := h (8 * j + 6); have := h (8 * j + 7)
  unfold byteV; omega
def bytesV (f : Nat → Int) (N : Nat) : List Int := (List.range N).map (byteV f)
theorem bytesV_len (f : Nat → Int) (N : Nat) : (bytesV f N).length = N := by simp [bytesV]
theorem bytesV_get (f : Nat → Int) (N j : Nat) (h : j < N) : rd (bytesV f N) j = byteV f j := by
  rw [rd_at _ _ (by rw [bytesV_len]; exact h)]; simp [bytesV]
theorem bytesV_succ (f : Nat → Int) (N : Nat) : bytesV f (N + 1) = bytesV f N ++ [byteV f N] := by simp [bytesV, List.range_succ]
/-- How many bytes so many bits need. -/
def upN (n : Nat) : Nat := (n + 7) / 8
def packRow (xs : List Int) (d : Int) : ByteArray × Bool :=
  if depthB d && decide (xs.length ≤ 96) && xs.all (inB (p2 d - 1)) then (strOfNums (bytesV (bitF xs d.toNat) (upN (xs.length * d.toNat))), true) else (⟨#[]⟩, false)

/-- Bit t of a text, the highest of each byte first. -/
def tbit (s : ByteArray) (t : Nat) : Int := bt s ((t / 8 : Nat) : Int) / 2 ^ (7 - t % 8) % 2
theorem tbit_bd (s : ByteArray) : isBits (tbit s) := fun t => by unfold tbit; omega
/-- The number whose bits, the highest first, are those from o on. -/
def valF (g : Nat → Int) (o : Nat) : Nat → Int
  | 0 => 0
  | k + 1 => 2 * valF g o k + g (o + k)
theorem valF_bd {g : Nat → Int} (h : isBits g) (o k : Nat) : 0 ≤ valF g o k ∧ valF g o k < 2 ^ k := by
  induction k with
  | zero => simp [valF]
  | succ k ih => have := h (o + k); simp only [valF, Int.pow_succ]; omega
def unpackL (s : ByteArray) (n D : Nat) : List Int := (List.range n).map fun i => valF (tbit s) (i * D) D
theorem unpackL_len (s : ByteArray) (n D : Nat) : (unpackL s n D).length = n := by simp [unpackL]
theorem unpackL_succ (s : ByteArray) (n D : Nat) : unpackL s (n + 1) D = unpackL s n D ++ [valF (tbit s) (n * D) D] := by simp [unpackL, List.range_succ]
def countB (n : Int) : Bool := decide (0 ≤ n) && decide (n ≤ 96)
def unpackRow (s : ByteArray) (n d : Int) : List Int × Bool :=
  if depthB d && countB n && decide (s.size = upN (n.toNat * d.toNat)) then (unpackL s n.toNat d.toNat, true) else ([], false)
theorem unpackRow_len (s : ByteArray) (n d : Int) : (unpackRow s n d).1.length ≤ 96 := by
  unfold unpackRow
  split
  · rename_i h
    simp [countB] at h
    rw [unpackL_len]; omega
  · simp
theorem pow16 {k : Nat} (h : k ≤ 16) : (2 : Int) ^ k ≤ 65536 := by
  have := p2_16 (n := (k : Int)) (by omega)
  simpa [p2] using this

theorem spec_l01Pow_l0 (n : Int) (h62 : n ≤ 62) (d : Nat) : ∀ (k : Nat) (i : Int), 0 ≤ i → i ≤ n → n - i = d → d < k → spec_l01Pow.l0 k n (p2 i) i = some (p2 n) := by
  induction d with
  | zero =>
    intro k i h0 h1 hd hk
    obtain ⟨k, rfl⟩ : ∃ m, k = m + 1 := ⟨k - 1, by omega⟩
    obtain rfl : i = n := by omega
    simp only [spec_l01Pow.l0]
    rw [if_neg (by omega)]
  | succ d ih =>
    intro k i h0 h1 hd hk
    obtain ⟨k, rfl⟩ : ∃ m, k = m + 1 := ⟨k - 1, by omega⟩
    have b1 := p2_pos (i + 1)
    have b2 := p2_62 (n := i + 1) (by omega)
    have e := p2_succ i h0
    simp only [spec_l01Pow.l0]
    rw [if_pos (by omega), ← e, w64 (x := p2 (i + 1)) (by omega) (by omega), w64 (x := i + 1) (by omega) (by omega)]
    exact ih k (i + 1) (by omega) (by omega) (by omega) (by omega)
theorem spec_l01Pow_eq (k : Nat) (n : Int) (h62 : n ≤ 62) (hk : 64 ≤ k) : spec_l01Pow.f k n = some (p2 n) := by
  unfold spec_l01Pow.f
  by_cases h0 : 0 ≤ n
  · exact spec_l01Pow_l0 n h62 n.toNat k 0 (by omega) h0 (by omega) (by omega)
  · obtain ⟨k, rfl⟩ : ∃ m, k = m + 1 := ⟨k - 1, by omega⟩
    simp only [spec_l01Pow.l0]
    rw [if_neg (by omega)]
    have : n.toNat = 0 := by omega
    unfold p2; rw [this]; rfl

theorem spec_l01In_eq (a b c : Int) : spec_l01In.f a b c = some (decide (b ≤ a) && decide (a ≤ c)) := by
  unfold spec_l01In.f
  by_cases h : b ≤ a <;> simp [h]

theorem spec_l12Depth_eq (k : Nat) (hk : 1 ≤ k) (d : Int) : spec_l12Depth.f k d = some (depthB d) := by
  unfold spec_l12Depth.f
  rw [spec_DepthOk_eq k hk]; simp [dok, depthB]

theorem spec_UnpackRow_l1 (s : ByteArray) (n D : Nat) (hD : 1 ≤ D ∧ D ≤ 16) (hn : n ≤ 96) (hs : s.size = upN (n * D)) (i : Nat) (hi : i < n) (r : Nat) : ∀ (k : Nat), r ≤ D → r + 70 < k →
    spec_UnpackRow.l1 k s n D (unpackL s i D) i (valF (tbit s) (i * D) (D - r)) ((D - r : Nat) : Int) = spec_UnpackRow.l0 (k - r - 1) s n D (unpackL s (i + 1) D) (i + 1 : Nat) := by
  have top : (i + 1) * D ≤ n * D := Nat.mul_le_mul_right _ hi
  have lim : n * D ≤ 96 * 16 := Nat.mul_le_mul hn hD.2
  have topi : (i + 1) * D = i * D + D := Nat.succ_mul _ _
  induction r with
  | zero =>
    intro k hr hk
    obtain ⟨k, rfl⟩ : ∃ m, k = m + 1 := ⟨k - 1, by omega⟩
    simp only [spec_UnpackRow.l1]
    rw [if_neg (by omega), w64 (by omega) (by omega), Nat.sub_zero, unpackL_len, if_pos (by omega), unpackL_succ]
    rfl
  | succ r ih =>
    intro k hr hk
    obtain ⟨k, rfl⟩ : ∃ m, k = m + 1 := ⟨k - 1, by omega⟩
    obtain ⟨c, hc⟩ : ∃ c, c = D - (r + 1) := ⟨_, rfl⟩
    rw [← hc]
    have t8 : (i * D + c) / 8 < s.size := by rw [hs]; unfold upN; omega
    have iD : (i : Int) * (D : Int) = ((i * D : Nat) : Int) := by push_cast; rfl
    have ix : Int.tdiv ((i * D : Nat) + (c : Int)) 8 = ((i * D + c) / 8 : Nat) := by rw [Int.tdiv_eq_ediv_of_nonneg (by omega)]; omega
    have rx : Int.tmod ((i * D : Nat) + (c : Int)) 8 = ((i * D + c) % 8 : Nat) := by rw [Int.tmod_eq_emod_of_nonneg (by omega)]; omega
    have bb := bt_range s ((((i * D + c) / 8 : Nat)) : Int)
    obtain ⟨m, hm⟩ : ∃ m, m = 7 - (i * D + c) % 8 := ⟨_, rfl⟩
    have b1 := p2_pos (m : Int)
    have qd : 0 ≤ bt s ((((i * D + c) / 8 : Nat)) : Int) / p2 m ∧ bt s ((((i * D + c) / 8 : Nat)) : Int) / p2 m ≤ 255 := ⟨Int.ediv_nonneg bb.1 (by omega), Int.le_trans (Int.ediv_le_self _ bb.1) bb.2⟩
    have e : bt s ((((i * D + c) / 8 : Nat)) : Int) / p2 m % 2 = tbit s (i * D + c) := by unfold tbit p2; rw [hm]; rfl
    have vb := valF_bd (tbit_bd s) (i * D) c
    have pw := pow16 (k := c) (by omega)
    have tb := tbit_bd s (i * D + c)
    simp only [spec_UnpackRow.l1]
    rw [iD, w64 (x := ((i * D : Nat) : Int)) (by omega) (by omega), w64 (x := ((i * D : Nat) : Int) + c) (by omega) (by omega), ix, rx, w64 (x := (((i * D + c) / 8 : Nat) : Int)) (by omega) (by omega), show (7 : Int) - (((i * D + c) % 8 : Nat) : Int) = (m : Int) by omega, w64 (x := (m : Int)) (by omega) (by omega), if_pos (by omega), if_pos (by omega), if_pos (by omega), spec_l01Pow_eq k m (by omega) (by omega)]
    simp only [Option.bind_some]
    rw [if_neg (by omega), wbt, Int.tdiv_eq_ediv_of_nonneg bb.1, w64 (x := bt s ((((i * D + c) / 8 : Nat)) : Int) / p2 m) (by omega) (by omega), Int.tmod_eq_emod_of_nonneg qd.1, e, w64 (x := 2 * valF (tbit s) (i * D) c) (by omega) (by omega), w64 (x := 2 * valF (tbit s) (i * D) c + tbit s (i * D + c)) (by omega) (by omega), w64 (x := (c : Int) + 1) (by omega) (by omega)]
    have st := ih k (by omega) (by omega)
    rw [show D - r = c + 1 by omega] at st
    simp only [valF] at st
    push_cast at st ⊢
    rw [st, show k - r - 1 = k + 1 - (r + 1) - 1 by omega]
theorem spec_UnpackRow_l0 (s : ByteArray) (n D : Nat) (hD : 1 ≤ D ∧ D ≤ 16) (hn : n ≤ 96) (hs : s.size = upN (n * D)) (d : Nat) : ∀ (k i : Nat), i ≤ n → n - i = d → d * 20 + 100 ≤ k →
    spec_UnpackRow.l0 k s n D (unpackL s i D) i = some (unpackL s n D, true) := by
  induction d with
  | zero =>
    intro k i hi hd hk
    obtain ⟨k, rfl⟩ : ∃ m, k = m + 1 := ⟨k - 1, by omega⟩
    obtain rfl : i = n := by omega
    simp only [spec_UnpackRow.l0]
    rw [if_neg (by omega)]
  | succ d ih =>
    intro k i hi hd hk
    obtain ⟨k, rfl⟩ : ∃ m, k = m + 1 := ⟨k - 1, by omega⟩
    have s1 := spec_UnpackRow_l1 s n D hD hn hs i (by omega) D k (by omega) (by omega)
    rw [Nat.sub_self] at s1
    simp only [spec_UnpackRow.l0]
    rw [if_pos (by omega)]
    exact s1.trans (ih (k - D - 1) (i + 1) (by omega) (by omega) (by omega))
theorem spec_UnpackRow_eq (s : ByteArray) (hs : s.size ≤ 140737488351232) (n d : Int) (k : Nat) (hk : 2500 ≤ k) : spec_UnpackRow.f k s n d = some (unpackRow s n d) := by
  unfold spec_UnpackRow.f unpackRow
  rw [Option.bind_some, spec_l12Depth_eq k (by omega), spec_l01In_eq]
  simp only [Option.bind_some]
  obtain ⟨k, rfl⟩ : ∃ m, k = m + 1 := ⟨k - 1, by omega⟩
  have j0 : ∀ b, spec_UnpackRow.j0 (k + 1) s n d [] b = if b = true then some ([], false) else spec_UnpackRow.l0 k s n d [] 0 := fun b => by simp only [spec_UnpackRow.j0]
  rw [j0, j0]
  by_cases hd : depthB d = true
  · obtain ⟨D, rfl, hD⟩ := depthB_nat hd
    by_cases hc : countB n = true
    · have hc' := hc
      simp only [countB, Bool.and_eq_true, decide_eq_true_eq] at hc'
      obtain ⟨m, rfl⟩ := Int.eq_ofNat_of_zero_le hc'.1
      have lim : m * D ≤ 96 * 16 := Nat.mul_le_mul (by omega) (by omega)
      have mD : (m : Int) * (D : Int) = ((m * D : Nat) : Int) := by push_cast; rfl
      have e : (wrap64 (Int.tdiv (wrap64 (wrap64 ((m : Int) * D) + 7)) 8)) = ((upN (m * D) : Nat) : Int) := by
        rw [mD, w64 (x := ((m * D : Nat) : Int)) (by omega) (by omega), w64 (x := ((m * D : Nat) : Int) + 7) (by omega) (by omega), Int.tdiv_eq_ediv_of_nonneg (by omega), w64 (by omega) (by omega)]
        unfold upN; omega
      unfold countB at hc
      rw [if_pos hd, if_pos hc, e, hd]
      have cb : countB (m : Int) = true := hc
      rw [cb]
      simp only [Bool.true_and, Bool.and_self, Int.toNat_natCast]
      by_cases hz : s.size = upN (m * D)
      · rw [if_neg (by simp [hz]), if_pos (by simp [hz])]
        have R := spec_UnpackRow_l0 s m D (by omega) (by omega) hz m k 0 (by omega) (by omega) (by omega)
        exact R
      · rw [if_pos (by simp; omega), if_neg (by simp [hz])]
    · have hc' : countB n = false := by simpa using hc
      unfold countB at hc
      rw [if_pos hd, if_neg hc, hc']
      simp
  · rw [if_neg hd]
    simp [hd]

theorem impl_isDepth_eq (d : Int) : impl_isDepth.f d = some (smallD d || bigD d) := by
  simp only [impl_isDepth.f, smallD, bigD]
  by_cases h1 : d = 1
  · simp [h1]
  by_cases h2 : d = 2
  · simp [h2]
  by_cases h4 : d = 4
  · simp [h4]
  by_cases h8 : d = 8
  · simp [h8]
  · have e1 : (d == 1) = false := by simpa using h1
    have e2 : (d == 2) = false := by simpa using h2
    have e4 : (d == 4) = false := by simpa using h4
    have e8 : (d == 8) = false := by simpa using h8
    simp only [h1, h2, h4, h8, e1, e2, e4, e8, if_false, Bool.false_or]

theorem impl_within_eq (a b c : Int) : impl_within.f a b c = some (decide (b ≤ a) && decide (a ≤ c)) := by
  unfold impl_within.f
  by_cases h : b ≤ a <;> simp [h]

def sideB (n : Int) : Bool := decide (1 ≤ n) && decide (n ≤ 24)
theorem sideB_iff (n : Int) : sideB n = true ↔ 1 ≤ n ∧ n ≤ 24 := by simp [sideB]

def chan (c : Int) : Int := if c = 0 then 1 else if c = 3 then 1 else if c = 2 then 3 else if c = 4 then 2 else if c = 6 then 4 else 0

def upB (n : Int) : Int := (n + 7) / 8
theorem upB_w (n : Int) (h : 0 ≤ n) (h' : n ≤ 9223372036854775800) : wrap64 (Int.tdiv (wrap64 (n + 7)) 8) = upB n := by
  unfold upB
  rw [w64 (x := n + 7) (by omega) (by omega), Int.tdiv_eq_ediv_of_nonneg (by omega), w64 (by omega) (by omega)]
theorem chan_bd (c : Int) : 0 ≤ chan c ∧ chan c ≤ 4 := by unfold chan; repeat (first | omega | split)
theorem dok_bd {c d : Int} (h : dok c d = true) : 1 ≤ d ∧ d ≤ 16 ∧ 1 ≤ chan c := by
  have hs : ∀ d : Int, smallD d = true → 1 ≤ d ∧ d ≤ 4 := by intro d h; simp [smallD] at h; omega
  have hb : ∀ d : Int, bigD d = true → 8 ≤ d ∧ d ≤ 16 := by intro d h; simp [bigD] at h; omega
  unfold dok at h
  unfold chan
  split at h
  · rename_i e; simp only [e, if_true, Bool.or_eq_true] at h ⊢
    rcases h with h | h
    · have := hs d h; omega
    · have := hb d h; omega
  · rename_i e0
    simp only [e0, if_false]
    split at h
    · rename_i e; simp only [e, if_true, Bool.or_eq_true, beq_iff_eq] at h ⊢
      rcases h with h | h
      · have := hs d h; omega
      · omega
    · rename_i e3
      simp only [e3, if_false]
      split at h
      · rename_i e; simp only [e, if_true]; have := hb d h; omega
      · rename_i e2
        simp only [e2, if_false]
        split at h
        · rename_i e; simp only [e, if_true]; have := hb d h; omega
        · rename_i e4
          simp only [e4, if_false]
          split at h
          · rename_i e; simp only [e, if_true]; have := hb d h; omega
          · cases h
theorem mul_bd {a b : Int} {m n : Int} (ha : 0 ≤ a) (ha' : a ≤ m) (hb : 0 ≤ b) (hb' : b ≤ n) : 0 ≤ a * b ∧ a * b ≤ m * n :=
  ⟨Int.mul_nonneg ha hb, Int.mul_le_mul ha' hb' hb (by omega)⟩
/-- How many bytes a row has. -/
def rowBytes (w c d : Int) : Int := if sideB w && dok c d then upB (w * chan c * d) else 0
theorem row_bd {w c d : Int} (h : sideB w = true) (h' : dok c d = true) : 0 ≤ w * chan c ∧ w * chan c ≤ 96 ∧ 0 ≤ w * chan c * d ∧ w * chan c * d ≤ 1536 := by
  rw [sideB_iff] at h
  have h2 := dok_bd h'
  have h3 := chan_bd c
  have h4 := mul_bd (a := w) (b := chan c) (m := 24) (n := 4) (by omega) (by omega) (by omega) (by omega)
  have h5 := mul_bd (a := w * chan c) (b := d) (m := 96) (n := 16) (by omega) (by omega) (by omega) (by omega)
  omega

theorem impl_up_eq' (n : Nat) (h : n ≤ 1000000) : impl_up.f n = some ((upN n : Nat) : Int) := by
  unfold impl_up.f
  rw [upB_w _ (by omega) (by omega)]
  unfold upB upN
  congr 1

theorem shr_and_u8 (x : Int) (hx : 0 ≤ x ∧ x ≤ 255) (m : Nat) (hm : m ≤ 7) : Go.bits .and .u8 (shr .u8 x (m : Int)) 1 = x / 2 ^ m % 2 := by
  have e1 : shr .u8 x (m : Int) = x / 2 ^ m := by
    unfold shr
    rw [show min (m : Int).toNat IntKind.u8.bits = m by simp [IntKind.bits]; omega]
  have q : 0 ≤ x / 2 ^ m ∧ x / 2 ^ m ≤ 255 := ⟨Int.ediv_nonneg hx.1 (by exact_mod_cast Nat.zero_le _), Int.le_trans (Int.ediv_le_self _ hx.1) hx.2⟩
  have := bits_mask .u8 8 (by decide) (fun n h0 h1 => wraps_u8 n h0 h1) 1 (by omega) (x / 2 ^ m) q.1 (by omega)
  rw [e1]
  simpa using this
/-- The samples so far: the first i ones, k bits of the next, and 0. -/
def partL (s : ByteArray) (n D i k : Nat) : List Int := (List.range n).map fun j => if j < i then valF (tbit s) (j * D) D else if j = i then valF (tbit s) (i * D) k else 0
theorem partL_len (s : ByteArray) (n D i k : Nat) : (partL s n D i k).length = n := by simp [partL]
theorem partL_get (s : ByteArray) (n D i k : Nat) (h : i < n) : rd (partL s n D i k) i = valF (tbit s) (i * D) k := by
  rw [rd_at _ _ (by rw [partL_len]; exact h)]; simp [partL]
theorem partL_set (s : ByteArray) (n D i k : Nat) (h : i < n) : (partL s n D i k).set i (2 * valF (tbit s) (i * D) k + tbit s (i * D + k)) = partL s n D i (k + 1) := by
  apply List.ext_getElem?
  intro j
  by_cases e : j = i
  · subst e
    rw [List.getElem?_set_self (by rw [partL_len]; exact h)]
    simp [partL, h, valF]
  · rw [List.getElem?_set_ne (by omega)]
    simp only [partL, List.getElem?_map]
    by_cases hj : j < n
    · rw [List.getElem?_range hj]; simp [e]
    · rw [List.getElem?_eq_none (by simp; omega)]; rfl
theorem partL_next (s : ByteArray) (n D i : Nat) : partL s n D i D = partL s n D (i + 1) 0 := by
  unfold partL
  apply List.map_congr_left
  intro j _
  by_cases h1 : j < i
  · rw [if_pos h1, if_pos (by omega)]
  · rw [if_neg h1]
    by_cases h2 : j = i
    · rw [if_pos h2, if_pos (by omega), h2]
    · rw [if_neg h2, if_neg (by omega)]
      split <;> simp [valF]
theorem partL_zero (s : ByteArray) (n D : Nat) : partL s n D 0 0 = List.replicate n 0 := by
  apply List.ext_getElem (by simp [partL])
  intro j h1 h2
  simp only [partL, List.getElem_map, List.getElem_range, List.getElem_replicate]
  rw [if_neg (by omega)]
  split <;> rfl
theorem partL_all (s : ByteArray) (n D k : Nat) : partL s n D n k = unpackL s n D := by
  unfold partL unpackL
  apply List.map_congr_left
  intro j hj
  rw [if_pos (by simpa using hj)]
theorem impl_UnpackRow_l1 (s : ByteArray) (n D : Nat) (hD : 1 ≤ D ∧ D ≤ 16) (hn : n ≤ 96) (hs : s.size = upN (n * D)) (i : Nat) (hi : i < n) (r : Nat) : ∀ (k : Nat), r ≤ D → r < k →
    impl_UnpackRow.l1 k s D (partL s n D i (D - r)) i n i D ((D - r : Nat) : Int) = impl_UnpackRow.l0 (k - r - 1) s D (partL s n D (i + 1) 0) n (i + 1 : Nat) := by
  have top : (i + 1) * D ≤ n * D := Nat.mul_le_mul_right _ hi
  have lim : n * D ≤ 96 * 16 := Nat.mul_le_mul hn hD.2
  have topi : (i + 1) * D = i * D + D := Nat.succ_mul _ _
  induction r with
  | zero =>
    intro k hr hk
    obtain ⟨k, rfl⟩ : ∃ m, k = m + 1 := ⟨k - 1, by omega⟩
    simp only [impl_UnpackRow.l1]
    rw [if_neg (by omega), w64 (by omega) (by omega), Nat.sub_zero, partL_next]
    rfl
  | succ r ih =>
    intro k hr hk
    obtain ⟨k, rfl⟩ : ∃ m, k = m + 1 := ⟨k - 1, by omega⟩
    obtain ⟨c, hc⟩ : ∃ c, c = D - (r + 1) := ⟨_, rfl⟩
    rw [← hc]
    have t8 : (i * D + c) / 8 < s.size := by rw [hs]; unfold upN; omega
    have iD : (i : Int) * (D : Int) = ((i * D : Nat) : Int) := by push_cast; rfl
    have ix : Int.tdiv ((i * D : Nat) + (c : Int)) 8 = ((i * D + c) / 8 : Nat) := by rw [Int.tdiv_eq_ediv_of_nonneg (by omega)]; omega
    have rx : Int.tmod ((i * D : Nat) + (c : Int)) 8 = ((i * D + c) % 8 : Nat) := by rw [Int.tmod_eq_emod_of_nonneg (by omega)]; omega
    have bb := bt_range s ((((i * D + c) / 8 : Nat)) : Int)
    obtain ⟨m, hm⟩ : ∃ m, m = 7 - (i * D + c) % 8 := ⟨_, rfl⟩
    have e := shr_and_u8 (bt s ((((i * D + c) / 8 : Nat)) : Int)) bb m (by omega)
    have e2 : bt s ((((i * D + c) / 8 : Nat)) : Int) / 2 ^ m % 2 = tbit s (i * D + c) := by unfold tbit; rw [hm]
    have vb := valF_bd (tbit_bd s) (i * D) c
    have pw := pow16 (k := c) (by omega)
    have tb := tbit_bd s (i * D + c)
    simp only [impl_UnpackRow.l1]
    rw [iD, w64 (x := ((i * D : Nat) : Int)) (by omega) (by omega), w64 (x := ((i * D : Nat) : Int) + c) (by omega) (by omega), ix, rx, w64 (x := (((i * D + c) / 8 : Nat) : Int)) (by omega) (by omega), show (7 : Int) - (((i * D + c) % 8 : Nat) : Int) = (m : Int) by omega, w64 (x := (m : Int)) (by omega) (by omega), if_pos (by omega), if_pos (by omega), partL_len, if_pos (by omega), if_pos (by omega), if_pos (by omega), if_pos (by omega), partL_get s n D i c hi, e, e2, w64 (x := tbit s (i * D + c)) (by omega) (by omega), w64 (x := 2 * valF (tbit s) (i * D) c) (by omega) (by omega), w64 (x := 2 * valF (tbit s) (i * D) c + tbit s (i * D + c)) (by omega) (by omega), w64 (x := (c : Int) + 1) (by omega) (by omega), Int.toNat_natCast, partL_set s n D i c hi]
    have st := ih k (by omega) (by omega)
    rw [show D - r = c + 1 by omega] at st
    push_cast at st ⊢
    rw [st, show k - r - 1 = k + 1 - (r + 1) - 1 by omega]
theorem impl_UnpackRow_l0 (s : ByteArray) (n D : Nat) (hD : 1 ≤ D ∧ D ≤ 16) (hn : n ≤ 96) (hs : s.size = upN (n * D)) (d : Nat) : ∀ (k i : Nat), i ≤ n → n - i = d → d * 20 + 1 ≤ k →
    impl_UnpackRow.l0 k s D (partL s n D i 0) n i = some (unpackL s n D, true) := by
  induction d with
  | zero =>
    intro k i hi hd hk
    obtain ⟨k, rfl⟩ : ∃ m, k = m + 1 := ⟨k - 1, by omega⟩
    obtain rfl : i = n := by omega
    simp only [impl_UnpackRow.l0]
    rw [if_neg (by omega), partL_all]
  | succ d ih =>
    intro k i hi hd hk
    obtain ⟨k, rfl⟩ : ∃ m, k = m + 1 := ⟨k - 1, by omega⟩
    have s1 := impl_UnpackRow_l1 s n D hD hn hs i (by omega) D k (by omega) (by omega)
    rw [Nat.sub_self] at s1
    simp only [impl_UnpackRow.l0]
    rw [if_pos (by omega)]
    exact s1.trans (ih (k - D - 1) (i + 1) (by omega) (by omega) (by omega))
theorem impl_UnpackRow_eq (s : ByteArray) (hs : s.size ≤ 140737488351232) (n d : Int) (k : Nat) (hk : 2500 ≤ k) : impl_UnpackRow.f k s n d = some (unpackRow s n d) := by
  unfold impl_UnpackRow.f unpackRow
  rw [impl_isDepth_eq, impl_within_eq]
  simp only [Option.bind_some]
  obtain ⟨k, rfl⟩ : ∃ m, k = m + 1 := ⟨k - 1, by omega⟩
  have no : impl_UnpackRow.j0 (k + 1) s n d true = some ([], false) := by simp [impl_UnpackRow.j0]
  change (if depthB d = true then _ else _) = _
  rw [no]
  by_cases hd : depthB d = true
  · obtain ⟨D, rfl, hD⟩ := depthB_nat hd
    by_cases hc : countB n = true
    · have hc' := hc
      simp only [countB, Bool.and_eq_true, decide_eq_true_eq] at hc'
      obtain ⟨m, rfl⟩ := Int.eq_ofNat_of_zero_le hc'.1
      have lim : m * D ≤ 96 * 16 := Nat.mul_le_mul (by omega) (by omega)
      have mD : (m : Int) * (D : Int) = ((m * D : Nat) : Int) := by push_cast; rfl
      have cb : countB (m : Int) = true := hc
      unfold countB at hc
      rw [if_pos hd, if_pos hc, mD, w64 (x := ((m * D : Nat) : Int)) (by omega) (by omega), impl_up_eq' _ (by omega), hd, cb]
      simp only [Bool.true_and, Bool.and_self, Int.toNat_natCast, Option.bind_some]
      by_cases hz : s.size = upN (m * D)
      · rw [if_pos (by simp [hz]), hz]
        simp only [impl_UnpackRow.j0]
        rw [if_neg (by simp), if_pos (by omega), if_pos (by omega), Int.toNat_natCast, ← partL_zero s m D]
        exact impl_UnpackRow_l0 s m D (by omega) (by omega) hz m k 0 (by omega) (by omega) (by omega)
      · rw [if_neg (by simp [hz])]
        have ne : ((s.size : Int) != ((upN (m * D) : Nat) : Int)) = true := by simp; omega
        rw [ne, no]
    · have hc' : countB n = false := by simpa using hc
      unfold countB at hc
      rw [if_pos hd, if_neg hc, hc']
      simp
  · rw [if_neg hd]
    simp [hd]

theorem laws_eqIntS_l0 (xs : List Int) (hx : xs.length ≤ 9223372036854775807) (d : Nat) : ∀ (k i : Nat), i ≤ xs.length → xs.length - i = d → d < k → laws_eqIntS.l0 k xs xs i = some true := by
  induction d with
  | zero =>
    intro k i hi hd hk
    obtain ⟨k, rfl⟩ : ∃ m, k = m + 1 := ⟨k - 1, by omega⟩
    simp only [laws_eqIntS.l0]
    rw [if_neg (by omega)]
  | succ d ih =>
    intro k i hi hd hk
    obtain ⟨k, rfl⟩ : ∃ m, k = m + 1 := ⟨k - 1, by omega⟩
    simp only [laws_eqIntS.l0]
    rw [if_pos (by omega), if_pos (by omega), if_pos (by omega)]
    simp only [if_true]
    rw [w64 (by omega) (by omega)]
    exact ih k (i + 1) (by omega) (by omega) (by omega)
theorem laws_eqIntS_refl (xs : List Int) (hx : xs.length ≤ 9223372036854775807) (k : Nat) (hk : xs.length < k) : laws_eqIntS.f k xs xs = some true := by
  unfold laws_eqIntS.f
  rw [if_pos rfl]
  exact laws_eqIntS_l0 xs hx xs.length k 0 (by omega) (by omega) hk

theorem laws_markIntS_l0 (d : Nat) : ∀ (k i : Nat) (xs : List Int) (m : Int), i ≤ xs.length → xs.length - i = d → d < k → xs.length ≤ 1000000000 → 0 ≤ m → m + d ≤ 4000000000 →
    ∃ ys : List Int, laws_markIntS.l0 k xs m i = some (m + d, ys) ∧ ys.length = xs.length ∧ (∀ j : Nat, j < i → ys[j]? = xs[j]?) ∧ ∀ q, d < q → laws_heldIntS.l0 q ys m i = some (m + d) := by
  induction d with
  | zero =>
    intro k i xs m hi hd hk hx h0 hm
    obtain ⟨k, rfl⟩ : ∃ m, k = m + 1 := ⟨k - 1, by omega⟩
    refine ⟨xs, ?_, rfl, fun _ _ => rfl, fun q hq => ?_⟩
    · simp only [laws_markIntS.l0]
      rw [if_neg (by omega)]
      simp
    · obtain ⟨q, rfl⟩ : ∃ m, q = m + 1 := ⟨q - 1, by omega⟩
      simp only [laws_heldIntS.l0]
      rw [if_neg (by omega)]
      simp
  | succ d ih =>
    intro k i xs m hi hd hk hx h0 hm
    obtain ⟨k, rfl⟩ : ∃ m, k = m + 1 := ⟨k - 1, by omega⟩
    have lt : i < xs.length := by omega
    obtain ⟨ys, e1, e2, e3, e4⟩ := ih k (i + 1) (xs.set i m) (m + 1) (by simp; omega) (by simp; omega) (by omega) (by simpa using hx) (by omega) (by push_cast at hm; omega)
    refine ⟨ys, ?_, by simpa using e2, ?_, ?_⟩
    · simp only [laws_markIntS.l0]
      rw [if_pos (by omega), if_pos (by omega), w64 (x := m + 1) (by omega) (by omega), w64 (x := (i : Int) + 1) (by omega) (by omega)]
      simp only [Int.toNat_natCast]
      have e1' := e1
      push_cast at e1'
      rw [e1']
      congr 2; omega
    · intro j hj
      rw [e3 j (by omega), List.getElem?_set_ne (by omega)]
    · intro q hq
      obtain ⟨q, rfl⟩ : ∃ m, q = m + 1 := ⟨q - 1, by omega⟩
      have hl : i < ys.length := by rw [e2]; simpa using lt
      have hv : rd ys i = m := by
        rw [rd_at _ i hl]
        have := e3 i (by omega)
        rw [List.getElem?_set_self lt, List.getElem?_eq_getElem hl] at this
        exact Option.some.inj this
      simp only [laws_heldIntS.l0]
      rw [if_pos (by omega), if_pos (by omega), hv, w64 (x := m + 1) (by omega) (by omega), w64 (x := (i : Int) + 1) (by omega) (by omega)]
      simp only [if_true]
      have := e4 q (by omega)
      push_cast at this
      rw [this]
      congr 1; omega
theorem laws_mark_held_Int (xs : List Int) (hx : xs.length ≤ 1000000000) (m : Int) (h0 : 0 ≤ m) (hm : m ≤ 1000000000) (k q : Nat) (hk : xs.length < k) (hq : xs.length < q) :
    ∃ ys, laws_markIntS.f k xs m = some (m + (xs.length : Int), ys) ∧ laws_heldIntS.f q ys m = some (m + (xs.length : Int)) ∧ ys.length = xs.length := by
  obtain ⟨ys, h1, h3, _, h2⟩ := laws_markIntS_l0 xs.length k 0 xs m (by omega) (by omega) hk hx (by omega) (by omega)
  exact ⟨ys, h1, h2 q hq, h3⟩

theorem FnExactUnpackRow : laws_FnExactUnpackRow.Pure := by
  intro s n d hs _ _
  refine ⟨2502, ?_⟩
  unfold laws_FnExactUnpackRow.f
  split
  · rfl
  rw [spec_UnpackRow_eq s hs n d 2502 (by omega), impl_UnpackRow_eq s hs n d 2502 (by omega)]
  simp only [Option.bind_some]
  have hl := unpackRow_len s n d
  generalize hr : unpackRow s n d = r at hl
  rw [laws_eqIntS_refl _ (by omega) _ (by omega)]
  simp only [Option.bind_some, if_true, laws_FnExactUnpackRow.j0]
  obtain ⟨ys, m1, m2, _⟩ := laws_mark_held_Int r.1 (by omega) 1 (by omega) (by omega) 2501 2501 (by omega) (by omega)
  rw [if_neg (by simp), m1]
  simp only [Option.bind_some]
  rw [m2]
  simp only [Option.bind_some]
  rw [if_neg (by omega)]
  simp only [if_true]
  rw [impl_UnpackRow_eq s hs n d 2501 (by omega), hr]
  simp only [Option.bind_some]
  rw [laws_eqIntS_refl _ (by omega) _ (by omega)]
  simp only [Option.bind_some, if_true, laws_FnExactUnpackRow.j1]
  obtain ⟨zs, n1, n2, _⟩ := laws_mark_held_Int r.1 (by omega) 1 (by omega) (by omega) 2501 2500 (by omega) (by omega)
  obtain rfl : ys = zs := by rw [m1] at n1; simpa using n1
  rw [if_neg (by simp), n2]
  simp only [Option.bind_some]
  rw [if_neg (by omega)]
  simp

end Go.Proofs.Ytcdpnaaeokjdaaa.Pure
