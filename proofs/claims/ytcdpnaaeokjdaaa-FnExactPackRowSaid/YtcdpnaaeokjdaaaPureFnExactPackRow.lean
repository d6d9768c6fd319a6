/- The program's PackRow returns what the reference's returns, for all arguments. -/
import Derived.Test.YtcdpnaaeokjdaaaPFnExactPackRowx4
set_option linter.unusedVariables false
set_option linter.unusedSimpArgs false
namespace Go.Proofs.Ytcdpnaaeokjdaaa.Pure
open Go.RowKit Go.Proofs.Ytcdpnaaeokjdaaa.PFnExactPackRow Go.Proofs.YtcdpnaaeokjdaaaW.PrintWords Go.Proofs.YtcdpnaaeokjdaaaW.PrintLast

theorem w64 {x : Int} (h : -9223372036854775808 ≤ x) (h' : x ≤ 9223372036854775807) : wrap64 x = x := by unfold wrap64; omega
theorem wf_i64 {a : Int} (h : (Lit.int .i64 a).wf = true) : -9223372036854775808 ≤ a ∧ a ≤ 9223372036854775807 := by
  simpa [Lit.wf, IntKind.min, IntKind.max, IntKind.signed, IntKind.bits] using h
theorem wbt (s : ByteArray) (i : Int) : wrap64 (bt s i) = bt s i := w64 (by have := bt_range s i; omega) (by have := bt_range s i; omega)

def p2 (n : Int) : Int := 2 ^ n.toNat
theorem p2_nat (n : Nat) : p2 n = ((2 ^ n : Nat) : Int) := by simp [p2]
theorem p2_succ (n : Int) (h : 0 ≤ n) : p2 (n + 1) = 2 * p2 n := by
  obtain ⟨m, rfl⟩ := Int.eq_ofNat_of_zero_le h
  have : ((m : Int) + 1) = ((m + 1 : Nat) : Int) := by omega
  rw [this, p2_nat, p2_nat, Nat.pow_succ]; push_cast; omega
theorem p2_zero : p2 0 = 1 := rfl
theorem p2_pos (n : Int) : 1 ≤ p2 n := by
  unfold p2
  have h := Nat.one_le_two_pow (n := n.toNat)
  exact_mod_cast h
theorem p2_le {m n : Int} (h : m ≤ n) : p2 m ≤ p2 n := by
  unfold p2
  have h := Nat.pow_le_pow_right (n := 2) (by decide) (show m.toNat ≤ n.toNat by omega)
  exact_mod_cast h
theorem p2_62 {n : Int} (h : n ≤ 62) : p2 n ≤ 4611686018427387904 := p2_le (n := 62) h
theorem p2_16 {n : Int} (h : n ≤ 16) : p2 n ≤ 65536 := p2_le (n := 16) h

theorem rd_at (xs : List Int) (i : Nat) (h : i < xs.length) : rd xs i = xs[i] := by simp [rd, List.getD, h]
def inB (m x : Int) : Bool := decide (0 ≤ x) && decide (x ≤ m)
theorem drop_all (p : Int → Bool) (xs : List Int) (i : Nat) (h : i < xs.length) : (xs.drop i).all p = (p xs[i] && (xs.drop (i + 1)).all p) := by
  rw [List.drop_eq_getElem_cons h]; rfl
theorem drop_all_end (p : Int → Bool) (xs : List Int) (i : Nat) (h : xs.length ≤ i) : (xs.drop i).all p = true := by
  rw [List.drop_eq_nil_of_le h]; rfl

theorem str_append (xs ys : List Int) : strOfNums xs ++ strOfNums ys = strOfNums (xs ++ ys) := by
  apply ByteArray.ext
  apply Array.ext'
  rw [ByteArray.data_append, Array.toList_append, strOfNums_data, strOfNums_data, strOfNums_data, List.map_append]
theorem str_nil : (⟨#[]⟩ : ByteArray) = strOfNums [] := rfl
theorem str_size (xs : List Int) : (strOfNums xs).size = xs.length := strOfNums_size xs

def smallD (d : Int) : Bool := d == 1 || d == 2 || d == 4
def bigD (d : Int) : Bool := d == 8 || d == 16
def dok (c d : Int) : Bool := if c = 0 then smallD d || bigD d else if c = 3 then smallD d || d == 8 else if c = 2 then bigD d else if c = 4 then bigD d else if c = 6 then bigD d else false
theorem some_or (a b : Bool) : (if a = true then some true else some b) = some (a || b) := by cases a <;> rfl
theorem spec_DepthOk_eq (k : Nat) (hk : 1 ≤ k) (c d : Int) : spec_DepthOk.f k c d = some (dok c d) := by
  obtain ⟨k, rfl⟩ : ∃ m, k = m + 1 := ⟨k - 1, by omega⟩
  have e : ∀ x : Bool, spec_DepthOk.j0 (k + 1) c d x = some (if c = 0 then x || bigD d else if c = 3 then x || d == 8 else if c = 2 then bigD d else if c = 4 then bigD d else if c = 6 then bigD d else false) := by
    intro x
    have h8 : (if d = 8 then some true else some (d == 16)) = some (bigD d) := by unfold bigD; by_cases h : d = 8 <;> simp [h]
    simp only [spec_DepthOk.j0, h8, some_or]
    repeat (first | rfl | split)
  simp only [spec_DepthOk.f, e, dok, smallD]
  by_cases h1 : d = 1
  · simp [h1]
  by_cases h2 : d = 2
  · simp [h2]
  · have e1 : (d == 1) = false := by simpa using h1
    have e2 : (d == 2) = false := by simpa using h2
    simp only [h1, h2, e1, e2, if_false, Bool.false_or]

def depthB (d : Int) : Bool := smallD d || bigD d
theorem depthB_nat {d : Int} (h : depthB d = true) : ∃ D : Nat, d = D ∧ (D = 1 ∨ D = 2 ∨ D = 4 ∨ D = 8 ∨ D = 16) := by
  simp [depthB, smallD, bigD] at h
  rcases h with h | h
  · rcases h with (h | h) | h <;> subst h
    · exact ⟨1, rfl, by omega⟩
    · exact ⟨2, rfl, by omega⟩
    · exact ⟨4, rfl, by omega⟩
  · rcases h with h | h <;> subst h
    · exact ⟨8, rfl, by omega⟩
    · exact ⟨16, rfl, by omega⟩
/-- Bit t of the samples, the highest of each first. -/
def bitF (xs : List Int) (D t : Nat) : Int := if t < xs.length * D then xs.getD (t / D) 0 / 2 ^ (D - 1 - t % D) % 2 else 0
theorem bitF_bd (xs : List Int) (D t : Nat) : 0 ≤ bitF xs D t ∧ bitF xs D t ≤ 1 := by unfold bitF; split <;> omega
theorem bitF_at (xs : List Int) (D i k : Nat) (hi : i < xs.length) (hk : k < D) : bitF xs D (i * D + k) = xs[i] / 2 ^ (D - 1 - k) % 2 := by
  have h1 : (i * D + k) / D = i := by
    rw [Nat.mul_comm, Nat.mul_add_div (by omega), Nat.div_eq_of_lt hk, Nat.add_zero]
  have h2 : (i * D + k) % D = k := by
    rw [Nat.mul_comm, Nat.mul_add_mod, Nat.mod_eq_of_lt hk]
  have h3 : i * D + k < xs.length * D := by
    have : (i + 1) * D ≤ xs.length * D := Nat.mul_le_mul_right _ hi
    rw [Nat.succ_mul] at this; omega
  unfold bitF
  rw [if_pos h3, h1, h2]
  simp [List.getD, hi]
theorem bitF_past (xs : List Int) (D t : Nat) (h : xs.length * D ≤ t) : bitF xs D t = 0 := by
  unfold bitF; rw [if_neg (by omega)]
/-- Eight bits as a byte. -/
def byteV (f : Nat → Int) (j : Nat) : Int := f (8 * j) * 128 + f (8 * j + 1) * 64 + f (8 * j + 2) * 32 + f (8 * j + 3) * 16 + f (8 * j + 4) * 8 + f (8 * j + 5) * 4 + f (8 * j + 6) * 2 + f (8 * j + 7)
def isBits (f : Nat → Int) : Prop := ∀ t, 0 ≤ f t ∧ f t ≤ 1
theorem byteV_bd {f : Nat → Int} (h : isBits f) (j : Nat) : 0 ≤ byteV f j ∧ byteV f j ≤ 255 := by
  have := h (8 * j); have := h (8 * j + 1); have := h (8 * j + 2); have := h (8 * j + 3); have := h (8 * j + 4); have := h (8 * j + 5); have := h (8 * j + 6); have := h (8 * j + 7)
  unfold byteV; omega
def bytesV (f : Nat → Int) (N : Nat) : List Int := (List.range N).map (byteV f)
theorem bytesV_len (f : Nat → Int) (N : Nat) : (bytesV f N).length = N := by simp [bytesV]
theorem bytesV_get (f : Nat → Int) (N j : Nat) (h : j < N) : rd (bytesV f N) j = byteV f j := by
  rw [rd_at _ _ (by rw [bytesV_len]; exact h)]; simp [bytesV]
theorem bytesV_succ (f : Nat → Int) (N : Nat) : bytesV f (N + 1) = bytesV f N ++ [byteV f N] := by simp [bytesV, List.range_succ]
/-- How many bytes so many bits need. -/
def upN (n : Nat) : Nat := (n + 7) / 8
def packRow (xs : List Int) (d : Int) : ByteArray × Bool :=
  if depthB d && decide (xs.length ≤ 96) && xs.all (inB (p2 d - 1)) then (strOfNums (bytesV (bitF xs d.toNat) (upN (xs.length * d.toNat))), true) else (⟨#[]⟩, false)

theorem spec_l01Pow_l0 (n : Int) (h62 : n ≤ 62) (d : Nat) : ∀ (k : Nat) (i : Int), 0 ≤ i → i ≤ n → n - i = d → d < k → spec_l01Pow.l0 k n (p2 i) i = some (p2 n) := by
  induction d with
  | zero =>
    intro k i h0 h1 hd hk
    obtain ⟨k, rfl⟩ : ∃ m, k = m + 1 := ⟨k - 1, by omega⟩
    obtain rfl : i = n := by omega
    simp only [spec_l01Pow.l0]
    rw [if_neg (by omega)]
  | succ d ih =>
    intro k i h0 h1 hd hk
    obtain ⟨k, rfl⟩ : ∃ m, k = m + 1 := ⟨k - 1, by omega⟩
    have b1 := p2_pos (i + 1)
    have b2 := p2_62 (n := i + 1) (by omega)
    have e := p2_succ i h0
    simp only [spec_l01Pow.l0]
    rw [if_pos (by omega), ← e, w64 (x := p2 (i + 1)) (by omega) (by omega), w64 (x := i + 1) (by omega) (by omega)]
    exact ih k (i + 1) (by omega) (by omega) (by omega) (by omega)
theorem spec_l01Pow_eq (k : Nat) (n : Int) (h62 : n ≤ 62) (hk : 64 ≤ k) : spec_l01Pow.f k n = some (p2 n) := by
  unfold spec_l01Pow.f
  by_cases h0 : 0 ≤ n
  · exact spec_l01Pow_l0 n h62 n.toNat k 0 (by omega) h0 (by omega) (by omega)
  · obtain ⟨k, rfl⟩ : ∃ m, k = m + 1 := ⟨k - 1, by omega⟩
    simp only [spec_l01Pow.l0]
    rw [if_neg (by omega)]
    have : n.toNat = 0 := by omega
    unfold p2; rw [this]; rfl

theorem spec_l01In_eq (a b c : Int) : spec_l01In.f a b c = some (decide (b ≤ a) && decide (a ≤ c)) := by
  unfold spec_l01In.f
  by_cases h : b ≤ a <;> simp [h]

theorem spec_l12Depth_eq (k : Nat) (hk : 1 ≤ k) (d : Int) : spec_l12Depth.f k d = some (depthB d) := by
  unfold spec_l12Depth.f
  rw [spec_DepthOk_eq k hk]; simp [dok, depthB]
def bitL (xs : List Int) (D T : Nat) : List Int := (List.range T).map (bitF xs D)
theorem bitL_succ (xs : List Int) (D T : Nat) : bitL xs D (T + 1) = bitL xs D T ++ [bitF xs D T] := by simp [bitL, List.range_succ]
theorem bitL_len (xs : List Int) (D T : Nat) : (bitL xs D T).length = T := by simp [bitL]
theorem bitL_get (xs : List Int) (D T t : Nat) (h : t < T) : rd (bitL xs D T) t = bitF xs D t := by
  rw [rd_at _ _ (by rw [bitL_len]; exact h)]; simp [bitL]
/-- The bits of a sample. -/
theorem spec_PackRow_l1 (xs : List Int) (D : Nat) (hD : D ≤ 16) (i : Nat) (hi : i < xs.length) (hn : xs.length ≤ 96) (hx : 0 ≤ xs[i] ∧ xs[i] ≤ 1000000) (r : Nat) : ∀ (k : Nat), r ≤ D → r + 70 < k →
    spec_PackRow.l1 k xs D (bitL xs D (i * D + (D - r))) i ((r : Int) - 1) = spec_PackRow.l0 (k - r - 1) xs D (bitL xs D ((i + 1) * D)) (i + 1 : Nat) := by
  induction r with
  | zero =>
    intro k hr hk
    obtain ⟨k, rfl⟩ : ∃ m, k = m + 1 := ⟨k - 1, by omega⟩
    simp only [spec_PackRow.l1]
    rw [if_neg (by omega), w64 (by omega) (by omega)]
    rw [show i * D + (D - 0) = (i + 1) * D by rw [Nat.succ_mul]; omega]
    rfl
  | succ r ih =>
    intro k hr hk
    obtain ⟨k, rfl⟩ : ∃ m, k = m + 1 := ⟨k - 1, by omega⟩
    have e : (((r + 1 : Nat) : Int) - 1) = r := by omega
    have lim : i * D ≤ 96 * 16 := Nat.mul_le_mul (by omega) hD
    have b1 := p2_pos (r : Int)
    have b2 := p2_16 (n := (r : Int)) (by omega)
    have bq : 0 ≤ xs[i] / p2 r ∧ xs[i] / p2 r ≤ 1000000 := ⟨Int.ediv_nonneg hx.1 (by omega), Int.le_trans (Int.ediv_le_self _ hx.1) hx.2⟩
    rw [e]
    simp only [spec_PackRow.l1]
    rw [if_pos (by omega), if_pos (by omega), if_pos (by omega), spec_l01Pow_eq k r (by omega) (by omega)]
    simp only [Option.bind_some]
    rw [if_neg (by omega), if_pos (by rw [bitL_len]; omega), rd_at xs i hi, Int.tdiv_eq_ediv_of_nonneg hx.1, w64 (x := xs[i] / p2 r) (by omega) (by omega), Int.tmod_eq_emod_of_nonneg bq.1, w64 (x := (r : Int) - 1) (by omega) (by omega)]
    have q := bitF_at xs D i (D - (r + 1)) hi (by omega)
    rw [show D - 1 - (D - (r + 1)) = r by omega] at q
    have q2 : xs[i] / p2 (r : Int) % 2 = bitF xs D (i * D + (D - (r + 1))) := by rw [q]; rfl
    rw [q2, ← bitL_succ, show i * D + (D - (r + 1)) + 1 = i * D + (D - r) by omega, ih k (by omega) (by omega), show k - r - 1 = k + 1 - (r + 1) - 1 by omega]
theorem spec_PackRow_l0 (xs : List Int) (D : Nat) (hD : D ≤ 16) (hn : xs.length ≤ 96) (d : Nat) : ∀ (k i : Nat), i ≤ xs.length → xs.length - i = d → d * 20 + 2600 ≤ k →
    ∃ q, 2500 ≤ q ∧ spec_PackRow.l0 k xs D (bitL xs D (i * D)) i = if (xs.drop i).all (inB (p2 D - 1)) then spec_PackRow.l2 q (bitL xs D (xs.length * D)) else some (⟨#[]⟩, false) := by
  induction d with
  | zero =>
    intro k i hi hd hk
    obtain ⟨k, rfl⟩ : ∃ m, k = m + 1 := ⟨k - 1, by omega⟩
    obtain rfl : i = xs.length := by omega
    refine ⟨k, by omega, ?_⟩
    simp only [spec_PackRow.l0]
    rw [if_neg (by omega), drop_all_end _ _ _ (by omega), if_pos rfl]
  | succ d ih =>
    intro k i hi hd hk
    obtain ⟨k, rfl⟩ : ∃ m, k = m + 1 := ⟨k - 1, by omega⟩
    have lt : i < xs.length := by omega
    have b1 := p2_pos (D : Int)
    have b2 := p2_16 (n := (D : Int)) (by omega)
    simp only [spec_PackRow.l0]
    rw [if_pos (by omega), if_pos (by omega), spec_l01Pow_eq k D (by omega) (by omega)]
    simp only [Option.bind_some]
    rw [w64 (x := p2 D - 1) (by omega) (by omega), spec_l01In_eq, rd_at xs i lt, w64 (x := (D : Int) - 1) (by omega) (by omega), drop_all _ _ _ lt]
    simp only [Option.bind_some]
    by_cases hb : inB (p2 D - 1) xs[i] = true
    · have hb' := hb
      simp only [inB, Bool.and_eq_true, decide_eq_true_eq] at hb'
      have s1 := spec_PackRow_l1 xs D hD i lt hn (by omega) D k (by omega) (by omega)
      rw [Nat.sub_self, Nat.add_zero] at s1
      obtain ⟨q, hq, e⟩ := ih (k - D - 1) (i + 1) (by omega) (by omega) (by omega)
      refine ⟨q, hq, ?_⟩
      rw [hb, Bool.true_and, ← e, ← s1]
      unfold inB at hb
      rw [if_pos hb]
    · have hb' : inB (p2 D - 1) xs[i] = false := by simpa using hb
      refine ⟨k, by omega, ?_⟩
      rw [hb', Bool.false_and]
      unfold inB at hb'
      rw [hb']
      rfl
theorem spec_PackRow_l2 (xs : List Int) (D : Nat) (hD : D ≤ 16) (hn : xs.length ≤ 96) (r : Nat) : ∀ (k T : Nat), xs.length * D ≤ T → T + r = 8 * upN (xs.length * D) → r < 8 → r + 2100 ≤ k → ∃ q, 2090 ≤ q ∧ spec_PackRow.l2 k (bitL xs D T) = spec_PackRow.l3 q (bitL xs D (8 * upN (xs.length * D))) [] 0 := by
  have lim : xs.length * D ≤ 96 * 16 := Nat.mul_le_mul hn hD
  induction r with
  | zero =>
    intro k T h1 h2 h3 hk
    obtain ⟨k, rfl⟩ : ∃ m, k = m + 1 := ⟨k - 1, by omega⟩
    refine ⟨k, by omega, ?_⟩
    simp only [spec_PackRow.l2]
    rw [bitL_len, if_pos (by omega), ← h2]; rfl
  | succ r ih =>
    intro k T h1 h2 h3 hk
    obtain ⟨k, rfl⟩ : ∃ m, k = m + 1 := ⟨k - 1, by omega⟩
    obtain ⟨q, hq, e⟩ := ih k (T + 1) (by omega) (by omega) (by omega) (by omega)
    refine ⟨q, hq, ?_⟩
    simp only [spec_PackRow.l2]
    rw [bitL_len, if_neg (by omega), if_pos (by unfold upN at h2; omega), ← e, bitL_succ, bitF_past xs D T h1]
theorem spec_PackRow_l4 (xs : List Int) (D N j : Nat) (hN : N ≤ 192) (hj : j < N) (k : Nat) (ys : List Int) (hy : ys.length ≤ 1000) : spec_PackRow.l4 (k + 9) (bitL xs D (8 * N)) ys ((8 * j : Nat) : Int) 0 0 = spec_PackRow.l3 k (bitL xs D (8 * N)) (ys ++ [byteV (bitF xs D) j]) ((8 * (j + 1) : Nat) : Int) := by
  have step : ∀ (k m : Nat) (a : Int), m < 8 → 0 ≤ a → a ≤ 255 → spec_PackRow.l4 (k + 1) (bitL xs D (8 * N)) ys ((8 * j : Nat) : Int) a m = spec_PackRow.l4 k (bitL xs D (8 * N)) ys ((8 * j : Nat) : Int) (2 * a + bitF xs D (8 * j + m)) (m + 1 : Nat) := by
    intro k m a hm h0 h1
    have b := bitF_bd xs D (8 * j + m)
    have g := bitL_get xs D (8 * N) (8 * j + m) (by omega)
    simp only [spec_PackRow.l4]
    rw [if_pos (by omega), bitL_len, w64 (x := ((8 * j : Nat) : Int) + m) (by omega) (by omega), if_pos (by omega), if_pos (by omega), show ((8 * j : Nat) : Int) + m = ((8 * j + m : Nat) : Int) by omega, g, w64 (x := 2 * a) (by omega) (by omega), w64 (x := 2 * a + bitF xs D (8 * j + m)) (by omega) (by omega), w64 (x := (m : Int) + 1) (by omega) (by omega)]
    rfl
  have b0 := bitF_bd xs D (8 * j); have b1 := bitF_bd xs D (8 * j + 1); have b2 := bitF_bd xs D (8 * j + 2); have b3 := bitF_bd xs D (8 * j + 3); have b4 := bitF_bd xs D (8 * j + 4); have b5 := bitF_bd xs D (8 * j + 5); have b6 := bitF_bd xs D (8 * j + 6); have b7 := bitF_bd xs D (8 * j + 7)
  have s0 := step (k + 8) 0 0 (by omega) (by omega) (by omega)
  simp only [Nat.add_zero] at s0
  change spec_PackRow.l4 (k + 9) _ ys _ 0 0 = _ at s0
  rw [s0, step (k + 7) 1 _ (by omega) (by omega) (by omega), step (k + 6) 2 _ (by omega) (by omega) (by omega), step (k + 5) 3 _ (by omega) (by omega) (by omega), step (k + 4) 4 _ (by omega) (by omega) (by omega), step (k + 3) 5 _ (by omega) (by omega) (by omega), step (k + 2) 6 _ (by omega) (by omega) (by omega), step (k + 1) 7 _ (by omega) (by omega) (by omega)]
  simp only [spec_PackRow.l4]
  rw [if_neg (by omega), if_pos (by omega), w64 (x := ((8 * j : Nat) : Int) + 8) (by omega) (by omega)]
  have e : (2 * (2 * (2 * (2 * (2 * (2 * (2 * (2 * 0 + bitF xs D (8 * j)) + bitF xs D (8 * j + 1)) + bitF xs D (8 * j + 2)) + bitF xs D (8 * j + 3)) + bitF xs D (8 * j + 4)) + bitF xs D (8 * j + 5)) + bitF xs D (8 * j + 6)) + bitF xs D (8 * j + 7)) % 256 = byteV (bitF xs D) j := by unfold byteV; omega
  rw [e, show ((8 * j : Nat) : Int) + 8 = ((8 * (j + 1) : Nat) : Int) by omega]
theorem spec_PackRow_l3 (xs : List Int) (D N : Nat) (hN : N ≤ 192) (r : Nat) : ∀ (k j : Nat), j + r = N → r * 10 + 1 ≤ k → spec_PackRow.l3 k (bitL xs D (8 * N)) (bytesV (bitF xs D) j) ((8 * j : Nat) : Int) = some (strOfNums (bytesV (bitF xs D) N), true) := by
  induction r with
  | zero =>
    intro k j hj hk
    obtain ⟨k, rfl⟩ : ∃ m, k = m + 1 := ⟨k - 1, by omega⟩
    obtain rfl : j = N := by omega
    simp only [spec_PackRow.l3]
    rw [bitL_len, if_neg (by omega)]
  | succ r ih =>
    intro k j hj hk
    obtain ⟨k, rfl⟩ : ∃ m, k = m + 10 := ⟨k - 10, by omega⟩
    have e := ih k (j + 1) (by omega) (by omega)
    rw [bytesV_succ] at e
    simp only [spec_PackRow.l3]
    rw [bitL_len, if_pos (by omega), spec_PackRow_l4 xs D N j hN (by omega) k _ (by rw [bytesV_len]; omega), e]
theorem spec_PackRow_eq (xs : List Int) (hx : xs.length ≤ 9223372036854775807) (d : Int) (k : Nat) (hk : 5000 ≤ k) : spec_PackRow.f k xs d = some (packRow xs d) := by
  unfold spec_PackRow.f packRow
  rw [spec_l12Depth_eq k (by omega)]
  simp only [Option.bind_some]
  obtain ⟨k, rfl⟩ : ∃ m, k = m + 1 := ⟨k - 1, by omega⟩
  by_cases hd : depthB d = true
  · obtain ⟨D, rfl, hD⟩ := depthB_nat hd
    rw [if_pos hd]
    simp only [spec_PackRow.j0, hd, Bool.true_and, Int.toNat_natCast]
    by_cases hn : xs.length ≤ 96
    · have lim : xs.length * D ≤ 96 * 16 := Nat.mul_le_mul hn (by omega)
      obtain ⟨q, hq, e⟩ := spec_PackRow_l0 xs D (by omega) hn xs.length k 0 (by omega) (by omega) (by omega)
      rw [Nat.zero_mul] at e
      change spec_PackRow.l0 k xs D [] 0 = _ at e
      rw [if_neg (by simp; omega), e, List.drop_zero]
      simp only [hn, decide_true, Bool.true_and]
      by_cases ha : xs.all (inB (p2 D - 1)) = true
      · obtain ⟨q2, hq2, e2⟩ := spec_PackRow_l2 xs D (by omega) hn (8 * upN (xs.length * D) - xs.length * D) q (xs.length * D) (by omega) (by unfold upN; omega) (by unfold upN; omega) (by unfold upN; omega)
        have e3 := spec_PackRow_l3 xs D (upN (xs.length * D)) (by unfold upN; omega) (upN (xs.length * D)) q2 0 (by omega) (by unfold upN; omega)
        rw [if_pos ha, if_pos ha, e2]
        exact e3
      · rw [if_neg ha, if_neg ha]
    · rw [if_pos (by simp; omega)]
      simp [hn]
  · rw [if_neg hd]
    simp [spec_PackRow.j0, hd]

theorem impl_within_eq (a b c : Int) : impl_within.f a b c = some (decide (b ≤ a) && decide (a ≤ c)) := by
  unfold impl_within.f
  by_cases h : b ≤ a <;> simp [h]

theorem shl_one (n : Int) (h0 : 0 ≤ n) (h62 : n ≤ 62) : shl .i64 1 n = p2 n := by
  have b1 := p2_pos n
  have b2 := p2_62 h62
  unfold shl
  rw [show min n.toNat IntKind.i64.bits = n.toNat by simp [IntKind.bits]; omega, Int.one_mul, IntKind.wrap_i64]
  show (p2 n + 9223372036854775808) % 18446744073709551616 - 9223372036854775808 = p2 n
  omega
theorem impl_powerOf_eq (n : Int) : impl_powerOf.f n = some (if 0 ≤ n ∧ n ≤ 62 then p2 n else 0) := by
  unfold impl_powerOf.f
  rw [impl_within_eq]
  simp only [Option.bind_some]
  by_cases h0 : 0 ≤ n
  · by_cases h1 : n ≤ 62
    · simp [h0, h1, shl_one n h0 h1]
    · simp [h0, h1]
  · simp [h0]

theorem impl_samplesOk_l0 (n : Int) (h0 : 0 ≤ n) (h1 : n ≤ 62) (xs : List Int) (hx : xs.length ≤ 9223372036854775807) (d : Nat) : ∀ (k i : Nat), i ≤ xs.length → xs.length - i = d → d < k → impl_samplesOk.l0 k n xs xs.length i = some ((xs.drop i).all (inB (p2 n - 1))) := by
  induction d with
  | zero =>
    intro k i hi hd hk
    obtain ⟨k, rfl⟩ : ∃ m, k = m + 1 := ⟨k - 1, by omega⟩
    simp only [impl_samplesOk.l0]
    rw [if_neg (by omega), drop_all_end _ _ _ (by omega)]
  | succ d ih =>
    intro k i hi hd hk
    obtain ⟨k, rfl⟩ : ∃ m, k = m + 1 := ⟨k - 1, by omega⟩
    have lt : i < xs.length := by omega
    have b1 := p2_pos n
    have b2 := p2_62 h1
    simp only [impl_samplesOk.l0, impl_powerOf_eq, Option.bind_some]
    rw [if_pos (by omega), if_pos (by omega), if_pos (by omega), if_pos ⟨h0, h1⟩, w64 (x := p2 n - 1) (by omega) (by omega), impl_within_eq, rd_at xs i lt, w64 (by omega) (by omega), drop_all _ _ _ lt]
    simp only [Option.bind_some]
    have step := ih k (i + 1) (by omega) (by omega) (by omega)
    push_cast at step
    rw [step]
    unfold inB
    cases (decide (0 ≤ xs[i]) && decide (xs[i] ≤ p2 n - 1)) <;> simp
theorem impl_samplesOk_eq (n : Int) (h0 : 0 ≤ n) (h1 : n ≤ 62) (xs : List Int) (hx : xs.length ≤ 9223372036854775807) (k : Nat) (hk : xs.length < k) : impl_samplesOk.f k xs n = some (xs.all (inB (p2 n - 1))) := by
  unfold impl_samplesOk.f
  have := impl_samplesOk_l0 n h0 h1 xs hx xs.length k 0 (by omega) (by omega) hk
  simpa using this

def sideB (n : Int) : Bool := decide (1 ≤ n) && decide (n ≤ 24)
theorem sideB_iff (n : Int) : sideB n = true ↔ 1 ≤ n ∧ n ≤ 24 := by simp [sideB]

def chan (c : Int) : Int := if c = 0 then 1 else if c = 3 then 1 else if c = 2 then 3 else if c = 4 then 2 else if c = 6 then 4 else 0

def upB (n : Int) : Int := (n + 7) / 8
theorem upB_w (n : Int) (h : 0 ≤ n) (h' : n ≤ 9223372036854775800) : wrap64 (Int.tdiv (wrap64 (n + 7)) 8) = upB n := by
  unfold upB
  rw [w64 (x := n + 7) (by omega) (by omega), Int.tdiv_eq_ediv_of_nonneg (by omega), w64 (by omega) (by omega)]
theorem chan_bd (c : Int) : 0 ≤ chan c ∧ chan c ≤ 4 := by unfold chan; repeat (first | omega | split)
theorem dok_bd {c d : Int} (h : dok c d = true) : 1 ≤ d ∧ d ≤ 16 ∧ 1 ≤ chan c := by
  have hs : ∀ d : Int, smallD d = true → 1 ≤ d ∧ d ≤ 4 := by intro d h; simp [smallD] at h; omega
  have hb : ∀ d : Int, bigD d = true → 8 ≤ d ∧ d ≤ 16 := by intro d h; simp [bigD] at h; omega
  unfold dok at h
  unfold chan
  split at h
  · rename_i e; simp only [e, if_true, Bool.or_eq_true] at h ⊢
    rcases h with h | h
    · have := hs d h; omega
    · have := hb d h; omega
  · rename_i e0
    simp only [e0, if_false]
    split at h
    · rename_i e; simp only [e, if_true, Bool.or_eq_true, beq_iff_eq] at h ⊢
      rcases h with h | h
      · have := hs d h; omega
      · omega
    · rename_i e3
      simp only [e3, if_false]
      split at h
      · rename_i e; simp only [e, if_true]; have := hb d h; omega
      · rename_i e2
        simp only [e2, if_false]
        split at h
        · rename_i e; simp only [e, if_true]; have := hb d h; omega
        · rename_i e4
          simp only [e4, if_false]
          split at h
          · rename_i e; simp only [e, if_true]; have := hb d h; omega
          · cases h
theorem mul_bd {a b : Int} {m n : Int} (ha : 0 ≤ a) (ha' : a ≤ m) (hb : 0 ≤ b) (hb' : b ≤ n) : 0 ≤ a * b ∧ a * b ≤ m * n :=
  ⟨Int.mul_nonneg ha hb, Int.mul_le_mul ha' hb' hb (by omega)⟩
/-- How many bytes a row has. -/
def rowBytes (w c d : Int) : Int := if sideB w && dok c d then upB (w * chan c * d) else 0
theorem row_bd {w c d : Int} (h : sideB w = true) (h' : dok c d = true) : 0 ≤ w * chan c ∧ w * chan c ≤ 96 ∧ 0 ≤ w * chan c * d ∧ w * chan c * d ≤ 1536 := by
  rw [sideB_iff] at h
  have h2 := dok_bd h'
  have h3 := chan_bd c
  have h4 := mul_bd (a := w) (b := chan c) (m := 24) (n := 4) (by omega) (by omega) (by omega) (by omega)
  have h5 := mul_bd (a := w * chan c) (b := d) (m := 96) (n := 16) (by omega) (by omega) (by omega) (by omega)
  omega

theorem impl_isDepth_eq (d : Int) : impl_isDepth.f d = some (smallD d || bigD d) := by
  simp only [impl_isDepth.f, smallD, bigD]
  by_cases h1 : d = 1
  · simp [h1]
  by_cases h2 : d = 2
  · simp [h2]
  by_cases h4 : d = 4
  · simp [h4]
  by_cases h8 : d = 8
  · simp [h8]
  · have e1 : (d == 1) = false := by simpa using h1
    have e2 : (d == 2) = false := by simpa using h2
    have e4 : (d == 4) = false := by simpa using h4
    have e8 : (d == 8) = false := by simpa using h8
    simp only [h1, h2, h4, h8, e1, e2, e4, e8, if_false, Bool.false_or]

theorem impl_up_eq' (n : Nat) (h : n ≤ 1000000) : impl_up.f n = some ((upN n : Nat) : Int) := by
  unfold impl_up.f
  rw [upB_w _ (by omega) (by omega)]
  unfold upB upN
  congr 1
/-- The first t bits alone. -/
def upto (f : Nat → Int) (t u : Nat) : Int := if u < t then f u else 0
theorem upto_bits {f : Nat → Int} (h : isBits f) (t : Nat) : isBits (upto f t) := fun u => by
  unfold upto; have := h u; split <;> omega
theorem upto_succ (f : Nat → Int) (t u : Nat) : upto f (t + 1) u = if u = t then f t else upto f t u := by
  unfold upto
  by_cases h : u = t
  · subst h; simp
  · rw [if_neg h]
    by_cases h2 : u < t
    · rw [if_pos (by omega), if_pos h2]
    · rw [if_neg (by omega), if_neg h2]
theorem byteV_other (f : Nat → Int) (t j : Nat) (h : j ≠ t / 8) : byteV (upto f (t + 1)) j = byteV (upto f t) j := by
  unfold byteV
  simp only [upto_succ]
  rw [if_neg (by omega), if_neg (by omega), if_neg (by omega), if_neg (by omega), if_neg (by omega), if_neg (by omega), if_neg (by omega), if_neg (by omega)]
/-- A bit put into its byte: there was none. -/
theorem byteV_or {f : Nat → Int} (hf : isBits f) (t : Nat) : Go.bits .or .u8 (byteV (upto f t) (t / 8)) (f t * 2 ^ (7 - t % 8)) = byteV (upto f (t + 1)) (t / 8) := by
  have hb := byteV_bd (upto_bits hf t) (t / 8)
  have ft := hf t
  have u8 : ∀ n : Int, 0 ≤ n → n < 2 ^ 8 → IntKind.u8.wrap n = n := wraps_u8
  obtain ⟨q, m, rfl, hm⟩ : ∃ q m, t = 8 * q + m ∧ m < 8 := ⟨t / 8, t % 8, by omega, by omega⟩
  have e1 : (8 * q + m) / 8 = q := by omega
  have e2 : (8 * q + m) % 8 = m := by omega
  rw [e1] at hb ⊢
  rw [e2]
  have past : ∀ u, 8 * q + m ≤ u → upto f (8 * q + m) u = 0 := fun u hu => by unfold upto; rw [if_neg (by omega)]
  have key : byteV (upto f (8 * q + m)) q % 2 ^ (8 - m) = 0 ∧ byteV (upto f (8 * q + m + 1)) q = byteV (upto f (8 * q + m)) q + f (8 * q + m) * 2 ^ (7 - m) := by
    unfold byteV
    simp only [upto_succ]
    have : m = 0 ∨ m = 1 ∨ m = 2 ∨ m = 3 ∨ m = 4 ∨ m = 5 ∨ m = 6 ∨ m = 7 := by omega
    rcases this with rfl | rfl | rfl | rfl | rfl | rfl | rfl | rfl
    all_goals
      try rw [past (8 * q) (by omega)]
      try rw [past (8 * q + 1) (by omega)]
      try rw [past (8 * q + 2) (by omega)]
      try rw [past (8 * q + 3) (by omega)]
      try rw [past (8 * q + 4) (by omega)]
      try rw [past (8 * q + 5) (by omega)]
      try rw [past (8 * q + 6) (by omega)]
      rw [past (8 * q + 7) (by omega)]
      simp
      try omega
  have hlt : f (8 * q + m) * 2 ^ (7 - m) < 2 ^ (8 - m) ∧ f (8 * q + m) * 2 ^ (7 - m) < 2 ^ 8 ∧ 0 ≤ f (8 * q + m) * 2 ^ (7 - m) := by
    have : m = 0 ∨ m = 1 ∨ m = 2 ∨ m = 3 ∨ m = 4 ∨ m = 5 ∨ m = 6 ∨ m = 7 := by omega
    rcases this with rfl | rfl | rfl | rfl | rfl | rfl | rfl | rfl <;> simp at ft ⊢ <;> omega
  rw [bits_join .u8 8 (by decide) u8 (8 - m) _ _ hb.1 key.1 (by omega) hlt.2.2 hlt.1 hlt.2.1, key.2]
theorem bytesV_set {f : Nat → Int} (hf : isBits f) (N t : Nat) (h : t / 8 < N) : (bytesV (upto f t) N).set (t / 8) (Go.bits .or .u8 (byteV (upto f t) (t / 8)) (f t * 2 ^ (7 - t % 8))) = bytesV (upto f (t + 1)) N := by
  rw [byteV_or hf]
  apply List.ext_getElem?
  intro j
  by_cases e : j = t / 8
  · subst e
    rw [List.getElem?_set_self (by rw [bytesV_len]; exact h)]
    simp [bytesV, h]
  · rw [List.getElem?_set_ne (by omega)]
    simp only [bytesV, List.getElem?_map]
    by_cases hj : j < N
    · rw [List.getElem?_range hj]
      simp only [Option.map_some]
      rw [byteV_other f t j e]
    · rw [List.getElem?_eq_none (by simp; omega)]; rfl
theorem bytesV_zero (f : Nat → Int) (N : Nat) : bytesV (upto f 0) N = List.replicate N 0 := by
  have e : ∀ u, upto f 0 u = 0 := fun u => by unfold upto; rw [if_neg (by omega)]
  apply List.ext_getElem (by simp [bytesV])
  intro j h1 h2
  simp [bytesV, byteV, e]
theorem bytesV_all (xs : List Int) (D N : Nat) : bytesV (upto (bitF xs D) (xs.length * D)) N = bytesV (bitF xs D) N := by
  have e : upto (bitF xs D) (xs.length * D) = bitF xs D := by
    funext u
    unfold upto
    split
    · rfl
    · rw [bitF_past xs D u (by omega)]
  rw [e]
theorem impl_bit (x : Int) (hx : 0 ≤ x ∧ x ≤ 1000000) (c m : Nat) (hc : c ≤ 15) (hm : m ≤ 7) : shl .u8 ((Go.bits .and .i64 (shr .i64 x (c : Int)) 1) % 256) (m : Int) = x / 2 ^ c % 2 * 2 ^ m := by
  have e1 : shr .i64 x (c : Int) = x / 2 ^ c := by
    unfold shr
    rw [show min (c : Int).toNat IntKind.i64.bits = c by simp [IntKind.bits]; omega]
  have b := p2_pos (c : Int)
  have q : 0 ≤ x / 2 ^ c ∧ x / 2 ^ c ≤ 1000000 := ⟨Int.ediv_nonneg hx.1 (by exact_mod_cast Nat.zero_le _), Int.le_trans (Int.ediv_le_self _ hx.1) hx.2⟩
  have e2 : Go.bits .and .i64 (x / 2 ^ c) 1 = x / 2 ^ c % 2 := by
    have := bits_mask .i64 62 (by decide) (fun n h0 h1 => by rw [IntKind.wrap_i64]; omega) 1 (by omega) (x / 2 ^ c) q.1 (by omega)
    simpa using this
  rw [e1, e2]
  unfold shl
  rw [show min (m : Int).toNat IntKind.u8.bits = m by simp [IntKind.bits]; omega, IntKind.wrap_u8, show x / 2 ^ c % 2 % 256 = x / 2 ^ c % 2 by omega]
  have hb : 0 ≤ x / 2 ^ c % 2 ∧ x / 2 ^ c % 2 ≤ 1 := by omega
  have : m = 0 ∨ m = 1 ∨ m = 2 ∨ m = 3 ∨ m = 4 ∨ m = 5 ∨ m = 6 ∨ m = 7 := by omega
  rcases this with rfl | rfl | rfl | rfl | rfl | rfl | rfl | rfl <;> simp <;> omega
theorem impl_PackRow_l1 (xs : List Int) (D : Nat) (hD : 1 ≤ D ∧ D ≤ 16) (i : Nat) (hi : i < xs.length) (hn : xs.length ≤ 96) (hx : 0 ≤ xs[i] ∧ xs[i] ≤ 1000000) (r : Nat) : ∀ (k : Nat), r ≤ D → r < k →
    impl_PackRow.l1 k D (bytesV (upto (bitF xs D) (i * D + (D - r))) (upN (xs.length * D))) i xs[i] xs xs.length i D ((D - r : Nat) : Int) = impl_PackRow.l0 (k - r - 1) D (bytesV (upto (bitF xs D) ((i + 1) * D)) (upN (xs.length * D))) xs xs.length (i + 1 : Nat) := by
  have top : (i + 1) * D ≤ xs.length * D := Nat.mul_le_mul_right _ hi
  have lim : xs.length * D ≤ 96 * 16 := Nat.mul_le_mul hn hD.2
  have topi : (i + 1) * D = i * D + D := Nat.succ_mul _ _
  induction r with
  | zero =>
    intro k hr hk
    obtain ⟨k, rfl⟩ : ∃ m, k = m + 1 := ⟨k - 1, by omega⟩
    simp only [impl_PackRow.l1]
    rw [if_neg (by omega), w64 (by omega) (by omega), Nat.sub_zero, ← topi]
    rfl
  | succ r ih =>
    intro k hr hk
    obtain ⟨k, rfl⟩ : ∃ m, k = m + 1 := ⟨k - 1, by omega⟩
    obtain ⟨c, hc⟩ : ∃ c, c = D - (r + 1) := ⟨_, rfl⟩
    rw [← hc]
    have q := bitF_at xs D i c hi (by omega)
    have t8 : (i * D + c) / 8 < upN (xs.length * D) := by unfold upN; omega
    have iD : (i : Int) * (D : Int) = ((i * D : Nat) : Int) := by push_cast; rfl
    have ix : Int.tdiv ((i * D : Nat) + (c : Int)) 8 = ((i * D + c) / 8 : Nat) := by rw [Int.tdiv_eq_ediv_of_nonneg (by omega)]; omega
    have rx : Int.tmod ((i * D : Nat) + (c : Int)) 8 = ((i * D + c) % 8 : Nat) := by rw [Int.tmod_eq_emod_of_nonneg (by omega)]; omega
    have bit := impl_bit xs[i] hx (D - 1 - c) (7 - (i * D + c) % 8) (by omega) (by omega)
    rw [← q] at bit
    simp only [impl_PackRow.l1]
    rw [iD, w64 (x := ((i * D : Nat) : Int)) (by omega) (by omega), w64 (x := ((i * D : Nat) : Int) + c) (by omega) (by omega), ix, rx, w64 (x := (((i * D + c) / 8 : Nat) : Int)) (by omega) (by omega), w64 (x := (D : Int) - 1) (by omega) (by omega), w64 (x := (D : Int) - 1 - c) (by omega) (by omega), w64 (x := 7 - (((i * D + c) % 8 : Nat) : Int)) (by omega) (by omega), w64 (x := (c : Int) + 1) (by omega) (by omega)]
    rw [if_pos (by omega), if_pos (by omega), bytesV_len, if_pos (by omega), if_pos (by omega), if_pos (by omega), show (D : Int) - 1 - (c : Int) = ((D - 1 - c : Nat) : Int) by omega, show (7 : Int) - (((i * D + c) % 8 : Nat) : Int) = ((7 - (i * D + c) % 8 : Nat) : Int) by omega, bit, bytesV_get _ _ _ t8, Int.toNat_natCast, bytesV_set (bitF_bd xs D) _ _ t8]
    have e := ih k (by omega) (by omega)
    rw [show D - r = c + 1 by omega, ← Nat.add_assoc] at e
    push_cast at e ⊢
    rw [e, show k - r - 1 = k + 1 - (r + 1) - 1 by omega]
theorem impl_PackRow_l0 (xs : List Int) (D : Nat) (hD : 1 ≤ D ∧ D ≤ 16) (hn : xs.length ≤ 96) (ha : ∀ x ∈ xs, 0 ≤ x ∧ x ≤ 1000000) (d : Nat) : ∀ (k i : Nat), i ≤ xs.length → xs.length - i = d → d * 20 + 1 ≤ k →
    impl_PackRow.l0 k D (bytesV (upto (bitF xs D) (i * D)) (upN (xs.length * D))) xs xs.length i = some (strOfNums (bytesV (bitF xs D) (upN (xs.length * D))), true) := by
  induction d with
  | zero =>
    intro k i hi hd hk
    obtain ⟨k, rfl⟩ : ∃ m, k = m + 1 := ⟨k - 1, by omega⟩
    obtain rfl : i = xs.length := by omega
    simp only [impl_PackRow.l0]
    rw [if_neg (by omega), bytesV_all]
  | succ d ih =>
    intro k i hi hd hk
    obtain ⟨k, rfl⟩ : ∃ m, k = m + 1 := ⟨k - 1, by omega⟩
    have lt : i < xs.length := by omega
    have s1 := impl_PackRow_l1 xs D hD i lt hn (ha _ (List.getElem_mem lt)) D k (by omega) (by omega)
    rw [Nat.sub_self, Nat.add_zero] at s1
    simp only [impl_PackRow.l0]
    rw [if_pos (by omega), if_pos (by omega), if_pos (by omega), rd_at xs i lt]
    exact s1.trans (ih (k - D - 1) (i + 1) (by omega) (by omega) (by omega))
theorem all_inB {m : Int} {xs : List Int} (h : xs.all (inB m) = true) : ∀ x ∈ xs, 0 ≤ x ∧ x ≤ m := by
  intro x hx
  have := List.all_eq_true.1 h x hx
  simpa [inB] using this
theorem impl_PackRow_eq (xs : List Int) (hx : xs.length ≤ 9223372036854775807) (d : Int) (k : Nat) (hk : 5000 ≤ k) : impl_PackRow.f k xs d = some (packRow xs d) := by
  unfold impl_PackRow.f packRow
  rw [impl_isDepth_eq]
  simp only [Option.bind_some]
  change (if depthB d = true then _ else _) = _
  obtain ⟨k, rfl⟩ : ∃ m, k = m + 1 := ⟨k - 1, by omega⟩
  have no : impl_PackRow.j0 (k + 1) xs d true = some (⟨#[]⟩, false) := by simp [impl_PackRow.j0]
  by_cases hd : depthB d = true
  · obtain ⟨D, rfl, hD⟩ := depthB_nat hd
    rw [if_pos hd, no]
    by_cases hn : xs.length ≤ 96
    · have lim : xs.length * D ≤ 96 * 16 := Nat.mul_le_mul hn (by omega)
      have b16 := p2_16 (n := (D : Int)) (by omega)
      rw [if_neg (by omega), impl_samplesOk_eq (D : Int) (by omega) (by omega) xs hx _ (by omega)]
      simp only [Option.bind_some, hd, hn, decide_true, Bool.true_and, Int.toNat_natCast]
      by_cases ha : xs.all (inB (p2 D - 1)) = true
      · have ha' := all_inB ha
        have iD : (xs.length : Int) * (D : Int) = ((xs.length * D : Nat) : Int) := by push_cast; rfl
        rw [ha]
        simp only [impl_PackRow.j0, Bool.not_true]
        rw [if_neg (by decide), if_pos trivial, iD, w64 (by omega) (by omega), impl_up_eq' _ (by omega)]
        simp only [Option.bind_some, Int.toNat_natCast]
        rw [if_pos (by omega), if_pos (by unfold upN; omega), ← bytesV_zero (bitF xs D)]
        have R := impl_PackRow_l0 xs D (by omega) hn (fun x hx => by have := ha' x hx; omega) xs.length k 0 (by omega) (by omega) (by omega)
        rw [Nat.zero_mul] at R
        exact R
      · have ha' : xs.all (inB (p2 D - 1)) = false := by simpa using ha
        rw [ha', Bool.not_false, no]; rfl
    · rw [if_pos (by omega)]
      simp [hn]
  · rw [if_neg hd, no]
    simp [hd]

theorem laws_toIntS_l0 (xs : List Int) (hx : xs.length ≤ 9223372036854775807) (d : Nat) : ∀ (k i : Nat) (ys : List Int), i ≤ xs.length → xs.length - i = d → d < k → ys.length = xs.length → (∀ j : Nat, j < i → ys[j]? = xs[j]?) → laws_toIntS.l0 k xs ys i = some xs := by
  induction d with
  | zero =>
    intro k i ys hi hd hk hl hy
    obtain ⟨k, rfl⟩ : ∃ m, k = m + 1 := ⟨k - 1, by omega⟩
    simp only [laws_toIntS.l0]
    rw [if_neg (by omega)]
    congr 1
    apply List.ext_getElem?
    intro j
    by_cases hj : j < i
    · exact hy j hj
    · rw [List.getElem?_eq_none (by omega), List.getElem?_eq_none (by omega)]
  | succ d ih =>
    intro k i ys hi hd hk hl hy
    obtain ⟨k, rfl⟩ : ∃ m, k = m + 1 := ⟨k - 1, by omega⟩
    have lt : i < xs.length := by omega
    simp only [laws_toIntS.l0]
    rw [if_pos (by omega), if_pos (by omega), if_pos (by omega), rd_at xs i lt, w64 (by omega) (by omega), Int.toNat_natCast]
    refine ih k (i + 1) (ys.set i xs[i]) (by omega) (by omega) (by omega) (by simpa using hl) (fun j hj => ?_)
    by_cases e : j = i
    · subst e
      rw [List.getElem?_set_self (by omega), List.getElem?_eq_getElem lt]
    · rw [List.getElem?_set_ne (by omega), hy j (by omega)]
theorem laws_toIntS_eq (xs : List Int) (hx : xs.length ≤ 1048576) (k : Nat) (hk : xs.length < k) : laws_toIntS.f k xs = some xs := by
  unfold laws_toIntS.f
  rw [if_pos (by omega), if_pos (by omega), Int.toNat_natCast]
  exact laws_toIntS_l0 xs (by omega) xs.length k 0 _ (by omega) (by omega) hk (by simp) (fun j hj => absurd hj (by omega))

theorem laws_eqIntS_l0 (xs : List Int) (hx : xs.length ≤ 9223372036854775807) (d : Nat) : ∀ (k i : Nat), i ≤ xs.length → xs.length - i = d → d < k → laws_eqIntS.l0 k xs xs i = some true := by
  induction d with
  | zero =>
    intro k i hi hd hk
    obtain ⟨k, rfl⟩ : ∃ m, k = m + 1 := ⟨k - 1, by omega⟩
    simp only [laws_eqIntS.l0]
    rw [if_neg (by omega)]
  | succ d ih =>
    intro k i hi hd hk
    obtain ⟨k, rfl⟩ : ∃ m, k = m + 1 := ⟨k - 1, by omega⟩
    simp only [laws_eqIntS.l0]
    rw [if_pos (by omega), if_pos (by omega), if_pos (by omega)]
    simp only [if_true]
    rw [w64 (by omega) (by omega)]
    exact ih k (i + 1) (by omega) (by omega) (by omega)
theorem laws_eqIntS_refl (xs : List Int) (hx : xs.length ≤ 9223372036854775807) (k : Nat) (hk : xs.length < k) : laws_eqIntS.f k xs xs = some true := by
  unfold laws_eqIntS.f
  rw [if_pos rfl]
  exact laws_eqIntS_l0 xs hx xs.length k 0 (by omega) (by omega) hk

theorem FnExactPackRow : laws_FnExactPackRow.Pure := by
  intro xs d hx _ _ _
  have hx' : xs.length ≤ 9223372036854775807 := hx
  refine ⟨xs.length + 6000, ?_⟩
  unfold laws_FnExactPackRow.f
  by_cases hl : (xs.length : Int) > 1048576
  · rw [if_pos hl]
  · rw [if_neg hl, laws_toIntS_eq xs (by omega) _ (by omega)]
    simp only [Option.bind_some]
    rw [spec_PackRow_eq xs hx' d _ (by omega), impl_PackRow_eq xs hx' d _ (by omega)]
    simp only [Option.bind_some, if_true]
    obtain ⟨q, hq⟩ : ∃ q, xs.length + 6000 = q + 1 := ⟨xs.length + 5999, by omega⟩
    rw [hq]
    simp only [laws_FnExactPackRow.j0]
    rw [if_neg (by simp), laws_toIntS_eq xs (by omega) _ (by omega)]
    simp only [Option.bind_some]
    rw [laws_eqIntS_refl xs hx' _ (by omega)]
    simp

end Go.Proofs.Ytcdpnaaeokjdaaa.Pure
