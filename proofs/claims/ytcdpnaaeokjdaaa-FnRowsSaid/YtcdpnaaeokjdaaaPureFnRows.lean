/- Drawn samples come back from their bytes, whatever the depth, of which there are just as many as they need. -/
import Derived.Test.YtcdpnaaeokjdaaaPFnRowsx6
set_option linter.unusedVariables false
set_option linter.unusedSimpArgs false
namespace Go.Proofs.Ytcdpnaaeokjdaaa.Pure
open Go.RowKit Go.Proofs.Ytcdpnaaeokjdaaa.PFnRows Go.Proofs.YtcdpnaaeokjdaaaW.PrintWords Go.Proofs.YtcdpnaaeokjdaaaW.PrintLast

theorem w64 {x : Int} (h : -9223372036854775808 ≤ x) (h' : x ≤ 9223372036854775807) : wrap64 x = x := by unfold wrap64; omega
theorem wf_i64 {a : Int} (h : (Lit.int .i64 a).wf = true) : -9223372036854775808 ≤ a ∧ a ≤ 9223372036854775807 := by
  simpa [Lit.wf, IntKind.min, IntKind.max, IntKind.signed, IntKind.bits] using h
theorem wbt (s : ByteArray) (i : Int) : wrap64 (bt s i) = bt s i := w64 (by have := bt_range s i; omega) (by have := bt_range s i; omega)

def p2 (n : Int) : Int := 2 ^ n.toNat
theorem p2_nat (n : Nat) : p2 n = ((2 ^ n : Nat) : Int) := by simp [p2]
theorem p2_succ (n : Int) (h : 0 ≤ n) : p2 (n + 1) = 2 * p2 n := by
  obtain ⟨m, rfl⟩ := Int.eq_ofNat_of_zero_le h
  have : ((m : Int) + 1) = ((m + 1 : Nat) : Int) := by omega
  rw [this, p2_nat, p2_nat, Nat.pow_succ]; push_cast; omega
theorem p2_zero : p2 0 = 1 := rfl
theorem p2_pos (n : Int) : 1 ≤ p2 n := by
  unfold p2
  have h := Nat.one_le_two_pow (n := n.toNat)
  exact_mod_cast h
theorem p2_le {m n : Int} (h : m ≤ n) : p2 m ≤ p2 n := by
  unfold p2
  have h := Nat.pow_le_pow_right (n := 2) (by decide) (show m.toNat ≤ n.toNat by omega)
  exact_mod_cast h
theorem p2_62 {n : Int} (h : n ≤ 62) : p2 n ≤ 4611686018427387904 := p2_le (n := 62) h
theorem p2_16 {n : Int} (h : n ≤ 16) : p2 n ≤ 65536 := p2_le (n := 16) h

theorem rd_at (xs : List Int) (i : Nat) (h : i < xs.length) : rd xs i = xs[i] := by simp [rd, List.getD, h]
def inB (m x : Int) : Bool := decide (0 ≤ x) && decide (x ≤ m)
theorem drop_all (p : Int → Bool) (xs : List Int) (i : Nat) (h : i < xs.length) : (xs.drop i).all p = (p xs[i] && (xs.drop (i + 1)).all p) := by
  rw [List.drop_eq_getElem_cons h]; rfl
theorem drop_all_end (p : Int → Bool) (xs : List Int) (i : Nat) (h : xs.length ≤ i) : (xs.drop i).all p = true := by
  rw [List.drop_eq_nil_of_le h]; rfl

theorem str_append (xs ys : List Int) : strOfNums xs ++ strOfNums ys = strOfNums (xs ++ ys) := by
  apply ByteArray.ext
  apply Array.ext'
  rw [ByteArray.data_append, Array.toList_append, strOfNums_data, strOfNums_data, strOfNums_data, List.map_append]
theorem str_nil : (⟨#[]⟩ : ByteArray) = strOfNums [] := rfl
theorem str_size (xs : List Int) : (strOfNums xs).size = xs.length := strOfNums_size xs

def smallD (d : Int) : Bool := d == 1 || d == 2 || d == 4
def bigD (d : Int) : Bool := d == 8 || d == 16
def dok (c d : Int) : Bool := if c = 0 then smallD d || bigD d else if c = 3 then smallD d || d == 8 else if c = 2 then bigD d else if c = 4 then bigD d else if c = 6 then bigD d else false
theorem some_or (a b : Bool) : (if a = true then some true else some b) = some (a || b) := by cases a <;> rfl
theorem spec_DepthOk_eq (k : Nat) (hk : 1 ≤ k) (c d : Int) : spec_DepthOk.f k c d = some (dok c d) := by
  obtain ⟨k, rfl⟩ : ∃ m, k = m + 1 := ⟨k - 1, by omega⟩
  have e : ∀ x : Bool, spec_DepthOk.j0 (k + 1) c d x = some (if c = 0 then x || bigD d else if c = 3 then x || d == 8 else if c = 2 then bigD d else if c = 4 then bigD d else if c = 6 then bigD d else false) := by
    intro x
    have h8 : (if d = 8 then some true else some (d == 16)) = some (bigD d) := by unfold bigD; by_cases h : d = 8 <;> simp [h]
    simp only [spec_DepthOk.j0, h8, some_or]
    repeat (first | rfl | split)
  simp only [spec_DepthOk.f, e, dok, smallD]
  by_cases h1 : d = 1
  · simp [h1]
  by_cases h2 : d = 2
  · simp [h2]
  · have e1 : (d == 1) = false := by simpa using h1
    have e2 : (d == 2) = false := by simpa using h2
    simp only [h1, h2, e1, e2, if_false, Bool.false_or]

def depthB (d : Int) : Bool := smallD d || bigD d
theorem depthB_nat {d : Int} (h : depthB d = true) : ∃ D : Nat, d = D ∧ (D = 1 ∨ D = 2 ∨ D = 4 ∨ D = 8 ∨ D = 16) := by
  simp [depthB, smallD, bigD] at h
  rcases h with h | h
  · rcases h with (h | h) | h <;> subst h
    · exact ⟨1, rfl, by omega⟩
    · exact ⟨2, rfl, by omega⟩
    · exact ⟨4, rfl, by omega⟩
  · rcases h with h | h <;> subst h
    · exact ⟨8, rfl, by omega⟩
    · exact ⟨16, rfl, by omega⟩
/-- Bit t of the samples, the highest of each first. -/
def bitF (xs : List Int) (D t : Nat) : Int := if t < xs.length * D then xs.getD (t / D) 0 / 2 ^ (D - 1 - t % D) % 2 else 0
theorem bitF_bd (xs : List Int) (D t : Nat) : 0 ≤ bitF xs D t ∧ bitF xs D t ≤ 1 := by unfold bitF; split <;> omega
theorem bitF_at (xs : List Int) (D i k : Nat) (hi : i < xs.length) (hk : k < D) : bitF xs D (i * D + k) = xs[i] / 2 ^ (D - 1 - k) % 2 := by
  have h1 : (i * D + k) / D = i := by
    rw [Nat.mul_comm, Nat.mul_add_div (by omega), Nat.div_eq_of_lt hk, Nat.add_zero]
  have h2 : (i * D + k) % D = k := by
    rw [Nat.mul_comm, Nat.mul_add_mod, Nat.mod_eq_of_lt hk]
  have h3 : i * D + k < xs.length * D := by
    have : (i + 1) * D ≤ xs.length * D := Nat.mul_le_mul_right _ hi
    rw [Nat.succ_mul] at this; omega
  unfold bitF
  rw [if_pos h3, h1, h2]
  simp [List.getD, hi]
theorem bitF_past (xs : List Int) (D t : Nat) (h : xs.length * D ≤ t) : bitF xs D t = 0 := by
  unfold bitF; rw [if_neg (by omega)]
/-- Eight bits as a byte. -/
def byteV (f : Nat → Int) (j : Nat) : Int := f (8 * j) * 128 + f (8 * j + 1) * 64 + f (8 * j + 2) * 32 + f (8 * j + 3) * 16 + f (8 * j + 4) * 8 + f (8 * j + 5) * 4 + f (8 * j + 6) * 2 + f (8 * j + 7)
def isBits (f : Nat → Int) : Prop := ∀ t, 0 ≤ f t ∧ f t ≤ 1
theorem byteV_bd {f : Nat → Int} (h : isBits f) (j : Nat) : 0 ≤ byteV f j ∧ byteV f j ≤ 255 := by
  have := h (8 * j); have := h (8 * j + 1); have := h (8 * j + 2); have := h (8 * j + 3); have := h (8 * j + 4); have := h (8 * j + 5); have := h (8 * j + 6); have := h (8 * j + 7)
  unfold byteV; omega
def bytesV (f : Nat → Int) (N : Nat) : List Int := (List.range N).map (byteV f)
theorem bytesV_len (f : Nat → Int) (N : Nat) : (bytesV f N).length = N := by simp [bytesV]
theorem bytesV_get (f : Nat → Int) (N j : Nat) (h : j < N) : rd (bytesV f N) j = byteV f j := by
  rw [rd_at _ _ (by rw [bytesV_len]; exact h)]; simp [bytesV]
theorem bytesV_succ (f : Nat → Int) (N : Nat) : bytesV f (N + 1) = bytesV f N ++ [byteV f N] := by simp [bytesV, List.range_succ]
/-- How many bytes so many bits need. -/
def upN (n : Nat) : Nat := (n + 7) / 8
def packRow (xs : List Int) (d : Int) : ByteArray × Bool :=
  if depthB d && decide (xs.length ≤ 96) && xs.all (inB (p2 d - 1)) then (strOfNums (bytesV (bitF xs d.toNat) (upN (xs.length * d.toNat))), true) else (⟨#[]⟩, false)

theorem spec_l01Pow_l0 (n : Int) (h62 : n ≤ 62) (d : Nat) : ∀ (k : Nat) (i : Int), 0 ≤ i → i ≤ n → n - i = d → d < k → spec_l01Pow.l0 k n (p2 i) i = some (p2 n) := by
  induction d with
  | zero =>
    intro k i h0 h1 hd hk
    obtain ⟨k, rfl⟩ : ∃ m, k = m + 1 := ⟨k - 1, by omega⟩
    obtain rfl : i = n := by omega
    simp only [spec_l01Pow.l0]
    rw [if_neg (by omega)]
  | succ d ih =>
    intro k i h0 h1 hd hk
    obtain ⟨k, rfl⟩ : ∃ m, k = m + 1 := ⟨k - 1, by omega⟩
    have b1 := p2_pos (i + 1)
    have b2 := p2_62 (n := i + 1) (by omega)
    have e := p2_succ i h0
    simp only [spec_l01Pow.l0]
    rw [if_pos (by omega), ← e, w64 (x := p2 (i + 1)) (by omega) (by omega), w64 (x := i + 1) (by omega) (by omega)]
    exact ih k (i + 1) (by omega) (by omega) (by omega) (by omega)
theorem spec_l01Pow_eq (k : Nat) (n : Int) (h62 : n ≤ 62) (hk : 64 ≤ k) : spec_l01Pow.f k n = some (p2 n) := by
  unfold spec_l01Pow.f
  by_cases h0 : 0 ≤ n
  · exact spec_l01Pow_l0 n h62 n.toNat k 0 (by omega) h0 (by omega) (by omega)
  · obtain ⟨k, rfl⟩ : ∃ m, k = m + 1 := ⟨k - 1, by omega⟩
    simp only [spec_l01Pow.l0]
    rw [if_neg (by omega)]
    have : n.toNat = 0 := by omega
    unfold p2; rw [this]; rfl

theorem spec_l01In_eq (a b c : Int) : spec_l01In.f a b c = some (decide (b ≤ a) && decide (a ≤ c)) := by
  unfold spec_l01In.f
  by_cases h : b ≤ a <;> simp [h]

theorem spec_l12Depth_eq (k : Nat) (hk : 1 ≤ k) (d : Int) : spec_l12Depth.f k d = some (depthB d) := by
  unfold spec_l12Depth.f
  rw [spec_DepthOk_eq k hk]; simp [dok, depthB]

def bitL (xs : List Int) (D T : Nat) : List Int := (List.range T).map (bitF xs D)
theorem bitL_succ (xs : List Int) (D T : Nat) : bitL xs D (T + 1) = bitL xs D T ++ [bitF xs D T] := by simp [bitL, List.range_succ]
theorem bitL_len (xs : List Int) (D T : Nat) : (bitL xs D T).length = T := by simp [bitL]
theorem bitL_get (xs : List Int) (D T t : Nat) (h : t < T) : rd (bitL xs D T) t = bitF xs D t := by
  rw [rd_at _ _ (by rw [bitL_len]; exact h)]; simp [bitL]
/-- The bits of a sample. -/
theorem spec_PackRow_l1 (xs : List Int) (D : Nat) (hD : D ≤ 16) (i : Nat) (hi : i < xs.length) (hn : xs.length ≤ 96) (hx : 0 ≤ xs[i] ∧ xs[i] ≤ 1000000) (r : Nat) : ∀ (k : Nat), r ≤ D → r + 70 < k →
    spec_PackRow.l1 k xs D (bitL xs D (i * D + (D - r))) i ((r : Int) - 1) = spec_PackRow.l0 (k - r - 1) xs D (bitL xs D ((i + 1) * D)) (i + 1 : Nat) := by
  induction r with
  | zero =>
    intro k hr hk
    obtain ⟨k, rfl⟩ : ∃ m, k = m + 1 := ⟨k - 1, by omega⟩
    simp only [spec_PackRow.l1]
    rw [if_neg (by omega), w64 (by omega) (by omega)]
    rw [show i * D + (D - 0) = (i + 1) * D by rw [Nat.succ_mul]; omega]
    rfl
  | succ r ih =>
    intro k hr hk
    obtain ⟨k, rfl⟩ : ∃ m, k = m + 1 := ⟨k - 1, by omega⟩
    have e : (((r + 1 : Nat) : Int) - 1) = r := by omega
    have lim : i * D ≤ 96 * 16 := Nat.mul_le_mul (by omega) hD
    have b1 := p2_pos (r : Int)
    have b2 := p2_16 (n := (r : Int)) (by omega)
    have bq : 0 ≤ xs[i] / p2 r ∧ xs[i] / p2 r ≤ 1000000 := ⟨Int.ediv_nonneg hx.1 (by omega), Int.le_trans (Int.ediv_le_self _ hx.1) hx.2⟩
    rw [e]
    simp only [spec_PackRow.l1]
    rw [if_pos (by omega), if_pos (by omega), if_pos (by omega), spec_l01Pow_eq k r (by omega) (by omega)]
    simp only [Option.bind_some]
    rw [if_neg (by omega), if_pos (by rw [bitL_len]; omega), rd_at xs i hi, Int.tdiv_eq_ediv_of_nonneg hx.1, w64 (x := xs[i] / p2 r) (by omega) (by omega), Int.tmod_eq_emod_of_nonneg bq.1, w64 (x := (r : Int) - 1) (by omega) (by omega)]
    have q := bitF_at xs D i (D - (r + 1)) hi (by omega)
    rw [show D - 1 - (D - (r + 1)) = r by omega] at q
    have q2 : xs[i] / p2 (r : Int) % 2 = bitF xs D (i * D + (D - (r + 1))) := by rw [q]; rfl
    rw [q2, ← bitL_succ, show i * D + (D - (r + 1)) + 1 = i * D + (D - r) by omega, ih k (by omega) (by omega), show k - r - 1 = k + 1 - (r + 1) - 1 by omega]
theorem spec_PackRow_l0 (xs : List Int) (D : Nat) (hD : D ≤ 16) (hn : xs.length ≤ 96) (d : Nat) : ∀ (k i : Nat), i ≤ xs.length → xs.length - i = d → d * 20 + 2600 ≤ k →
    ∃ q, 2500 ≤ q ∧ spec_PackRow.l0 k xs D (bitL xs D (i * D)) i = if (xs.drop i).all (inB (p2 D - 1)) then spec_PackRow.l2 q (bitL xs D (xs.length * D)) else some (⟨#[]⟩, false) := by
  induction d with
  | zero =>
    intro k i hi hd hk
    obtain ⟨k, rfl⟩ : ∃ m, k = m + 1 := ⟨k - 1, by omega⟩
    obtain rfl : i = xs.length := by omega
    refine ⟨k, by omega, ?_⟩
    simp only [spec_PackRow.l0]
    rw [if_neg (by omega), drop_all_end _ _ _ (by omega), if_pos rfl]
  | succ d ih =>
    intro k i hi hd hk
    obtain ⟨k, rfl⟩ : ∃ m, k = m + 1 := ⟨k - 1, by omega⟩
    have lt : i < xs.length := by omega
    have b1 := p2_pos (D : Int)
    have b2 := p2_16 (n := (D : Int)) (by omega)
    simp only [spec_PackRow.l0]
    rw [if_pos (by omega), if_pos (by omega), spec_l01Pow_eq k D (by omega) (by omega)]
    simp only [Option.bind_some]
    rw [w64 (x := p2 D - 1) (by omega) (by omega), spec_l01In_eq, rd_at xs i lt, w64 (x := (D : Int) - 1) (by omega) (by omega), drop_all _ _ _ lt]
    simp only [Option.bind_some]
    by_cases hb : inB (p2 D - 1) xs[i] = true
    · have hb' := hb
      simp only [inB, Bool.and_eq_true, decide_eq_true_eq] at hb'
      have s1 := spec_PackRow_l1 xs D hD i lt hn (by omega) D k (by omega) (by omega)
      rw [Nat.sub_self, Nat.add_zero] at s1
      obtain ⟨q, hq, e⟩ := ih (k - D - 1) (i + 1) (by omega) (by omega) (by omega)
      refine ⟨q, hq, ?_⟩
      rw [hb, Bool.true_and, ← e, ← s1]
      unfold inB at hb
      rw [if_pos hb]
    · have hb' : inB (p2 D - 1) xs[i] = false := by simpa using hb
      refine ⟨k, by omega, ?_⟩
      rw [hb', Bool.false_and]
      unfold inB at hb'
      rw [hb']
      rfl
theorem spec_PackRow_l2 (xs : List Int) (D : Nat) (hD : D ≤ 16) (hn : xs.length ≤ 96) (r : Nat) : ∀ (k T : Nat), xs.length * D ≤ T → T + r = 8 * upN (xs.length * D) → r < 8 → r + 2100 ≤ k → ∃ q, 2090 ≤ q ∧ spec_PackRow.l2 k (bitL xs D T) = spec_PackRow.l3 q (bitL xs D (8 * upN (xs.length * D))) [] 0 := by
  have lim : xs.length * D ≤ 96 * 16 := Nat.mul_le_mul hn hD
  induction r with
  | zero =>
    intro k T h1 h2 h3 hk
    obtain ⟨k, rfl⟩ : ∃ m, k = m + 1 := ⟨k - 1, by omega⟩
    refine ⟨k, by omega, ?_⟩
    simp only [spec_PackRow.l2]
    rw [bitL_len, if_pos (by omega), ← h2]; rfl
  | succ r ih =>
    intro k T h1 h2 h3 hk
    obtain ⟨k, rfl⟩ : ∃ m, k = m + 1 := ⟨k - 1, by omega⟩
    obtain ⟨q, hq, e⟩ := ih k (T + 1) (by omega) (by omega) (by omega) (by omega)
    refine ⟨q, hq, ?_⟩
    simp only [spec_PackRow.l2]
    rw [bitL_len, if_neg (by omega), if_pos (by unfold upN at h2; omega), ← e, bitL_succ, bitF_past xs D T h1]
theorem spec_PackRow_l4 (xs : List Int) (D N j : Nat) (hN : N ≤ 192) (hj : j < N) (k : Nat) (ys : List Int) (hy : ys.length ≤ 1000) : spec_PackRow.l4 (k + 9) (bitL xs D (8 * N)) ys ((8 * j : Nat) : Int) 0 0 = spec_PackRow.l3 k (bitL xs D (8 * N)) (ys ++ [byteV (bitF xs D) j]) ((8 * (j + 1) : Nat) : Int) := by
  have step : ∀ (k m : Nat) (a : Int), m < 8 → 0 ≤ a → a ≤ 255 → spec_PackRow.l4 (k + 1) (bitL xs D (8 * N)) ys ((8 * j : Nat) : Int) a m = spec_PackRow.l4 k (bitL xs D (8 * N)) ys ((8 * j : Nat) : Int) (2 * a + bitF xs D (8 * j + m)) (m + 1 : Nat) := by
    intro k m a hm h0 h1
    have b := bitF_bd xs D (8 * j + m)
    have g := bitL_get xs D (8 * N) (8 * j + m) (by omega)
    simp only [spec_PackRow.l4]
    rw [if_pos (by omega), bitL_len, w64 (x := ((8 * j : Nat) : Int) + m) (by omega) (by omega), if_pos (by omega), if_pos (by omega), show ((8 * j : Nat) : Int) + m = ((8 * j + m : Nat) : Int) by omega, g, w64 (x := 2 * a) (by omega) (by omega), w64 (x := 2 * a + bitF xs D (8 * j + m)) (by omega) (by omega), w64 (x := (m : Int) + 1) (by omega) (by omega)]
    rfl
  have b0 := bitF_bd xs D (8 * j); have b1 := bitF_bd xs D (8 * j + 1); have b2 := bitF_bd xs D (8 * j + 2); have b3 := bitF_bd xs D (8 * j + 3); have b4 := bitF_bd xs D (8 * j + 4); have b5 := bitF_bd xs D (8 * j + 5); have b6 := bitF_bd xs D (8 * j + 6); have b7 := bitF_bd xs D (8 * j + 7)
  have s0 := step (k + 8) 0 0 (by omega) (by omega) (by omega)
  simp only [Nat.add_zero] at s0
  change spec_PackRow.l4 (k + 9) _ ys _ 0 0 = _ at s0
  rw [s0, step (k + 7) 1 _ (by omega) (by omega) (by omega), step (k + 6) 2 _ (by omega) (by omega) (by omega), step (k + 5) 3 _ (by omega) (by omega) (by omega), step (k + 4) 4 _ (by omega) (by omega) (by omega), step (k + 3) 5 _ (by omega) (by omega) (by omega), step (k + 2) 6 _ (by omega) (by omega) (by omega), step (k + 1) 7 _ (by omega) (by omega) (by omega)]
  simp only [spec_PackRow.l4]
  rw [if_neg (by omega), if_pos (by omega), w64 (x := ((8 * j : Nat) : Int) + 8) (by omega) (by omega)]
  have e : (2 * (2 * (2 * (2 * (2 * (2 * (2 * (2 * 0 + bitF xs D (8 * j)) + bitF xs D (8 * j + 1)) + bitF xs D (8 * j + 2)) + bitF xs D (8 * j + 3)) + bitF xs D (8 * j + 4)) + bitF xs D (8 * j + 5)) + bitF xs D (8 * j + 6)) + bitF xs D (8 * j + 7)) % 256 = byteV (bitF xs D) j := by unfold byteV; omega
  rw [e, show ((8 * j : Nat) : Int) + 8 = ((8 * (j + 1) : Nat) : Int) by omega]
theorem spec_PackRow_l3 (xs : List Int) (D N : Nat) (hN : N ≤ 192) (r : Nat) : ∀ (k j : Nat), j + r = N → r * 10 + 1 ≤ k → spec_PackRow.l3 k (bitL xs D (8 * N)) (bytesV (bitF xs D) j) ((8 * j : Nat) : Int) = some (strOfNums (bytesV (bitF xs D) N), true) := by
  induction r with
  | zero =>
    intro k j hj hk
    obtain ⟨k, rfl⟩ : ∃ m, k = m + 1 := ⟨k - 1, by omega⟩
    obtain rfl : j = N := by omega
    simp only [spec_PackRow.l3]
    rw [bitL_len, if_neg (by omega)]
  | succ r ih =>
    intro k j hj hk
    obtain ⟨k, rfl⟩ : ∃ m, k = m + 10 := ⟨k - 10, by omega⟩
    have e := ih k (j + 1) (by omega) (by omega)
    rw [bytesV_succ] at e
    simp only [spec_PackRow.l3]
    rw [bitL_len, if_pos (by omega), spec_PackRow_l4 xs D N j hN (by omega) k _ (by rw [bytesV_len]; omega), e]
theorem spec_PackRow_eq (xs : List Int) (hx : xs.length ≤ 9223372036854775807) (d : Int) (k : Nat) (hk : 5000 ≤ k) : spec_PackRow.f k xs d = some (packRow xs d) := by
  unfold spec_PackRow.f packRow
  rw [spec_l12Depth_eq k (by omega)]
  simp only [Option.bind_some]
  obtain ⟨k, rfl⟩ : ∃ m, k = m + 1 := ⟨k - 1, by omega⟩
  by_cases hd : depthB d = true
  · obtain ⟨D, rfl, hD⟩ := depthB_nat hd
    rw [if_pos hd]
    simp only [spec_PackRow.j0, hd, Bool.true_and, Int.toNat_natCast]
    by_cases hn : xs.length ≤ 96
    · have lim : xs.length * D ≤ 96 * 16 := Nat.mul_le_mul hn (by omega)
      obtain ⟨q, hq, e⟩ := spec_PackRow_l0 xs D (by omega) hn xs.length k 0 (by omega) (by omega) (by omega)
      rw [Nat.zero_mul] at e
      change spec_PackRow.l0 k xs D [] 0 = _ at e
      rw [if_neg (by simp; omega), e, List.drop_zero]
      simp only [hn, decide_true, Bool.true_and]
      by_cases ha : xs.all (inB (p2 D - 1)) = true
      · obtain ⟨q2, hq2, e2⟩ := spec_PackRow_l2 xs D (by omega) hn (8 * upN (xs.length * D) - xs.length * D) q (xs.length * D) (by omega) (by unfold upN; omega) (by unfold upN; omega) (by unfold upN; omega)
        have e3 := spec_PackRow_l3 xs D (upN (xs.length * D)) (by unfold upN; omega) (upN (xs.length * D)) q2 0 (by omega) (by unfold upN; omega)
        rw [if_pos ha, if_pos ha, e2]
        exact e3
      · rw [if_neg ha, if_neg ha]
    · rw [if_pos (by simp; omega)]
      simp [hn]
  · rw [if_neg hd]
    simp [spec_PackRow.j0, hd]

theorem impl_within_eq (a b c : Int) : impl_within.f a b c = some (decide (b ≤ a) && decide (a ≤ c)) := by
  unfold impl_within.f
  by_cases h : b ≤ a <;> simp [h]

theorem shl_one (n : Int) (h0 : 0 ≤ n) (h62 : n ≤ 62) : shl .i64 1 n = p2 n := by
  have b1 := p2_pos n
  have b2 := p2_62 h62
  unfold shl
  rw [show min n.toNat IntKind.i64.bits = n.toNat by simp [IntKind.bits]; omega, Int.one_mul, IntKind.wrap_i64]
  show (p2 n + 9223372036854775808) % 18446744073709551616 - 9223372036854775808 = p2 n
  omega
theorem impl_powerOf_eq (n : Int) : impl_powerOf.f n = some (if 0 ≤ n ∧ n ≤ 62 then p2 n else 0) := by
  unfold impl_powerOf.f
  rw [impl_within_eq]
  simp only [Option.bind_some]
  by_cases h0 : 0 ≤ n
  · by_cases h1 : n ≤ 62
    · simp [h0, h1, shl_one n h0 h1]
    · simp [h0, h1]
  · simp [h0]

theorem impl_samplesOk_l0 (n : Int) (h0 : 0 ≤ n) (h1 : n ≤ 62) (xs : List Int) (hx : xs.length ≤ 9223372036854775807) (d : Nat) : ∀ (k i : Nat), i ≤ xs.length → xs.length - i = d → d < k → impl_samplesOk.l0 k n xs xs.length i = some ((xs.drop i).all (inB (p2 n - 1))) := by
  induction d with
  | zero =>
    intro k i hi hd hk
    obtain ⟨k, rfl⟩ : ∃ m, k = m + 1 := ⟨k - 1, by omega⟩
    simp only [impl_samplesOk.l0]
    rw [if_neg (by omega), drop_all_end _ _ _ (by omega)]
  | succ d ih =>
    intro k i hi hd hk
    obtain ⟨k, rfl⟩ : ∃ m, k = m + 1 := ⟨k - 1, by omega⟩
    have lt : i < xs.length := by omega
    have b1 := p2_pos n
    have b2 := p2_62 h1
    simp only [impl_samplesOk.l0, impl_powerOf_eq, Option.bind_some]
    rw [if_pos (by omega), if_pos (by omega), if_pos (by omega), if_pos ⟨h0, h1⟩, w64 (x := p2 n - 1) (by omega) (by omega), impl_within_eq, rd_at xs i lt, w64 (by omega) (by omega), drop_all _ _ _ lt]
    simp only [Option.bind_some]
    have step := ih k (i + 1) (by omega) (by omega) (by omega)
    push_cast at step
    rw [step]
    unfold inB
    cases (decide (0 ≤ xs[i]) && decide (xs[i] ≤ p2 n - 1)) <;> simp
theorem impl_samplesOk_eq (n : Int) (h0 : 0 ≤ n) (h1 : n ≤ 62) (xs : List Int) (hx : xs.length ≤ 9223372036854775807) (k : Nat) (hk : xs.length < k) : impl_samplesOk.f k xs n = some (xs.all (inB (p2 n - 1))) := by
  unfold impl_samplesOk.f
  have := impl_samplesOk_l0 n h0 h1 xs hx xs.length k 0 (by omega) (by omega) hk
  simpa using this

def sideB (n : Int) : Bool := decide (1 ≤ n) && decide (n ≤ 24)
theorem sideB_iff (n : Int) : sideB n = true ↔ 1 ≤ n ∧ n ≤ 24 := by simp [sideB]

def chan (c : Int) : Int := if c = 0 then 1 else if c = 3 then 1 else if c = 2 then 3 else if c = 4 then 2 else if c = 6 then 4 else 0

def upB (n : Int) : Int := (n + 7) / 8
theorem upB_w (n : Int) (h : 0 ≤ n) (h' : n ≤ 9223372036854775800) : wrap64 (Int.tdiv (wrap64 (n + 7)) 8) = upB n := by
  unfold upB
  rw [w64 (x := n + 7) (by omega) (by omega), Int.tdiv_eq_ediv_of_nonneg (by omega), w64 (by omega) (by omega)]
theorem chan_bd (c : Int) : 0 ≤ chan c ∧ chan c ≤ 4 := by unfold chan; repeat (first | omega | split)
theorem dok_bd {c d : Int} (h : dok c d = true) : 1 ≤ d ∧ d ≤ 16 ∧ 1 ≤ chan c := by
  have hs : ∀ d : Int, smallD d = true → 1 ≤ d ∧ d ≤ 4 := by intro d h; simp [smallD] at h; omega
  have hb : ∀ d : Int, bigD d = true → 8 ≤ d ∧ d ≤ 16 := by intro d h; simp [bigD] at h; omega
  unfold dok at h
  unfold chan
  split at h
  · rename_i e; simp only [e, if_true, Bool.or_eq_true] at h ⊢
    rcases h with h | h
    · have := hs d h; omega
    · have := hb d h; omega
  · rename_i e0
    simp only [e0, if_false]
    split at h
    · rename_i e; simp only [e, if_true, Bool.or_eq_true, beq_iff_eq] at h ⊢
      rcases h with h | h
      · have := hs d h; omega
      · omega
    · rename_i e3
      simp only [e3, if_false]
      split at h
      · rename_i e; simp only [e, if_true]; have := hb d h; omega
      · rename_i e2
        simp only [e2, if_false]
        split at h
        · rename_i e; simp only [e, if_true]; have := hb d h; omega
        · rename_i e4
          simp only [e4, if_false]
          split at h
          · rename_i e; simp only [e, if_true]; have := hb d h; omega
          · cases h
theorem mul_bd {a b : Int} {m n : Int} (ha : 0 ≤ a) (ha' : a ≤ m) (hb : 0 ≤ b) (hb' : b ≤ n) : 0 ≤ a * b ∧ a * b ≤ m * n :=
  ⟨Int.mul_nonneg ha hb, Int.mul_le_mul ha' hb' hb (by omega)⟩
/-- How many bytes a row has. -/
def rowBytes (w c d : Int) : Int := if sideB w && dok c d then upB (w * chan c * d) else 0
theorem row_bd {w c d : Int} (h : sideB w = true) (h' : dok c d = true) : 0 ≤ w * chan c ∧ w * chan c ≤ 96 ∧ 0 ≤ w * chan c * d ∧ w * chan c * d ≤ 1536 := by
  rw [sideB_iff] at h
  have h2 := dok_bd h'
  have h3 := chan_bd c
  have h4 := mul_bd (a := w) (b := chan c) (m := 24) (n := 4) (by omega) (by omega) (by omega) (by omega)
  have h5 := mul_bd (a := w * chan c) (b := d) (m := 96) (n := 16) (by omega) (by omega) (by omega) (by omega)
  omega

theorem impl_isDepth_eq (d : Int) : impl_isDepth.f d = some (smallD d || bigD d) := by
  simp only [impl_isDepth.f, smallD, bigD]
  by_cases h1 : d = 1
  · simp [h1]
  by_cases h2 : d = 2
  · simp [h2]
  by_cases h4 : d = 4
  · simp [h4]
  by_cases h8 : d = 8
  · simp [h8]
  · have e1 : (d == 1) = false := by simpa using h1
    have e2 : (d == 2) = false := by simpa using h2
    have e4 : (d == 4) = false := by simpa using h4
    have e8 : (d == 8) = false := by simpa using h8
    simp only [h1, h2, h4, h8, e1, e2, e4, e8, if_false, Bool.false_or]

theorem impl_up_eq' (n : Nat) (h : n ≤ 1000000) : impl_up.f n = some ((upN n : Nat) : Int) := by
  unfold impl_up.f
  rw [upB_w _ (by omega) (by omega)]
  unfold upB upN
  congr 1

/-- The first t bits alone. -/
def upto (f : Nat → Int) (t u : Nat) : Int := if u < t then f u else 0
theorem upto_bits {f : Nat → Int} (h : isBits f) (t : Nat) : isBits (upto f t) := fun u => by
  unfold upto; have := h u; split <;> omega
theorem upto_succ (f : Nat → Int) (t u : Nat) : upto f (t + 1) u = if u = t then f t else upto f t u := by
  unfold upto
  by_cases h : u = t
  · subst h; simp
  · rw [if_neg h]
    by_cases h2 : u < t
    · rw [if_pos (by omega), if_pos h2]
    · rw [if_neg (by omega), if_neg h2]
theorem byteV_other (f : Nat → Int) (t j : Nat) (h : j ≠ t / 8) : byteV (upto f (t + 1)) j = byteV (upto f t) j := by
  unfold byteV
  simp only [upto_succ]
  rw [if_neg (by omega), if_neg (by omega), if_neg (by omega), if_neg (by omega), if_neg (by omega), if_neg (by omega), if_neg (by omega), if_neg (by omega)]
/-- A bit put into its byte: there was none. -/
theorem byteV_or {f : Nat → Int} (hf : isBits f) (t : Nat) : Go.bits .or .u8 (byteV (upto f t) (t / 8)) (f t * 2 ^ (7 - t % 8)) = byteV (upto f (t + 1)) (t / 8) := by
  have hb := byteV_bd (upto_bits hf t) (t / 8)
  have ft := hf t
  have u8 : ∀ n : Int, 0 ≤ n → n < 2 ^ 8 → IntKind.u8.wrap n = n := wraps_u8
  obtain ⟨q, m, rfl, hm⟩ : ∃ q m, t = 8 * q + m ∧ m < 8 := ⟨t / 8, t % 8, by omega, by omega⟩
  have e1 : (8 * q + m) / 8 = q := by omega
  have e2 : (8 * q + m) % 8 = m := by omega
  rw [e1] at hb ⊢
  rw [e2]
  have past : ∀ u, 8 * q + m ≤ u → upto f (8 * q + m) u = 0 := fun u hu => by unfold upto; rw [if_neg (by omega)]
  have key : byteV (upto f (8 * q + m)) q % 2 ^ (8 - m) = 0 ∧ byteV (upto f (8 * q + m + 1)) q = byteV (upto f (8 * q + m)) q + f (8 * q + m) * 2 ^ (7 - m) := by
    unfold byteV
    simp only [upto_succ]
    have : m = 0 ∨ m = 1 ∨ m = 2 ∨ m = 3 ∨ m = 4 ∨ m = 5 ∨ m = 6 ∨ m = 7 := by omega
    rcases this with rfl | rfl | rfl | rfl | rfl | rfl | rfl | rfl
    all_goals
      try rw [past (8 * q) (by omega)]
      try rw [past (8 * q + 1) (by omega)]
      try rw [past (8 * q + 2) (by omega)]
      try rw [past (8 * q + 3) (by omega)]
      try rw [past (8 * q + 4) (by omega)]
      try rw [past (8 * q + 5) (by omega)]
      try rw [past (8 * q + 6) (by omega)]
      rw [past (8 * q + 7) (by omega)]
      simp
      try omega
  have hlt : f (8 * q + m) * 2 ^ (7 - m) < 2 ^ (8 - m) ∧ f (8 * q + m) * 2 ^ (7 - m) < 2 ^ 8 ∧ 0 ≤ f (8 * q + m) * 2 ^ (7 - m) := by
    have : m = 0 ∨ m = 1 ∨ m = 2 ∨ m = 3 ∨ m = 4 ∨ m = 5 ∨ m = 6 ∨ m = 7 := by omega
    rcases this with rfl | rfl | rfl | rfl | rfl | rfl | rfl | rfl <;> simp at ft ⊢ <;> omega
  rw [bits_join .u8 8 (by decide) u8 (8 - m) _ _ hb.1 key.1 (by omega) hlt.2.2 hlt.1 hlt.2.1, key.2]
theorem bytesV_set {f : Nat → Int} (hf : isBits f) (N t : Nat) (h : t / 8 < N) : (bytesV (upto f t) N).set (t / 8) (Go.bits .or .u8 (byteV (upto f t) (t / 8)) (f t * 2 ^ (7 - t % 8))) = bytesV (upto f (t + 1)) N := by
  rw [byteV_or hf]
  apply List.ext_getElem?
  intro j
  by_cases e : j = t / 8
  · subst e
    rw [List.getElem?_set_self (by rw [bytesV_len]; exact h)]
    simp [bytesV, h]
  · rw [List.getElem?_set_ne (by omega)]
    simp only [bytesV, List.getElem?_map]
    by_cases hj : j < N
    · rw [List.getElem?_range hj]
      simp only [Option.map_some]
      rw [byteV_other f t j e]
    · rw [List.getElem?_eq_none (by simp; omega)]; rfl
theorem bytesV_zero (f : Nat → Int) (N : Nat) : bytesV (upto f 0) N = List.replicate N 0 := by
  have e : ∀ u, upto f 0 u = 0 := fun u => by unfold upto; rw [if_neg (by omega)]
  apply List.ext_getElem (by simp [bytesV])
  intro j h1 h2
  simp [bytesV, byteV, e]
theorem bytesV_all (xs : List Int) (D N : Nat) : bytesV (upto (bitF xs D) (xs.length * D)) N = bytesV (bitF xs D) N := by
  have e : upto (bitF xs D) (xs.length * D) = bitF xs D := by
    funext u
    unfold upto
    split
    · rfl
    · rw [bitF_past xs D u (by omega)]
  rw [e]
theorem impl_bit (x : Int) (hx : 0 ≤ x ∧ x ≤ 1000000) (c m : Nat) (hc : c ≤ 15) (hm : m ≤ 7) : shl .u8 ((Go.bits .and .i64 (shr .i64 x (c : Int)) 1) % 256) (m : Int) = x / 2 ^ c % 2 * 2 ^ m := by
  have e1 : shr .i64 x (c : Int) = x / 2 ^ c := by
    unfold shr
    rw [show min (c : Int).toNat IntKind.i64.bits = c by simp [IntKind.bits]; omega]
  have b := p2_pos (c : Int)
  have q : 0 ≤ x / 2 ^ c ∧ x / 2 ^ c ≤ 1000000 := ⟨Int.ediv_nonneg hx.1 (by exact_mod_cast Nat.zero_le _), Int.le_trans (Int.ediv_le_self _ hx.1) hx.2⟩
  have e2 : Go.bits .and .i64 (x / 2 ^ c) 1 = x / 2 ^ c % 2 := by
    have := bits_mask .i64 62 (by decide) (fun n h0 h1 => by rw [IntKind.wrap_i64]; omega) 1 (by omega) (x / 2 ^ c) q.1 (by omega)
    simpa using this
  rw [e1, e2]
  unfold shl
  rw [show min (m : Int).toNat IntKind.u8.bits = m by simp [IntKind.bits]; omega, IntKind.wrap_u8, show x / 2 ^ c % 2 % 256 = x / 2 ^ c % 2 by omega]
  have hb : 0 ≤ x / 2 ^ c % 2 ∧ x / 2 ^ c % 2 ≤ 1 := by omega
  have : m = 0 ∨ m = 1 ∨ m = 2 ∨ m = 3 ∨ m = 4 ∨ m = 5 ∨ m = 6 ∨ m = 7 := by omega
  rcases this with rfl | rfl | rfl | rfl | rfl | rfl | rfl | rfl <;> simp <;> omega
theorem impl_PackRow_l1 (xs : List Int) (D : Nat) (hD : 1 ≤ D ∧ D ≤ 16) (i : Nat) (hi : i < xs.length) (hn : xs.length ≤ 96) (hx : 0 ≤ xs[i] ∧ xs[i] ≤ 1000000) (r : Nat) : ∀ (k : Nat), r ≤ D → r < k →
    impl_PackRow.l1 k D (bytesV (upto (bitF xs D) (i * D + (D - r))) (upN (xs.length * D))) i xs[i] xs xs.length i D ((D - r : Nat) : Int) = impl_PackRow.l0 (k - r - 1) D (bytesV (upto (bitF xs D) ((i + 1) * D)) (upN (xs.length * D))) xs xs.length (i + 1 : Nat) := by
  have top : (i + 1) * D ≤ xs.length * D := Nat.mul_le_mul_right _ hi
  have lim : xs.length * D ≤ 96 * 16 := Nat.mul_le_mul hn hD.2
  have topi : (i + 1) * D = i * D + D := Nat.succ_mul _ _
  induction r with
  | zero =>
    intro k hr hk
    obtain ⟨k, rfl⟩ : ∃ m, k = m + 1 := ⟨k - 1, by omega⟩
    simp only [impl_PackRow.l1]
    rw [if_neg (by omega), w64 (by omega) (by omega), Nat.sub_zero, ← topi]
    rfl
  | succ r ih =>
    intro k hr hk
    obtain ⟨k, rfl⟩ : ∃ m, k = m + 1 := ⟨k - 1, by omega⟩
    obtain ⟨c, hc⟩ : ∃ c, c = D - (r + 1) := ⟨_, rfl⟩
    rw [← hc]
    have q := bitF_at xs D i c hi (by omega)
    have t8 : (i * D + c) / 8 < upN (xs.length * D) := by unfold upN; omega
    have iD : (i : Int) * (D : Int) = ((i * D : Nat) : Int) := by push_cast; rfl
    have ix : Int.tdiv ((i * D : Nat) + (c : Int)) 8 = ((i * D + c) / 8 : Nat) := by rw [Int.tdiv_eq_ediv_of_nonneg (by omega)]; omega
    have rx : Int.tmod ((i * D : Nat) + (c : Int)) 8 = ((i * D + c) % 8 : Nat) := by rw [Int.tmod_eq_emod_of_nonneg (by omega)]; omega
    have bit := impl_bit xs[i] hx (D - 1 - c) (7 - (i * D + c) % 8) (by omega) (by omega)
    rw [← q] at bit
    simp only [impl_PackRow.l1]
    rw [iD, w64 (x := ((i * D : Nat) : Int)) (by omega) (by omega), w64 (x := ((i * D : Nat) : Int) + c) (by omega) (by omega), ix, rx, w64 (x := (((i * D + c) / 8 : Nat) : Int)) (by omega) (by omega), w64 (x := (D : Int) - 1) (by omega) (by omega), w64 (x := (D : Int) - 1 - c) (by omega) (by omega), w64 (x := 7 - (((i * D + c) % 8 : Nat) : Int)) (by omega) (by omega), w64 (x := (c : Int) + 1) (by omega) (by omega)]
    rw [if_pos (by omega), if_pos (by omega), bytesV_len, if_pos (by omega), if_pos (by omega), if_pos (by omega), show (D : Int) - 1 - (c : Int) = ((D - 1 - c : Nat) : Int) by omega, show (7 : Int) - (((i * D + c) % 8 : Nat) : Int) = ((7 - (i * D + c) % 8 : Nat) : Int) by omega, bit, bytesV_get _ _ _ t8, Int.toNat_natCast, bytesV_set (bitF_bd xs D) _ _ t8]
    have e := ih k (by omega) (by omega)
    rw [show D - r = c + 1 by omega, ← Nat.add_assoc] at e
    push_cast at e ⊢
    rw [e, show k - r - 1 = k + 1 - (r + 1) - 1 by omega]
theorem impl_PackRow_l0 (xs : List Int) (D : Nat) (hD : 1 ≤ D ∧ D ≤ 16) (hn : xs.length ≤ 96) (ha : ∀ x ∈ xs, 0 ≤ x ∧ x ≤ 1000000) (d : Nat) : ∀ (k i : Nat), i ≤ xs.length → xs.length - i = d → d * 20 + 1 ≤ k →
    impl_PackRow.l0 k D (bytesV (upto (bitF xs D) (i * D)) (upN (xs.length * D))) xs xs.length i = some (strOfNums (bytesV (bitF xs D) (upN (xs.length * D))), true) := by
  induction d with
  | zero =>
    intro k i hi hd hk
    obtain ⟨k, rfl⟩ : ∃ m, k = m + 1 := ⟨k - 1, by omega⟩
    obtain rfl : i = xs.length := by omega
    simp only [impl_PackRow.l0]
    rw [if_neg (by omega), bytesV_all]
  | succ d ih =>
    intro k i hi hd hk
    obtain ⟨k, rfl⟩ : ∃ m, k = m + 1 := ⟨k - 1, by omega⟩
    have lt : i < xs.length := by omega
    have s1 := impl_PackRow_l1 xs D hD i lt hn (ha _ (List.getElem_mem lt)) D k (by omega) (by omega)
    rw [Nat.sub_self, Nat.add_zero] at s1
    simp only [impl_PackRow.l0]
    rw [if_pos (by omega), if_pos (by omega), if_pos (by omega), rd_at xs i lt]
    exact s1.trans (ih (k - D - 1) (i + 1) (by omega) (by omega) (by omega))
theorem all_inB {m : Int} {xs : List Int} (h : xs.all (inB m) = true) : ∀ x ∈ xs, 0 ≤ x ∧ x ≤ m := by
  intro x hx
  have := List.all_eq_true.1 h x hx
  simpa [inB] using this
theorem impl_PackRow_eq (xs : List Int) (hx : xs.length ≤ 9223372036854775807) (d : Int) (k : Nat) (hk : 5000 ≤ k) : impl_PackRow.f k xs d = some (packRow xs d) := by
  unfold impl_PackRow.f packRow
  rw [impl_isDepth_eq]
  simp only [Option.bind_some]
  change (if depthB d = true then _ else _) = _
  obtain ⟨k, rfl⟩ : ∃ m, k = m + 1 := ⟨k - 1, by omega⟩
  have no : impl_PackRow.j0 (k + 1) xs d true = some (⟨#[]⟩, false) := by simp [impl_PackRow.j0]
  by_cases hd : depthB d = true
  · obtain ⟨D, rfl, hD⟩ := depthB_nat hd
    rw [if_pos hd, no]
    by_cases hn : xs.length ≤ 96
    · have lim : xs.length * D ≤ 96 * 16 := Nat.mul_le_mul hn (by omega)
      have b16 := p2_16 (n := (D : Int)) (by omega)
      rw [if_neg (by omega), impl_samplesOk_eq (D : Int) (by omega) (by omega) xs hx _ (by omega)]
      simp only [Option.bind_some, hd, hn, decide_true, Bool.true_and, Int.toNat_natCast]
      by_cases ha : xs.all (inB (p2 D - 1)) = true
      · have ha' := all_inB ha
        have iD : (xs.length : Int) * (D : Int) = ((xs.length * D : Nat) : Int) := by push_cast; rfl
        rw [ha]
        simp only [impl_PackRow.j0, Bool.not_true]
        rw [if_neg (by decide), if_pos trivial, iD, w64 (by omega) (by omega), impl_up_eq' _ (by omega)]
        simp only [Option.bind_some, Int.toNat_natCast]
        rw [if_pos (by omega), if_pos (by unfold upN; omega), ← bytesV_zero (bitF xs D)]
        have R := impl_PackRow_l0 xs D (by omega) hn (fun x hx => by have := ha' x hx; omega) xs.length k 0 (by omega) (by omega) (by omega)
        rw [Nat.zero_mul] at R
        exact R
      · have ha' : xs.all (inB (p2 D - 1)) = false := by simpa using ha
        rw [ha', Bool.not_false, no]; rfl
    · rw [if_pos (by omega)]
      simp [hn]
  · rw [if_neg hd, no]
    simp [hd]

/-- Bit t of a text, the highest of each byte first. -/
def tbit (s : ByteArray) (t : Nat) : Int := bt s ((t / 8 : Nat) : Int) / 2 ^ (7 - t % 8) % 2
theorem tbit_bd (s : ByteArray) : isBits (tbit s) := fun t => by unfold tbit; omega
/-- The number whose bits, the highest first, are those from o on. -/
def valF (g : Nat → Int) (o : Nat) : Nat → Int
  | 0 => 0
  | k + 1 => 2 * valF g o k + g (o + k)
theorem valF_bd {g : Nat → Int} (h : isBits g) (o k : Nat) : 0 ≤ valF g o k ∧ valF g o k < 2 ^ k := by
  induction k with
  | zero => simp [valF]
  | succ k ih => have := h (o + k); simp only [valF, Int.pow_succ]; omega
def unpackL (s : ByteArray) (n D : Nat) : List Int := (List.range n).map fun i => valF (tbit s) (i * D) D
theorem unpackL_len (s : ByteArray) (n D : Nat) : (unpackL s n D).length = n := by simp [unpackL]
theorem unpackL_succ (s : ByteArray) (n D : Nat) : unpackL s (n + 1) D = unpackL s n D ++ [valF (tbit s) (n * D) D] := by simp [unpackL, List.range_succ]
def countB (n : Int) : Bool := decide (0 ≤ n) && decide (n ≤ 96)
def unpackRow (s : ByteArray) (n d : Int) : List Int × Bool :=
  if depthB d && countB n && decide (s.size = upN (n.toNat * d.toNat)) then (unpackL s n.toNat d.toNat, true) else ([], false)
theorem unpackRow_len (s : ByteArray) (n d : Int) : (unpackRow s n d).1.length ≤ 96 := by
  unfold unpackRow
  split
  · rename_i h
    simp [countB] at h
    rw [unpackL_len]; omega
  · simp
theorem pow16 {k : Nat} (h : k ≤ 16) : (2 : Int) ^ k ≤ 65536 := by
  have := p2_16 (n := (k : Int)) (by omega)
  simpa [p2] using this

theorem shr_and_u8 (x : Int) (hx : 0 ≤ x ∧ x ≤ 255) (m : Nat) (hm : m ≤ 7) : Go.bits .and .u8 (shr .u8 x (m : Int)) 1 = x / 2 ^ m % 2 := by
  have e1 : shr .u8 x (m : Int) = x / 2 ^ m := by
    unfold shr
    rw [show min (m : Int).toNat IntKind.u8.bits = m by simp [IntKind.bits]; omega]
  have q : 0 ≤ x / 2 ^ m ∧ x / 2 ^ m ≤ 255 := ⟨Int.ediv_nonneg hx.1 (by exact_mod_cast Nat.zero_le _), Int.le_trans (Int.ediv_le_self _ hx.1) hx.2⟩
  have := bits_mask .u8 8 (by decide) (fun n h0 h1 => wraps_u8 n h0 h1) 1 (by omega) (x / 2 ^ m) q.1 (by omega)
  rw [e1]
  simpa using this
/-- The samples so far: the first i ones, k bits of the next, and 0. -/
def partL (s : ByteArray) (n D i k : Nat) : List Int := (List.range n).map fun j => if j < i then valF (tbit s) (j * D) D else if j = i then valF (tbit s) (i * D) k else 0
theorem partL_len (s : ByteArray) (n D i k : Nat) : (partL s n D i k).length = n := by simp [partL]
theorem partL_get (s : ByteArray) (n D i k : Nat) (h : i < n) : rd (partL s n D i k) i = valF (tbit s) (i * D) k := by
  rw [rd_at _ _ (by rw [partL_len]; exact h)]; simp [partL]
theorem partL_set (s : ByteArray) (n D i k : Nat) (h : i < n) : (partL s n D i k).set i (2 * valF (tbit s) (i * D) k + tbit s (i * D + k)) = partL s n D i (k + 1) := by
  apply List.ext_getElem?
  intro j
  by_cases e : j = i
  · subst e
    rw [List.getElem?_set_self (by rw [partL_len]; exact h)]
    simp [partL, h, valF]
  · rw [List.getElem?_set_ne (by omega)]
    simp only [partL, List.getElem?_map]
    by_cases hj : j < n
    · rw [List.getElem?_range hj]; simp [e]
    · rw [List.getElem?_eq_none (by simp; omega)]; rfl
theorem partL_next (s : ByteArray) (n D i : Nat) : partL s n D i D = partL s n D (i + 1) 0 := by
  unfold partL
  apply List.map_congr_left
  intro j _
  by_cases h1 : j < i
  · rw [if_pos h1, if_pos (by omega)]
  · rw [if_neg h1]
    by_cases h2 : j = i
    · rw [if_pos h2, if_pos (by omega), h2]
    · rw [if_neg h2, if_neg (by omega)]
      split <;> simp [valF]
theorem partL_zero (s : ByteArray) (n D : Nat) : partL s n D 0 0 = List.replicate n 0 := by
  apply List.ext_getElem (by simp [partL])
  intro j h1 h2
  simp only [partL, List.getElem_map, List.getElem_range, List.getElem_replicate]
  rw [if_neg (by omega)]
  split <;> rfl
theorem partL_all (s : ByteArray) (n D k : Nat) : partL s n D n k = unpackL s n D := by
  unfold partL unpackL
  apply List.map_congr_left
  intro j hj
  rw [if_pos (by simpa using hj)]
theorem impl_UnpackRow_l1 (s : ByteArray) (n D : Nat) (hD : 1 ≤ D ∧ D ≤ 16) (hn : n ≤ 96) (hs : s.size = upN (n * D)) (i : Nat) (hi : i < n) (r : Nat) : ∀ (k : Nat), r ≤ D → r < k →
    impl_UnpackRow.l1 k s D (partL s n D i (D - r)) i n i D ((D - r : Nat) : Int) = impl_UnpackRow.l0 (k - r - 1) s D (partL s n D (i + 1) 0) n (i + 1 : Nat) := by
  have top : (i + 1) * D ≤ n * D := Nat.mul_le_mul_right _ hi
  have lim : n * D ≤ 96 * 16 := Nat.mul_le_mul hn hD.2
  have topi : (i + 1) * D = i * D + D := Nat.succ_mul _ _
  induction r with
  | zero =>
    intro k hr hk
    obtain ⟨k, rfl⟩ : ∃ m, k = m + 1 := ⟨k - 1, by omega⟩
    simp only [impl_UnpackRow.l1]
    rw [if_neg (by omega), w64 (by omega) (by omega), Nat.sub_zero, partL_next]
    rfl
  | succ r ih =>
    intro k hr hk
    obtain ⟨k, rfl⟩ : ∃ m, k = m + 1 := ⟨k - 1, by omega⟩
    obtain ⟨c, hc⟩ : ∃ c, c = D - (r + 1) := ⟨_, rfl⟩
    rw [← hc]
    have t8 : (i * D + c) / 8 < s.size := by rw [hs]; unfold upN; omega
    have iD : (i : Int) * (D : Int) = ((i * D : Nat) : Int) := by push_cast; rfl
    have ix : Int.tdiv ((i * D : Nat) + (c : Int)) 8 = ((i * D + c) / 8 : Nat) := by rw [Int.tdiv_eq_ediv_of_nonneg (by omega)]; omega
    have rx : Int.tmod ((i * D : Nat) + (c : Int)) 8 = ((i * D + c) % 8 : Nat) := by rw [Int.tmod_eq_emod_of_nonneg (by omega)]; omega
    have bb := bt_range s ((((i * D + c) / 8 : Nat)) : Int)
    obtain ⟨m, hm⟩ : ∃ m, m = 7 - (i * D + c) % 8 := ⟨_, rfl⟩
    have e := shr_and_u8 (bt s ((((i * D + c) / 8 : Nat)) : Int)) bb m (by omega)
    have e2 : bt s ((((i * D + c) / 8 : Nat)) : Int) / 2 ^ m % 2 = tbit s (i * D + c) := by unfold tbit; rw [hm]
    have vb := valF_bd (tbit_bd s) (i * D) c
    have pw := pow16 (k := c) (by omega)
    have tb := tbit_bd s (i * D + c)
    simp only [impl_UnpackRow.l1]
    rw [iD, w64 (x := ((i * D : Nat) : Int)) (by omega) (by omega), w64 (x := ((i * D : Nat) : Int) + c) (by omega) (by omega), ix, rx, w64 (x := (((i * D + c) / 8 : Nat) : Int)) (by omega) (by omega), show (7 : Int) - (((i * D + c) % 8 : Nat) : Int) = (m : Int) by omega, w64 (x := (m : Int)) (by omega) (by omega), if_pos (by omega), if_pos (by omega), partL_len, if_pos (by omega), if_pos (by omega), if_pos (by omega), if_pos (by omega), partL_get s n D i c hi, e, e2, w64 (x := tbit s (i * D + c)) (by omega) (by omega), w64 (x := 2 * valF (tbit s) (i * D) c) (by omega) (by omega), w64 (x := 2 * valF (tbit s) (i * D) c + tbit s (i * D + c)) (by omega) (by omega), w64 (x := (c : Int) + 1) (by omega) (by omega), Int.toNat_natCast, partL_set s n D i c hi]
    have st := ih k (by omega) (by omega)
    rw [show D - r = c + 1 by omega] at st
    push_cast at st ⊢
    rw [st, show k - r - 1 = k + 1 - (r + 1) - 1 by omega]
theorem impl_UnpackRow_l0 (s : ByteArray) (n D : Nat) (hD : 1 ≤ D ∧ D ≤ 16) (hn : n ≤ 96) (hs : s.size = upN (n * D)) (d : Nat) : ∀ (k i : Nat), i ≤ n → n - i = d → d * 20 + 1 ≤ k →
    impl_UnpackRow.l0 k s D (partL s n D i 0) n i = some (unpackL s n D, true) := by
  induction d with
  | zero =>
    intro k i hi hd hk
    obtain ⟨k, rfl⟩ : ∃ m, k = m + 1 := ⟨k - 1, by omega⟩
    obtain rfl : i = n := by omega
    simp only [impl_UnpackRow.l0]
    rw [if_neg (by omega), partL_all]
  | succ d ih =>
    intro k i hi hd hk
    obtain ⟨k, rfl⟩ : ∃ m, k = m + 1 := ⟨k - 1, by omega⟩
    have s1 := impl_UnpackRow_l1 s n D hD hn hs i (by omega) D k (by omega) (by omega)
    rw [Nat.sub_self] at s1
    simp only [impl_UnpackRow.l0]
    rw [if_pos (by omega)]
    exact s1.trans (ih (k - D - 1) (i + 1) (by omega) (by omega) (by omega))
theorem impl_UnpackRow_eq (s : ByteArray) (hs : s.size ≤ 140737488351232) (n d : Int) (k : Nat) (hk : 2500 ≤ k) : impl_UnpackRow.f k s n d = some (unpackRow s n d) := by
  unfold impl_UnpackRow.f unpackRow
  rw [impl_isDepth_eq, impl_within_eq]
  simp only [Option.bind_some]
  obtain ⟨k, rfl⟩ : ∃ m, k = m + 1 := ⟨k - 1, by omega⟩
  have no : impl_UnpackRow.j0 (k + 1) s n d true = some ([], false) := by simp [impl_UnpackRow.j0]
  change (if depthB d = true then _ else _) = _
  rw [no]
  by_cases hd : depthB d = true
  · obtain ⟨D, rfl, hD⟩ := depthB_nat hd
    by_cases hc : countB n = true
    · have hc' := hc
      simp only [countB, Bool.and_eq_true, decide_eq_true_eq] at hc'
      obtain ⟨m, rfl⟩ := Int.eq_ofNat_of_zero_le hc'.1
      have lim : m * D ≤ 96 * 16 := Nat.mul_le_mul (by omega) (by omega)
      have mD : (m : Int) * (D : Int) = ((m * D : Nat) : Int) := by push_cast; rfl
      have cb : countB (m : Int) = true := hc
      unfold countB at hc
      rw [if_pos hd, if_pos hc, mD, w64 (x := ((m * D : Nat) : Int)) (by omega) (by omega), impl_up_eq' _ (by omega), hd, cb]
      simp only [Bool.true_and, Bool.and_self, Int.toNat_natCast, Option.bind_some]
      by_cases hz : s.size = upN (m * D)
      · rw [if_pos (by simp [hz]), hz]
        simp only [impl_UnpackRow.j0]
        rw [if_neg (by simp), if_pos (by omega), if_pos (by omega), Int.toNat_natCast, ← partL_zero s m D]
        exact impl_UnpackRow_l0 s m D (by omega) (by omega) hz m k 0 (by omega) (by omega) (by omega)
      · rw [if_neg (by simp [hz])]
        have ne : ((s.size : Int) != ((upN (m * D) : Nat) : Int)) = true := by simp; omega
        rw [ne, no]
    · have hc' : countB n = false := by simpa using hc
      unfold countB at hc
      rw [if_pos hd, if_neg hc, hc']
      simp
  · rw [if_neg hd]
    simp [hd]

theorem bt_str (xs : List Int) (i : Nat) (h : i < xs.length) (h0 : 0 ≤ xs[i]) (h1 : xs[i] ≤ 255) : bt (strOfNums xs) i = xs[i] := by
  have hs : (i : Int).toNat < (strOfNums xs).size := by rw [str_size]; simpa using h
  rw [← bt_at (strOfNums xs) i hs]
  have e : (strOfNums xs)[(i : Int).toNat]'hs = UInt8.ofNat xs[i].toNat := by
    have := strOfNums_data xs
    have q : (strOfNums xs).data.toList[i]? = some (UInt8.ofNat xs[i].toNat) := by rw [this]; simp [h]
    rw [ByteArray.getElem_eq_getElem_data]
    simp only [Array.getElem?_toList] at q
    obtain ⟨_, h⟩ := Array.getElem?_eq_some_iff.1 q
    simpa using h
  rw [e]
  simp
  omega
/-- The bits of bytes that were made of bits. -/
theorem tbit_bytes {f : Nat → Int} (hf : isBits f) (N t : Nat) (h : t < 8 * N) : tbit (strOfNums (bytesV f N)) t = f t := by
  have hl : t / 8 < (bytesV f N).length := by rw [bytesV_len]; omega
  have e : (bytesV f N)[t / 8] = byteV f (t / 8) := by simp [bytesV]
  have b := byteV_bd hf (t / 8)
  unfold tbit
  rw [bt_str _ _ hl (by rw [e]; omega) (by rw [e]; omega), e]
  obtain ⟨q, m, rfl, hm⟩ : ∃ q m, t = 8 * q + m ∧ m < 8 := ⟨t / 8, t % 8, by omega, by omega⟩
  rw [show (8 * q + m) / 8 = q by omega, show (8 * q + m) % 8 = m by omega]
  unfold byteV
  have h0 := hf (8 * q); have h1 := hf (8 * q + 1); have h2 := hf (8 * q + 2); have h3 := hf (8 * q + 3); have h4 := hf (8 * q + 4); have h5 := hf (8 * q + 5); have h6 := hf (8 * q + 6); have h7 := hf (8 * q + 7)
  have : m = 0 ∨ m = 1 ∨ m = 2 ∨ m = 3 ∨ m = 4 ∨ m = 5 ∨ m = 6 ∨ m = 7 := by omega
  rcases this with rfl | rfl | rfl | rfl | rfl | rfl | rfl | rfl <;> simp <;> omega
theorem valF_congr {f g : Nat → Int} (o k : Nat) (h : ∀ j, j < k → f (o + j) = g (o + j)) : valF f o k = valF g o k := by
  induction k with
  | zero => rfl
  | succ k ih =>
    simp only [valF]
    rw [ih (fun j hj => h j (by omega)), h k (by omega)]
theorem valF_bits (xs : List Int) (D i : Nat) (hi : i < xs.length) (h0 : 0 ≤ xs[i]) (h1 : xs[i] < 2 ^ D) (k : Nat) (hk : k ≤ D) : valF (bitF xs D) (i * D) k = xs[i] / 2 ^ (D - k) := by
  induction k with
  | zero =>
    simp only [valF, Nat.sub_zero]
    rw [Int.ediv_eq_zero_of_lt h0 h1]
  | succ k ih =>
    simp only [valF]
    rw [ih (by omega), bitF_at xs D i k hi (by omega)]
    have e : D - k = (D - 1 - k) + 1 := by omega
    rw [e, Int.pow_succ, ← Int.ediv_ediv_of_nonneg (by exact_mod_cast Nat.zero_le _), show D - (k + 1) = D - 1 - k by omega]
    generalize xs[i] / 2 ^ (D - 1 - k) = y
    omega
/-- Samples come back from their bytes. -/
theorem unpack_pack (xs : List Int) (d : Int) (h : (packRow xs d).2 = true) : unpackRow (packRow xs d).1 xs.length d = (xs, true) ∧ ∃ D : Nat, d = D ∧ D ≤ 16 ∧ xs.length ≤ 96 ∧ (packRow xs d).1.size = upN (xs.length * D) := by
  unfold packRow at h ⊢
  split at h
  · rename_i q
    rw [if_pos q]
    simp only [Bool.and_eq_true, decide_eq_true_eq] at q
    obtain ⟨⟨hd, hn⟩, ha⟩ := q
    obtain ⟨D, rfl, hD⟩ := depthB_nat hd
    simp only [Int.toNat_natCast]
    have sz : (strOfNums (bytesV (bitF xs D) (upN (xs.length * D)))).size = upN (xs.length * D) := by rw [str_size, bytesV_len]
    refine ⟨?_, D, rfl, by omega, hn, sz⟩
    unfold unpackRow
    have cb : countB (xs.length : Int) = true := by simp [countB]; omega
    rw [if_pos (by rw [hd, cb, sz]; simp)]
    congr 1
    unfold unpackL
    apply List.ext_getElem (by simp)
    intro i h1 h2
    have lt : i < xs.length := h2
    simp only [List.getElem_map, List.getElem_range, Int.toNat_natCast]
    have top : (i + 1) * D ≤ xs.length * D := Nat.mul_le_mul_right _ lt
    have topi : (i + 1) * D = i * D + D := Nat.succ_mul _ _
    have hb := List.all_eq_true.1 ha xs[i] (List.getElem_mem lt)
    simp only [inB, Bool.and_eq_true, decide_eq_true_eq] at hb
    rw [valF_congr (i * D) D (fun j hj => tbit_bytes (bitF_bd xs D) _ _ (by unfold upN; omega)), valF_bits xs D i lt hb.1 (by have := hb.2; unfold p2 at this; rw [Int.toNat_natCast] at this; omega) D (Nat.le_refl _), Nat.sub_self]
    simp
  · simp at h

theorem and_bd (x : Int) (m : Nat) (hm : m < 9223372036854775808) : 0 ≤ Go.bits .and .i64 x m ∧ Go.bits .and .i64 x m ≤ m := by
  unfold Go.bits
  simp only [IntKind.wrap_i64]
  have h : (BitVec.ofInt IntKind.i64.bits x &&& BitVec.ofInt IntKind.i64.bits (m : Int)).toNat ≤ m := by
    rw [BitVec.toNat_and]
    refine Nat.le_trans Nat.and_le_right ?_
    rw [BitVec.ofInt_natCast, BitVec.toNat_ofNat]
    exact Nat.mod_le _ _
  omega
theorem and_255 (x : Int) : 0 ≤ Go.bits .and .i64 x 255 ∧ Go.bits .and .i64 x 255 ≤ 255 := and_bd x 255 (by omega)
theorem spec_l01New_l0 (l : List Int) (hl : l.length ≤ 1048576) (d : Nat) : ∀ (k i : Nat) (h : Int), i ≤ l.length → l.length - i = d → d < k → ∃ h', spec_l01New.l0 k l h i = some (l, 0, h') := by
  induction d with
  | zero =>
    intro k i h hi hd hk
    obtain ⟨k, rfl⟩ : ∃ m, k = m + 1 := ⟨k - 1, by omega⟩
    exact ⟨h, by simp only [spec_l01New.l0]; rw [if_neg (by omega)]⟩
  | succ d ih =>
    intro k i h hi hd hk
    obtain ⟨k, rfl⟩ : ∃ m, k = m + 1 := ⟨k - 1, by omega⟩
    simp only [spec_l01New.l0]
    rw [if_pos (by omega)]
    by_cases h4 : (i : Int) < 4000
    · rw [if_pos h4, if_pos (by omega), w64 (x := (i : Int) + 1) (by omega) (by omega)]
      exact ih k (i + 1) _ (by omega) (by omega) (by omega)
    · rw [if_neg h4]; exact ⟨h, rfl⟩
theorem spec_l01New_eq (l : List Int) (hl : l.length ≤ 1048576) (k : Nat) (hk : l.length < k) : ∃ h, spec_l01New.f k l = some (l, 0, h) := by
  unfold spec_l01New.f
  exact spec_l01New_l0 l hl l.length k 0 _ (by omega) (by omega) hk
/-- A cursor's place. -/
def Cur (l : List Int) (i : Int) : Prop := l.length ≤ 1048576 ∧ 0 ≤ i ∧ i ≤ l.length
theorem cur_new {l : List Int} (hl : l.length ≤ 1048576) : Cur l 0 := ⟨hl, by omega, by omega⟩
theorem spec_l01Byte_eq {l : List Int} {i : Int} (hc : Cur l i) (h : Int) : ∃ x i' h', spec_l01Byte.f l i h = some (x, i', h') ∧ 0 ≤ x ∧ x ≤ 255 ∧ Cur l i' := by
  obtain ⟨hl, h0, h1⟩ := hc
  unfold spec_l01Byte.f
  by_cases hi : i < l.length
  · rw [if_pos hi, if_pos h0, w64 (x := i + 1) (by omega) (by omega)]
    exact ⟨_, _, _, rfl, (and_255 _).1, (and_255 _).2, hl, by omega, by omega⟩
  · rw [if_neg hi]
    exact ⟨_, _, _, rfl, (and_255 _).1, (and_255 _).2, hl, h0, h1⟩
theorem spec_l01Below_eq {l : List Int} {i : Int} (hc : Cur l i) (h : Int) (n : Int) : ∃ x i' h', spec_l01Below.f l i h n = some (x, i', h') ∧ 0 ≤ x ∧ (0 < n → x < n) ∧ (n ≤ 0 → x = 0) ∧ Cur l i' := by
  unfold spec_l01Below.f
  by_cases h0 : n ≤ 0
  · rw [if_pos h0]
    exact ⟨_, _, _, rfl, by omega, by omega, fun _ => rfl, hc⟩
  · rw [if_neg h0]
    have tm : ∀ y : Int, 0 ≤ y → 0 ≤ Int.tmod y n ∧ Int.tmod y n < n := fun y hy => ⟨Int.tmod_nonneg _ hy, Int.tmod_lt_of_pos _ (by omega)⟩
    by_cases h1 : n ≤ 256
    · rw [if_pos h1]
      obtain ⟨x, i1, h1', e1, a1, b1, c1⟩ := spec_l01Byte_eq hc h
      rw [e1]
      simp only [Option.bind_some]
      rw [if_neg (by omega)]
      exact ⟨_, _, _, rfl, (tm x a1).1, fun _ => (tm x a1).2, by omega, c1⟩
    · rw [if_neg h1]
      obtain ⟨x, i1, h1', e1, a1, b1, c1⟩ := spec_l01Byte_eq hc h
      rw [e1]; simp only [Option.bind_some]
      obtain ⟨y, i2, h2', e2, a2, b2, c2⟩ := spec_l01Byte_eq c1 h1'
      rw [e2]; simp only [Option.bind_some]
      obtain ⟨z, i3, h3', e3, a3, b3, c3⟩ := spec_l01Byte_eq c2 h2'
      rw [e3]; simp only [Option.bind_some]
      obtain ⟨u, i4, h4', e4, a4, b4, c4⟩ := spec_l01Byte_eq c3 h3'
      rw [e4]; simp only [Option.bind_some]
      rw [if_neg (by omega), w64 (x := x * 16777216) (by omega) (by omega), w64 (x := y * 65536) (by omega) (by omega), w64 (x := x * 16777216 + y * 65536) (by omega) (by omega), w64 (x := z * 256) (by omega) (by omega), w64 (x := x * 16777216 + y * 65536 + z * 256) (by omega) (by omega), w64 (x := x * 16777216 + y * 65536 + z * 256 + u) (by omega) (by omega)]
      exact ⟨_, _, _, rfl, (tm _ (by omega)).1, fun _ => (tm _ (by omega)).2, by omega, c4⟩

theorem spec_l01PickInt_eq {l : List Int} {i : Int} (hc : Cur l i) (h : Int) (xs : List Int) (hx : xs ≠ []) : ∃ x i' h', spec_l01PickInt.f l i h xs = some (x, i', h') ∧ x ∈ xs ∧ Cur l i' := by
  unfold spec_l01PickInt.f
  obtain ⟨x, i1, h1, e1, a1, b1, _, c1⟩ := spec_l01Below_eq hc h (xs.length : Int)
  have hp : 0 < xs.length := List.length_pos_iff.2 hx
  have b := b1 (by omega)
  rw [e1]; simp only [Option.bind_some]
  rw [if_pos a1, if_pos b]
  obtain ⟨m, rfl⟩ := Int.eq_ofNat_of_zero_le a1
  refine ⟨_, _, _, rfl, ?_, c1⟩
  rw [rd_at xs m (by omega)]
  exact List.getElem_mem _

theorem laws_big_eq (l : List Int) : laws_big.f l = some (decide (1048576 < l.length)) := by
  unfold laws_big.f
  congr 1
  rw [Bool.eq_iff_iff]; simp; omega

theorem laws_sameInts_l0 (xs : List Int) (hx : xs.length ≤ 9223372036854775807) (d : Nat) : ∀ (k i : Nat), i ≤ xs.length → xs.length - i = d → d < k → laws_sameInts.l0 k xs xs i = some true := by
  induction d with
  | zero =>
    intro k i hi hd hk
    obtain ⟨k, rfl⟩ : ∃ m, k = m + 1 := ⟨k - 1, by omega⟩
    simp only [laws_sameInts.l0]
    rw [if_neg (by omega)]
  | succ d ih =>
    intro k i hi hd hk
    obtain ⟨k, rfl⟩ : ∃ m, k = m + 1 := ⟨k - 1, by omega⟩
    simp only [laws_sameInts.l0]
    rw [if_pos (by omega), if_pos (by omega), if_pos (by omega)]
    simp only [if_true]
    rw [w64 (by omega) (by omega)]
    exact ih k (i + 1) (by omega) (by omega) (by omega)
theorem laws_sameInts_refl (xs : List Int) (hx : xs.length ≤ 9223372036854775807) (k : Nat) (hk : xs.length < k) : laws_sameInts.f k xs xs = some true := by
  unfold laws_sameInts.f
  rw [if_pos rfl]
  exact laws_sameInts_l0 xs hx xs.length k 0 (by omega) (by omega) hk

theorem spec_DrawPackRow_l0 (l : List Int) (d : Int) (hd : 1 ≤ d ∧ d ≤ 16) (r : Nat) : ∀ (k i : Nat) (xs : List Int) (p h : Int), Cur l p → i + r = 20 → xs.length ≤ i → r + 70 < k →
    ∃ ys e, spec_DrawPackRow.l0 k d xs i l p h = some (ys, e) ∧ ys.length ≤ 200 := by
  induction r with
  | zero =>
    intro k i xs p h hc hi hx hk
    obtain ⟨k, rfl⟩ : ∃ m, k = m + 1 := ⟨k - 1, by omega⟩
    simp only [spec_DrawPackRow.l0]
    obtain ⟨n, i1, h1, e1, a1, b1, _, c1⟩ := spec_l01Below_eq hc h 20
    have := b1 (by omega)
    rw [e1]; simp only [Option.bind_some]
    rw [if_neg (by omega)]
    obtain ⟨m, i2, h2, e2, a2, b2, _, c2⟩ := spec_l01Below_eq c1 h1 24
    rw [e2]; simp only [Option.bind_some]
    split
    · rw [spec_l01Pow_eq k d (by omega) (by omega)]; simp only [Option.bind_some]
      obtain ⟨y, i3, h3, e3, _, c3⟩ := spec_l01PickInt_eq c2 h2 [(-1), p2 d] (by simp)
      rw [e3]; simp only [Option.bind_some]
      rw [if_pos (by omega)]
      exact ⟨_, _, rfl, by simp; omega⟩
    · split
      · obtain ⟨y, i3, h3, e3, _, c3⟩ := spec_l01PickInt_eq c2 h2 [0, 3, 5, (-1), 32] (by simp)
        rw [e3]; simp only [Option.bind_some]
        exact ⟨_, _, rfl, by omega⟩
      · split
        · obtain ⟨y, i3, h3, e3, a3, b3, _, c3⟩ := spec_l01Below_eq c2 h2 2
          have := b3 (by omega)
          rw [e3]; simp only [Option.bind_some]
          rw [w64 (by omega) (by omega), if_pos (by omega), if_pos (by omega)]
          exact ⟨_, _, rfl, by simp; omega⟩
        · exact ⟨_, _, rfl, by omega⟩
  | succ r ih =>
    intro k i xs p h hc hi hx hk
    obtain ⟨k, rfl⟩ : ∃ m, k = m + 1 := ⟨k - 1, by omega⟩
    simp only [spec_DrawPackRow.l0]
    obtain ⟨n, i1, h1, e1, a1, b1, _, c1⟩ := spec_l01Below_eq hc h 20
    rw [e1]; simp only [Option.bind_some]
    split
    · rw [spec_l01Pow_eq k d (by omega) (by omega)]; simp only [Option.bind_some]
      obtain ⟨y, i2, h2, e2, a2, b2, _, c2⟩ := spec_l01Below_eq c1 h1 (p2 d)
      rw [e2]; simp only [Option.bind_some]
      rw [if_pos (by omega), w64 (by omega) (by omega)]
      exact ih k (i + 1) _ _ _ c2 (by omega) (by simp; omega) (by omega)
    · obtain ⟨m, i2, h2, e2, a2, b2, _, c2⟩ := spec_l01Below_eq c1 h1 24
      rw [e2]; simp only [Option.bind_some]
      split
      · rw [spec_l01Pow_eq k d (by omega) (by omega)]; simp only [Option.bind_some]
        obtain ⟨y, i3, h3, e3, _, c3⟩ := spec_l01PickInt_eq c2 h2 [(-1), p2 d] (by simp)
        rw [e3]; simp only [Option.bind_some]
        rw [if_pos (by omega)]
        exact ⟨_, _, rfl, by simp; omega⟩
      · split
        · obtain ⟨y, i3, h3, e3, _, c3⟩ := spec_l01PickInt_eq c2 h2 [0, 3, 5, (-1), 32] (by simp)
          rw [e3]; simp only [Option.bind_some]
          exact ⟨_, _, rfl, by omega⟩
        · split
          · obtain ⟨y, i3, h3, e3, a3, b3, _, c3⟩ := spec_l01Below_eq c2 h2 2
            have := b3 (by omega)
            rw [e3]; simp only [Option.bind_some]
            rw [w64 (by omega) (by omega), if_pos (by omega), if_pos (by omega)]
            exact ⟨_, _, rfl, by simp; omega⟩
          · exact ⟨_, _, rfl, by omega⟩
theorem spec_DrawPackRow_eq (l : List Int) (hl : l.length ≤ 1048576) (k : Nat) (hk : l.length + 100 < k) : ∃ ys e, spec_DrawPackRow.f k l = some (ys, e) ∧ ys.length ≤ 200 := by
  unfold spec_DrawPackRow.f
  obtain ⟨h, e⟩ := spec_l01New_eq l hl k (by omega)
  rw [e]; simp only [Option.bind_some]
  obtain ⟨d, i1, h1, e1, m1, c1⟩ := spec_l01PickInt_eq (cur_new hl) h [1, 2, 4, 8, 16] (by simp)
  rw [e1]; simp only [Option.bind_some]
  simp at m1
  exact spec_DrawPackRow_l0 l d (by omega) 20 k 0 [] _ _ c1 (by omega) (by simp) (by omega)
theorem FnRows : laws_FnRows.Pure := by
  intro l _ hl _
  refine ⟨l.length + 6000, ?_⟩
  unfold laws_FnRows.f
  rw [laws_big_eq]
  simp only [Option.bind_some]
  by_cases hb : 1048576 < l.length
  · simp [hb]
  rw [if_neg (by simp; omega)]
  obtain ⟨xs, d, e, hx⟩ := spec_DrawPackRow_eq l (by omega) (l.length + 6000) (by omega)
  rw [e]; simp only [Option.bind_some]
  rw [impl_PackRow_eq xs (by omega) d _ (by omega), spec_PackRow_eq xs (by omega) d _ (by omega)]
  simp only [Option.bind_some]
  rw [if_neg (by simp)]
  by_cases ok : (packRow xs d).2 = true
  · obtain ⟨u, D, rfl, hD, hn, hz⟩ := unpack_pack xs d ok
    have lim : xs.length * D ≤ 96 * 16 := Nat.mul_le_mul hn hD
    have mD : (xs.length : Int) * (D : Int) = ((xs.length * D : Nat) : Int) := by push_cast; rfl
    rw [if_pos ok, impl_UnpackRow_eq _ (by rw [hz]; unfold upN; omega) _ _ _ (by omega), u]
    simp only [Option.bind_some, if_true]
    rw [laws_sameInts_refl xs (by omega) _ (by omega)]
    simp only [Option.bind_some, if_true]
    rw [hz, mD, w64 (x := ((xs.length * D : Nat) : Int)) (by omega) (by omega), w64 (x := ((xs.length * D : Nat) : Int) + 7) (by omega) (by omega), Int.tdiv_eq_ediv_of_nonneg (by omega), w64 (by omega) (by omega)]
    unfold upN
    simp
  · rw [if_neg ok]
    have : (packRow xs d).1 = ⟨#[]⟩ := by
      unfold packRow at ok ⊢
      split
      · rename_i q; rw [if_pos q] at ok; exact absurd rfl ok
      · rfl
    rw [this]
    have : (⟨#[]⟩ : ByteArray).toList = [] := by unfold ByteArray.toList ByteArray.toList.loop; rfl
    rw [this]; rfl

end Go.Proofs.Ytcdpnaaeokjdaaa.Pure
