/- The sums of FnSums answer true for each draw. -/
import Derived.Test.YtcdpnaaeokjdaaaPFnSumsx3
set_option linter.unusedVariables false
set_option linter.unusedSimpArgs false
namespace Go.Proofs.Ytcdpnaaeokjdaaa.Pure
open Go.RowKit Go.Proofs.Ytcdpnaaeokjdaaa.PFnSums Go.Proofs.YtcdpnaaeokjdaaaW.PrintWords Go.Proofs.YtcdpnaaeokjdaaaW.PrintLast

theorem w64 {x : Int} (h : -9223372036854775808 ≤ x) (h' : x ≤ 9223372036854775807) : wrap64 x = x := by unfold wrap64; omega
theorem wf_i64 {a : Int} (h : (Lit.int .i64 a).wf = true) : -9223372036854775808 ≤ a ∧ a ≤ 9223372036854775807 := by
  simpa [Lit.wf, IntKind.min, IntKind.max, IntKind.signed, IntKind.bits] using h
theorem wbt (s : ByteArray) (i : Int) : wrap64 (bt s i) = bt s i := w64 (by have := bt_range s i; omega) (by have := bt_range s i; omega)

abbrev W32 := BitVec 32
def enc (v : W32) : Int := (v.toNat : Int)
theorem enc_bd (v : W32) : 0 ≤ enc v ∧ enc v < 4294967296 := by unfold enc; have := v.isLt; omega
theorem enc_inj {a b : W32} (h : enc a = enc b) : a = b := by
  unfold enc at h; exact BitVec.eq_of_toNat_eq (by omega)
theorem ofInt_enc (v : W32) : BitVec.ofInt 32 (enc v) = v := by
  unfold enc; rw [BitVec.ofInt_natCast]; exact BitVec.eq_of_toNat_eq (by rw [BitVec.toNat_ofNat, Nat.mod_eq_of_lt v.isLt])
theorem xor_enc (a b : W32) : Go.bits .xor .u32 (enc a) (enc b) = enc (a ^^^ b) := by
  unfold Go.bits
  simp only [IntKind.bits]
  rw [ofInt_enc, ofInt_enc, IntKind.wrap_u32]
  show ((a ^^^ b).toNat : Int) % 4294967296 = enc (a ^^^ b)
  have := (a ^^^ b).isLt
  unfold enc; omega
theorem not_enc (a : W32) : Go.bits .xor .u32 (-1) (enc a) = enc (~~~ a) := by
  unfold Go.bits
  simp only [IntKind.bits]
  rw [ofInt_enc, IntKind.wrap_u32]
  have e : BitVec.ofInt 32 (-1) ^^^ a = ~~~ a := by
    rw [show BitVec.ofInt 32 (-1) = BitVec.allOnes 32 from by decide, BitVec.allOnes_xor]
  show ((BitVec.ofInt 32 (-1) ^^^ a).toNat : Int) % 4294967296 = enc (~~~ a)
  rw [e]
  have := (~~~ a).isLt
  unfold enc; omega
def poly : W32 := 3988292384#32
def hstep (v : W32) : W32 := if v.toNat % 2 = 1 then (v >>> 1) ^^^ poly else v >>> 1
def hstepN : Nat → W32 → W32
  | 0, v => v
  | n + 1, v => hstepN n (hstep v)
def halved8 (v : W32) : W32 := hstepN 8 v
theorem shr_enc (v : W32) : enc (v >>> 1) = enc v / 2 := by
  unfold enc
  rw [BitVec.toNat_ushiftRight, Nat.shiftRight_eq_div_pow]
  omega
theorem odd_xor (a b : W32) : (a ^^^ b).toNat % 2 = (a.toNat % 2 + b.toNat % 2) % 2 := by
  rw [BitVec.toNat_xor]
  have h := Nat.testBit_xor a.toNat b.toNat 0
  simp only [Nat.testBit_zero] at h
  generalize a.toNat ^^^ b.toNat = x at h ⊢
  have hx : x % 2 = 0 ∨ x % 2 = 1 := by omega
  have ha : a.toNat % 2 = 0 ∨ a.toNat % 2 = 1 := by omega
  have hb : b.toNat % 2 = 0 ∨ b.toNat % 2 = 1 := by omega
  rcases hx with hx | hx <;> rcases ha with ha | ha <;> rcases hb with hb | hb <;> simp [hx, ha, hb] at h ⊢
theorem hstep_xor (a b : W32) : hstep (a ^^^ b) = hstep a ^^^ hstep b := by
  unfold hstep
  rw [odd_xor, BitVec.ushiftRight_xor_distrib]
  have ha : a.toNat % 2 = 0 ∨ a.toNat % 2 = 1 := by omega
  have hb : b.toNat % 2 = 0 ∨ b.toNat % 2 = 1 := by omega
  rcases ha with ha | ha <;> rcases hb with hb | hb <;> simp [ha, hb]
  · rw [BitVec.xor_assoc]
  · rw [BitVec.xor_assoc (a >>> 1) poly, BitVec.xor_comm poly, ← BitVec.xor_assoc]
  · rw [BitVec.xor_assoc, BitVec.xor_comm poly, BitVec.xor_assoc, BitVec.xor_self, BitVec.xor_zero]
theorem hstepN_xor (n : Nat) : ∀ a b : W32, hstepN n (a ^^^ b) = hstepN n a ^^^ hstepN n b := by
  induction n with
  | zero => intro a b; rfl
  | succ n ih => intro a b; simp only [hstepN]; rw [hstep_xor, ih]
theorem hstep_zero {v : W32} (h : hstep v = 0#32) : v = 0#32 := by
  unfold hstep at h
  have hv := v.isLt
  have e : (v >>> 1).toNat = v.toNat / 2 := by rw [BitVec.toNat_ushiftRight, Nat.shiftRight_eq_div_pow]
  split at h
  · have h2 : v >>> 1 = poly := by
      have := congrArg (· ^^^ poly) h
      simpa [BitVec.xor_assoc] using this
    have h3 := congrArg BitVec.toNat h2
    rw [e] at h3
    have : poly.toNat = 3988292384 := rfl
    omega
  · have h3 := congrArg BitVec.toNat h
    rw [e] at h3
    apply BitVec.eq_of_toNat_eq
    have : (0#32).toNat = 0 := rfl
    omega
theorem hstepN_zero (n : Nat) : ∀ {v : W32}, hstepN n v = 0#32 → v = 0#32 := by
  induction n with
  | zero => intro v h; exact h
  | succ n ih => intro v h; exact hstep_zero (ih h)
theorem halved8_inj {a b : W32} (h : halved8 a = halved8 b) : a = b := by
  have e : halved8 (a ^^^ b) = 0#32 := by
    unfold halved8 at h ⊢
    generalize (8 : Nat) = n at h ⊢
    rw [hstepN_xor, h, BitVec.xor_self]
  have : a ^^^ b = 0#32 := by
    unfold halved8 at e
    generalize (8 : Nat) = n at e
    exact hstepN_zero n e
  have h2 := congrArg (· ^^^ b) this
  simpa [BitVec.xor_assoc] using h2
theorem halved8_xor (a b : W32) : halved8 (a ^^^ b) = halved8 a ^^^ halved8 b := by
  unfold halved8
  generalize (8 : Nat) = n
  exact hstepN_xor n a b
/-- A sum taken through bytes. -/
def regW (h : W32 → W32) : W32 → List W32 → W32
  | r, [] => r
  | r, b :: bs => regW h (h (r ^^^ b)) bs
theorem regW_cons (h : W32 → W32) (r b : W32) (bs : List W32) : regW h r (b :: bs) = regW h (h (r ^^^ b)) bs := rfl
def reg (r : W32) (bs : List W32) : W32 := regW halved8 r bs
theorem reg_cons (r b : W32) (bs : List W32) : reg r (b :: bs) = reg (halved8 (r ^^^ b)) bs := regW_cons halved8 r b bs
theorem reg_append (xs ys : List W32) : ∀ r, reg r (xs ++ ys) = reg (reg r xs) ys := by
  induction xs with
  | nil => intro r; rfl
  | cons x xs ih => intro r; rw [List.cons_append, reg_cons, ih, reg_cons]
def timesW (h : W32 → W32) : Nat → W32 → W32
  | 0, v => v
  | n + 1, v => timesW h n (h v)
theorem timesW_succ (h : W32 → W32) (n : Nat) (v : W32) : timesW h (n + 1) v = timesW h n (h v) := rfl
def zeros8 (n : Nat) (v : W32) : W32 := timesW halved8 n v
theorem zeros8_succ (n : Nat) (v : W32) : zeros8 (n + 1) v = zeros8 n (halved8 v) := timesW_succ halved8 n v
theorem reg_xor (bs : List W32) : ∀ r x, reg (r ^^^ x) bs = reg r bs ^^^ zeros8 bs.length x := by
  induction bs with
  | nil => intro r x; rfl
  | cons b bs ih =>
    intro r x
    rw [reg_cons, reg_cons, List.length_cons, zeros8_succ]
    rw [show r ^^^ x ^^^ b = (r ^^^ b) ^^^ x by rw [BitVec.xor_assoc, BitVec.xor_comm x b, ← BitVec.xor_assoc], halved8_xor, ih]
theorem reg_inj (bs : List W32) : ∀ {r s}, reg r bs = reg s bs → r = s := by
  induction bs with
  | nil => intro r s h; exact h
  | cons b bs ih =>
    intro r s h
    rw [reg_cons, reg_cons] at h
    have h2 := halved8_inj (ih h)
    have h3 := congrArg (· ^^^ b) h2
    simpa [BitVec.xor_assoc] using h3
def wordsOf (s : ByteArray) : List W32 := (bytesOf s).map fun x => BitVec.ofInt 32 x
def crcMore (sum : W32) (s : ByteArray) : W32 := ~~~ reg (~~~ sum) (wordsOf s)
def crc (s : ByteArray) : W32 := crcMore 0#32 s
theorem bytesOf_len (s : ByteArray) : (bytesOf s).length = s.size := by
  unfold bytesOf; rw [List.length_map, Array.length_toList]; rfl
theorem wordsOf_len (s : ByteArray) : (wordsOf s).length = s.size := by unfold wordsOf; rw [List.length_map, bytesOf_len]
theorem bytesOf_get (s : ByteArray) (i : Nat) (h : i < s.size) : (bytesOf s)[i]'(by rw [bytesOf_len]; exact h) = bt s i := by
  have h2 : (i : Int).toNat < s.size := by simpa using h
  rw [← bt_at s i h2]
  simp only [bytesOf, List.getElem_map, Array.getElem_toList, Int.toNat_natCast]
  rfl
theorem wordsOf_get (s : ByteArray) (i : Nat) (h : i < s.size) : enc ((wordsOf s)[i]'(by rw [wordsOf_len]; exact h)) = bt s i := by
  have b := bt_range s i
  unfold wordsOf
  rw [List.getElem_map, bytesOf_get s i h]
  obtain ⟨m, hm⟩ := Int.eq_ofNat_of_zero_le b.1
  rw [hm, BitVec.ofInt_natCast]
  unfold enc
  rw [BitVec.toNat_ofNat]
  omega
theorem bytesOf_extract (s : ByteArray) (a b : Nat) : bytesOf (s.extract a b) = ((bytesOf s).drop a).take (b - a) := by
  unfold bytesOf
  rw [ByteArray.data_extract, Array.toList_extract, List.map_take, List.map_drop]
theorem wordsOf_extract (s : ByteArray) (a b : Nat) : wordsOf (s.extract a b) = ((wordsOf s).drop a).take (b - a) := by
  unfold wordsOf
  rw [bytesOf_extract, List.map_take, List.map_drop]
theorem wordsOf_cut (s : ByteArray) (m : Nat) (h : m ≤ s.size) : wordsOf (s.extract 0 m) ++ wordsOf (s.extract m s.size) = wordsOf s := by
  have hl := wordsOf_len s
  rw [wordsOf_extract, wordsOf_extract, List.drop_zero, Nat.sub_zero, List.take_of_length_le (i := s.size - m) (by rw [List.length_drop]; omega), List.take_append_drop]
theorem bytesOf_cut (s : ByteArray) (m : Nat) (h : m ≤ s.size) : bytesOf (s.extract 0 m) ++ bytesOf (s.extract m s.size) = bytesOf s := by
  have hl := bytesOf_len s
  rw [bytesOf_extract, bytesOf_extract, List.drop_zero, Nat.sub_zero, List.take_of_length_le (i := s.size - m) (by rw [List.length_drop]; omega), List.take_append_drop]
theorem not_not32 (a : W32) : ~~~ (~~~ a) = a := BitVec.not_not
theorem crc_more (s : ByteArray) (m : Nat) (h : m ≤ s.size) : crcMore (crc (s.extract 0 m)) (s.extract m s.size) = crc s := by
  unfold crc crcMore
  rw [not_not32, ← reg_append, wordsOf_cut s m h]
theorem crc_join (s : ByteArray) (m : Nat) (h : m ≤ s.size) : zeros8 (s.size - m) (crc (s.extract 0 m)) ^^^ crc (s.extract m s.size) = crc s := by
  have hl : (wordsOf (s.extract m s.size)).length = s.size - m := by rw [wordsOf_len, ByteArray.size_extract]; omega
  have e := crc_more s m h
  have flip : ∀ a : W32, ~~~ a = ~~~ (0#32) ^^^ a := by
    intro a
    rw [show ~~~ (0#32) = BitVec.allOnes 32 from by decide, BitVec.allOnes_xor]
  rw [← e]
  generalize crc (s.extract 0 m) = v
  unfold crcMore crc crcMore
  rw [flip v, reg_xor, hl]
  generalize reg (~~~ 0#32) (wordsOf (s.extract m s.size)) = y
  generalize zeros8 (s.size - m) v = z
  rw [flip (y ^^^ z), flip y, BitVec.xor_comm z, BitVec.xor_assoc]

theorem impl_within_eq (a b c : Int) : impl_within.f a b c = some (decide (b ≤ a) && decide (a ≤ c)) := by
  unfold impl_within.f
  by_cases h : b ≤ a <;> simp [h]

theorem impl_halved_l0 (r : Nat) : ∀ (k i : Nat) (v : W32), i + r = 8 → r < k → impl_halved.l0 k (enc v) i = some (enc (hstepN r v)) := by
  induction r with
  | zero =>
    intro k i v hi hk
    obtain ⟨k, rfl⟩ : ∃ m, k = m + 1 := ⟨k - 1, by omega⟩
    simp only [impl_halved.l0]
    rw [if_neg (by omega)]; rfl
  | succ r ih =>
    intro k i v hi hk
    obtain ⟨k, rfl⟩ : ∃ m, k = m + 1 := ⟨k - 1, by omega⟩
    have b := enc_bd v
    have st := ih k (i + 1) (hstep v) (by omega) (by omega)
    push_cast at st
    simp only [impl_halved.l0]
    rw [if_pos (by omega), w64 (x := (i : Int) + 1) (by omega) (by omega), Int.tmod_eq_emod_of_nonneg b.1, Int.tdiv_eq_ediv_of_nonneg b.1, show enc v / 2 % 4294967296 = enc v / 2 by omega, ← shr_enc, show (3988292384 : Int) = enc poly from rfl, xor_enc]
    unfold hstep at st
    by_cases h : v.toNat % 2 = 1
    · rw [if_pos (show enc v % 2 = 1 by unfold enc; omega)]
      rw [if_pos h] at st
      rw [st]
      simp [hstepN, hstep, h]
    · rw [if_neg (show ¬ (enc v % 2 = 1) by unfold enc; omega)]
      rw [if_neg h] at st
      rw [st]
      simp [hstepN, hstep, h]
theorem impl_halved_eq (v : W32) (k : Nat) (hk : 9 ≤ k) : impl_halved.f k (enc v) = some (enc (halved8 v)) := impl_halved_l0 8 k 0 v (by omega) (by omega)
theorem impl_CrcMore_l0 (s : ByteArray) (hs : s.size ≤ 9223372036854775807) (n : Nat) : ∀ (k i : Nat) (v : W32), i ≤ s.size → s.size - i = n → n + 10 < k → impl_CrcMore.l0 k (enc v) s s.size i = some (enc (~~~ reg v ((wordsOf s).drop i))) := by
  have hl := wordsOf_len s
  induction n with
  | zero =>
    intro k i v hi hn hk
    obtain ⟨k, rfl⟩ : ∃ m, k = m + 1 := ⟨k - 1, by omega⟩
    simp only [impl_CrcMore.l0]
    rw [if_neg (by omega), not_enc, List.drop_eq_nil_of_le (by omega)]; rfl
  | succ n ih =>
    intro k i v hi hn hk
    obtain ⟨k, rfl⟩ : ∃ m, k = m + 1 := ⟨k - 1, by omega⟩
    have lt : i < s.size := by omega
    have b := bt_range s i
    have st := fun v => ih k (i + 1) v (by omega) (by omega) (by omega)
    push_cast at st
    simp only [impl_CrcMore.l0]
    rw [if_pos (by omega), if_pos (by omega), if_pos (by omega), show bt s i % 4294967296 = bt s i by omega, ← wordsOf_get s i lt, xor_enc, impl_halved_eq _ k (by omega)]
    simp only [Option.bind_some]
    rw [w64 (x := (i : Int) + 1) (by omega) (by omega), st, List.drop_eq_getElem_cons (l := wordsOf s) (i := i) (by omega), reg_cons]
theorem impl_CrcMore_eq (sum : W32) (s : ByteArray) (hs : s.size ≤ 9223372036854775807) (k : Nat) (hk : s.size + 10 < k) : impl_CrcMore.f k (enc sum) s = some (enc (crcMore sum s)) := by
  unfold impl_CrcMore.f crcMore
  rw [not_enc]
  have := impl_CrcMore_l0 s hs s.size k 0 (~~~ sum) (by omega) (by omega) hk
  simpa using this
theorem impl_Crc_eq (s : ByteArray) (hs : s.size ≤ 9223372036854775807) (k : Nat) (hk : s.size + 10 < k) : impl_Crc.f k s = some (enc (crc s)) := by
  unfold impl_Crc.f
  have := impl_CrcMore_eq 0#32 s hs k hk
  change impl_CrcMore.f k 0 s = _ at this
  rw [this]; rfl

theorem impl_CrcJoin_l0 (b : W32) (n : Nat) (hn' : n ≤ 12000) (r : Nat) : ∀ (k i : Nat) (a : W32), i + r = n → r + 10 < k → impl_CrcJoin.l0 k (enc a) (enc b) n i = some (enc (zeros8 r a ^^^ b)) := by
  induction r with
  | zero =>
    intro k i a hi hk
    obtain ⟨k, rfl⟩ : ∃ m, k = m + 1 := ⟨k - 1, by omega⟩
    simp only [impl_CrcJoin.l0]
    rw [if_neg (by omega), xor_enc]; rfl
  | succ r ih =>
    intro k i a hi hk
    obtain ⟨k, rfl⟩ : ∃ m, k = m + 1 := ⟨k - 1, by omega⟩
    have st := ih k (i + 1) (halved8 a) (by omega) (by omega)
    push_cast at st
    simp only [impl_CrcJoin.l0]
    rw [if_pos (by omega), impl_halved_eq a k (by omega)]
    simp only [Option.bind_some]
    rw [w64 (by omega) (by omega), st]; rfl
theorem impl_CrcJoin_eq (a b : W32) (n : Nat) (hn : n ≤ 12000) (k : Nat) (hk : n + 10 < k) : impl_CrcJoin.f k (enc a) (enc b) n = some (enc (zeros8 n a ^^^ b)) := by
  unfold impl_CrcJoin.f
  rw [impl_within_eq]
  simp only [Option.bind_some]
  rw [if_pos (by simp; omega)]
  exact impl_CrcJoin_l0 b n hn n k 0 a (by omega) hk

/-- Both halves of a sum taken through bytes. -/
def adl : Int → Int → List Int → Int × Int
  | p, q, [] => (p, q)
  | p, q, b :: bs => adl ((p + b) % 65521) ((q + (p + b) % 65521) % 65521) bs
theorem adl_append (xs ys : List Int) : ∀ p q, adl p q (xs ++ ys) = adl (adl p q xs).1 (adl p q xs).2 ys := by
  induction xs with
  | nil => intro p q; rfl
  | cons x xs ih => intro p q; simp only [List.cons_append, adl]; rw [ih]
theorem adl_bd (xs : List Int) : ∀ p q, (0 ≤ p ∧ p < 65521) → (0 ≤ q ∧ q < 65521) → (0 ≤ (adl p q xs).1 ∧ (adl p q xs).1 < 65521) ∧ 0 ≤ (adl p q xs).2 ∧ (adl p q xs).2 < 65521 := by
  induction xs with
  | nil => intro p q hp hq; exact ⟨hp, hq⟩
  | cons x xs ih => intro p q hp hq; exact ih _ _ (by omega) (by omega)
/-- How two ways through the same bytes part. -/
theorem adl_part (xs : List Int) : ∀ p q r s, ∃ y z : Int, (adl p q xs).1 = (adl r s xs).1 + (p - r) + 65521 * y ∧ (adl p q xs).2 = (adl r s xs).2 + (q - s) + xs.length * (p - r) + 65521 * z := by
  induction xs with
  | nil => intro p q r s; exact ⟨0, 0, by simp [adl]; omega, by simp [adl]; omega⟩
  | cons x xs ih =>
    intro p q r s
    obtain ⟨y, z, h1, h2⟩ := ih ((p + x) % 65521) ((q + (p + x) % 65521) % 65521) ((r + x) % 65521) ((s + (r + x) % 65521) % 65521)
    obtain ⟨a, ha⟩ : ∃ a : Int, (p + x) % 65521 = p + x + 65521 * a := ⟨-((p + x) / 65521), by omega⟩
    obtain ⟨b, hb⟩ : ∃ b : Int, (r + x) % 65521 = r + x + 65521 * b := ⟨-((r + x) / 65521), by omega⟩
    obtain ⟨c, hc⟩ : ∃ c : Int, (q + (p + x) % 65521) % 65521 = q + (p + x) % 65521 + 65521 * c := ⟨-((q + (p + x) % 65521) / 65521), by omega⟩
    obtain ⟨d, hd⟩ : ∃ d : Int, (s + (r + x) % 65521) % 65521 = s + (r + x) % 65521 + 65521 * d := ⟨-((s + (r + x) % 65521) / 65521), by omega⟩
    have e1 : (adl p q (x :: xs)) = adl ((p + x) % 65521) ((q + (p + x) % 65521) % 65521) xs := rfl
    have e2 : (adl r s (x :: xs)) = adl ((r + x) % 65521) ((s + (r + x) % 65521) % 65521) xs := rfl
    rw [e1, e2, h1, h2, hc, hd, ha, hb]
    refine ⟨y + a - b, z + c - d + (a - b) + xs.length * (a - b), by omega, ?_⟩
    rw [List.length_cons]
    push_cast
    simp only [Int.mul_add, Int.add_mul, Int.mul_sub, Int.sub_mul, Int.one_mul]
    have m1 : (xs.length : Int) * (65521 * a) = 65521 * (xs.length * a) := Int.mul_left_comm _ _ _
    have m2 : (xs.length : Int) * (65521 * b) = 65521 * (xs.length * b) := Int.mul_left_comm _ _ _
    rw [m1, m2]
    omega

def adlV (x : Int × Int) : Int := x.2 * 65536 + x.1
def AdlB (p q : Int) : Prop := (0 ≤ p ∧ p < 65521) ∧ 0 ≤ q ∧ q < 65521
theorem impl_parts_eq {p q : Int} (h : AdlB p q) : impl_parts.f (adlV (p, q)) = some (p, q) := by
  obtain ⟨hp, hq⟩ := h
  unfold impl_parts.f adlV
  have := bits_mask .u32 32 (by decide) (fun n h0 h1 => by rw [IntKind.wrap_u32]; omega) 16 (by omega) (q * 65536 + p) (by omega) (by omega)
  simp only at *
  rw [show ((65535 : Int)) = 2 ^ 16 - 1 from rfl, this, show (q * 65536 + p) % 2 ^ 16 = p by omega, show (q * 65536 + p) / 65536 = q by omega, w64 (x := p) (by omega) (by omega), w64 (x := q) (by omega) (by omega), Int.tmod_eq_emod_of_nonneg hp.1, Int.tmod_eq_emod_of_nonneg hq.1, Int.emod_eq_of_lt hp.1 hp.2, Int.emod_eq_of_lt hq.1 hq.2]
theorem adler_or {p q : Int} (h : AdlB p q) : Go.bits .or .i64 (q * 65536) p % 4294967296 = adlV (p, q) := by
  obtain ⟨hp, hq⟩ := h
  have := bits_join .i64 62 (by decide) (fun n h0 h1 => by rw [IntKind.wrap_i64]; omega) 16 (q * 65536) p (by omega) (by simp) (by simp; omega) hp.1 (by simp; omega) (by simp; omega)
  unfold adlV
  rw [this]; simp only; omega
theorem impl_AdlerMore_l0 (s : ByteArray) (hs : s.size ≤ 9223372036854775807) (n : Nat) : ∀ (k i : Nat) (p q : Int), AdlB p q → i ≤ s.size → s.size - i = n → n < k → impl_AdlerMore.l0 k s p q s.size i = some (adlV (adl p q ((bytesOf s).drop i))) := by
  have hl := bytesOf_len s
  induction n with
  | zero =>
    intro k i p q hb hi hn hk
    obtain ⟨k, rfl⟩ : ∃ m, k = m + 1 := ⟨k - 1, by omega⟩
    simp only [impl_AdlerMore.l0]
    have hb' := hb
    obtain ⟨hp, hq⟩ := hb'
    rw [if_neg (by omega), w64 (x := q * 65536) (by omega) (by omega), adler_or hb, List.drop_eq_nil_of_le (by omega)]; rfl
  | succ n ih =>
    intro k i p q hb hi hn hk
    obtain ⟨k, rfl⟩ : ∃ m, k = m + 1 := ⟨k - 1, by omega⟩
    obtain ⟨hp, hq⟩ := hb
    have lt : i < s.size := by omega
    have b := bt_range s i
    have st := ih k (i + 1) ((p + bt s i) % 65521) ((q + (p + bt s i) % 65521) % 65521) ⟨by omega, by omega⟩ (by omega) (by omega) (by omega)
    push_cast at st
    simp only [impl_AdlerMore.l0]
    rw [if_pos (by omega), if_pos (by omega), if_pos (by omega), w64 (x := bt s i) (by omega) (by omega), w64 (x := p + bt s i) (by omega) (by omega), Int.tmod_eq_emod_of_nonneg (show 0 ≤ p + bt s i by omega), w64 (x := q + (p + bt s i) % 65521) (by omega) (by omega), Int.tmod_eq_emod_of_nonneg (show 0 ≤ q + (p + bt s i) % 65521 by omega), w64 (x := (i : Int) + 1) (by omega) (by omega), st, List.drop_eq_getElem_cons (l := bytesOf s) (i := i) (by omega), bytesOf_get s i lt]
    rfl
theorem impl_AdlerMore_eq (s : ByteArray) (hs : s.size ≤ 9223372036854775807) (p q : Int) (h : AdlB p q) (k : Nat) (hk : s.size < k) : impl_AdlerMore.f k (adlV (p, q)) s = some (adlV (adl p q (bytesOf s))) := by
  unfold impl_AdlerMore.f
  rw [impl_parts_eq h]
  simp only [Option.bind_some]
  have := impl_AdlerMore_l0 s hs s.size k 0 p q h (by omega) (by omega) hk
  simpa using this
def adler (s : ByteArray) : Int × Int := adl 1 0 (bytesOf s)
theorem adler_bd (s : ByteArray) : AdlB (adler s).1 (adler s).2 := adl_bd _ 1 0 (by omega) (by omega)
theorem impl_Adler_eq (s : ByteArray) (hs : s.size ≤ 9223372036854775807) (k : Nat) (hk : s.size < k) : impl_Adler.f k s = some (adlV (adler s)) := by
  unfold impl_Adler.f
  have := impl_AdlerMore_eq s hs 1 0 ⟨by omega, by omega⟩ k hk
  rw [show adlV (1, 0) = 1 from rfl] at this
  rw [this]; rfl
theorem adler_more (s : ByteArray) (m : Nat) (h : m ≤ s.size) : adl (adler (s.extract 0 m)).1 (adler (s.extract 0 m)).2 (bytesOf (s.extract m s.size)) = adler s := by
  unfold adler
  rw [← adl_append, bytesOf_cut s m h]
theorem adler_join (s : ByteArray) (m : Nat) (h : m ≤ s.size) (p q x y : Int) (e1 : adler (s.extract 0 m) = (p, q)) (e2 : adler (s.extract m s.size) = (x, y)) : ((p + 65520 + x) % 65521, (q + y + ((s.size - m : Nat) : Int) * (p + 65520)) % 65521) = adler s := by
  have hl : (bytesOf (s.extract m s.size)).length = s.size - m := by rw [bytesOf_len, ByteArray.size_extract]; omega
  have e := adler_more s m h
  obtain ⟨bs1, bs2⟩ := adler_bd s
  rw [e1] at e
  obtain ⟨u, v, h1, h2⟩ := adl_part (bytesOf (s.extract m s.size)) p q 1 0
  rw [show adl 1 0 (bytesOf (s.extract m s.size)) = (x, y) from e2] at h1 h2
  rw [hl] at h2
  simp only at e h1 h2
  rw [e] at h1 h2
  generalize hL : ((s.size - m : Nat) : Int) = L at h2 ⊢
  have hm : L * (p + 65520) = L * (p - 1) + 65521 * L := by
    rw [show p + 65520 = (p - 1) + 65521 by omega, Int.mul_add, Int.mul_comm L 65521]
  rw [hm]
  generalize L * (p - 1) = t at h2 ⊢
  apply Prod.ext
  · simp only; omega
  · simp only; omega
theorem impl_AdlerJoin_eq (p q x y : Int) (h1 : AdlB p q) (h2 : AdlB x y) (n : Nat) (hn : n ≤ 12000) : impl_AdlerJoin.f (adlV (p, q)) (adlV (x, y)) n = some (adlV ((p + 65520 + x) % 65521, (q + y + (n : Int) * (p + 65520)) % 65521)) := by
  unfold impl_AdlerJoin.f
  rw [impl_within_eq]
  simp only [Option.bind_some]
  rw [if_pos (by simp; omega), impl_parts_eq h1, impl_parts_eq h2]
  simp only [Option.bind_some]
  obtain ⟨hp, hq⟩ := h1
  obtain ⟨hx, hy⟩ := h2
  have hm : 0 ≤ (n : Int) * (p + 65520) ∧ (n : Int) * (p + 65520) ≤ 12000 * 131040 := by
    constructor
    · exact Int.mul_nonneg (by omega) (by omega)
    · exact Int.mul_le_mul (by omega) (by omega) (by omega) (by omega)
  rw [w64 (x := p + 65521) (by omega) (by omega), show p + 65521 - 1 = p + 65520 by omega, w64 (x := p + 65520) (by omega) (by omega), w64 (x := q + y) (by omega) (by omega), w64 (x := (n : Int) * (p + 65520)) (by omega) (by omega), w64 (x := q + y + (n : Int) * (p + 65520)) (by omega) (by omega), w64 (x := p + 65520 + x) (by omega) (by omega), Int.tmod_eq_emod_of_nonneg (show 0 ≤ q + y + (n : Int) * (p + 65520) by omega), Int.tmod_eq_emod_of_nonneg (show 0 ≤ p + 65520 + x by omega), w64 (x := (q + y + (n : Int) * (p + 65520)) % 65521 * 65536) (by omega) (by omega), adler_or ⟨by omega, by omega⟩]

theorem rd_at (xs : List Int) (i : Nat) (h : i < xs.length) : rd xs i = xs[i] := by simp [rd, List.getD, h]
def inB (m x : Int) : Bool := decide (0 ≤ x) && decide (x ≤ m)
theorem drop_all (p : Int → Bool) (xs : List Int) (i : Nat) (h : i < xs.length) : (xs.drop i).all p = (p xs[i] && (xs.drop (i + 1)).all p) := by
  rw [List.drop_eq_getElem_cons h]; rfl
theorem drop_all_end (p : Int → Bool) (xs : List Int) (i : Nat) (h : xs.length ≤ i) : (xs.drop i).all p = true := by
  rw [List.drop_eq_nil_of_le h]; rfl

theorem and_bd (x : Int) (m : Nat) (hm : m < 9223372036854775808) : 0 ≤ Go.bits .and .i64 x m ∧ Go.bits .and .i64 x m ≤ m := by
  unfold Go.bits
  simp only [IntKind.wrap_i64]
  have h : (BitVec.ofInt IntKind.i64.bits x &&& BitVec.ofInt IntKind.i64.bits (m : Int)).toNat ≤ m := by
    rw [BitVec.toNat_and]
    refine Nat.le_trans Nat.and_le_right ?_
    rw [BitVec.ofInt_natCast, BitVec.toNat_ofNat]
    exact Nat.mod_le _ _
  omega
theorem and_255 (x : Int) : 0 ≤ Go.bits .and .i64 x 255 ∧ Go.bits .and .i64 x 255 ≤ 255 := and_bd x 255 (by omega)
theorem spec_l01New_l0 (l : List Int) (hl : l.length ≤ 1048576) (d : Nat) : ∀ (k i : Nat) (h : Int), i ≤ l.length → l.length - i = d → d < k → ∃ h', spec_l01New.l0 k l h i = some (l, 0, h') := by
  induction d with
  | zero =>
    intro k i h hi hd hk
    obtain ⟨k, rfl⟩ : ∃ m, k = m + 1 := ⟨k - 1, by omega⟩
    exact ⟨h, by simp only [spec_l01New.l0]; rw [if_neg (by omega)]⟩
  | succ d ih =>
    intro k i h hi hd hk
    obtain ⟨k, rfl⟩ : ∃ m, k = m + 1 := ⟨k - 1, by omega⟩
    simp only [spec_l01New.l0]
    rw [if_pos (by omega)]
    by_cases h4 : (i : Int) < 4000
    · rw [if_pos h4, if_pos (by omega), w64 (x := (i : Int) + 1) (by omega) (by omega)]
      exact ih k (i + 1) _ (by omega) (by omega) (by omega)
    · rw [if_neg h4]; exact ⟨h, rfl⟩
theorem spec_l01New_eq (l : List Int) (hl : l.length ≤ 1048576) (k : Nat) (hk : l.length < k) : ∃ h, spec_l01New.f k l = some (l, 0, h) := by
  unfold spec_l01New.f
  exact spec_l01New_l0 l hl l.length k 0 _ (by omega) (by omega) hk
/-- A cursor's place. -/
def Cur (l : List Int) (i : Int) : Prop := l.length ≤ 1048576 ∧ 0 ≤ i ∧ i ≤ l.length
theorem cur_new {l : List Int} (hl : l.length ≤ 1048576) : Cur l 0 := ⟨hl, by omega, by omega⟩
theorem spec_l01Byte_eq {l : List Int} {i : Int} (hc : Cur l i) (h : Int) : ∃ x i' h', spec_l01Byte.f l i h = some (x, i', h') ∧ 0 ≤ x ∧ x ≤ 255 ∧ Cur l i' := by
  obtain ⟨hl, h0, h1⟩ := hc
  unfold spec_l01Byte.f
  by_cases hi : i < l.length
  · rw [if_pos hi, if_pos h0, w64 (x := i + 1) (by omega) (by omega)]
    exact ⟨_, _, _, rfl, (and_255 _).1, (and_255 _).2, hl, by omega, by omega⟩
  · rw [if_neg hi]
    exact ⟨_, _, _, rfl, (and_255 _).1, (and_255 _).2, hl, h0, h1⟩
theorem spec_l01Below_eq {l : List Int} {i : Int} (hc : Cur l i) (h : Int) (n : Int) : ∃ x i' h', spec_l01Below.f l i h n = some (x, i', h') ∧ 0 ≤ x ∧ (0 < n → x < n) ∧ (n ≤ 0 → x = 0) ∧ Cur l i' := by
  unfold spec_l01Below.f
  by_cases h0 : n ≤ 0
  · rw [if_pos h0]
    exact ⟨_, _, _, rfl, by omega, by omega, fun _ => rfl, hc⟩
  · rw [if_neg h0]
    have tm : ∀ y : Int, 0 ≤ y → 0 ≤ Int.tmod y n ∧ Int.tmod y n < n := fun y hy => ⟨Int.tmod_nonneg _ hy, Int.tmod_lt_of_pos _ (by omega)⟩
    by_cases h1 : n ≤ 256
    · rw [if_pos h1]
      obtain ⟨x, i1, h1', e1, a1, b1, c1⟩ := spec_l01Byte_eq hc h
      rw [e1]
      simp only [Option.bind_some]
      rw [if_neg (by omega)]
      exact ⟨_, _, _, rfl, (tm x a1).1, fun _ => (tm x a1).2, by omega, c1⟩
    · rw [if_neg h1]
      obtain ⟨x, i1, h1', e1, a1, b1, c1⟩ := spec_l01Byte_eq hc h
      rw [e1]; simp only [Option.bind_some]
      obtain ⟨y, i2, h2', e2, a2, b2, c2⟩ := spec_l01Byte_eq c1 h1'
      rw [e2]; simp only [Option.bind_some]
      obtain ⟨z, i3, h3', e3, a3, b3, c3⟩ := spec_l01Byte_eq c2 h2'
      rw [e3]; simp only [Option.bind_some]
      obtain ⟨u, i4, h4', e4, a4, b4, c4⟩ := spec_l01Byte_eq c3 h3'
      rw [e4]; simp only [Option.bind_some]
      rw [if_neg (by omega), w64 (x := x * 16777216) (by omega) (by omega), w64 (x := y * 65536) (by omega) (by omega), w64 (x := x * 16777216 + y * 65536) (by omega) (by omega), w64 (x := z * 256) (by omega) (by omega), w64 (x := x * 16777216 + y * 65536 + z * 256) (by omega) (by omega), w64 (x := x * 16777216 + y * 65536 + z * 256 + u) (by omega) (by omega)]
      exact ⟨_, _, _, rfl, (tm _ (by omega)).1, fun _ => (tm _ (by omega)).2, by omega, c4⟩

theorem str_append (xs ys : List Int) : strOfNums xs ++ strOfNums ys = strOfNums (xs ++ ys) := by
  apply ByteArray.ext
  apply Array.ext'
  rw [ByteArray.data_append, Array.toList_append, strOfNums_data, strOfNums_data, strOfNums_data, List.map_append]
theorem str_nil : (⟨#[]⟩ : ByteArray) = strOfNums [] := rfl
theorem str_size (xs : List Int) : (strOfNums xs).size = xs.length := strOfNums_size xs

theorem spec_l01Text_l0 (l : List Int) (n : Nat) (hn : n ≤ 5000) (r : Nat) : ∀ (k j : Nat) (s : List Int) (i h : Int), Cur l i → s.length = j → j + r = n → r < k → ∃ t i' h', spec_l01Text.l0 k n s j l i h = some (t, i', h') ∧ t.size = n ∧ Cur l i' := by
  induction r with
  | zero =>
    intro k j s i h hc hs hj hk
    obtain ⟨k, rfl⟩ : ∃ m, k = m + 1 := ⟨k - 1, by omega⟩
    simp only [spec_l01Text.l0]
    rw [if_neg (by omega)]
    exact ⟨_, _, _, rfl, by rw [str_size]; omega, hc⟩
  | succ r ih =>
    intro k j s i h hc hs hj hk
    obtain ⟨k, rfl⟩ : ∃ m, k = m + 1 := ⟨k - 1, by omega⟩
    simp only [spec_l01Text.l0]
    obtain ⟨x, i1, h1, e1, a1, b1, c1⟩ := spec_l01Byte_eq hc h
    rw [if_pos (by omega), e1]
    simp only [Option.bind_some]
    rw [if_pos (by omega), w64 (x := (j : Int) + 1) (by omega) (by omega)]
    have st := ih k (j + 1) (s ++ [x % 256]) i1 h1 c1 (by rw [List.length_append]; simp [hs]) (by omega) (by omega)
    push_cast at st
    exact st
theorem spec_l01Text_eq {l : List Int} {i : Int} (hc : Cur l i) (h : Int) (n : Nat) (hn : n ≤ 5000) (k : Nat) (hk : n + 1 < k) : ∃ t i' h', spec_l01Text.f k l i h n = some (t, i', h') ∧ t.size = n ∧ Cur l i' := by
  obtain ⟨k, rfl⟩ : ∃ m, k = m + 1 := ⟨k - 1, by omega⟩
  unfold spec_l01Text.f
  rw [if_neg (by omega)]
  simp only [spec_l01Text.j0]
  have := spec_l01Text_l0 l n hn n k 0 [] i h hc rfl (by omega) (by omega)
  simpa using this
theorem spec_DrawCrc_eq (l : List Int) (hl : l.length ≤ 1048576) (k : Nat) (hk : l.length + 100 < k) : ∃ t, spec_DrawCrc.f k l = some t ∧ t.size < 40 := by
  unfold spec_DrawCrc.f
  obtain ⟨h, e⟩ := spec_l01New_eq l hl k (by omega)
  rw [e]; simp only [Option.bind_some]
  obtain ⟨x, i1, h1, e1, a1, b1, _, c1⟩ := spec_l01Below_eq (cur_new hl) h 40
  rw [e1]; simp only [Option.bind_some]
  obtain ⟨n, rfl⟩ := Int.eq_ofNat_of_zero_le a1
  have := b1 (by omega)
  obtain ⟨t, i2, h2, e2, a2, _⟩ := spec_l01Text_eq c1 h1 n (by omega) k (by omega)
  rw [e2]
  exact ⟨t, rfl, by omega⟩
theorem spec_DrawPlaces_l0 (l : List Int) (r : Nat) : ∀ (k j : Nat) (s : List Int) (i h : Int), Cur l i → s.length = j → (∀ x ∈ s, 0 ≤ x ∧ x < 10000) → j + r = 12 → r < k → ∃ t, spec_DrawPlaces.l0 k s j l i h = some t ∧ t.length = 12 ∧ (∀ x ∈ t, 0 ≤ x ∧ x < 10000) := by
  induction r with
  | zero =>
    intro k j s i h hc hs hb hj hk
    obtain ⟨k, rfl⟩ : ∃ m, k = m + 1 := ⟨k - 1, by omega⟩
    simp only [spec_DrawPlaces.l0]
    rw [if_neg (by omega)]
    exact ⟨_, rfl, by omega, hb⟩
  | succ r ih =>
    intro k j s i h hc hs hb hj hk
    obtain ⟨k, rfl⟩ : ∃ m, k = m + 1 := ⟨k - 1, by omega⟩
    simp only [spec_DrawPlaces.l0]
    obtain ⟨x, i1, h1, e1, a1, b1, _, c1⟩ := spec_l01Below_eq hc h 10000
    rw [if_pos (by omega), e1]
    simp only [Option.bind_some]
    rw [if_pos (by omega), w64 (x := (j : Int) + 1) (by omega) (by omega)]
    have st := ih k (j + 1) (s ++ [x]) i1 h1 c1 (by rw [List.length_append]; simp [hs]) (by
      intro y hy
      rcases List.mem_append.mp hy with hy | hy
      · exact hb y hy
      · rw [List.mem_singleton.mp hy]; exact ⟨a1, b1 (by omega)⟩) (by omega) (by omega)
    push_cast at st
    exact st
theorem spec_DrawPlaces_eq (l : List Int) (hl : l.length ≤ 1048576) (k : Nat) (hk : l.length + 100 < k) : ∃ t, spec_DrawPlaces.f k l = some t ∧ t.length = 12 ∧ (∀ x ∈ t, 0 ≤ x ∧ x < 10000) := by
  unfold spec_DrawPlaces.f
  obtain ⟨h, e⟩ := spec_l01New_eq l hl k (by omega)
  rw [e]; simp only [Option.bind_some]
  obtain ⟨x, i1, h1, e1, _, _, c1⟩ := spec_l01Byte_eq (cur_new hl) h
  rw [e1]; simp only [Option.bind_some]
  exact spec_DrawPlaces_l0 l 12 k 0 [] i1 h1 c1 rfl (by simp) (by omega) (by omega)

theorem bytesOf_str (xs : List Int) (hx : ∀ x ∈ xs, 0 ≤ x ∧ x ≤ 255) : bytesOf (strOfNums xs) = xs := by
  unfold bytesOf
  rw [strOfNums_data, List.map_map]
  refine (List.map_congr_left (g := id) ?_).trans (List.map_id _)
  intro x hm
  have := hx x hm
  simp only [Function.comp, UInt8.toNat_ofNat', id]
  omega
theorem bytesOf_bd (s : ByteArray) : ∀ x ∈ bytesOf s, 0 ≤ x ∧ x ≤ 255 := by
  intro x hx
  unfold bytesOf at hx
  obtain ⟨b, _, rfl⟩ := List.mem_map.mp hx
  have := b.toNat_lt
  omega
theorem xor8 (a b : Int) (ha : 0 ≤ a ∧ a ≤ 255) (hb : 1 ≤ b ∧ b ≤ 255) : 0 ≤ Go.bits .xor .u8 a b ∧ Go.bits .xor .u8 a b ≤ 255 ∧ Go.bits .xor .u8 a b ≠ a := by
  obtain ⟨m, rfl⟩ := Int.eq_ofNat_of_zero_le ha.1
  obtain ⟨n, rfl⟩ := Int.eq_ofNat_of_zero_le (show 0 ≤ b by omega)
  unfold Go.bits
  simp only [IntKind.bits]
  rw [BitVec.ofInt_natCast, BitVec.ofInt_natCast, IntKind.wrap_u8]
  show 0 ≤ ((BitVec.ofNat 8 m ^^^ BitVec.ofNat 8 n).toNat : Int) % 256 ∧ ((BitVec.ofNat 8 m ^^^ BitVec.ofNat 8 n).toNat : Int) % 256 ≤ 255 ∧ ((BitVec.ofNat 8 m ^^^ BitVec.ofNat 8 n).toNat : Int) % 256 ≠ m
  have l := (BitVec.ofNat 8 m ^^^ BitVec.ofNat 8 n).isLt
  refine ⟨by omega, by omega, fun e => ?_⟩
  have e2 : BitVec.ofNat 8 m ^^^ BitVec.ofNat 8 n = BitVec.ofNat 8 m := BitVec.eq_of_toNat_eq (by rw [BitVec.toNat_ofNat (x := m)]; omega)
  have e3 := congrArg (BitVec.ofNat 8 m ^^^ ·) e2
  simp only [← BitVec.xor_assoc, BitVec.xor_self, BitVec.zero_xor] at e3
  have e4 := congrArg BitVec.toNat e3
  rw [BitVec.toNat_ofNat] at e4
  have : (0#8).toNat = 0 := rfl
  omega
theorem crc_set (s : ByteArray) (j : Nat) (hj : j < s.size) (v : Int) (hv : 0 ≤ v ∧ v ≤ 255) (hne : v ≠ bt s j) : crc (strOfNums ((bytesOf s).set j v)) ≠ crc s := by
  have hl := bytesOf_len s
  have lw := wordsOf_len s
  have g := wordsOf_get s j hj
  have hb : ∀ x ∈ (bytesOf s).set j v, 0 ≤ x ∧ x ≤ 255 := by
    intro x hx
    rcases List.mem_or_eq_of_mem_set hx with h | h
    · exact bytesOf_bd s x h
    · omega
  have hw : wordsOf (strOfNums ((bytesOf s).set j v)) = (wordsOf s).set j (BitVec.ofInt 32 v) := by
    unfold wordsOf
    rw [bytesOf_str _ hb, List.map_set]
  intro e
  unfold crc crcMore at e
  rw [hw] at e
  have e2 := congrArg (~~~ ·) e
  simp only [BitVec.not_not] at e2
  have s1 : (wordsOf s).set j (BitVec.ofInt 32 v) = (wordsOf s).take j ++ BitVec.ofInt 32 v :: (wordsOf s).drop (j + 1) := by
    rw [List.set_eq_take_append_cons_drop, if_pos (by omega)]
  have s2 : wordsOf s = (wordsOf s).take j ++ (wordsOf s)[j]'(by omega) :: (wordsOf s).drop (j + 1) := by
    rw [← List.drop_eq_getElem_cons, List.take_append_drop]
  rw [s1, reg_append, reg_cons] at e2
  rw [congrArg (reg (~~~ 0#32)) s2, reg_append, reg_cons] at e2
  have e3 := halved8_inj (reg_inj _ e2)
  have e4 := congrArg (reg (~~~ 0#32) ((wordsOf s).take j) ^^^ ·) e3
  simp only [← BitVec.xor_assoc, BitVec.xor_self, BitVec.zero_xor] at e4
  rw [← e4] at g
  obtain ⟨m, rfl⟩ := Int.eq_ofNat_of_zero_le hv.1
  rw [BitVec.ofInt_natCast] at g
  unfold enc at g
  rw [BitVec.toNat_ofNat] at g
  omega
theorem laws_turned_eq (s : ByteArray) (hs : 0 < s.size) (i d : Int) (hi : 0 ≤ i) (hd : 0 ≤ d) : ∃ (j : Nat) (v : Int), laws_turned.f s i d = some (strOfNums ((bytesOf s).set j v)) ∧ j < s.size ∧ (0 ≤ v ∧ v ≤ 255) ∧ v ≠ bt s j := by
  have hl := bytesOf_len s
  have tm := Int.tmod_lt_of_pos i (show (0 : Int) < s.size by omega)
  have tn : 0 ≤ Int.tmod i (s.size : Int) := Int.tmod_nonneg _ hi
  obtain ⟨j, hj⟩ := Int.eq_ofNat_of_zero_le tn
  have dm := Int.tmod_lt_of_pos d (show (0 : Int) < 255 by omega)
  have dn : 0 ≤ Int.tmod d 255 := Int.tmod_nonneg _ hd
  unfold laws_turned.f
  rw [if_pos (by omega), if_pos tn, hj, rd_bytesOf, w64 (x := 1 + Int.tmod d 255) (by omega) (by omega), show (1 + Int.tmod d 255) % 256 = 1 + Int.tmod d 255 by omega]
  have x := xor8 (bt s j) (1 + Int.tmod d 255) (bt_range s j) (by omega)
  exact ⟨j, _, rfl, by omega, ⟨x.1, x.2.1⟩, x.2.2⟩

theorem laws_big_eq (l : List Int) : laws_big.f l = some (decide (1048576 < l.length)) := by
  unfold laws_big.f
  congr 1
  rw [Bool.eq_iff_iff]; simp; omega

theorem laws_FnSums_j1 (s : ByteArray) (hs : s.size < 40) (t : List Int) (ht : t.length = 12) (hb : ∀ x ∈ t, 0 ≤ x ∧ x < 10000) (k : Nat) (hk : 100 < k) : laws_FnSums.j1 k s t false = some true := by
  obtain ⟨k, rfl⟩ : ∃ m, k = m + 1 := ⟨k - 1, by omega⟩
  simp only [laws_FnSums.j1]
  rw [if_neg (by simp)]
  by_cases h0 : (s.size : Int) = 0
  · rw [if_pos h0]
  · rw [if_neg h0, if_pos (by omega), if_pos (by omega), show (1 : Int) = ((1 : Nat) : Int) from rfl, show (2 : Int) = ((2 : Nat) : Int) from rfl, rd_at t 1 (by omega), rd_at t 2 (by omega)]
    have b1 := hb _ (List.getElem_mem (show 1 < t.length by omega))
    have b2 := hb _ (List.getElem_mem (show 2 < t.length by omega))
    obtain ⟨j, v, e, hj, hv, hne⟩ := laws_turned_eq s (by omega) t[1] t[2] b1.1 b2.1
    have sz : (strOfNums ((bytesOf s).set j v)).size = s.size := by rw [str_size, List.length_set, bytesOf_len]
    rw [e]
    simp only [Option.bind_some]
    rw [impl_Crc_eq _ (by omega) k (by omega), impl_Crc_eq _ (by omega) k (by omega)]
    simp only [Option.bind_some]
    have ne : ¬ enc (crc (strOfNums ((bytesOf s).set j v))) = enc (crc s) := fun e2 => crc_set s j hj v hv hne (enc_inj e2)
    simp [ne]
theorem laws_FnSums_j0 (s : ByteArray) (hs : s.size < 40) (t : List Int) (ht : t.length = 12) (hb : ∀ x ∈ t, 0 ≤ x ∧ x < 10000) (m : Nat) (hm : m ≤ s.size) (k : Nat) (hk : 200 < k) : laws_FnSums.j0 k s t (s.extract 0 m) (s.extract m s.size) false = some true := by
  obtain ⟨k, rfl⟩ : ∃ m, k = m + 1 := ⟨k - 1, by omega⟩
  have za : (s.extract 0 m).size = m := by rw [ByteArray.size_extract]; omega
  have zb : (s.extract m s.size).size = s.size - m := by rw [ByteArray.size_extract]; omega
  simp only [laws_FnSums.j0]
  rw [if_neg (by simp), impl_Crc_eq _ (by omega) k (by omega), impl_Crc_eq _ (by omega) k (by omega)]
  simp only [Option.bind_some]
  rw [zb, impl_CrcJoin_eq _ _ (s.size - m) (by omega) k (by omega), crc_join s m hm]
  simp only [Option.bind_some]
  rw [impl_Crc_eq _ (by omega) k (by omega)]
  simp only [Option.bind_some]
  rw [if_pos trivial, impl_Adler_eq _ (by omega) k (by omega), impl_Adler_eq _ (by omega) k (by omega)]
  simp only [Option.bind_some]
  obtain ⟨p, q, e1⟩ : ∃ p q, adler (s.extract 0 m) = (p, q) := ⟨_, _, rfl⟩
  obtain ⟨x, y, e2⟩ : ∃ p q, adler (s.extract m s.size) = (p, q) := ⟨_, _, rfl⟩
  have h1 := adler_bd (s.extract 0 m)
  have h2 := adler_bd (s.extract m s.size)
  have e3 := adler_join s m hm p q x y e1 e2
  rw [e1] at h1 ⊢
  rw [e2] at h2 ⊢
  rw [impl_AdlerJoin_eq p q x y h1 h2 (s.size - m) (by omega), e3]
  simp only [Option.bind_some]
  rw [impl_Adler_eq _ (by omega) k (by omega)]
  simp only [Option.bind_some, bne_self_eq_false]
  exact laws_FnSums_j1 s hs t ht hb k (by omega)
theorem FnSums : laws_FnSums.Pure := by
  intro l hl _ _
  obtain ⟨k, hk⟩ : ∃ k : Nat, k = 5000000 := ⟨_, rfl⟩
  refine ⟨k, ?_⟩
  unfold laws_FnSums.f
  rw [laws_big_eq]
  simp only [Option.bind_some, decide_eq_true_eq]
  by_cases hbig : 1048576 < l.length
  · rw [if_pos hbig]
  · rw [if_neg hbig]
    obtain ⟨s, e1, hs⟩ := spec_DrawCrc_eq l (by omega) k (by omega)
    rw [e1]
    simp only [Option.bind_some]
    obtain ⟨t, e2, ht, hb⟩ := spec_DrawPlaces_eq l (by omega) k (by omega)
    rw [e2]
    simp only [Option.bind_some]
    have b0 := hb _ (List.getElem_mem (show 0 < t.length by omega))
    have r0 : rd t 0 = t[0]'(by omega) := rd_at t 0 (by omega)
    have tn : 0 ≤ Int.tmod (rd t 0) ((s.size : Int) + 1) := Int.tmod_nonneg _ (by rw [r0]; exact b0.1)
    have tm := Int.tmod_lt_of_pos (rd t 0) (show (0 : Int) < (s.size : Int) + 1 by omega)
    rw [w64 (x := (s.size : Int) + 1) (by omega) (by omega)]
    generalize Int.tmod (rd t 0) ((s.size : Int) + 1) = mm at tn tm ⊢
    obtain ⟨m, rfl⟩ := Int.eq_ofNat_of_zero_le tn
    rw [if_pos (by omega), if_neg (by omega), if_pos (by omega), if_pos (by omega), Int.toNat_natCast]
    have hm : m ≤ s.size := by omega
    have za : (s.extract 0 m).size = m := by rw [ByteArray.size_extract]; omega
    have zb : (s.extract m s.size).size = s.size - m := by rw [ByteArray.size_extract]; omega
    rw [impl_Crc_eq _ (by omega) k (by omega)]
    simp only [Option.bind_some]
    rw [impl_CrcMore_eq _ _ (by omega) k (by omega), crc_more s m hm]
    simp only [Option.bind_some]
    rw [impl_Crc_eq _ (by omega) k (by omega)]
    simp only [Option.bind_some]
    rw [if_pos trivial, impl_Adler_eq _ (by omega) k (by omega)]
    simp only [Option.bind_some]
    have a3 := impl_AdlerMore_eq (s.extract m s.size) (by omega) _ _ (adler_bd (s.extract 0 m)) k (by omega)
    rw [adler_more s m hm] at a3
    rw [show adlV (adler (s.extract 0 m)) = adlV ((adler (s.extract 0 m)).1, (adler (s.extract 0 m)).2) from rfl, a3]
    simp only [Option.bind_some]
    rw [impl_Adler_eq _ (by omega) k (by omega)]
    simp only [Option.bind_some, bne_self_eq_false]
    exact laws_FnSums_j0 s hs t ht hb m hm k (by omega)

end Go.Proofs.Ytcdpnaaeokjdaaa.Pure
