/- FnExactChunksText: both texts are one -/
import Derived.Test.YtefoebmcimnapaaPFnExactChunksTextx5
set_option linter.unusedVariables false
set_option linter.unusedSimpArgs false
namespace Go.Proofs.Ytefoebmcimnapaa.Pure
open Go.RowKit Go.Proofs.Ytefoebmcimnapaa.PFnExactChunksText Go.Proofs.YtefoebmcimnapaaW.PrintWords Go.Proofs.YtefoebmcimnapaaW.PrintLast

theorem w64 {x : Int} (h : -9223372036854775808 ≤ x) (h' : x ≤ 9223372036854775807) : wrap64 x = x := by unfold wrap64; omega
theorem wf_i64 {a : Int} (h : (Lit.int .i64 a).wf = true) : -9223372036854775808 ≤ a ∧ a ≤ 9223372036854775807 := by
  simpa [Lit.wf, IntKind.min, IntKind.max, IntKind.signed, IntKind.bits] using h
theorem wbt (s : ByteArray) (i : Int) : wrap64 (bt s i) = bt s i := w64 (by have := bt_range s i; omega) (by have := bt_range s i; omega)

theorem str_append (xs ys : List Int) : strOfNums xs ++ strOfNums ys = strOfNums (xs ++ ys) := by
  apply ByteArray.ext
  apply Array.ext'
  rw [ByteArray.data_append, Array.toList_append, strOfNums_data, strOfNums_data, strOfNums_data, List.map_append]
theorem str_nil : (⟨#[]⟩ : ByteArray) = strOfNums [] := rfl
theorem str_size (xs : List Int) : (strOfNums xs).size = xs.length := strOfNums_size xs

def p2 (n : Int) : Int := 2 ^ n.toNat
theorem p2_nat (n : Nat) : p2 n = ((2 ^ n : Nat) : Int) := by simp [p2]
theorem p2_succ (n : Int) (h : 0 ≤ n) : p2 (n + 1) = 2 * p2 n := by
  obtain ⟨m, rfl⟩ := Int.eq_ofNat_of_zero_le h
  have : ((m : Int) + 1) = ((m + 1 : Nat) : Int) := by omega
  rw [this, p2_nat, p2_nat, Nat.pow_succ]; push_cast; omega
theorem p2_zero : p2 0 = 1 := rfl
theorem p2_pos (n : Int) : 1 ≤ p2 n := by
  unfold p2
  have h := Nat.one_le_two_pow (n := n.toNat)
  exact_mod_cast h
theorem p2_le {m n : Int} (h : m ≤ n) : p2 m ≤ p2 n := by
  unfold p2
  have h := Nat.pow_le_pow_right (n := 2) (by decide) (show m.toNat ≤ n.toNat by omega)
  exact_mod_cast h
theorem p2_62 {n : Int} (h : n ≤ 62) : p2 n ≤ 4611686018427387904 := p2_le (n := 62) h
theorem p2_16 {n : Int} (h : n ≤ 16) : p2 n ≤ 65536 := p2_le (n := 16) h

/-- A number in so many bytes, the highest first. -/
def bigB (n : Int) : Nat → List Int
  | 0 => []
  | s + 1 => bigB (n / 256) s ++ [n % 256]
theorem bigB_len (s : Nat) : ∀ n, (bigB n s).length = s := by
  induction s with
  | zero => intro n; rfl
  | succ s ih => intro n; simp [bigB, ih]
theorem bigB_cons (s : Nat) : ∀ n : Int, bigB n (s + 1) = (n / 256 ^ s % 256) :: bigB n s := by
  induction s with
  | zero => intro n; simp [bigB]
  | succ s ih =>
    intro n
    have e : n / 256 / 256 ^ s = n / 256 ^ (s + 1) := by
      rw [Int.ediv_ediv_of_nonneg (by decide), Int.pow_succ, Int.mul_comm]
    calc bigB n (s + 1 + 1) = bigB (n / 256) (s + 1) ++ [n % 256] := rfl
      _ = (n / 256 ^ (s + 1) % 256) :: (bigB (n / 256) s ++ [n % 256]) := by rw [ih, e]; rfl
      _ = _ := rfl

/-- The number that n bytes tell, the highest first. -/
def valB (s : ByteArray) (o : Nat) : Nat → Int
  | 0 => 0
  | n + 1 => 256 * valB s o n + bt s ((o + n : Nat) : Int)
theorem valB_bd (s : ByteArray) (o n : Nat) : 0 ≤ valB s o n ∧ valB s o n < 256 ^ n := by
  induction n with
  | zero => simp [valB]
  | succ n ih => have := bt_range s ((o + n : Nat) : Int); simp only [valB, Int.pow_succ]; omega
theorem pow256 {n : Nat} (h : n ≤ 4) : (256 : Int) ^ n ≤ 4294967296 := by
  have : n = 0 ∨ n = 1 ∨ n = 2 ∨ n = 3 ∨ n = 4 := by omega
  rcases this with rfl | rfl | rfl | rfl | rfl <;> decide
def readBig (s : ByteArray) (at_ size : Int) : Int × Bool := if 1 ≤ size ∧ size ≤ 4 ∧ 0 ≤ at_ ∧ at_ ≤ s.size - size then (valB s at_.toNat size.toNat, true) else (0, false)

abbrev W32 := BitVec 32
def enc (v : W32) : Int := (v.toNat : Int)
theorem enc_bd (v : W32) : 0 ≤ enc v ∧ enc v < 4294967296 := by unfold enc; have := v.isLt; omega
theorem enc_inj {a b : W32} (h : enc a = enc b) : a = b := by
  unfold enc at h; exact BitVec.eq_of_toNat_eq (by omega)
theorem ofInt_enc (v : W32) : BitVec.ofInt 32 (enc v) = v := by
  unfold enc; rw [BitVec.ofInt_natCast]; exact BitVec.eq_of_toNat_eq (by rw [BitVec.toNat_ofNat, Nat.mod_eq_of_lt v.isLt])
theorem xor_enc (a b : W32) : Go.bits .xor .u32 (enc a) (enc b) = enc (a ^^^ b) := by
  unfold Go.bits
  simp only [IntKind.bits]
  rw [ofInt_enc, ofInt_enc, IntKind.wrap_u32]
  show ((a ^^^ b).toNat : Int) % 4294967296 = enc (a ^^^ b)
  have := (a ^^^ b).isLt
  unfold enc; omega
theorem not_enc (a : W32) : Go.bits .xor .u32 (-1) (enc a) = enc (~~~ a) := by
  unfold Go.bits
  simp only [IntKind.bits]
  rw [ofInt_enc, IntKind.wrap_u32]
  have e : BitVec.ofInt 32 (-1) ^^^ a = ~~~ a := by
    rw [show BitVec.ofInt 32 (-1) = BitVec.allOnes 32 from by decide, BitVec.allOnes_xor]
  show ((BitVec.ofInt 32 (-1) ^^^ a).toNat : Int) % 4294967296 = enc (~~~ a)
  rw [e]
  have := (~~~ a).isLt
  unfold enc; omega
def poly : W32 := 3988292384#32
def hstep (v : W32) : W32 := if v.toNat % 2 = 1 then (v >>> 1) ^^^ poly else v >>> 1
def hstepN : Nat → W32 → W32
  | 0, v => v
  | n + 1, v => hstepN n (hstep v)
def halved8 (v : W32) : W32 := hstepN 8 v
theorem shr_enc (v : W32) : enc (v >>> 1) = enc v / 2 := by
  unfold enc
  rw [BitVec.toNat_ushiftRight, Nat.shiftRight_eq_div_pow]
  omega
theorem odd_xor (a b : W32) : (a ^^^ b).toNat % 2 = (a.toNat % 2 + b.toNat % 2) % 2 := by
  rw [BitVec.toNat_xor]
  have h := Nat.testBit_xor a.toNat b.toNat 0
  simp only [Nat.testBit_zero] at h
  generalize a.toNat ^^^ b.toNat = x at h ⊢
  have hx : x % 2 = 0 ∨ x % 2 = 1 := by omega
  have ha : a.toNat % 2 = 0 ∨ a.toNat % 2 = 1 := by omega
  have hb : b.toNat % 2 = 0 ∨ b.toNat % 2 = 1 := by omega
  rcases hx with hx | hx <;> rcases ha with ha | ha <;> rcases hb with hb | hb <;> simp [hx, ha, hb] at h ⊢
theorem hstep_xor (a b : W32) : hstep (a ^^^ b) = hstep a ^^^ hstep b := by
  unfold hstep
  rw [odd_xor, BitVec.ushiftRight_xor_distrib]
  have ha : a.toNat % 2 = 0 ∨ a.toNat % 2 = 1 := by omega
  have hb : b.toNat % 2 = 0 ∨ b.toNat % 2 = 1 := by omega
  rcases ha with ha | ha <;> rcases hb with hb | hb <;> simp [ha, hb]
  · rw [BitVec.xor_assoc]
  · rw [BitVec.xor_assoc (a >>> 1) poly, BitVec.xor_comm poly, ← BitVec.xor_assoc]
  · rw [BitVec.xor_assoc, BitVec.xor_comm poly, BitVec.xor_assoc, BitVec.xor_self, BitVec.xor_zero]
theorem hstepN_xor (n : Nat) : ∀ a b : W32, hstepN n (a ^^^ b) = hstepN n a ^^^ hstepN n b := by
  induction n with
  | zero => intro a b; rfl
  | succ n ih => intro a b; simp only [hstepN]; rw [hstep_xor, ih]
theorem hstep_zero {v : W32} (h : hstep v = 0#32) : v = 0#32 := by
  unfold hstep at h
  have hv := v.isLt
  have e : (v >>> 1).toNat = v.toNat / 2 := by rw [BitVec.toNat_ushiftRight, Nat.shiftRight_eq_div_pow]
  split at h
  · have h2 : v >>> 1 = poly := by
      have := congrArg (· ^^^ poly) h
      simpa [BitVec.xor_assoc] using this
    have h3 := congrArg BitVec.toNat h2
    rw [e] at h3
    have : poly.toNat = 3988292384 := rfl
    omega
  · have h3 := congrArg BitVec.toNat h
    rw [e] at h3
    apply BitVec.eq_of_toNat_eq
    have : (0#32).toNat = 0 := rfl
    omega
theorem hstepN_zero (n : Nat) : ∀ {v : W32}, hstepN n v = 0#32 → v = 0#32 := by
  induction n with
  | zero => intro v h; exact h
  | succ n ih => intro v h; exact hstep_zero (ih h)
theorem halved8_inj {a b : W32} (h : halved8 a = halved8 b) : a = b := by
  have e : halved8 (a ^^^ b) = 0#32 := by
    unfold halved8 at h ⊢
    generalize (8 : Nat) = n at h ⊢
    rw [hstepN_xor, h, BitVec.xor_self]
  have : a ^^^ b = 0#32 := by
    unfold halved8 at e
    generalize (8 : Nat) = n at e
    exact hstepN_zero n e
  have h2 := congrArg (· ^^^ b) this
  simpa [BitVec.xor_assoc] using h2
theorem halved8_xor (a b : W32) : halved8 (a ^^^ b) = halved8 a ^^^ halved8 b := by
  unfold halved8
  generalize (8 : Nat) = n
  exact hstepN_xor n a b
/-- A sum taken through bytes. -/
def regW (h : W32 → W32) : W32 → List W32 → W32
  | r, [] => r
  | r, b :: bs => regW h (h (r ^^^ b)) bs
theorem regW_cons (h : W32 → W32) (r b : W32) (bs : List W32) : regW h r (b :: bs) = regW h (h (r ^^^ b)) bs := rfl
def reg (r : W32) (bs : List W32) : W32 := regW halved8 r bs
theorem reg_cons (r b : W32) (bs : List W32) : reg r (b :: bs) = reg (halved8 (r ^^^ b)) bs := regW_cons halved8 r b bs
theorem reg_append (xs ys : List W32) : ∀ r, reg r (xs ++ ys) = reg (reg r xs) ys := by
  induction xs with
  | nil => intro r; rfl
  | cons x xs ih => intro r; rw [List.cons_append, reg_cons, ih, reg_cons]
def timesW (h : W32 → W32) : Nat → W32 → W32
  | 0, v => v
  | n + 1, v => timesW h n (h v)
theorem timesW_succ (h : W32 → W32) (n : Nat) (v : W32) : timesW h (n + 1) v = timesW h n (h v) := rfl
def zeros8 (n : Nat) (v : W32) : W32 := timesW halved8 n v
theorem zeros8_succ (n : Nat) (v : W32) : zeros8 (n + 1) v = zeros8 n (halved8 v) := timesW_succ halved8 n v
theorem reg_xor (bs : List W32) : ∀ r x, reg (r ^^^ x) bs = reg r bs ^^^ zeros8 bs.length x := by
  induction bs with
  | nil => intro r x; rfl
  | cons b bs ih =>
    intro r x
    rw [reg_cons, reg_cons, List.length_cons, zeros8_succ]
    rw [show r ^^^ x ^^^ b = (r ^^^ b) ^^^ x by rw [BitVec.xor_assoc, BitVec.xor_comm x b, ← BitVec.xor_assoc], halved8_xor, ih]
theorem reg_inj (bs : List W32) : ∀ {r s}, reg r bs = reg s bs → r = s := by
  induction bs with
  | nil => intro r s h; exact h
  | cons b bs ih =>
    intro r s h
    rw [reg_cons, reg_cons] at h
    have h2 := halved8_inj (ih h)
    have h3 := congrArg (· ^^^ b) h2
    simpa [BitVec.xor_assoc] using h3
def wordsOf (s : ByteArray) : List W32 := (bytesOf s).map fun x => BitVec.ofInt 32 x
def crcMore (sum : W32) (s : ByteArray) : W32 := ~~~ reg (~~~ sum) (wordsOf s)
def crc (s : ByteArray) : W32 := crcMore 0#32 s
theorem bytesOf_len (s : ByteArray) : (bytesOf s).length = s.size := by
  unfold bytesOf; rw [List.length_map, Array.length_toList]; rfl
theorem wordsOf_len (s : ByteArray) : (wordsOf s).length = s.size := by unfold wordsOf; rw [List.length_map, bytesOf_len]
theorem bytesOf_get (s : ByteArray) (i : Nat) (h : i < s.size) : (bytesOf s)[i]'(by rw [bytesOf_len]; exact h) = bt s i := by
  have h2 : (i : Int).toNat < s.size := by simpa using h
  rw [← bt_at s i h2]
  simp only [bytesOf, List.getElem_map, Array.getElem_toList, Int.toNat_natCast]
  rfl
theorem wordsOf_get (s : ByteArray) (i : Nat) (h : i < s.size) : enc ((wordsOf s)[i]'(by rw [wordsOf_len]; exact h)) = bt s i := by
  have b := bt_range s i
  unfold wordsOf
  rw [List.getElem_map, bytesOf_get s i h]
  obtain ⟨m, hm⟩ := Int.eq_ofNat_of_zero_le b.1
  rw [hm, BitVec.ofInt_natCast]
  unfold enc
  rw [BitVec.toNat_ofNat]
  omega
theorem bytesOf_extract (s : ByteArray) (a b : Nat) : bytesOf (s.extract a b) = ((bytesOf s).drop a).take (b - a) := by
  unfold bytesOf
  rw [ByteArray.data_extract, Array.toList_extract, List.map_take, List.map_drop]
theorem wordsOf_extract (s : ByteArray) (a b : Nat) : wordsOf (s.extract a b) = ((wordsOf s).drop a).take (b - a) := by
  unfold wordsOf
  rw [bytesOf_extract, List.map_take, List.map_drop]
theorem wordsOf_cut (s : ByteArray) (m : Nat) (h : m ≤ s.size) : wordsOf (s.extract 0 m) ++ wordsOf (s.extract m s.size) = wordsOf s := by
  have hl := wordsOf_len s
  rw [wordsOf_extract, wordsOf_extract, List.drop_zero, Nat.sub_zero, List.take_of_length_le (i := s.size - m) (by rw [List.length_drop]; omega), List.take_append_drop]
theorem bytesOf_cut (s : ByteArray) (m : Nat) (h : m ≤ s.size) : bytesOf (s.extract 0 m) ++ bytesOf (s.extract m s.size) = bytesOf s := by
  have hl := bytesOf_len s
  rw [bytesOf_extract, bytesOf_extract, List.drop_zero, Nat.sub_zero, List.take_of_length_le (i := s.size - m) (by rw [List.length_drop]; omega), List.take_append_drop]
theorem not_not32 (a : W32) : ~~~ (~~~ a) = a := BitVec.not_not
theorem crc_more (s : ByteArray) (m : Nat) (h : m ≤ s.size) : crcMore (crc (s.extract 0 m)) (s.extract m s.size) = crc s := by
  unfold crc crcMore
  rw [not_not32, ← reg_append, wordsOf_cut s m h]
theorem crc_join (s : ByteArray) (m : Nat) (h : m ≤ s.size) : zeros8 (s.size - m) (crc (s.extract 0 m)) ^^^ crc (s.extract m s.size) = crc s := by
  have hl : (wordsOf (s.extract m s.size)).length = s.size - m := by rw [wordsOf_len, ByteArray.size_extract]; omega
  have e := crc_more s m h
  have flip : ∀ a : W32, ~~~ a = ~~~ (0#32) ^^^ a := by
    intro a
    rw [show ~~~ (0#32) = BitVec.allOnes 32 from by decide, BitVec.allOnes_xor]
  rw [← e]
  generalize crc (s.extract 0 m) = v
  unfold crcMore crc crcMore
  rw [flip v, reg_xor, hl]
  generalize reg (~~~ 0#32) (wordsOf (s.extract m s.size)) = y
  generalize zeros8 (s.size - m) v = z
  rw [flip (y ^^^ z), flip y, BitVec.xor_comm z, BitVec.xor_assoc]

def four (v : W32) : ByteArray := strOfNums (bigB (enc v) 4)

theorem impl_within_eq (a b c : Int) : impl_within.f a b c = some (decide (b ≤ a) && decide (a ≤ c)) := by
  unfold impl_within.f
  by_cases h : b ≤ a <;> simp [h]

def great (c : Int) : Bool := decide (65 ≤ c) && decide (c ≤ 90)
def small (c : Int) : Bool := decide (97 ≤ c) && decide (c ≤ 122)
theorem spec_l16Letter_eq (c : Int) : spec_l16Letter.f c = some (great c || small c) := by
  unfold spec_l16Letter.f great small
  by_cases h1 : 65 ≤ c
  · by_cases h2 : c ≤ 90
    · simp [h1, h2]
    · by_cases h3 : 97 ≤ c
      · simp [h1, h2, h3]
      · simp [h1, h2, h3]
  · have h3 : ¬ (97 ≤ c) := by omega
    simp [h1, h3]
theorem impl_isGreat_eq (s : ByteArray) (i : Int) : impl_isGreat.f (bt s i) = some (great (bt s i)) := by
  simp [impl_isGreat.f, wbt, impl_within_eq, great]
theorem impl_isSmall_eq (s : ByteArray) (i : Int) : impl_isSmall.f (bt s i) = some (small (bt s i)) := by
  simp [impl_isSmall.f, wbt, impl_within_eq, small]
/-- A letter that may stand at a place of a name. -/
def letterAt (s : ByteArray) (i : Int) : Bool := great (bt s i) || (small (bt s i) && decide (i ≠ 2))
def nameOk (s : ByteArray) : Bool := (s.size == 4) && letterAt s 0 && letterAt s 1 && letterAt s 2 && letterAt s 3
theorem impl_NameOk_round (s : ByteArray) (hs : s.size ≤ 9223372036854775807) (k : Nat) (i : Int) (h0 : 0 ≤ i) (h1 : i < s.size) :
    impl_NameOk.l0 (k + 1) s s.size i = if letterAt s i = true then impl_NameOk.l0 k s s.size (i + 1) else some false := by
  simp only [impl_NameOk.l0]
  rw [if_pos h1, if_pos h0, if_pos h1, impl_isGreat_eq, impl_isSmall_eq, w64 (by omega) (by omega)]
  simp only [Option.bind_some, letterAt]
  by_cases hg : great (bt s i) = true
  · simp [hg]
  · by_cases hm : small (bt s i) = true
    · by_cases h2 : i = 2
      · simp [hg, hm, h2]
      · simp [hg, hm, h2]
    · simp [hg, hm]
theorem impl_NameOk_end (s : ByteArray) (k : Nat) : impl_NameOk.l0 (k + 1) s s.size s.size = some (s.size == 4) := by
  simp only [impl_NameOk.l0]
  rw [if_neg (by omega)]
  congr 1
  rw [Bool.eq_iff_iff]
  simp
  omega
/-- A name that is not of four bytes is none. -/
theorem impl_NameOk_not4 (s : ByteArray) (hs : s.size ≤ 9223372036854775807) (h4 : s.size ≠ 4) (d : Nat) : ∀ (k : Nat) (i : Int), 0 ≤ i → i ≤ s.size → (s.size : Int) - i = d → d < k → impl_NameOk.l0 k s s.size i = some false := by
  induction d with
  | zero =>
    intro k i h0 h1 hd hk
    obtain ⟨k, rfl⟩ : ∃ m, k = m + 1 := ⟨k - 1, by omega⟩
    have : i = s.size := by omega
    subst this
    rw [impl_NameOk_end]
    simp [h4]
  | succ d ih =>
    intro k i h0 h1 hd hk
    obtain ⟨k, rfl⟩ : ∃ m, k = m + 1 := ⟨k - 1, by omega⟩
    rw [impl_NameOk_round s hs k i h0 (by omega)]
    split
    · exact ih k (i + 1) (by omega) (by omega) (by omega) (by omega)
    · rfl
theorem impl_NameOk_eq (s : ByteArray) (hs : s.size ≤ 9223372036854775807) (k : Nat) (hk : s.size + 5 ≤ k) : impl_NameOk.f k s = some (nameOk s) := by
  unfold impl_NameOk.f nameOk
  by_cases h4 : s.size = 4
  · obtain ⟨k, rfl⟩ : ∃ m, k = m + 5 := ⟨k - 5, by omega⟩
    have r := impl_NameOk_round s hs
    have e := impl_NameOk_end s
    rw [h4] at r e ⊢
    rw [r (k + 4) 0 (by omega) (by omega), r (k + 3) (0 + 1) (by omega) (by omega), r (k + 2) (0 + 1 + 1) (by omega) (by omega), r (k + 1) (0 + 1 + 1 + 1) (by omega) (by omega)]
    have e' : impl_NameOk.l0 (k + 1) s ((4 : Nat) : Int) (0 + 1 + 1 + 1 + 1) = some (4 == 4) := e k
    rw [e']
    simp only [Int.zero_add, show (1 : Int) + 1 = 2 from rfl, show (2 : Int) + 1 = 3 from rfl]
    cases letterAt s 0 <;> cases letterAt s 1 <;> cases letterAt s 2 <;> cases letterAt s 3 <;> rfl
  · rw [impl_NameOk_not4 s hs h4 s.size k 0 (by omega) (by omega) (by omega) (by omega)]
    simp [h4]
theorem spec_NameOk_eq (s : ByteArray) : spec_NameOk.f s = some (nameOk s) := by
  unfold spec_NameOk.f nameOk
  by_cases h4 : s.size = 4
  · simp only [spec_l16Letter_eq, Option.bind_some]
    rw [h4]
    have l0 : letterAt s 0 = (great (bt s 0) || small (bt s 0)) := by simp [letterAt]
    have l1 : letterAt s 1 = (great (bt s 1) || small (bt s 1)) := by simp [letterAt]
    have l3 : letterAt s 3 = (great (bt s 3) || small (bt s 3)) := by simp [letterAt]
    have l2 : letterAt s 2 = great (bt s 2) := by simp [letterAt]
    have q : ((great (bt s 2) || small (bt s 2)) && decide (bt s 2 ≤ 90)) = great (bt s 2) := by
      rw [Bool.eq_iff_iff]; simp [great, small]; omega
    rw [l0, l1, l2, l3]
    cases h0 : (great (bt s 0) || small (bt s 0)) <;> cases h1 : (great (bt s 1) || small (bt s 1)) <;> cases h3 : (great (bt s 3) || small (bt s 3)) <;> cases h2 : (great (bt s 2) || small (bt s 2)) <;> rw [← q, h2] <;> simp
  · rw [if_neg (by omega)]; simp [h4]

theorem rd_Chunk (xs : List S56) (i : Nat) (h : i < xs.length) : rd_T56 xs i = xs[i] := by
  simp [rd_T56, List.getD, h]

theorem bt_extract (s : ByteArray) (a b i : Nat) (h : a + i < min b s.size) : bt (s.extract a b) (i : Int) = bt s ((a + i : Nat) : Int) := by
  have h1 : (i : Int).toNat < (s.extract a b).size := by rw [ByteArray.size_extract]; simp; omega
  have h2 : ((a + i : Nat) : Int).toNat < s.size := by simp; omega
  rw [← bt_at _ _ h1, ← bt_at _ _ h2]
  simp only [Int.toNat_natCast]
  rw [ByteArray.getElem_extract]
theorem valB_extract (s : ByteArray) (a b o n : Nat) (h : a + o + n ≤ min b s.size) : valB (s.extract a b) o n = valB s (a + o) n := by
  induction n with
  | zero => rfl
  | succ n ih =>
    simp only [valB]
    rw [ih (by omega), bt_extract s a b (o + n) (by omega), show a + (o + n) = a + o + n by omega]
theorem toList_nil {s : ByteArray} : s.toList = ([] : List UInt8) ↔ s.size = 0 := by
  rw [ByteArray.toList_eq, List.eq_nil_iff_length_eq_zero, Array.length_toList]; rfl
/-- How many bytes of data a chunk tells. -/
def chunkN (s : ByteArray) (a : Nat) : Nat := (valB s a 4).toNat
def chunkNum (s : ByteArray) (a : Nat) : Int :=
  if s.size < a + 12 + chunkN s a then 2
  else if nameOk (s.extract (a + 4) (a + 8)) = false then 3
  else if (s.extract (a + 8 + chunkN s a) (a + 12 + chunkN s a)).toList = (four (crc (s.extract (a + 4) (a + 8 + chunkN s a)))).toList then 0 else 4
def chunkOf (s : ByteArray) (a : Nat) : S56 := ⟨s.extract (a + 4) (a + 8), s.extract (a + 8) (a + 8 + chunkN s a)⟩
def readChunks (s : ByteArray) : Nat → Nat → List S56 → List S56 × Int
  | 0, _, _ => ([], 5)
  | f + 1, a, acc => if a < s.size then (if acc.length = 40 then ([], 5) else if chunkNum s a = 0 then readChunks s f (a + 12 + chunkN s a) (acc ++ [chunkOf s a]) else ([], chunkNum s a)) else (acc, 0)
theorem chunkN_val (s : ByteArray) (a : Nat) : valB s a 4 = (chunkN s a : Int) ∧ chunkN s a < 4294967296 := by
  have b := valB_bd s a 4
  unfold chunkN
  rw [show (256 : Int) ^ 4 = 4294967296 from rfl] at b
  omega
def isSign (s : ByteArray) : Bool := decide (8 ≤ s.size) && (s.extract 0 8).toList == (⟨#[137, 80, 78, 71, 13, 10, 26, 10]⟩ : ByteArray).toList
def chunksOf (s : ByteArray) : List S56 × Int := if isSign s = true ∧ s.size ≤ 12000 then readChunks s 41 8 [] else ([], 1)
theorem readBig_in (s : ByteArray) (a : Nat) (h : a + 4 ≤ s.size) : readBig s a 4 = (valB s a 4, true) := by
  unfold readBig; rw [if_pos (by omega)]; rfl
theorem readBig_out (s : ByteArray) (a : Nat) (h : s.size < a + 4) : readBig s a 4 = (0, false) := by
  unfold readBig; rw [if_neg (by omega)]

theorem bt_str (xs : List Int) (i : Nat) (h : i < xs.length) (h0 : 0 ≤ xs[i]) (h1 : xs[i] ≤ 255) : bt (strOfNums xs) i = xs[i] := by
  have hs : (i : Int).toNat < (strOfNums xs).size := by rw [str_size]; simpa using h
  rw [← bt_at (strOfNums xs) i hs]
  have e : (strOfNums xs)[(i : Int).toNat]'hs = UInt8.ofNat xs[i].toNat := by
    have := strOfNums_data xs
    have q : (strOfNums xs).data.toList[i]? = some (UInt8.ofNat xs[i].toNat) := by rw [this]; simp [h]
    rw [ByteArray.getElem_eq_getElem_data]
    simp only [Array.getElem?_toList] at q
    obtain ⟨_, h⟩ := Array.getElem?_eq_some_iff.1 q
    simpa using h
  rw [e]
  simp
  omega
/-- The bits of bytes that were made of bits. -/

theorem bytesOf_str (xs : List Int) (hx : ∀ x ∈ xs, 0 ≤ x ∧ x ≤ 255) : bytesOf (strOfNums xs) = xs := by
  unfold bytesOf
  rw [strOfNums_data, List.map_map]
  refine (List.map_congr_left (g := id) ?_).trans (List.map_id _)
  intro x hm
  have := hx x hm
  simp only [Function.comp, UInt8.toNat_ofNat', id]
  omega
theorem bytesOf_bd (s : ByteArray) : ∀ x ∈ bytesOf s, 0 ≤ x ∧ x ≤ 255 := by
  intro x hx
  unfold bytesOf at hx
  obtain ⟨b, _, rfl⟩ := List.mem_map.mp hx
  have := b.toNat_lt
  omega
theorem xor8 (a b : Int) (ha : 0 ≤ a ∧ a ≤ 255) (hb : 1 ≤ b ∧ b ≤ 255) : 0 ≤ Go.bits .xor .u8 a b ∧ Go.bits .xor .u8 a b ≤ 255 ∧ Go.bits .xor .u8 a b ≠ a := by
  obtain ⟨m, rfl⟩ := Int.eq_ofNat_of_zero_le ha.1
  obtain ⟨n, rfl⟩ := Int.eq_ofNat_of_zero_le (show 0 ≤ b by omega)
  unfold Go.bits
  simp only [IntKind.bits]
  rw [BitVec.ofInt_natCast, BitVec.ofInt_natCast, IntKind.wrap_u8]
  show 0 ≤ ((BitVec.ofNat 8 m ^^^ BitVec.ofNat 8 n).toNat : Int) % 256 ∧ ((BitVec.ofNat 8 m ^^^ BitVec.ofNat 8 n).toNat : Int) % 256 ≤ 255 ∧ ((BitVec.ofNat 8 m ^^^ BitVec.ofNat 8 n).toNat : Int) % 256 ≠ m
  have l := (BitVec.ofNat 8 m ^^^ BitVec.ofNat 8 n).isLt
  refine ⟨by omega, by omega, fun e => ?_⟩
  have e2 : BitVec.ofNat 8 m ^^^ BitVec.ofNat 8 n = BitVec.ofNat 8 m := BitVec.eq_of_toNat_eq (by rw [BitVec.toNat_ofNat (x := m)]; omega)
  have e3 := congrArg (BitVec.ofNat 8 m ^^^ ·) e2
  simp only [← BitVec.xor_assoc, BitVec.xor_self, BitVec.zero_xor] at e3
  have e4 := congrArg BitVec.toNat e3
  rw [BitVec.toNat_ofNat] at e4
  have : (0#8).toNat = 0 := rfl
  omega
theorem crc_set (s : ByteArray) (j : Nat) (hj : j < s.size) (v : Int) (hv : 0 ≤ v ∧ v ≤ 255) (hne : v ≠ bt s j) : crc (strOfNums ((bytesOf s).set j v)) ≠ crc s := by
  have hl := bytesOf_len s
  have lw := wordsOf_len s
  have g := wordsOf_get s j hj
  have hb : ∀ x ∈ (bytesOf s).set j v, 0 ≤ x ∧ x ≤ 255 := by
    intro x hx
    rcases List.mem_or_eq_of_mem_set hx with h | h
    · exact bytesOf_bd s x h
    · omega
  have hw : wordsOf (strOfNums ((bytesOf s).set j v)) = (wordsOf s).set j (BitVec.ofInt 32 v) := by
    unfold wordsOf
    rw [bytesOf_str _ hb, List.map_set]
  intro e
  unfold crc crcMore at e
  rw [hw] at e
  have e2 := congrArg (~~~ ·) e
  simp only [BitVec.not_not] at e2
  have s1 : (wordsOf s).set j (BitVec.ofInt 32 v) = (wordsOf s).take j ++ BitVec.ofInt 32 v :: (wordsOf s).drop (j + 1) := by
    rw [List.set_eq_take_append_cons_drop, if_pos (by omega)]
  have s2 : wordsOf s = (wordsOf s).take j ++ (wordsOf s)[j]'(by omega) :: (wordsOf s).drop (j + 1) := by
    rw [← List.drop_eq_getElem_cons, List.take_append_drop]
  rw [s1, reg_append, reg_cons] at e2
  rw [congrArg (reg (~~~ 0#32)) s2, reg_append, reg_cons] at e2
  have e3 := halved8_inj (reg_inj _ e2)
  have e4 := congrArg (reg (~~~ 0#32) ((wordsOf s).take j) ^^^ ·) e3
  simp only [← BitVec.xor_assoc, BitVec.xor_self, BitVec.zero_xor] at e4
  rw [← e4] at g
  obtain ⟨m, rfl⟩ := Int.eq_ofNat_of_zero_le hv.1
  rw [BitVec.ofInt_natCast] at g
  unfold enc at g
  rw [BitVec.toNat_ofNat] at g
  omega

def bigT (n : Nat) : ByteArray := strOfNums (bigB (n : Int) 4)
/-- A chunk, as it stands in a file. -/
def chunkB (x : S56) : ByteArray := bigT x.f1.size ++ x.f0 ++ x.f1 ++ four (crc (x.f0 ++ x.f1))
def chunksT : ByteArray → List S56 → ByteArray × Bool
  | acc, [] => (acc, true)
  | acc, x :: xs => if nameOk x.f0 = true ∧ acc.size + x.f1.size + 12 ≤ 12000 then chunksT (acc ++ chunkB x) xs else (⟨#[]⟩, false)
def signT : ByteArray := ⟨#[137, 80, 78, 71, 13, 10, 26, 10]⟩
def chunksText (xs : List S56) : ByteArray × Bool := if xs.length ≤ 40 then chunksT signT xs else (⟨#[]⟩, false)
theorem bigT_size (n : Nat) : (bigT n).size = 4 := by unfold bigT; rw [str_size, bigB_len]
theorem four_size (v : W32) : (four v).size = 4 := by unfold four; rw [str_size, bigB_len]
theorem nameOk_size {s : ByteArray} (h : nameOk s = true) : s.size = 4 := by
  unfold nameOk at h
  simp only [Bool.and_eq_true, beq_iff_eq] at h
  exact h.1.1.1.1
theorem chunkB_size {x : S56} (h : nameOk x.f0 = true) : (chunkB x).size = x.f1.size + 12 := by
  unfold chunkB
  rw [ByteArray.size_append, ByteArray.size_append, ByteArray.size_append, bigT_size, four_size, nameOk_size h]; omega
theorem bytes_ext {s t : ByteArray} (h : bytesOf s = bytesOf t) : s = t := by
  have e : ∀ u : ByteArray, strOfNums (bytesOf u) = u := by
    intro u
    apply ByteArray.ext
    apply Array.ext'
    rw [strOfNums_data]
    unfold bytesOf
    rw [List.map_map]
    have : (fun n : Int => UInt8.ofNat n.toNat) ∘ (fun b : UInt8 => (b.toNat : Int)) = id := by
      funext b; simp
    rw [this, List.map_id]
  rw [← e s, h, e]
theorem bytesOf_append (s t : ByteArray) : bytesOf (s ++ t) = bytesOf s ++ bytesOf t := by
  unfold bytesOf
  rw [ByteArray.data_append, Array.toList_append, List.map_append]
theorem ext_mid (a b c : ByteArray) (i j : Nat) (hi : i = a.size) (hj : j = a.size + b.size) : (a ++ b ++ c).extract i j = b := by
  have la := bytesOf_len a
  have lb := bytesOf_len b
  apply bytes_ext
  rw [bytesOf_extract, bytesOf_append, bytesOf_append, List.append_assoc, hi, hj, ← la, List.drop_left, show (bytesOf a).length + b.size - (bytesOf a).length = (bytesOf b).length by omega, List.take_left]
/-- A text with one byte turned. -/
def turnAt (s : ByteArray) (j : Nat) (v : Int) : ByteArray := strOfNums ((bytesOf s).set j v)
theorem turnAt_size (s : ByteArray) (j : Nat) (v : Int) : (turnAt s j v).size = s.size := by unfold turnAt; rw [str_size, List.length_set, bytesOf_len]
theorem turnAt_bytes (s : ByteArray) (j : Nat) (v : Int) (hv : 0 ≤ v ∧ v ≤ 255) : bytesOf (turnAt s j v) = (bytesOf s).set j v := by
  unfold turnAt
  refine bytesOf_str _ (fun x hx => ?_)
  rcases List.mem_or_eq_of_mem_set hx with h | h
  · exact bytesOf_bd s x h
  · omega
theorem turnAt_out (s : ByteArray) (j : Nat) (v : Int) (hv : 0 ≤ v ∧ v ≤ 255) (a b : Nat) (h : j < a ∨ b ≤ j) : (turnAt s j v).extract a b = s.extract a b := by
  apply bytes_ext
  rw [bytesOf_extract, bytesOf_extract, turnAt_bytes s j v hv]
  apply List.ext_getElem?
  intro i
  rw [List.getElem?_take, List.getElem?_take]
  split
  · rw [List.getElem?_drop, List.getElem?_drop, List.getElem?_set_ne (by omega)]
  · rfl
theorem turnAt_in (s : ByteArray) (j : Nat) (v : Int) (hv : 0 ≤ v ∧ v ≤ 255) (a b : Nat) (h : a ≤ j) : (turnAt s j v).extract a b = turnAt (s.extract a b) (j - a) v := by
  apply bytes_ext
  rw [bytesOf_extract, turnAt_bytes s j v hv, turnAt_bytes _ _ v hv, bytesOf_extract, List.drop_set, if_neg (by omega), List.take_set]
theorem valB_by (s : ByteArray) (a : Nat) (h : a + 4 ≤ s.size) : valB s a 4 = valB (s.extract a (a + 4)) 0 4 := by
  rw [valB_extract s a (a + 4) 0 4 (by omega)]; rfl
theorem valB_big (n : Nat) (h : n < 4294967296) : valB (bigT n) 0 4 = n := by
  have hb : ∀ x ∈ bigB (n : Int) 4, 0 ≤ x ∧ x ≤ 255 := by
    intro x hx
    simp [bigB] at hx
    rcases hx with rfl | rfl | rfl | rfl <;> omega
  have l := bigB_len 4 (n : Int)
  have g : ∀ i (hi : i < 4), bt (bigT n) (i : Nat) = (bigB (n : Int) 4)[i]'(by omega) := fun i hi => bt_str _ i (by omega) (hb _ (List.getElem_mem _)).1 (hb _ (List.getElem_mem _)).2
  have g0 := g 0 (by omega)
  have g1 := g 1 (by omega)
  have g2 := g 2 (by omega)
  have g3 := g 3 (by omega)
  simp only [valB]
  simp only [Nat.zero_add, Nat.add_zero] at g0 g1 g2 g3 ⊢
  rw [g0, g1, g2, g3]
  simp [bigB]
  omega

theorem spec_l01Big_l0 (size : Nat) (hs : size ≤ 1000) (r : Nat) : ∀ (k i : Nat) (n : Int) (s : List Int), 0 ≤ n → n ≤ 9223372036854775807 → i + r = size → r < k → s.length = i → spec_l01Big.l0 k n size (strOfNums s) i = some (strOfNums (bigB n r ++ s)) := by
  induction r with
  | zero =>
    intro k i n s h0 h1 hi hk hl
    obtain ⟨k, rfl⟩ : ∃ m, k = m + 1 := ⟨k - 1, by omega⟩
    simp only [spec_l01Big.l0]
    rw [if_neg (by omega)]
    rfl
  | succ r ih =>
    intro k i n s h0 h1 hi hk hl
    obtain ⟨k, rfl⟩ : ∃ m, k = m + 1 := ⟨k - 1, by omega⟩
    simp only [spec_l01Big.l0, Option.bind_some]
    rw [if_pos (by omega), str_size, str_size, if_pos (by simp; omega), str_append, Int.tmod_eq_emod_of_nonneg h0, Int.tdiv_eq_ediv_of_nonneg h0, w64 (x := n / 256) (by omega) (by omega), w64 (x := (i : Int) + 1) (by omega) (by omega)]
    have step := ih k (i + 1) (n / 256) ([n % 256 % 256] ++ s) (by omega) (by omega) (by omega) (by omega) (by simp; omega)
    push_cast at step
    rw [step, show n % 256 % 256 = n % 256 by omega]
    simp [bigB]
theorem spec_l01Big_eq (size : Nat) (hs : size ≤ 1000) (n : Int) (h0 : 0 ≤ n) (h1 : n ≤ 9223372036854775807) (k : Nat) (hk : size < k) : spec_l01Big.f k n size = some (strOfNums (bigB n size)) := by
  unfold spec_l01Big.f
  have R := spec_l01Big_l0 size hs size k 0 n [] h0 h1 (by omega) hk rfl
  rw [List.append_nil] at R
  exact R

theorem not_enc_s (a : W32) : Go.bits .xor .u32 (enc a) 4294967295 = enc (~~~ a) := by
  rw [show (4294967295 : Int) = enc (BitVec.allOnes 32) from by decide, xor_enc, BitVec.xor_allOnes]
theorem spec_l02Step_l0 (r : Nat) : ∀ (k i : Nat) (v : W32), i + r = 8 → r < k → spec_l02Step.l0 k (enc v) i = some (enc (hstepN r v)) := by
  induction r with
  | zero =>
    intro k i v hi hk
    obtain ⟨k, rfl⟩ : ∃ m, k = m + 1 := ⟨k - 1, by omega⟩
    simp only [spec_l02Step.l0]
    rw [if_neg (by omega)]; rfl
  | succ r ih =>
    intro k i v hi hk
    obtain ⟨k, rfl⟩ : ∃ m, k = m + 1 := ⟨k - 1, by omega⟩
    have b := enc_bd v
    have st := ih k (i + 1) (hstep v) (by omega) (by omega)
    push_cast at st
    simp only [spec_l02Step.l0]
    rw [if_pos (by omega), w64 (x := (i : Int) + 1) (by omega) (by omega), Int.tmod_eq_emod_of_nonneg b.1, Int.tdiv_eq_ediv_of_nonneg b.1, show enc v / 2 % 4294967296 = enc v / 2 by omega, ← shr_enc, show (3988292384 : Int) = enc poly from rfl, xor_enc]
    unfold hstep at st
    by_cases h : v.toNat % 2 = 1
    · rw [if_pos (show enc v % 2 = 1 by unfold enc; omega)]
      rw [if_pos h] at st
      rw [st]
      simp [hstepN, hstep, h]
    · rw [if_neg (show ¬ (enc v % 2 = 1) by unfold enc; omega)]
      rw [if_neg h] at st
      rw [st]
      simp [hstepN, hstep, h]
theorem spec_l02Step_eq (v : W32) (k : Nat) (hk : 9 ≤ k) : spec_l02Step.f k (enc v) = some (enc (halved8 v)) := spec_l02Step_l0 8 k 0 v (by omega) (by omega)
theorem spec_CrcMore_l0 (s : ByteArray) (hs : s.size ≤ 9223372036854775807) (n : Nat) : ∀ (k i : Nat) (v : W32), i ≤ s.size → s.size - i = n → n + 10 < k → spec_CrcMore.l0 k s (enc v) i = some (enc (~~~ reg v ((wordsOf s).drop i))) := by
  have hl := wordsOf_len s
  induction n with
  | zero =>
    intro k i v hi hn hk
    obtain ⟨k, rfl⟩ : ∃ m, k = m + 1 := ⟨k - 1, by omega⟩
    simp only [spec_CrcMore.l0]
    rw [if_neg (by omega), not_enc_s, List.drop_eq_nil_of_le (by omega)]; rfl
  | succ n ih =>
    intro k i v hi hn hk
    obtain ⟨k, rfl⟩ : ∃ m, k = m + 1 := ⟨k - 1, by omega⟩
    have lt : i < s.size := by omega
    have b := bt_range s i
    have st := fun v => ih k (i + 1) v (by omega) (by omega) (by omega)
    push_cast at st
    simp only [spec_CrcMore.l0]
    rw [if_pos (by omega), if_pos (by omega), show bt s i % 4294967296 = bt s i by omega, ← wordsOf_get s i lt, xor_enc, spec_l02Step_eq _ k (by omega)]
    simp only [Option.bind_some]
    rw [w64 (x := (i : Int) + 1) (by omega) (by omega), st, List.drop_eq_getElem_cons (l := wordsOf s) (i := i) (by omega), reg_cons]
theorem spec_CrcMore_eq (sum : W32) (s : ByteArray) (hs : s.size ≤ 9223372036854775807) (k : Nat) (hk : s.size + 10 < k) : spec_CrcMore.f k (enc sum) s = some (enc (crcMore sum s)) := by
  unfold spec_CrcMore.f crcMore
  rw [not_enc_s]
  have := spec_CrcMore_l0 s hs s.size k 0 (~~~ sum) (by omega) (by omega) hk
  simpa using this
theorem spec_Crc_eq (s : ByteArray) (hs : s.size ≤ 9223372036854775807) (k : Nat) (hk : s.size + 10 < k) : spec_Crc.f k s = some (enc (crc s)) := by
  unfold spec_Crc.f
  have := spec_CrcMore_eq 0#32 s hs k hk
  change spec_CrcMore.f k 0 s = _ at this
  rw [this]; rfl

theorem spec_l11Four_eq (v : W32) (k : Nat) (hk : 4 < k) : spec_l11Four.f k (enc v) = some (four v) := by
  have b := enc_bd v
  have e := spec_l01Big_eq 4 (by omega) (enc v) b.1 (by omega) k hk
  unfold spec_l11Four.f four
  rw [w64 (by omega) (by omega)]
  rw [show ((4 : Nat) : Int) = 4 from rfl] at e
  rw [e]; rfl

theorem str_bytesOf2 (s : ByteArray) : strOfNums (bytesOf s) = s := by
  apply bytes_ext
  exact bytesOf_str _ (fun x hx => bytesOf_bd s x hx)
theorem spec_ChunksText_l0 (xs : List S56) (hx : xs.length ≤ 40) (hz : ∀ x ∈ xs, x.f0.size ≤ 1048576 ∧ x.f1.size ≤ 1048576) (d : Nat) : ∀ (k i : Nat) (acc : ByteArray), i ≤ xs.length → xs.length - i = d → 2 * d + 1048700 < k → acc.size ≤ 12000 → spec_ChunksText.l0 k xs (bytesOf acc) i = some (chunksT acc (xs.drop i)) := by
  induction d with
  | zero =>
    intro k i acc hi hd hk ha
    obtain ⟨k, rfl⟩ : ∃ m, k = m + 1 := ⟨k - 1, by omega⟩
    simp only [spec_ChunksText.l0]
    rw [if_neg (by omega), List.drop_eq_nil_of_le (by omega), str_bytesOf2]; rfl
  | succ d ih =>
    intro k i acc hi hd hk ha
    obtain ⟨k, rfl⟩ : ∃ m, k = m + 2 := ⟨k - 2, by omega⟩
    have lt : i < xs.length := by omega
    have z := hz _ (List.getElem_mem lt)
    have no : ∀ e f, spec_ChunksText.j1 (k + 1) xs (bytesOf acc) i true e f = some (⟨#[]⟩, false) := fun e f => by simp [spec_ChunksText.j1]
    rw [spec_ChunksText.l0, if_pos (by omega), if_pos (by omega), rd_Chunk xs i lt, spec_NameOk_eq, Option.bind_some, List.drop_eq_getElem_cons lt, chunksT]
    by_cases hn : nameOk xs[i].f0 = true
    · rw [if_pos hn]
      have n4 := nameOk_size hn
      by_cases hf : acc.size + xs[i].f1.size + 12 ≤ 12000
      · rw [decide_eq_false (by omega), if_pos ⟨hn, hf⟩]
        have zb : (strOfNums (bigB (xs[i].f1.size : Int) 4)).size = 4 := by rw [str_size, bigB_len]
        have zc := chunkB_size hn
        have st := ih k (i + 1) (acc ++ chunkB xs[i]) (by omega) (by omega) (by omega) (by rw [ByteArray.size_append, zc]; omega)
        push_cast at st
        have b4 := spec_l01Big_eq 4 (by omega) (xs[i].f1.size : Int) (by omega) (by omega) k (by omega)
        rw [show ((4 : Nat) : Int) = 4 from rfl] at b4
        simp only [spec_ChunksText.j1, Bool.false_eq_true, if_false]
        rw [b4, Option.bind_some, zb, if_pos (by omega), if_pos (by rw [ByteArray.size_append, zb]; omega), if_pos (by omega), spec_Crc_eq _ (by rw [ByteArray.size_append]; omega) k (by rw [ByteArray.size_append]; omega)]
        unfold chunkB bigT at st zc ⊢
        generalize crc (xs[i].f0 ++ xs[i].f1) = v at st zc ⊢
        rw [Option.bind_some, spec_l11Four_eq v k (by omega), Option.bind_some]
        have zf := four_size v
        rw [if_pos (by rw [ByteArray.size_append, ByteArray.size_append, zb, zf]; omega), if_pos (by rw [ByteArray.size_append, ByteArray.size_append, ByteArray.size_append, zb, zf]; omega), Option.bind_some,
          if_pos (by rw [bytesOf_len, bytesOf_len, zc]; omega), Option.bind_some, if_neg (by rw [List.length_append, bytesOf_len, bytesOf_len, zc]; omega), w64 (by omega) (by omega), ← bytesOf_append]
        exact st
      · rw [if_neg (fun q => hf q.2)]
        by_cases hd : xs[i].f1.size ≤ 12000
        · rw [decide_eq_false (by omega)]
          have zb : (strOfNums (bigB (xs[i].f1.size : Int) 4)).size = 4 := by rw [str_size, bigB_len]
          have zc := chunkB_size hn
          have b4 := spec_l01Big_eq 4 (by omega) (xs[i].f1.size : Int) (by omega) (by omega) k (by omega)
          rw [show ((4 : Nat) : Int) = 4 from rfl] at b4
          simp only [spec_ChunksText.j1, Bool.false_eq_true, if_false]
          rw [b4, Option.bind_some, zb, if_pos (by omega), if_pos (by rw [ByteArray.size_append, zb]; omega), if_pos (by omega), spec_Crc_eq _ (by rw [ByteArray.size_append]; omega) k (by rw [ByteArray.size_append]; omega)]
          unfold chunkB bigT at zc
          generalize crc (xs[i].f0 ++ xs[i].f1) = v at zc ⊢
          rw [Option.bind_some, spec_l11Four_eq v k (by omega), Option.bind_some]
          have zf := four_size v
          rw [if_pos (by rw [ByteArray.size_append, ByteArray.size_append, zb, zf]; omega), if_pos (by rw [ByteArray.size_append, ByteArray.size_append, ByteArray.size_append, zb, zf]; omega), Option.bind_some,
            if_pos (by rw [bytesOf_len, bytesOf_len, zc]; omega), Option.bind_some, if_pos (by rw [List.length_append, bytesOf_len, bytesOf_len, zc]; omega)]
        · rw [decide_eq_true (by omega), no]
    · rw [if_neg hn, if_neg (fun q => hn q.1), no]
theorem spec_ChunksText_eq (xs : List S56) (hl : xs.length ≤ 9223372036854775807) (hz : ∀ x ∈ xs, x.f0.size ≤ 1048576 ∧ x.f1.size ≤ 1048576) (k : Nat) (hk : 1048900 ≤ k) : spec_ChunksText.f k xs = some (chunksText xs) := by
  unfold spec_ChunksText.f chunksText
  by_cases h : xs.length ≤ 40
  · rw [if_neg (by omega), if_pos h]
    have R := spec_ChunksText_l0 xs h hz xs.length k 0 signT (by omega) (by omega) (by omega) (by decide)
    unfold spec_l16Sign.f
    rw [Option.bind_some, if_pos (by decide)]
    exact R
  · rw [if_pos (by omega), if_neg h]

theorem impl_halved_l0 (r : Nat) : ∀ (k i : Nat) (v : W32), i + r = 8 → r < k → impl_halved.l0 k (enc v) i = some (enc (hstepN r v)) := by
  induction r with
  | zero =>
    intro k i v hi hk
    obtain ⟨k, rfl⟩ : ∃ m, k = m + 1 := ⟨k - 1, by omega⟩
    simp only [impl_halved.l0]
    rw [if_neg (by omega)]; rfl
  | succ r ih =>
    intro k i v hi hk
    obtain ⟨k, rfl⟩ : ∃ m, k = m + 1 := ⟨k - 1, by omega⟩
    have b := enc_bd v
    have st := ih k (i + 1) (hstep v) (by omega) (by omega)
    push_cast at st
    simp only [impl_halved.l0]
    rw [if_pos (by omega), w64 (x := (i : Int) + 1) (by omega) (by omega), Int.tmod_eq_emod_of_nonneg b.1, Int.tdiv_eq_ediv_of_nonneg b.1, show enc v / 2 % 4294967296 = enc v / 2 by omega, ← shr_enc, show (3988292384 : Int) = enc poly from rfl, xor_enc]
    unfold hstep at st
    by_cases h : v.toNat % 2 = 1
    · rw [if_pos (show enc v % 2 = 1 by unfold enc; omega)]
      rw [if_pos h] at st
      rw [st]
      simp [hstepN, hstep, h]
    · rw [if_neg (show ¬ (enc v % 2 = 1) by unfold enc; omega)]
      rw [if_neg h] at st
      rw [st]
      simp [hstepN, hstep, h]
theorem impl_halved_eq (v : W32) (k : Nat) (hk : 9 ≤ k) : impl_halved.f k (enc v) = some (enc (halved8 v)) := impl_halved_l0 8 k 0 v (by omega) (by omega)
theorem impl_CrcMore_l0 (s : ByteArray) (hs : s.size ≤ 9223372036854775807) (n : Nat) : ∀ (k i : Nat) (v : W32), i ≤ s.size → s.size - i = n → n + 10 < k → impl_CrcMore.l0 k (enc v) s s.size i = some (enc (~~~ reg v ((wordsOf s).drop i))) := by
  have hl := wordsOf_len s
  induction n with
  | zero =>
    intro k i v hi hn hk
    obtain ⟨k, rfl⟩ : ∃ m, k = m + 1 := ⟨k - 1, by omega⟩
    simp only [impl_CrcMore.l0]
    rw [if_neg (by omega), not_enc, List.drop_eq_nil_of_le (by omega)]; rfl
  | succ n ih =>
    intro k i v hi hn hk
    obtain ⟨k, rfl⟩ : ∃ m, k = m + 1 := ⟨k - 1, by omega⟩
    have lt : i < s.size := by omega
    have b := bt_range s i
    have st := fun v => ih k (i + 1) v (by omega) (by omega) (by omega)
    push_cast at st
    simp only [impl_CrcMore.l0]
    rw [if_pos (by omega), if_pos (by omega), if_pos (by omega), show bt s i % 4294967296 = bt s i by omega, ← wordsOf_get s i lt, xor_enc, impl_halved_eq _ k (by omega)]
    simp only [Option.bind_some]
    rw [w64 (x := (i : Int) + 1) (by omega) (by omega), st, List.drop_eq_getElem_cons (l := wordsOf s) (i := i) (by omega), reg_cons]
theorem impl_CrcMore_eq (sum : W32) (s : ByteArray) (hs : s.size ≤ 9223372036854775807) (k : Nat) (hk : s.size + 10 < k) : impl_CrcMore.f k (enc sum) s = some (enc (crcMore sum s)) := by
  unfold impl_CrcMore.f crcMore
  rw [not_enc]
  have := impl_CrcMore_l0 s hs s.size k 0 (~~~ sum) (by omega) (by omega) hk
  simpa using this
theorem impl_Crc_eq (s : ByteArray) (hs : s.size ≤ 9223372036854775807) (k : Nat) (hk : s.size + 10 < k) : impl_Crc.f k s = some (enc (crc s)) := by
  unfold impl_Crc.f
  have := impl_CrcMore_eq 0#32 s hs k hk
  change impl_CrcMore.f k 0 s = _ at this
  rw [this]; rfl

theorem shl_one (n : Int) (h0 : 0 ≤ n) (h62 : n ≤ 62) : shl .i64 1 n = p2 n := by
  have b1 := p2_pos n
  have b2 := p2_62 h62
  unfold shl
  rw [show min n.toNat IntKind.i64.bits = n.toNat by simp [IntKind.bits]; omega, Int.one_mul, IntKind.wrap_i64]
  show (p2 n + 9223372036854775808) % 18446744073709551616 - 9223372036854775808 = p2 n
  omega
theorem impl_powerOf_eq (n : Int) : impl_powerOf.f n = some (if 0 ≤ n ∧ n ≤ 62 then p2 n else 0) := by
  unfold impl_powerOf.f
  rw [impl_within_eq]
  simp only [Option.bind_some]
  by_cases h0 : 0 ≤ n
  · by_cases h1 : n ≤ 62
    · simp [h0, h1, shl_one n h0 h1]
    · simp [h0, h1]
  · simp [h0]

theorem shr_bytes (n : Int) (i : Nat) (hi : i ≤ 7) : shr .i64 n (8 * (i : Int)) = n / 256 ^ i := by
  unfold shr
  rw [show min (8 * (i : Int)).toNat IntKind.i64.bits = 8 * i by simp [IntKind.bits]; omega, Int.pow_mul]
  rfl
theorem impl_BigText_l0 (n : Int) (r : Nat) : ∀ (k : Nat) (s : List Int), r ≤ 4 → r < k → s.length + r ≤ 4 → impl_BigText.l0 k n s ((r : Int) - 1) = some (strOfNums (s ++ bigB n r), true) := by
  induction r with
  | zero =>
    intro k s hr hk hs
    obtain ⟨k, rfl⟩ : ∃ m, k = m + 1 := ⟨k - 1, by omega⟩
    simp only [impl_BigText.l0]
    rw [if_neg (by omega)]
    simp [bigB]
  | succ r ih =>
    intro k s hr hk hs
    obtain ⟨k, rfl⟩ : ∃ m, k = m + 1 := ⟨k - 1, by omega⟩
    have e : (((r + 1 : Nat) : Int) - 1) = r := by omega
    rw [e]
    simp only [impl_BigText.l0]
    rw [w64 (x := 8 * (r : Int)) (by omega) (by omega), if_pos (by omega), if_pos (by omega), if_pos (by omega), shr_bytes n r (by omega), w64 (x := (r : Int) - 1) (by omega) (by omega)]
    rw [ih k _ (by omega) (by omega) (by simp; omega), bigB_cons]
    simp
theorem impl_BigText_eq (n size : Int) (k : Nat) (hk : 6 ≤ k) : impl_BigText.f k n size = some (if 1 ≤ size ∧ size ≤ 4 ∧ 0 ≤ n ∧ n ≤ p2 (8 * size) - 1 then (strOfNums (bigB n size.toNat), true) else (⟨#[]⟩, false)) := by
  obtain ⟨k, rfl⟩ : ∃ m, k = m + 1 := ⟨k - 1, by omega⟩
  unfold impl_BigText.f
  simp only [impl_within_eq, impl_powerOf_eq, Option.bind_some]
  by_cases h : 1 ≤ size ∧ size ≤ 4
  · have b1 := p2_pos (8 * size)
    have b2 := p2_62 (n := 8 * size) (by omega)
    rw [if_pos (by simp; omega), w64 (x := 8 * size) (by omega) (by omega), if_pos (by omega), w64 (x := p2 (8 * size) - 1) (by omega) (by omega)]
    simp only [impl_BigText.j0]
    by_cases hn : 0 ≤ n ∧ n ≤ p2 (8 * size) - 1
    · obtain ⟨m, rfl⟩ := Int.eq_ofNat_of_zero_le (show 0 ≤ size by omega)
      rw [if_neg (by simp; omega), if_pos (by omega), w64 (by omega) (by omega), impl_BigText_l0 n m k [] (by omega) (by omega) (by simp; omega)]
      rfl
    · rw [if_pos (by simp; omega), if_neg (by omega)]
  · rw [if_neg (by simp; omega), if_neg (by omega)]
    simp [impl_BigText.j0]

theorem impl_bigSum_eq (v : W32) (k : Nat) (hk : 6 ≤ k) : impl_bigSum.f k (enc v) = some (four v) := by
  have b := enc_bd v
  unfold impl_bigSum.f four
  rw [w64 (by omega) (by omega), impl_BigText_eq _ _ k hk]
  simp only [Option.bind_some]
  rw [if_pos ⟨by omega, by omega, b.1, by rw [show p2 (8 * 4) = 4294967296 from rfl]; omega⟩]
  rfl

theorem impl_ChunksText_l0 (xs : List S56) (hx : xs.length ≤ 40) (hz : ∀ x ∈ xs, x.f0.size ≤ 1048576 ∧ x.f1.size ≤ 1048576) (d : Nat) : ∀ (k i : Nat) (acc : ByteArray), i ≤ xs.length → xs.length - i = d → 2 * d + 1048700 < k → acc.size ≤ 12000 → impl_ChunksText.l0 k acc xs xs.length i = some (chunksT acc (xs.drop i)) := by
  induction d with
  | zero =>
    intro k i acc hi hd hk ha
    obtain ⟨k, rfl⟩ : ∃ m, k = m + 1 := ⟨k - 1, by omega⟩
    simp only [impl_ChunksText.l0]
    rw [if_neg (by omega), List.drop_eq_nil_of_le (by omega)]; rfl
  | succ d ih =>
    intro k i acc hi hd hk ha
    obtain ⟨k, rfl⟩ : ∃ m, k = m + 2 := ⟨k - 2, by omega⟩
    have lt : i < xs.length := by omega
    have z := hz _ (List.getElem_mem lt)
    have no : ∀ b c e f, impl_ChunksText.j1 (k + 1) acc b xs c e true (xs[i]).f0 f = some (⟨#[]⟩, false) := fun b c e f => by simp [impl_ChunksText.j1]
    simp only [impl_ChunksText.l0]
    rw [if_pos (by omega), if_pos (by omega), if_pos (by omega), rd_Chunk xs i lt, impl_BigText_eq _ _ _ (by omega), if_pos ⟨by omega, by omega, by omega, by rw [show p2 (8 * 4) = 4294967296 from rfl]; omega⟩]
    rw [List.drop_eq_getElem_cons lt, chunksT]
    simp only [Option.bind_some, if_true]
    rw [impl_NameOk_eq _ (by omega) _ (by omega), w64 (x := (acc.size : Int) + xs[i].f1.size) (by omega) (by omega), w64 (x := (acc.size : Int) + xs[i].f1.size + 12) (by omega) (by omega)]
    simp only [Option.bind_some]
    by_cases hn : nameOk xs[i].f0 = true
    · rw [if_pos hn]
      have n4 := nameOk_size hn
      by_cases hf : acc.size + xs[i].f1.size + 12 ≤ 12000
      · rw [decide_eq_false (by omega), if_pos ⟨hn, hf⟩]
        have zb : (strOfNums (bigB (xs[i].f1.size : Int) 4)).size = 4 := by rw [str_size, bigB_len]
        have st := ih k (i + 1) (acc ++ chunkB xs[i]) (by omega) (by omega) (by omega) (by rw [ByteArray.size_append, chunkB_size hn]; omega)
        push_cast at st
        simp only [impl_ChunksText.j1, Bool.false_eq_true, if_false]
        rw [show ((4 : Int).toNat) = 4 from rfl, zb, if_pos (by omega), if_pos (by rw [ByteArray.size_append, zb]; omega), if_pos (by omega), impl_Crc_eq _ (by rw [ByteArray.size_append]; omega) k (by rw [ByteArray.size_append]; omega)]
        unfold chunkB bigT at st ⊢
        generalize crc (xs[i].f0 ++ xs[i].f1) = v at st ⊢
        rw [Option.bind_some, impl_bigSum_eq v k (by omega), Option.bind_some]
        have zf := four_size v
        rw [if_pos (by rw [ByteArray.size_append, ByteArray.size_append, zb, zf]; omega), if_pos (by rw [ByteArray.size_append, ByteArray.size_append, ByteArray.size_append, zb, zf]; omega), w64 (by omega) (by omega)]
        exact st
      · rw [decide_eq_true (by omega), if_neg (fun q => hf q.2), no]
    · rw [if_neg hn, if_neg (fun q => hn q.1), no]
theorem impl_ChunksText_eq (xs : List S56) (hl : xs.length ≤ 9223372036854775807) (hz : ∀ x ∈ xs, x.f0.size ≤ 1048576 ∧ x.f1.size ≤ 1048576) (k : Nat) (hk : 1048900 ≤ k) : impl_ChunksText.f k xs = some (chunksText xs) := by
  unfold impl_ChunksText.f chunksText
  by_cases h : xs.length ≤ 40
  · rw [if_neg (by omega), if_pos h]
    have R := impl_ChunksText_l0 xs h hz xs.length k 0 signT (by omega) (by omega) (by omega) (by decide)
    exact R
  · rw [if_pos (by omega), if_neg h]

theorem rd_LChunk (xs : List S92) (i : Nat) (h : i < xs.length) : rd_T92 xs i = xs[i] := by
  simp [rd_T92, List.getD, h]
def toChunk (x : S92) : S56 := ⟨x.f0, x.f1⟩
theorem laws_toChunkS_l0 (xs : List S92) (hx : xs.length ≤ 9223372036854775807) (d : Nat) : ∀ (k i : Nat) (ys : List S56), i ≤ xs.length → xs.length - i = d → d < k → ys.length = xs.length → (∀ j : Nat, j < i → ys[j]? = (xs.map toChunk)[j]?) → laws_toChunkS.l0 k xs ys i = some (xs.map toChunk) := by
  induction d with
  | zero =>
    intro k i ys hi hd hk hl hy
    obtain ⟨k, rfl⟩ : ∃ m, k = m + 1 := ⟨k - 1, by omega⟩
    simp only [laws_toChunkS.l0]
    rw [if_neg (by omega)]
    congr 1
    apply List.ext_getElem?
    intro j
    by_cases hj : j < i
    · exact hy j hj
    · rw [List.getElem?_eq_none (by omega), List.getElem?_eq_none (by simp; omega)]
  | succ d ih =>
    intro k i ys hi hd hk hl hy
    obtain ⟨k, rfl⟩ : ∃ m, k = m + 1 := ⟨k - 1, by omega⟩
    have lt : i < xs.length := by omega
    simp only [laws_toChunkS.l0, laws_toChunk.f, Option.bind_some]
    rw [if_pos (by omega), if_pos (by omega), if_pos (by omega), rd_LChunk xs i lt, w64 (by omega) (by omega), Int.toNat_natCast]
    refine ih k (i + 1) _ (by omega) (by omega) (by omega) (by simpa using hl) (fun j hj => ?_)
    by_cases e : j = i
    · subst e
      rw [List.getElem?_set_self (by omega), List.getElem?_map, List.getElem?_eq_getElem lt]
      rfl
    · rw [List.getElem?_set_ne (by omega), hy j (by omega)]
theorem laws_toChunkS_eq (xs : List S92) (hx : xs.length ≤ 1048576) (k : Nat) (hk : xs.length < k) : laws_toChunkS.f k xs = some (xs.map toChunk) := by
  unfold laws_toChunkS.f
  rw [if_pos (by omega), if_pos (by omega), Int.toNat_natCast]
  exact laws_toChunkS_l0 xs (by omega) xs.length k 0 _ (by omega) (by omega) hk (by simp) (fun j hj => absurd hj (by omega))

theorem laws_szChunk_eq (a b : ByteArray) (ha : a.size ≤ 9223372036854775807) (hb : b.size ≤ 9223372036854775807) (t : Int) (h0 : 0 ≤ t) (h1 : t ≤ 1048576) : ∃ u, laws_szChunk.f a b t = some u ∧ u ≤ t ∧ (0 ≤ u → a.size ≤ 1048576 ∧ b.size ≤ 1048576) := by
  unfold laws_szChunk.f
  rw [w64 (x := t - a.size) (by omega) (by omega)]
  split
  · exact ⟨_, rfl, by omega, by omega⟩
  · rw [w64 (x := t - a.size - b.size) (by omega) (by omega)]
    split
    · exact ⟨_, rfl, by omega, by omega⟩
    · exact ⟨_, rfl, by omega, by omega⟩
theorem laws_szChunkS_l0 (xs : List S92) (hx : xs.length ≤ 1048576) (hc : ∀ x ∈ xs, x.f0.size ≤ 9223372036854775807 ∧ x.f1.size ≤ 9223372036854775807) (d : Nat) : ∀ (k i : Nat) (t : Int), i ≤ xs.length → xs.length - i = d → d < k → 0 ≤ t → t ≤ 1048576 →
    ∃ u, laws_szChunkS.l0 k xs t i = some u ∧ u ≤ t ∧ (0 ≤ u → ∀ j : Nat, i ≤ j → ∀ x, xs[j]? = some x → x.f0.size ≤ 1048576 ∧ x.f1.size ≤ 1048576) := by
  induction d with
  | zero =>
    intro k i t hi hd hk h0 h1
    obtain ⟨k, rfl⟩ : ∃ m, k = m + 1 := ⟨k - 1, by omega⟩
    simp only [laws_szChunkS.l0]
    rw [if_neg (by omega)]
    exact ⟨_, rfl, Int.le_refl _, fun _ j hj x hx => by rw [List.getElem?_eq_none (by omega)] at hx; cases hx⟩
  | succ d ih =>
    intro k i t hi hd hk h0 h1
    obtain ⟨k, rfl⟩ : ∃ m, k = m + 1 := ⟨k - 1, by omega⟩
    have lt : i < xs.length := by omega
    have c := hc _ (List.getElem_mem lt)
    simp only [laws_szChunkS.l0]
    rw [if_pos (by omega), if_pos (by omega), rd_LChunk xs i lt]
    obtain ⟨u, e, hu, hb⟩ := laws_szChunk_eq xs[i].f0 xs[i].f1 c.1 c.2 t h0 h1
    rw [e]; simp only [Option.bind_some]
    split
    · exact ⟨_, rfl, by omega, by omega⟩
    · rw [w64 (by omega) (by omega)]
      obtain ⟨v, e2, hv, hj⟩ := ih k (i + 1) u (by omega) (by omega) (by omega) (by omega) (by omega)
      refine ⟨v, e2, by omega, fun h j hj' x hx => ?_⟩
      by_cases ej : j = i
      · subst ej
        rw [List.getElem?_eq_getElem lt] at hx
        injection hx with hx
        subst hx
        exact hb (by omega)
      · exact hj h j (by omega) x hx
theorem laws_szChunkS_eq (xs : List S92) (hx : xs.length ≤ 9223372036854775807) (hc : ∀ x ∈ xs, x.f0.size ≤ 9223372036854775807 ∧ x.f1.size ≤ 9223372036854775807) (t : Int) (h0 : 0 ≤ t) (h1 : t ≤ 1048576) (k : Nat) (hk : 1048580 ≤ k) :
    ∃ u, laws_szChunkS.f k xs t = some u ∧ u ≤ t ∧ (0 ≤ u → xs.length ≤ 1048576 ∧ ∀ x ∈ xs, x.f0.size ≤ 1048576 ∧ x.f1.size ≤ 1048576) := by
  unfold laws_szChunkS.f
  rw [w64 (x := t - xs.length) (by omega) (by omega)]
  split
  · exact ⟨_, rfl, by omega, by omega⟩
  · obtain ⟨u, e, hu, hj⟩ := laws_szChunkS_l0 xs (by omega) hc xs.length k 0 (t - xs.length) (by omega) (by omega) (by omega) (by omega) (by omega)
    refine ⟨u, e, by omega, fun h => ⟨by omega, fun x hm => ?_⟩⟩
    obtain ⟨j, hj', rfl⟩ := List.getElem_of_mem hm
    exact hj h j (by omega) _ (List.getElem?_eq_getElem hj')

theorem laws_eqChunkS_l0 (xs : List S56) (hx : xs.length ≤ 9223372036854775807) (d : Nat) : ∀ (k i : Nat), i ≤ xs.length → xs.length - i = d → d < k → laws_eqChunkS.l0 k xs xs i = some true := by
  induction d with
  | zero =>
    intro k i hi hd hk
    obtain ⟨k, rfl⟩ : ∃ m, k = m + 1 := ⟨k - 1, by omega⟩
    simp only [laws_eqChunkS.l0]
    rw [if_neg (by omega)]
  | succ d ih =>
    intro k i hi hd hk
    obtain ⟨k, rfl⟩ : ∃ m, k = m + 1 := ⟨k - 1, by omega⟩
    simp only [laws_eqChunkS.l0]
    rw [if_pos (by omega), if_pos (by omega), if_pos (by omega)]
    simp only [laws_eqChunk.f, if_true, Option.bind_some]
    rw [w64 (by omega) (by omega)]
    exact ih k (i + 1) (by omega) (by omega) (by omega)
theorem laws_eqChunkS_refl (xs : List S56) (hx : xs.length ≤ 9223372036854775807) (k : Nat) (hk : xs.length < k) : laws_eqChunkS.f k xs xs = some true := by
  unfold laws_eqChunkS.f
  rw [if_pos rfl]
  exact laws_eqChunkS_l0 xs hx xs.length k 0 (by omega) (by omega) hk

theorem FnExactChunksText (xs : List S92) (hx : xs.length ≤ 9223372036854775807) (hc : ∀ x ∈ xs, (x.f0.size ≤ 9223372036854775807) ∧ (x.f1.size ≤ 9223372036854775807)) : ∃ k, laws_FnExactChunksText.f k xs = some true := by
  obtain ⟨k, hk⟩ : ∃ k : Nat, k = 2000000 := ⟨_, rfl⟩
  refine ⟨k, ?_⟩
  unfold laws_FnExactChunksText.f
  obtain ⟨u, e, hu, hb⟩ := laws_szChunkS_eq xs hx hc 1048576 (by omega) (by omega) k (by omega)
  rw [e, Option.bind_some]
  by_cases a : u < 0
  · rw [if_pos a]
  · rw [if_neg a]
    obtain ⟨b1, b2⟩ := hb (by omega)
    have m1 : (xs.map toChunk).length = xs.length := by simp
    have hz : ∀ x ∈ xs.map toChunk, x.f0.size ≤ 1048576 ∧ x.f1.size ≤ 1048576 := by
      intro x hx'
      obtain ⟨y, hy, rfl⟩ := List.mem_map.1 hx'
      exact b2 y hy
    rw [laws_toChunkS_eq xs b1 k (by omega), Option.bind_some, spec_ChunksText_eq _ (by omega) hz k (by omega), Option.bind_some, Option.bind_some, impl_ChunksText_eq _ (by omega) hz k (by omega), Option.bind_some, if_pos rfl]
    obtain ⟨k, rfl⟩ : ∃ m, k = m + 1 := ⟨k - 1, by omega⟩
    simp only [laws_FnExactChunksText.j0]
    rw [if_neg (by simp), laws_toChunkS_eq xs b1 k (by omega), Option.bind_some, laws_eqChunkS_refl _ (by omega) k (by omega), Option.bind_some, if_pos rfl]

end Go.Proofs.Ytefoebmcimnapaa.Pure
