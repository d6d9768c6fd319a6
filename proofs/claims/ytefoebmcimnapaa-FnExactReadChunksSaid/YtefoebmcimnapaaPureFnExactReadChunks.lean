/- The law FnExactReadChunks as a statement over numbers and lists: for every text of a size that a machine can hold, the law's function returns true. -/
import Derived.Test.YtefoebmcimnapaaPFnExactReadChunksx8
set_option linter.unusedVariables false
set_option linter.unusedSimpArgs false
namespace Go.Proofs.Ytefoebmcimnapaa.Pure
open Go.RowKit Go.Proofs.Ytefoebmcimnapaa.PFnExactReadChunks Go.Proofs.YtefoebmcimnapaaW.PrintWords Go.Proofs.YtefoebmcimnapaaW.PrintLast

theorem w64 {x : Int} (h : -9223372036854775808 ≤ x) (h' : x ≤ 9223372036854775807) : wrap64 x = x := by unfold wrap64; omega
theorem wf_i64 {a : Int} (h : (Lit.int .i64 a).wf = true) : -9223372036854775808 ≤ a ∧ a ≤ 9223372036854775807 := by
  simpa [Lit.wf, IntKind.min, IntKind.max, IntKind.signed, IntKind.bits] using h
theorem wbt (s : ByteArray) (i : Int) : wrap64 (bt s i) = bt s i := w64 (by have := bt_range s i; omega) (by have := bt_range s i; omega)

theorem str_append (xs ys : List Int) : strOfNums xs ++ strOfNums ys = strOfNums (xs ++ ys) := by
  apply ByteArray.ext
  apply Array.ext'
  rw [ByteArray.data_append, Array.toList_append, strOfNums_data, strOfNums_data, strOfNums_data, List.map_append]
theorem str_nil : (⟨#[]⟩ : ByteArray) = strOfNums [] := rfl
theorem str_size (xs : List Int) : (strOfNums xs).size = xs.length := strOfNums_size xs

def p2 (n : Int) : Int := 2 ^ n.toNat
theorem p2_nat (n : Nat) : p2 n = ((2 ^ n : Nat) : Int) := by simp [p2]
theorem p2_succ (n : Int) (h : 0 ≤ n) : p2 (n + 1) = 2 * p2 n := by
  obtain ⟨m, rfl⟩ := Int.eq_ofNat_of_zero_le h
  have : ((m : Int) + 1) = ((m + 1 : Nat) : Int) := by omega
  rw [this, p2_nat, p2_nat, Nat.pow_succ]; push_cast; omega
theorem p2_zero : p2 0 = 1 := rfl
theorem p2_pos (n : Int) : 1 ≤ p2 n := by
  unfold p2
  have h := Nat.one_le_two_pow (n := n.toNat)
  exact_mod_cast h
theorem p2_le {m n : Int} (h : m ≤ n) : p2 m ≤ p2 n := by
  unfold p2
  have h := Nat.pow_le_pow_right (n := 2) (by decide) (show m.toNat ≤ n.toNat by omega)
  exact_mod_cast h
theorem p2_62 {n : Int} (h : n ≤ 62) : p2 n ≤ 4611686018427387904 := p2_le (n := 62) h
theorem p2_16 {n : Int} (h : n ≤ 16) : p2 n ≤ 65536 := p2_le (n := 16) h

/-- A number in so many bytes, the highest first. -/
def bigB (n : Int) : Nat → List Int
  | 0 => []
  | s + 1 => bigB (n / 256) s ++ [n % 256]
theorem bigB_len (s : Nat) : ∀ n, (bigB n s).length = s := by
  induction s with
  | zero => intro n; rfl
  | succ s ih => intro n; simp [bigB, ih]
theorem bigB_cons (s : Nat) : ∀ n : Int, bigB n (s + 1) = (n / 256 ^ s % 256) :: bigB n s := by
  induction s with
  | zero => intro n; simp [bigB]
  | succ s ih =>
    intro n
    have e : n / 256 / 256 ^ s = n / 256 ^ (s + 1) := by
      rw [Int.ediv_ediv_of_nonneg (by decide), Int.pow_succ, Int.mul_comm]
    calc bigB n (s + 1 + 1) = bigB (n / 256) (s + 1) ++ [n % 256] := rfl
      _ = (n / 256 ^ (s + 1) % 256) :: (bigB (n / 256) s ++ [n % 256]) := by rw [ih, e]; rfl
      _ = _ := rfl

/-- The number that n bytes tell, the highest first. -/
def valB (s : ByteArray) (o : Nat) : Nat → Int
  | 0 => 0
  | n + 1 => 256 * valB s o n + bt s ((o + n : Nat) : Int)
theorem valB_bd (s : ByteArray) (o n : Nat) : 0 ≤ valB s o n ∧ valB s o n < 256 ^ n := by
  induction n with
  | zero => simp [valB]
  | succ n ih => have := bt_range s ((o + n : Nat) : Int); simp only [valB, Int.pow_succ]; omega
theorem pow256 {n : Nat} (h : n ≤ 4) : (256 : Int) ^ n ≤ 4294967296 := by
  have : n = 0 ∨ n = 1 ∨ n = 2 ∨ n = 3 ∨ n = 4 := by omega
  rcases this with rfl | rfl | rfl | rfl | rfl <;> decide
def readBig (s : ByteArray) (at_ size : Int) : Int × Bool := if 1 ≤ size ∧ size ≤ 4 ∧ 0 ≤ at_ ∧ at_ ≤ s.size - size then (valB s at_.toNat size.toNat, true) else (0, false)

abbrev W32 := BitVec 32
def enc (v : W32) : Int := (v.toNat : Int)
theorem enc_bd (v : W32) : 0 ≤ enc v ∧ enc v < 4294967296 := by unfold enc; have := v.isLt; omega
theorem enc_inj {a b : W32} (h : enc a = enc b) : a = b := by
  unfold enc at h; exact BitVec.eq_of_toNat_eq (by omega)
theorem ofInt_enc (v : W32) : BitVec.ofInt 32 (enc v) = v := by
  unfold enc; rw [BitVec.ofInt_natCast]; exact BitVec.eq_of_toNat_eq (by rw [BitVec.toNat_ofNat, Nat.mod_eq_of_lt v.isLt])
theorem xor_enc (a b : W32) : Go.bits .xor .u32 (enc a) (enc b) = enc (a ^^^ b) := by
  unfold Go.bits
  simp only [IntKind.bits]
  rw [ofInt_enc, ofInt_enc, IntKind.wrap_u32]
  show ((a ^^^ b).toNat : Int) % 4294967296 = enc (a ^^^ b)
  have := (a ^^^ b).isLt
  unfold enc; omega
theorem not_enc (a : W32) : Go.bits .xor .u32 (-1) (enc a) = enc (~~~ a) := by
  unfold Go.bits
  simp only [IntKind.bits]
  rw [ofInt_enc, IntKind.wrap_u32]
  have e : BitVec.ofInt 32 (-1) ^^^ a = ~~~ a := by
    rw [show BitVec.ofInt 32 (-1) = BitVec.allOnes 32 from by decide, BitVec.allOnes_xor]
  show ((BitVec.ofInt 32 (-1) ^^^ a).toNat : Int) % 4294967296 = enc (~~~ a)
  rw [e]
  have := (~~~ a).isLt
  unfold enc; omega
def poly : W32 := 3988292384#32
def hstep (v : W32) : W32 := if v.toNat % 2 = 1 then (v >>> 1) ^^^ poly else v >>> 1
def hstepN : Nat → W32 → W32
  | 0, v => v
  | n + 1, v => hstepN n (hstep v)
def halved8 (v : W32) : W32 := hstepN 8 v
theorem shr_enc (v : W32) : enc (v >>> 1) = enc v / 2 := by
  unfold enc
  rw [BitVec.toNat_ushiftRight, Nat.shiftRight_eq_div_pow]
  omega
theorem odd_xor (a b : W32) : (a ^^^ b).toNat % 2 = (a.toNat % 2 + b.toNat % 2) % 2 := by
  rw [BitVec.toNat_xor]
  have h := Nat.testBit_xor a.toNat b.toNat 0
  simp only [Nat.testBit_zero] at h
  generalize a.toNat ^^^ b.toNat = x at h ⊢
  have hx : x % 2 = 0 ∨ x % 2 = 1 := by omega
  have ha : a.toNat % 2 = 0 ∨ a.toNat % 2 = 1 := by omega
  have hb : b.toNat % 2 = 0 ∨ b.toNat % 2 = 1 := by omega
  rcases hx with hx | hx <;> rcases ha with ha | ha <;> rcases hb with hb | hb <;> simp [hx, ha, hb] at h ⊢
theorem hstep_xor (a b : W32) : hstep (a ^^^ b) = hstep a ^^^ hstep b := by
  unfold hstep
  rw [odd_xor, BitVec.ushiftRight_xor_distrib]
  have ha : a.toNat % 2 = 0 ∨ a.toNat % 2 = 1 := by omega
  have hb : b.toNat % 2 = 0 ∨ b.toNat % 2 = 1 := by omega
  rcases ha with ha | ha <;> rcases hb with hb | hb <;> simp [ha, hb]
  · rw [BitVec.xor_assoc]
  · rw [BitVec.xor_assoc (a >>> 1) poly, BitVec.xor_comm poly, ← BitVec.xor_assoc]
  · rw [BitVec.xor_assoc, BitVec.xor_comm poly, BitVec.xor_assoc, BitVec.xor_self, BitVec.xor_zero]
theorem hstepN_xor (n : Nat) : ∀ a b : W32, hstepN n (a ^^^ b) = hstepN n a ^^^ hstepN n b := by
  induction n with
  | zero => intro a b; rfl
  | succ n ih => intro a b; simp only [hstepN]; rw [hstep_xor, ih]
theorem hstep_zero {v : W32} (h : hstep v = 0#32) : v = 0#32 := by
  unfold hstep at h
  have hv := v.isLt
  have e : (v >>> 1).toNat = v.toNat / 2 := by rw [BitVec.toNat_ushiftRight, Nat.shiftRight_eq_div_pow]
  split at h
  · have h2 : v >>> 1 = poly := by
      have := congrArg (· ^^^ poly) h
      simpa [BitVec.xor_assoc] using this
    have h3 := congrArg BitVec.toNat h2
    rw [e] at h3
    have : poly.toNat = 3988292384 := rfl
    omega
  · have h3 := congrArg BitVec.toNat h
    rw [e] at h3
    apply BitVec.eq_of_toNat_eq
    have : (0#32).toNat = 0 := rfl
    omega
theorem hstepN_zero (n : Nat) : ∀ {v : W32}, hstepN n v = 0#32 → v = 0#32 := by
  induction n with
  | zero => intro v h; exact h
  | succ n ih => intro v h; exact hstep_zero (ih h)
theorem halved8_inj {a b : W32} (h : halved8 a = halved8 b) : a = b := by
  have e : halved8 (a ^^^ b) = 0#32 := by
    unfold halved8 at h ⊢
    generalize (8 : Nat) = n at h ⊢
    rw [hstepN_xor, h, BitVec.xor_self]
  have : a ^^^ b = 0#32 := by
    unfold halved8 at e
    generalize (8 : Nat) = n at e
    exact hstepN_zero n e
  have h2 := congrArg (· ^^^ b) this
  simpa [BitVec.xor_assoc] using h2
theorem halved8_xor (a b : W32) : halved8 (a ^^^ b) = halved8 a ^^^ halved8 b := by
  unfold halved8
  generalize (8 : Nat) = n
  exact hstepN_xor n a b
/-- A sum taken through bytes. -/
def regW (h : W32 → W32) : W32 → List W32 → W32
  | r, [] => r
  | r, b :: bs => regW h (h (r ^^^ b)) bs
theorem regW_cons (h : W32 → W32) (r b : W32) (bs : List W32) : regW h r (b :: bs) = regW h (h (r ^^^ b)) bs := rfl
def reg (r : W32) (bs : List W32) : W32 := regW halved8 r bs
theorem reg_cons (r b : W32) (bs : List W32) : reg r (b :: bs) = reg (halved8 (r ^^^ b)) bs := regW_cons halved8 r b bs
theorem reg_append (xs ys : List W32) : ∀ r, reg r (xs ++ ys) = reg (reg r xs) ys := by
  induction xs with
  | nil => intro r; rfl
  | cons x xs ih => intro r; rw [List.cons_append, reg_cons, ih, reg_cons]
def timesW (h : W32 → W32) : Nat → W32 → W32
  | 0, v => v
  | n + 1, v => timesW h n (h v)
theorem timesW_succ (h : W32 → W32) (n : Nat) (v : W32) : timesW h (n + 1) v = timesW h n (h v) := rfl
def zeros8 (n : Nat) (v : W32) : W32 := timesW halved8 n v
theorem zeros8_succ (n : Nat) (v : W32) : zeros8 (n + 1) v = zeros8 n (halved8 v) := timesW_succ halved8 n v
theorem reg_xor (bs : List W32) : ∀ r x, reg (r ^^^ x) bs = reg r bs ^^^ zeros8 bs.length x := by
  induction bs with
  | nil => intro r x; rfl
  | cons b bs ih =>
    intro r x
    rw [reg_cons, reg_cons, List.length_cons, zeros8_succ]
    rw [show r ^^^ x ^^^ b = (r ^^^ b) ^^^ x by rw [BitVec.xor_assoc, BitVec.xor_comm x b, ← BitVec.xor_assoc], halved8_xor, ih]
theorem reg_inj (bs : List W32) : ∀ {r s}, reg r bs = reg s bs → r = s := by
  induction bs with
  | nil => intro r s h; exact h
  | cons b bs ih =>
    intro r s h
    rw [reg_cons, reg_cons] at h
    have h2 := halved8_inj (ih h)
    have h3 := congrArg (· ^^^ b) h2
    simpa [BitVec.xor_assoc] using h3
def wordsOf (s : ByteArray) : List W32 := (bytesOf s).map fun x => BitVec.ofInt 32 x
def crcMore (sum : W32) (s : ByteArray) : W32 := ~~~ reg (~~~ sum) (wordsOf s)
def crc (s : ByteArray) : W32 := crcMore 0#32 s
theorem bytesOf_len (s : ByteArray) : (bytesOf s).length = s.size := by
  unfold bytesOf; rw [List.length_map, Array.length_toList]; rfl
theorem wordsOf_len (s : ByteArray) : (wordsOf s).length = s.size := by unfold wordsOf; rw [List.length_map, bytesOf_len]
theorem bytesOf_get (s : ByteArray) (i : Nat) (h : i < s.size) : (bytesOf s)[i]'(by rw [bytesOf_len]; exact h) = bt s i := by
  have h2 : (i : Int).toNat < s.size := by simpa using h
  rw [← bt_at s i h2]
  simp only [bytesOf, List.getElem_map, Array.getElem_toList, Int.toNat_natCast]
  rfl
theorem wordsOf_get (s : ByteArray) (i : Nat) (h : i < s.size) : enc ((wordsOf s)[i]'(by rw [wordsOf_len]; exact h)) = bt s i := by
  have b := bt_range s i
  unfold wordsOf
  rw [List.getElem_map, bytesOf_get s i h]
  obtain ⟨m, hm⟩ := Int.eq_ofNat_of_zero_le b.1
  rw [hm, BitVec.ofInt_natCast]
  unfold enc
  rw [BitVec.toNat_ofNat]
  omega
theorem bytesOf_extract (s : ByteArray) (a b : Nat) : bytesOf (s.extract a b) = ((bytesOf s).drop a).take (b - a) := by
  unfold bytesOf
  rw [ByteArray.data_extract, Array.toList_extract, List.map_take, List.map_drop]
theorem wordsOf_extract (s : ByteArray) (a b : Nat) : wordsOf (s.extract a b) = ((wordsOf s).drop a).take (b - a) := by
  unfold wordsOf
  rw [bytesOf_extract, List.map_take, List.map_drop]
theorem wordsOf_cut (s : ByteArray) (m : Nat) (h : m ≤ s.size) : wordsOf (s.extract 0 m) ++ wordsOf (s.extract m s.size) = wordsOf s := by
  have hl := wordsOf_len s
  rw [wordsOf_extract, wordsOf_extract, List.drop_zero, Nat.sub_zero, List.take_of_length_le (i := s.size - m) (by rw [List.length_drop]; omega), List.take_append_drop]
theorem bytesOf_cut (s : ByteArray) (m : Nat) (h : m ≤ s.size) : bytesOf (s.extract 0 m) ++ bytesOf (s.extract m s.size) = bytesOf s := by
  have hl := bytesOf_len s
  rw [bytesOf_extract, bytesOf_extract, List.drop_zero, Nat.sub_zero, List.take_of_length_le (i := s.size - m) (by rw [List.length_drop]; omega), List.take_append_drop]
theorem not_not32 (a : W32) : ~~~ (~~~ a) = a := BitVec.not_not
theorem crc_more (s : ByteArray) (m : Nat) (h : m ≤ s.size) : crcMore (crc (s.extract 0 m)) (s.extract m s.size) = crc s := by
  unfold crc crcMore
  rw [not_not32, ← reg_append, wordsOf_cut s m h]
theorem crc_join (s : ByteArray) (m : Nat) (h : m ≤ s.size) : zeros8 (s.size - m) (crc (s.extract 0 m)) ^^^ crc (s.extract m s.size) = crc s := by
  have hl : (wordsOf (s.extract m s.size)).length = s.size - m := by rw [wordsOf_len, ByteArray.size_extract]; omega
  have e := crc_more s m h
  have flip : ∀ a : W32, ~~~ a = ~~~ (0#32) ^^^ a := by
    intro a
    rw [show ~~~ (0#32) = BitVec.allOnes 32 from by decide, BitVec.allOnes_xor]
  rw [← e]
  generalize crc (s.extract 0 m) = v
  unfold crcMore crc crcMore
  rw [flip v, reg_xor, hl]
  generalize reg (~~~ 0#32) (wordsOf (s.extract m s.size)) = y
  generalize zeros8 (s.size - m) v = z
  rw [flip (y ^^^ z), flip y, BitVec.xor_comm z, BitVec.xor_assoc]

def four (v : W32) : ByteArray := strOfNums (bigB (enc v) 4)

theorem impl_within_eq (a b c : Int) : impl_within.f a b c = some (decide (b ≤ a) && decide (a ≤ c)) := by
  unfold impl_within.f
  by_cases h : b ≤ a <;> simp [h]

def great (c : Int) : Bool := decide (65 ≤ c) && decide (c ≤ 90)
def small (c : Int) : Bool := decide (97 ≤ c) && decide (c ≤ 122)
theorem spec_l16Letter_eq (c : Int) : spec_l16Letter.f c = some (great c || small c) := by
  unfold spec_l16Letter.f great small
  by_cases h1 : 65 ≤ c
  · by_cases h2 : c ≤ 90
    · simp [h1, h2]
    · by_cases h3 : 97 ≤ c
      · simp [h1, h2, h3]
      · simp [h1, h2, h3]
  · have h3 : ¬ (97 ≤ c) := by omega
    simp [h1, h3]
theorem impl_isGreat_eq (s : ByteArray) (i : Int) : impl_isGreat.f (bt s i) = some (great (bt s i)) := by
  simp [impl_isGreat.f, wbt, impl_within_eq, great]
theorem impl_isSmall_eq (s : ByteArray) (i : Int) : impl_isSmall.f (bt s i) = some (small (bt s i)) := by
  simp [impl_isSmall.f, wbt, impl_within_eq, small]
/-- A letter that may stand at a place of a name. -/
def letterAt (s : ByteArray) (i : Int) : Bool := great (bt s i) || (small (bt s i) && decide (i ≠ 2))
def nameOk (s : ByteArray) : Bool := (s.size == 4) && letterAt s 0 && letterAt s 1 && letterAt s 2 && letterAt s 3
theorem impl_NameOk_round (s : ByteArray) (hs : s.size ≤ 9223372036854775807) (k : Nat) (i : Int) (h0 : 0 ≤ i) (h1 : i < s.size) :
    impl_NameOk.l0 (k + 1) s s.size i = if letterAt s i = true then impl_NameOk.l0 k s s.size (i + 1) else some false := by
  simp only [impl_NameOk.l0]
  rw [if_pos h1, if_pos h0, if_pos h1, impl_isGreat_eq, impl_isSmall_eq, w64 (by omega) (by omega)]
  simp only [Option.bind_some, letterAt]
  by_cases hg : great (bt s i) = true
  · simp [hg]
  · by_cases hm : small (bt s i) = true
    · by_cases h2 : i = 2
      · simp [hg, hm, h2]
      · simp [hg, hm, h2]
    · simp [hg, hm]
theorem impl_NameOk_end (s : ByteArray) (k : Nat) : impl_NameOk.l0 (k + 1) s s.size s.size = some (s.size == 4) := by
  simp only [impl_NameOk.l0]
  rw [if_neg (by omega)]
  congr 1
  rw [Bool.eq_iff_iff]
  simp
  omega
/-- A name that is not of four bytes is none. -/
theorem impl_NameOk_not4 (s : ByteArray) (hs : s.size ≤ 9223372036854775807) (h4 : s.size ≠ 4) (d : Nat) : ∀ (k : Nat) (i : Int), 0 ≤ i → i ≤ s.size → (s.size : Int) - i = d → d < k → impl_NameOk.l0 k s s.size i = some false := by
  induction d with
  | zero =>
    intro k i h0 h1 hd hk
    obtain ⟨k, rfl⟩ : ∃ m, k = m + 1 := ⟨k - 1, by omega⟩
    have : i = s.size := by omega
    subst this
    rw [impl_NameOk_end]
    simp [h4]
  | succ d ih =>
    intro k i h0 h1 hd hk
    obtain ⟨k, rfl⟩ : ∃ m, k = m + 1 := ⟨k - 1, by omega⟩
    rw [impl_NameOk_round s hs k i h0 (by omega)]
    split
    · exact ih k (i + 1) (by omega) (by omega) (by omega) (by omega)
    · rfl
theorem impl_NameOk_eq (s : ByteArray) (hs : s.size ≤ 9223372036854775807) (k : Nat) (hk : s.size + 5 ≤ k) : impl_NameOk.f k s = some (nameOk s) := by
  unfold impl_NameOk.f nameOk
  by_cases h4 : s.size = 4
  · obtain ⟨k, rfl⟩ : ∃ m, k = m + 5 := ⟨k - 5, by omega⟩
    have r := impl_NameOk_round s hs
    have e := impl_NameOk_end s
    rw [h4] at r e ⊢
    rw [r (k + 4) 0 (by omega) (by omega), r (k + 3) (0 + 1) (by omega) (by omega), r (k + 2) (0 + 1 + 1) (by omega) (by omega), r (k + 1) (0 + 1 + 1 + 1) (by omega) (by omega)]
    have e' : impl_NameOk.l0 (k + 1) s ((4 : Nat) : Int) (0 + 1 + 1 + 1 + 1) = some (4 == 4) := e k
    rw [e']
    simp only [Int.zero_add, show (1 : Int) + 1 = 2 from rfl, show (2 : Int) + 1 = 3 from rfl]
    cases letterAt s 0 <;> cases letterAt s 1 <;> cases letterAt s 2 <;> cases letterAt s 3 <;> rfl
  · rw [impl_NameOk_not4 s hs h4 s.size k 0 (by omega) (by omega) (by omega) (by omega)]
    simp [h4]
theorem spec_NameOk_eq (s : ByteArray) : spec_NameOk.f s = some (nameOk s) := by
  unfold spec_NameOk.f nameOk
  by_cases h4 : s.size = 4
  · simp only [spec_l16Letter_eq, Option.bind_some]
    rw [h4]
    have l0 : letterAt s 0 = (great (bt s 0) || small (bt s 0)) := by simp [letterAt]
    have l1 : letterAt s 1 = (great (bt s 1) || small (bt s 1)) := by simp [letterAt]
    have l3 : letterAt s 3 = (great (bt s 3) || small (bt s 3)) := by simp [letterAt]
    have l2 : letterAt s 2 = great (bt s 2) := by simp [letterAt]
    have q : ((great (bt s 2) || small (bt s 2)) && decide (bt s 2 ≤ 90)) = great (bt s 2) := by
      rw [Bool.eq_iff_iff]; simp [great, small]; omega
    rw [l0, l1, l2, l3]
    cases h0 : (great (bt s 0) || small (bt s 0)) <;> cases h1 : (great (bt s 1) || small (bt s 1)) <;> cases h3 : (great (bt s 3) || small (bt s 3)) <;> cases h2 : (great (bt s 2) || small (bt s 2)) <;> rw [← q, h2] <;> simp
  · rw [if_neg (by omega)]; simp [h4]

theorem rd_Chunk (xs : List S56) (i : Nat) (h : i < xs.length) : rd_T56 xs i = xs[i] := by
  simp [rd_T56, List.getD, h]

theorem bt_extract (s : ByteArray) (a b i : Nat) (h : a + i < min b s.size) : bt (s.extract a b) (i : Int) = bt s ((a + i : Nat) : Int) := by
  have h1 : (i : Int).toNat < (s.extract a b).size := by rw [ByteArray.size_extract]; simp; omega
  have h2 : ((a + i : Nat) : Int).toNat < s.size := by simp; omega
  rw [← bt_at _ _ h1, ← bt_at _ _ h2]
  simp only [Int.toNat_natCast]
  rw [ByteArray.getElem_extract]
theorem valB_extract (s : ByteArray) (a b o n : Nat) (h : a + o + n ≤ min b s.size) : valB (s.extract a b) o n = valB s (a + o) n := by
  induction n with
  | zero => rfl
  | succ n ih =>
    simp only [valB]
    rw [ih (by omega), bt_extract s a b (o + n) (by omega), show a + (o + n) = a + o + n by omega]
theorem toList_nil {s : ByteArray} : s.toList = ([] : List UInt8) ↔ s.size = 0 := by
  rw [ByteArray.toList_eq, List.eq_nil_iff_length_eq_zero, Array.length_toList]; rfl
/-- How many bytes of data a chunk tells. -/
def chunkN (s : ByteArray) (a : Nat) : Nat := (valB s a 4).toNat
def chunkNum (s : ByteArray) (a : Nat) : Int :=
  if s.size < a + 12 + chunkN s a then 2
  else if nameOk (s.extract (a + 4) (a + 8)) = false then 3
  else if (s.extract (a + 8 + chunkN s a) (a + 12 + chunkN s a)).toList = (four (crc (s.extract (a + 4) (a + 8 + chunkN s a)))).toList then 0 else 4
def chunkOf (s : ByteArray) (a : Nat) : S56 := ⟨s.extract (a + 4) (a + 8), s.extract (a + 8) (a + 8 + chunkN s a)⟩
def readChunks (s : ByteArray) : Nat → Nat → List S56 → List S56 × Int
  | 0, _, _ => ([], 5)
  | f + 1, a, acc => if a < s.size then (if acc.length = 40 then ([], 5) else if chunkNum s a = 0 then readChunks s f (a + 12 + chunkN s a) (acc ++ [chunkOf s a]) else ([], chunkNum s a)) else (acc, 0)
theorem chunkN_val (s : ByteArray) (a : Nat) : valB s a 4 = (chunkN s a : Int) ∧ chunkN s a < 4294967296 := by
  have b := valB_bd s a 4
  unfold chunkN
  rw [show (256 : Int) ^ 4 = 4294967296 from rfl] at b
  omega
def isSign (s : ByteArray) : Bool := decide (8 ≤ s.size) && (s.extract 0 8).toList == (⟨#[137, 80, 78, 71, 13, 10, 26, 10]⟩ : ByteArray).toList
def chunksOf (s : ByteArray) : List S56 × Int := if isSign s = true ∧ s.size ≤ 12000 then readChunks s 41 8 [] else ([], 1)
theorem readBig_in (s : ByteArray) (a : Nat) (h : a + 4 ≤ s.size) : readBig s a 4 = (valB s a 4, true) := by
  unfold readBig; rw [if_pos (by omega)]; rfl
theorem readBig_out (s : ByteArray) (a : Nat) (h : s.size < a + 4) : readBig s a 4 = (0, false) := by
  unfold readBig; rw [if_neg (by omega)]

theorem or_byte (a b : Int) (ha : 0 ≤ a ∧ a ≤ 4294967296) (hb : 0 ≤ b ∧ b ≤ 255) : Go.bits .or .i64 (a * 256) b = 256 * a + b := by
  have := bits_join .i64 62 (by decide) (fun n h0 h1 => by rw [IntKind.wrap_i64]; omega) 8 (a * 256) b (by omega) (by simp) (by simp; omega) hb.1 (by simp; omega) (by simp; omega)
  rw [this]; omega
theorem impl_ReadBig_l0 (s : ByteArray) (hs : s.size ≤ 9223372036854775807) (o size : Nat) (h4 : size ≤ 4) (ho : o + size ≤ s.size) (r : Nat) : ∀ (k i : Nat), i + r = size → r < k → impl_ReadBig.l0 k s o (valB s o i) size i = some (valB s o size, true) := by
  induction r with
  | zero =>
    intro k i hi hk
    obtain ⟨k, rfl⟩ : ∃ m, k = m + 1 := ⟨k - 1, by omega⟩
    obtain rfl : i = size := by omega
    simp only [impl_ReadBig.l0]
    rw [if_neg (by omega)]
  | succ r ih =>
    intro k i hi hk
    obtain ⟨k, rfl⟩ : ∃ m, k = m + 1 := ⟨k - 1, by omega⟩
    have b := valB_bd s o i
    have p := pow256 (n := i) (by omega)
    have bb := bt_range s ((o + i : Nat) : Int)
    have st := ih k (i + 1) (by omega) (by omega)
    simp only [valB] at st
    simp only [impl_ReadBig.l0]
    rw [if_pos (by omega), w64 (x := (o : Int) + i) (by omega) (by omega), if_pos (by omega), if_pos (by omega), show (o : Int) + i = ((o + i : Nat) : Int) by omega, wbt, w64 (x := valB s o i * 256) (by omega) (by omega), or_byte _ _ (by omega) bb, w64 (x := (i : Int) + 1) (by omega) (by omega)]
    exact st
theorem impl_ReadBig_eq (s : ByteArray) (hs : s.size ≤ 4611686018427387904) (at_ size : Int) (k : Nat) (hk : 6 ≤ k) : impl_ReadBig.f k s at_ size = some (readBig s at_ size) := by
  obtain ⟨k, rfl⟩ : ∃ m, k = m + 1 := ⟨k - 1, by omega⟩
  have no : impl_ReadBig.j0 (k + 1) s at_ size true = some (0, false) := by simp [impl_ReadBig.j0]
  unfold impl_ReadBig.f readBig
  rw [impl_within_eq, no]
  simp only [Option.bind_some]
  by_cases h : 1 ≤ size ∧ size ≤ 4
  · rw [if_pos (by simp; omega), w64 (by omega) (by omega)]
    by_cases h0 : at_ < 0
    · rw [if_pos h0, if_neg (by omega)]
    · rw [if_neg h0]
      by_cases h1 : at_ > s.size - size
      · rw [decide_eq_true h1, no, if_neg (by omega)]
      · rw [decide_eq_false h1, if_pos (by omega)]
        simp only [impl_ReadBig.j0]
        rw [if_neg (by decide)]
        obtain ⟨o, rfl⟩ := Int.eq_ofNat_of_zero_le (show 0 ≤ at_ by omega)
        obtain ⟨z, rfl⟩ := Int.eq_ofNat_of_zero_le (show 0 ≤ size by omega)
        exact impl_ReadBig_l0 s (by omega) o z (by omega) (by omega) z k 0 (by omega) (by omega)
  · rw [if_neg (by simp; omega), if_neg (by omega)]

theorem impl_halved_l0 (r : Nat) : ∀ (k i : Nat) (v : W32), i + r = 8 → r < k → impl_halved.l0 k (enc v) i = some (enc (hstepN r v)) := by
  induction r with
  | zero =>
    intro k i v hi hk
    obtain ⟨k, rfl⟩ : ∃ m, k = m + 1 := ⟨k - 1, by omega⟩
    simp only [impl_halved.l0]
    rw [if_neg (by omega)]; rfl
  | succ r ih =>
    intro k i v hi hk
    obtain ⟨k, rfl⟩ : ∃ m, k = m + 1 := ⟨k - 1, by omega⟩
    have b := enc_bd v
    have st := ih k (i + 1) (hstep v) (by omega) (by omega)
    push_cast at st
    simp only [impl_halved.l0]
    rw [if_pos (by omega), w64 (x := (i : Int) + 1) (by omega) (by omega), Int.tmod_eq_emod_of_nonneg b.1, Int.tdiv_eq_ediv_of_nonneg b.1, show enc v / 2 % 4294967296 = enc v / 2 by omega, ← shr_enc, show (3988292384 : Int) = enc poly from rfl, xor_enc]
    unfold hstep at st
    by_cases h : v.toNat % 2 = 1
    · rw [if_pos (show enc v % 2 = 1 by unfold enc; omega)]
      rw [if_pos h] at st
      rw [st]
      simp [hstepN, hstep, h]
    · rw [if_neg (show ¬ (enc v % 2 = 1) by unfold enc; omega)]
      rw [if_neg h] at st
      rw [st]
      simp [hstepN, hstep, h]
theorem impl_halved_eq (v : W32) (k : Nat) (hk : 9 ≤ k) : impl_halved.f k (enc v) = some (enc (halved8 v)) := impl_halved_l0 8 k 0 v (by omega) (by omega)
theorem impl_CrcMore_l0 (s : ByteArray) (hs : s.size ≤ 9223372036854775807) (n : Nat) : ∀ (k i : Nat) (v : W32), i ≤ s.size → s.size - i = n → n + 10 < k → impl_CrcMore.l0 k (enc v) s s.size i = some (enc (~~~ reg v ((wordsOf s).drop i))) := by
  have hl := wordsOf_len s
  induction n with
  | zero =>
    intro k i v hi hn hk
    obtain ⟨k, rfl⟩ : ∃ m, k = m + 1 := ⟨k - 1, by omega⟩
    simp only [impl_CrcMore.l0]
    rw [if_neg (by omega), not_enc, List.drop_eq_nil_of_le (by omega)]; rfl
  | succ n ih =>
    intro k i v hi hn hk
    obtain ⟨k, rfl⟩ : ∃ m, k = m + 1 := ⟨k - 1, by omega⟩
    have lt : i < s.size := by omega
    have b := bt_range s i
    have st := fun v => ih k (i + 1) v (by omega) (by omega) (by omega)
    push_cast at st
    simp only [impl_CrcMore.l0]
    rw [if_pos (by omega), if_pos (by omega), if_pos (by omega), show bt s i % 4294967296 = bt s i by omega, ← wordsOf_get s i lt, xor_enc, impl_halved_eq _ k (by omega)]
    simp only [Option.bind_some]
    rw [w64 (x := (i : Int) + 1) (by omega) (by omega), st, List.drop_eq_getElem_cons (l := wordsOf s) (i := i) (by omega), reg_cons]
theorem impl_CrcMore_eq (sum : W32) (s : ByteArray) (hs : s.size ≤ 9223372036854775807) (k : Nat) (hk : s.size + 10 < k) : impl_CrcMore.f k (enc sum) s = some (enc (crcMore sum s)) := by
  unfold impl_CrcMore.f crcMore
  rw [not_enc]
  have := impl_CrcMore_l0 s hs s.size k 0 (~~~ sum) (by omega) (by omega) hk
  simpa using this
theorem impl_Crc_eq (s : ByteArray) (hs : s.size ≤ 9223372036854775807) (k : Nat) (hk : s.size + 10 < k) : impl_Crc.f k s = some (enc (crc s)) := by
  unfold impl_Crc.f
  have := impl_CrcMore_eq 0#32 s hs k hk
  change impl_CrcMore.f k 0 s = _ at this
  rw [this]; rfl

theorem shl_one (n : Int) (h0 : 0 ≤ n) (h62 : n ≤ 62) : shl .i64 1 n = p2 n := by
  have b1 := p2_pos n
  have b2 := p2_62 h62
  unfold shl
  rw [show min n.toNat IntKind.i64.bits = n.toNat by simp [IntKind.bits]; omega, Int.one_mul, IntKind.wrap_i64]
  show (p2 n + 9223372036854775808) % 18446744073709551616 - 9223372036854775808 = p2 n
  omega
theorem impl_powerOf_eq (n : Int) : impl_powerOf.f n = some (if 0 ≤ n ∧ n ≤ 62 then p2 n else 0) := by
  unfold impl_powerOf.f
  rw [impl_within_eq]
  simp only [Option.bind_some]
  by_cases h0 : 0 ≤ n
  · by_cases h1 : n ≤ 62
    · simp [h0, h1, shl_one n h0 h1]
    · simp [h0, h1]
  · simp [h0]

theorem shr_bytes (n : Int) (i : Nat) (hi : i ≤ 7) : shr .i64 n (8 * (i : Int)) = n / 256 ^ i := by
  unfold shr
  rw [show min (8 * (i : Int)).toNat IntKind.i64.bits = 8 * i by simp [IntKind.bits]; omega, Int.pow_mul]
  rfl
theorem impl_BigText_l0 (n : Int) (r : Nat) : ∀ (k : Nat) (s : List Int), r ≤ 4 → r < k → s.length + r ≤ 4 → impl_BigText.l0 k n s ((r : Int) - 1) = some (strOfNums (s ++ bigB n r), true) := by
  induction r with
  | zero =>
    intro k s hr hk hs
    obtain ⟨k, rfl⟩ : ∃ m, k = m + 1 := ⟨k - 1, by omega⟩
    simp only [impl_BigText.l0]
    rw [if_neg (by omega)]
    simp [bigB]
  | succ r ih =>
    intro k s hr hk hs
    obtain ⟨k, rfl⟩ : ∃ m, k = m + 1 := ⟨k - 1, by omega⟩
    have e : (((r + 1 : Nat) : Int) - 1) = r := by omega
    rw [e]
    simp only [impl_BigText.l0]
    rw [w64 (x := 8 * (r : Int)) (by omega) (by omega), if_pos (by omega), if_pos (by omega), if_pos (by omega), shr_bytes n r (by omega), w64 (x := (r : Int) - 1) (by omega) (by omega)]
    rw [ih k _ (by omega) (by omega) (by simp; omega), bigB_cons]
    simp
theorem impl_BigText_eq (n size : Int) (k : Nat) (hk : 6 ≤ k) : impl_BigText.f k n size = some (if 1 ≤ size ∧ size ≤ 4 ∧ 0 ≤ n ∧ n ≤ p2 (8 * size) - 1 then (strOfNums (bigB n size.toNat), true) else (⟨#[]⟩, false)) := by
  obtain ⟨k, rfl⟩ : ∃ m, k = m + 1 := ⟨k - 1, by omega⟩
  unfold impl_BigText.f
  simp only [impl_within_eq, impl_powerOf_eq, Option.bind_some]
  by_cases h : 1 ≤ size ∧ size ≤ 4
  · have b1 := p2_pos (8 * size)
    have b2 := p2_62 (n := 8 * size) (by omega)
    rw [if_pos (by simp; omega), w64 (x := 8 * size) (by omega) (by omega), if_pos (by omega), w64 (x := p2 (8 * size) - 1) (by omega) (by omega)]
    simp only [impl_BigText.j0]
    by_cases hn : 0 ≤ n ∧ n ≤ p2 (8 * size) - 1
    · obtain ⟨m, rfl⟩ := Int.eq_ofNat_of_zero_le (show 0 ≤ size by omega)
      rw [if_neg (by simp; omega), if_pos (by omega), w64 (by omega) (by omega), impl_BigText_l0 n m k [] (by omega) (by omega) (by simp; omega)]
      rfl
    · rw [if_pos (by simp; omega), if_neg (by omega)]
  · rw [if_neg (by simp; omega), if_neg (by omega)]
    simp [impl_BigText.j0]

theorem impl_bigSum_eq (v : W32) (k : Nat) (hk : 6 ≤ k) : impl_bigSum.f k (enc v) = some (four v) := by
  have b := enc_bd v
  unfold impl_bigSum.f four
  rw [w64 (by omega) (by omega), impl_BigText_eq _ _ k hk]
  simp only [Option.bind_some]
  rw [if_pos ⟨by omega, by omega, b.1, by rw [show p2 (8 * 4) = 4294967296 from rfl]; omega⟩]
  rfl

theorem impl_readChunk_eq (s : ByteArray) (hs : s.size ≤ 12000) (a : Nat) (ha : a ≤ s.size) (k : Nat) (hk : 12100 ≤ k) :
    impl_readChunk.f k (s.extract a s.size) = some (if chunkNum s a = 0 then ((chunkOf s a).f0, (chunkOf s a).f1, s.extract (a + 12 + chunkN s a) s.size, 0) else (⟨#[]⟩, ⟨#[]⟩, ⟨#[]⟩, chunkNum s a)) := by
  obtain ⟨k, rfl⟩ : ∃ m, k = m + 1 := ⟨k - 1, by omega⟩
  have sz : (s.extract a s.size).size = s.size - a := by rw [ByteArray.size_extract]; omega
  obtain ⟨hv, hn⟩ := chunkN_val s a
  have no : ∀ z, impl_readChunk.j0 (k + 1) (s.extract a s.size) z true = some (⟨#[]⟩, ⟨#[]⟩, ⟨#[]⟩, 2) := fun z => by simp [impl_readChunk.j0]
  unfold impl_readChunk.f
  rw [impl_ReadBig_eq _ (by omega) 0 4 _ (by omega)]
  by_cases h1 : a + 4 ≤ s.size
  · rw [show readBig (s.extract a s.size) 0 4 = _ from readBig_in _ 0 (by omega)]
    simp only [Option.bind_some, if_true]
    have e : valB (s.extract a s.size) 0 4 = valB s a 4 := valB_extract s a s.size 0 4 (by omega)
    rw [e, hv, w64 (by omega) (by omega), sz]
    by_cases h2 : s.size < a + 12 + chunkN s a
    · have q : chunkNum s a = 2 := by unfold chunkNum; rw [if_pos h2]
      rw [decide_eq_true (by omega), no, q, if_neg (by decide)]
    · rw [decide_eq_false (by omega)]
      generalize hc : chunkN s a = n at *
      have x1 : (s.extract a s.size).extract 4 8 = s.extract (a + 4) (a + 8) := by rw [ByteArray.extract_extract]; congr 1; omega
      have x2 : (s.extract a s.size).extract 4 (8 + n) = s.extract (a + 4) (a + 8 + n) := by rw [ByteArray.extract_extract]; congr 1; omega
      have x3 : (s.extract a s.size).extract (8 + n) (12 + n) = s.extract (a + 8 + n) (a + 12 + n) := by rw [ByteArray.extract_extract]; congr 1 <;> omega
      have x4 : (s.extract a s.size).extract 8 (8 + n) = s.extract (a + 8) (a + 8 + n) := by rw [ByteArray.extract_extract]; congr 1; omega
      have x5 : (s.extract a s.size).extract (12 + n) (s.size - a) = s.extract (a + 12 + n) s.size := by rw [ByteArray.extract_extract]; congr 1 <;> omega
      have z1 : (s.extract (a + 4) (a + 8)).size = 4 := by rw [ByteArray.size_extract]; omega
      have z2 : (s.extract (a + 4) (a + 8 + n)).size = 4 + n := by rw [ByteArray.size_extract]; omega
      simp only [impl_readChunk.j0]
      rw [if_neg (by decide), sz]
      rw [show wrap64 (8 + (n : Int)) = ((8 + n : Nat) : Int) by rw [w64 (by omega) (by omega)]; omega, show wrap64 (12 + (n : Int)) = ((12 + n : Nat) : Int) by rw [w64 (by omega) (by omega)]; omega]
      simp only [Int.toNat_natCast]
      rw [if_pos (by omega), if_pos (by omega), if_pos (by omega), if_pos (by omega), x1, x2, x3, x4, x5, impl_NameOk_eq _ (by omega) k (by omega)]
      simp only [Option.bind_some]
      by_cases h3 : nameOk (s.extract (a + 4) (a + 8)) = true
      · rw [if_pos h3, if_pos (by omega), if_pos (by omega), if_pos (by omega), if_pos (by omega), impl_Crc_eq _ (by omega) k (by omega)]
        generalize hF : crc (s.extract (a + 4) (a + 8 + n)) = F
        rw [Option.bind_some, impl_bigSum_eq _ k (by omega), Option.bind_some]
        by_cases h4 : (s.extract (a + 8 + n) (a + 12 + n)).toList = (four F).toList
        · have q : chunkNum s a = 0 := by unfold chunkNum; rw [hc, if_neg h2, if_neg (by simp [h3]), hF, if_pos h4]
          rw [if_pos h4, if_pos (by omega), if_pos q]
          unfold chunkOf; rw [hc]
        · have q : chunkNum s a = 4 := by unfold chunkNum; rw [hc, if_neg h2, if_neg (by simp [h3]), hF, if_neg h4]
          rw [if_neg h4, q, if_neg (by decide)]
      · have q : chunkNum s a = 3 := by unfold chunkNum; rw [hc, if_neg h2, if_pos (by simpa using h3)]
        rw [if_neg h3, q, if_neg (by decide)]
  · have q : chunkNum s a = 2 := by unfold chunkNum; rw [if_pos (by omega)]
    rw [show readBig (s.extract a s.size) 0 4 = _ from readBig_out _ 0 (by omega)]
    simp only [Option.bind_some, Bool.false_eq_true, if_false]
    rw [no, q, if_neg (by decide)]
theorem impl_ReadChunks_l0 (s : ByteArray) (hs : s.size ≤ 12000) (d : Nat) : ∀ (k a : Nat) (acc : List S56), a ≤ s.size → acc.length + d = 40 → d + 12200 ≤ k → impl_ReadChunks.l0 k (s.extract a s.size) acc = some (readChunks s (d + 1) a acc) := by
  induction d with
  | zero =>
    intro k a acc ha hd hk
    obtain ⟨k, rfl⟩ : ∃ m, k = m + 1 := ⟨k - 1, by omega⟩
    have sz : (s.extract a s.size).size = s.size - a := by rw [ByteArray.size_extract]; omega
    simp only [impl_ReadChunks.l0, readChunks]
    by_cases h : a < s.size
    · rw [if_neg (by rw [toList_nil]; omega), if_pos (by omega), if_pos h, if_pos (by omega)]
    · rw [if_pos (by rw [toList_nil]; omega), if_neg h]
  | succ d ih =>
    intro k a acc ha hd hk
    obtain ⟨k, rfl⟩ : ∃ m, k = m + 1 := ⟨k - 1, by omega⟩
    have sz : (s.extract a s.size).size = s.size - a := by rw [ByteArray.size_extract]; omega
    simp only [impl_ReadChunks.l0]
    rw [readChunks]
    by_cases h : a < s.size
    · rw [if_neg (by rw [toList_nil]; omega), if_neg (by omega), if_pos h, if_neg (by omega), impl_readChunk_eq s hs a ha k (by omega)]
      simp only [Option.bind_some]
      by_cases q : chunkNum s a = 0
      · have fit : ¬ s.size < a + 12 + chunkN s a := by
          intro hf; unfold chunkNum at q; rw [if_pos hf] at q; cases q
        rw [if_pos q, if_pos q]
        simp only [if_true]
        rw [if_pos (by omega)]
        exact ih k _ _ (by omega) (by simp; omega) (by omega)
      · rw [if_neg q, if_neg q]
        simp only []
        rw [if_neg q]
    · rw [if_pos (by rw [toList_nil]; omega), if_neg h]
theorem strings_CutPrefix_sign (s : ByteArray) (hs : s.size ≤ 9223372036854775807) : strings_CutPrefix.f s (⟨#[137, 80, 78, 71, 13, 10, 26, 10]⟩ : ByteArray) = some (if isSign s = true then (s.extract 8 s.size, true) else (s, false)) := by
  have z : (⟨#[137, 80, 78, 71, 13, 10, 26, 10]⟩ : ByteArray).size = 8 := rfl
  unfold strings_CutPrefix.f stringslite_CutPrefix.f stringslite_HasPrefix.f isSign
  rw [z]
  simp only [show (((8 : Nat) : Int) : Int).toNat = 8 from rfl]
  by_cases h : 8 ≤ s.size
  · rw [if_pos (by omega), if_pos (by omega), if_pos (by omega)]
    simp only [Option.bind_some]
    rw [decide_eq_true h, Bool.true_and]
    by_cases e : ((s.extract 0 8).toList == (⟨#[137, 80, 78, 71, 13, 10, 26, 10]⟩ : ByteArray).toList) = true
    · rw [if_pos e, if_pos e, if_pos (by omega), if_pos (by omega)]; rfl
    · rw [if_neg e, if_neg e]; rfl
  · rw [if_neg (by omega), decide_eq_false h]
    simp
theorem impl_ReadChunks_eq (s : ByteArray) (hs : s.size ≤ 9223372036854775807) (k : Nat) (hk : 12300 ≤ k) : impl_ReadChunks.f k s = some (chunksOf s) := by
  obtain ⟨k, rfl⟩ : ∃ m, k = m + 1 := ⟨k - 1, by omega⟩
  unfold impl_ReadChunks.f chunksOf
  rw [strings_CutPrefix_sign s hs]
  simp only [Option.bind_some]
  by_cases h : isSign s = true
  · have h8 : 8 ≤ s.size := by unfold isSign at h; simp at h; exact h.1
    rw [if_pos h]
    simp only [if_true]
    by_cases h2 : s.size ≤ 12000
    · rw [decide_eq_false (by omega), if_pos ⟨h, h2⟩]
      simp only [impl_ReadChunks.j0]
      rw [if_neg (by decide)]
      exact impl_ReadChunks_l0 s h2 40 k 8 [] (by omega) rfl (by omega)
    · rw [decide_eq_true (by omega), if_neg (fun q => h2 q.2)]
      simp [impl_ReadChunks.j0]
  · rw [if_neg h, if_neg (c := isSign s = true ∧ s.size ≤ 12000) (fun q => h q.1)]
    simp [impl_ReadChunks.j0]

theorem spec_l01In_eq (a b c : Int) : spec_l01In.f a b c = some (decide (b ≤ a) && decide (a ≤ c)) := by
  unfold spec_l01In.f
  by_cases h : b ≤ a <;> simp [h]

theorem spec_ReadBig_l0 (s : ByteArray) (hs : s.size ≤ 9223372036854775807) (o size : Nat) (h4 : size ≤ 4) (ho : o + size ≤ s.size) (r : Nat) : ∀ (k i : Nat), i + r = size → r < k → spec_ReadBig.l0 k s o size (valB s o i) i = some (valB s o size, true) := by
  induction r with
  | zero =>
    intro k i hi hk
    obtain ⟨k, rfl⟩ : ∃ m, k = m + 1 := ⟨k - 1, by omega⟩
    obtain rfl : i = size := by omega
    simp only [spec_ReadBig.l0]
    rw [if_neg (by omega)]
  | succ r ih =>
    intro k i hi hk
    obtain ⟨k, rfl⟩ : ∃ m, k = m + 1 := ⟨k - 1, by omega⟩
    have b := valB_bd s o i
    have p := pow256 (n := i) (by omega)
    have bb := bt_range s ((o + i : Nat) : Int)
    have st := ih k (i + 1) (by omega) (by omega)
    simp only [valB] at st
    simp only [spec_ReadBig.l0]
    rw [if_pos (by omega), w64 (x := (o : Int) + i) (by omega) (by omega), if_pos (by omega), if_pos (by omega), show (o : Int) + i = ((o + i : Nat) : Int) by omega, wbt, w64 (x := 256 * valB s o i) (by omega) (by omega), w64 (x := 256 * valB s o i + bt s ((o + i : Nat) : Int)) (by omega) (by omega), w64 (x := (i : Int) + 1) (by omega) (by omega)]
    exact st
theorem spec_ReadBig_eq (s : ByteArray) (hs : s.size ≤ 4611686018427387904) (at_ size : Int) (k : Nat) (hk : 6 ≤ k) : spec_ReadBig.f k s at_ size = some (readBig s at_ size) := by
  obtain ⟨k, rfl⟩ : ∃ m, k = m + 1 := ⟨k - 1, by omega⟩
  have no : spec_ReadBig.j0 (k + 1) s at_ size true = some (0, false) := by simp [spec_ReadBig.j0]
  unfold spec_ReadBig.f readBig
  rw [spec_l01In_eq, no]
  simp only [Option.bind_some]
  by_cases h : 1 ≤ size ∧ size ≤ 4
  · rw [if_pos (by simp; omega), w64 (by omega) (by omega)]
    by_cases h0 : at_ < 0
    · rw [if_pos h0, if_neg (by omega)]
    · rw [if_neg h0]
      by_cases h1 : at_ > s.size - size
      · rw [decide_eq_true h1, no, if_neg (by omega)]
      · rw [decide_eq_false h1, if_pos (by omega)]
        simp only [spec_ReadBig.j0]
        rw [if_neg (by decide)]
        obtain ⟨o, rfl⟩ := Int.eq_ofNat_of_zero_le (show 0 ≤ at_ by omega)
        obtain ⟨z, rfl⟩ := Int.eq_ofNat_of_zero_le (show 0 ≤ size by omega)
        exact spec_ReadBig_l0 s (by omega) o z (by omega) (by omega) z k 0 (by omega) (by omega)
  · rw [if_neg (by simp; omega), if_neg (by omega)]

theorem not_enc_s (a : W32) : Go.bits .xor .u32 (enc a) 4294967295 = enc (~~~ a) := by
  rw [show (4294967295 : Int) = enc (BitVec.allOnes 32) from by decide, xor_enc, BitVec.xor_allOnes]
theorem spec_l02Step_l0 (r : Nat) : ∀ (k i : Nat) (v : W32), i + r = 8 → r < k → spec_l02Step.l0 k (enc v) i = some (enc (hstepN r v)) := by
  induction r with
  | zero =>
    intro k i v hi hk
    obtain ⟨k, rfl⟩ : ∃ m, k = m + 1 := ⟨k - 1, by omega⟩
    simp only [spec_l02Step.l0]
    rw [if_neg (by omega)]; rfl
  | succ r ih =>
    intro k i v hi hk
    obtain ⟨k, rfl⟩ : ∃ m, k = m + 1 := ⟨k - 1, by omega⟩
    have b := enc_bd v
    have st := ih k (i + 1) (hstep v) (by omega) (by omega)
    push_cast at st
    simp only [spec_l02Step.l0]
    rw [if_pos (by omega), w64 (x := (i : Int) + 1) (by omega) (by omega), Int.tmod_eq_emod_of_nonneg b.1, Int.tdiv_eq_ediv_of_nonneg b.1, show enc v / 2 % 4294967296 = enc v / 2 by omega, ← shr_enc, show (3988292384 : Int) = enc poly from rfl, xor_enc]
    unfold hstep at st
    by_cases h : v.toNat % 2 = 1
    · rw [if_pos (show enc v % 2 = 1 by unfold enc; omega)]
      rw [if_pos h] at st
      rw [st]
      simp [hstepN, hstep, h]
    · rw [if_neg (show ¬ (enc v % 2 = 1) by unfold enc; omega)]
      rw [if_neg h] at st
      rw [st]
      simp [hstepN, hstep, h]
theorem spec_l02Step_eq (v : W32) (k : Nat) (hk : 9 ≤ k) : spec_l02Step.f k (enc v) = some (enc (halved8 v)) := spec_l02Step_l0 8 k 0 v (by omega) (by omega)
theorem spec_CrcMore_l0 (s : ByteArray) (hs : s.size ≤ 9223372036854775807) (n : Nat) : ∀ (k i : Nat) (v : W32), i ≤ s.size → s.size - i = n → n + 10 < k → spec_CrcMore.l0 k s (enc v) i = some (enc (~~~ reg v ((wordsOf s).drop i))) := by
  have hl := wordsOf_len s
  induction n with
  | zero =>
    intro k i v hi hn hk
    obtain ⟨k, rfl⟩ : ∃ m, k = m + 1 := ⟨k - 1, by omega⟩
    simp only [spec_CrcMore.l0]
    rw [if_neg (by omega), not_enc_s, List.drop_eq_nil_of_le (by omega)]; rfl
  | succ n ih =>
    intro k i v hi hn hk
    obtain ⟨k, rfl⟩ : ∃ m, k = m + 1 := ⟨k - 1, by omega⟩
    have lt : i < s.size := by omega
    have b := bt_range s i
    have st := fun v => ih k (i + 1) v (by omega) (by omega) (by omega)
    push_cast at st
    simp only [spec_CrcMore.l0]
    rw [if_pos (by omega), if_pos (by omega), show bt s i % 4294967296 = bt s i by omega, ← wordsOf_get s i lt, xor_enc, spec_l02Step_eq _ k (by omega)]
    simp only [Option.bind_some]
    rw [w64 (x := (i : Int) + 1) (by omega) (by omega), st, List.drop_eq_getElem_cons (l := wordsOf s) (i := i) (by omega), reg_cons]
theorem spec_CrcMore_eq (sum : W32) (s : ByteArray) (hs : s.size ≤ 9223372036854775807) (k : Nat) (hk : s.size + 10 < k) : spec_CrcMore.f k (enc sum) s = some (enc (crcMore sum s)) := by
  unfold spec_CrcMore.f crcMore
  rw [not_enc_s]
  have := spec_CrcMore_l0 s hs s.size k 0 (~~~ sum) (by omega) (by omega) hk
  simpa using this
theorem spec_Crc_eq (s : ByteArray) (hs : s.size ≤ 9223372036854775807) (k : Nat) (hk : s.size + 10 < k) : spec_Crc.f k s = some (enc (crc s)) := by
  unfold spec_Crc.f
  have := spec_CrcMore_eq 0#32 s hs k hk
  change spec_CrcMore.f k 0 s = _ at this
  rw [this]; rfl

theorem spec_l01Big_l0 (size : Nat) (hs : size ≤ 1000) (r : Nat) : ∀ (k i : Nat) (n : Int) (s : List Int), 0 ≤ n → n ≤ 9223372036854775807 → i + r = size → r < k → s.length = i → spec_l01Big.l0 k n size (strOfNums s) i = some (strOfNums (bigB n r ++ s)) := by
  induction r with
  | zero =>
    intro k i n s h0 h1 hi hk hl
    obtain ⟨k, rfl⟩ : ∃ m, k = m + 1 := ⟨k - 1, by omega⟩
    simp only [spec_l01Big.l0]
    rw [if_neg (by omega)]
    rfl
  | succ r ih =>
    intro k i n s h0 h1 hi hk hl
    obtain ⟨k, rfl⟩ : ∃ m, k = m + 1 := ⟨k - 1, by omega⟩
    simp only [spec_l01Big.l0, Option.bind_some]
    rw [if_pos (by omega), str_size, str_size, if_pos (by simp; omega), str_append, Int.tmod_eq_emod_of_nonneg h0, Int.tdiv_eq_ediv_of_nonneg h0, w64 (x := n / 256) (by omega) (by omega), w64 (x := (i : Int) + 1) (by omega) (by omega)]
    have step := ih k (i + 1) (n / 256) ([n % 256 % 256] ++ s) (by omega) (by omega) (by omega) (by omega) (by simp; omega)
    push_cast at step
    rw [step, show n % 256 % 256 = n % 256 by omega]
    simp [bigB]
theorem spec_l01Big_eq (size : Nat) (hs : size ≤ 1000) (n : Int) (h0 : 0 ≤ n) (h1 : n ≤ 9223372036854775807) (k : Nat) (hk : size < k) : spec_l01Big.f k n size = some (strOfNums (bigB n size)) := by
  unfold spec_l01Big.f
  have R := spec_l01Big_l0 size hs size k 0 n [] h0 h1 (by omega) hk rfl
  rw [List.append_nil] at R
  exact R

theorem spec_l11Four_eq (v : W32) (k : Nat) (hk : 4 < k) : spec_l11Four.f k (enc v) = some (four v) := by
  have b := enc_bd v
  have e := spec_l01Big_eq 4 (by omega) (enc v) b.1 (by omega) k hk
  unfold spec_l11Four.f four
  rw [w64 (by omega) (by omega)]
  rw [show ((4 : Nat) : Int) = 4 from rfl] at e
  rw [e]; rfl

theorem spec_ReadChunks_l0 (s : ByteArray) (hs : s.size ≤ 12000) (d : Nat) : ∀ (k a : Nat) (acc : List S56), a ≤ s.size → acc.length + d = 40 → d * 3 + 12200 ≤ k → spec_ReadChunks.l0 k s [] acc a = some (readChunks s (d + 1) a acc) := by
  induction d with
  | zero =>
    intro k a acc ha hd hk
    obtain ⟨k, rfl⟩ : ∃ m, k = m + 1 := ⟨k - 1, by omega⟩
    simp only [spec_ReadChunks.l0, readChunks]
    by_cases h : a < s.size
    · rw [if_pos (by omega), if_pos (by omega), if_pos h, if_pos (by omega)]
    · rw [if_neg (by omega), if_neg h]
  | succ d ih =>
    intro k a acc ha hd hk
    obtain ⟨k, rfl⟩ : ∃ m, k = m + 2 := ⟨k - 2, by omega⟩
    obtain ⟨hv, hn⟩ := chunkN_val s a
    have no : ∀ z, spec_ReadChunks.j2 (k + 1) s [] acc a z true = some ([], 2) := fun z => by simp [spec_ReadChunks.j2]
    simp only [spec_ReadChunks.l0]
    rw [readChunks]
    by_cases h : a < s.size
    · rw [if_pos (by omega), if_neg (by omega), if_pos h, if_neg (by omega), spec_ReadBig_eq s (by omega) a 4 _ (by omega)]
      by_cases h1 : a + 4 ≤ s.size
      · rw [readBig_in s a h1]
        simp only [Option.bind_some, if_true]
        rw [hv, show wrap64 ((wrap64 ((s.size : Int) - a)) - 12) = (s.size : Int) - a - 12 by rw [w64 (x := (s.size : Int) - a) (by omega) (by omega), w64 (by omega) (by omega)]]
        by_cases h2 : s.size < a + 12 + chunkN s a
        · have q : chunkNum s a = 2 := by unfold chunkNum; rw [if_pos h2]
          rw [decide_eq_true (by omega), no, q]; rfl
        · rw [decide_eq_false (by omega)]
          generalize hc : chunkN s a = n at *
          have z1 : (s.extract (a + 4) (a + 8)).size = 4 := by rw [ByteArray.size_extract]; omega
          have z3 : (s.extract (a + 8) (a + 8 + n)).size = n := by rw [ByteArray.size_extract]; omega
          have z2 : (s.extract (a + 4) (a + 8 + n)).size = 4 + n := by rw [ByteArray.size_extract]; omega
          have cat : s.extract (a + 4) (a + 8) ++ s.extract (a + 8) (a + 8 + n) = s.extract (a + 4) (a + 8 + n) := by
            rw [ByteArray.extract_append_extract]; congr 1 <;> omega
          simp only [spec_ReadChunks.j2]
          rw [if_neg (by decide)]
          rw [show wrap64 ((a : Int) + 4) = ((a + 4 : Nat) : Int) by rw [w64 (by omega) (by omega)]; omega, show wrap64 ((a : Int) + 8) = ((a + 8 : Nat) : Int) by rw [w64 (by omega) (by omega)]; omega, show wrap64 ((a : Int) + 12) = ((a + 12 : Nat) : Int) by rw [w64 (by omega) (by omega)]; omega]
          rw [show wrap64 (((a + 8 : Nat) : Int) + (n : Int)) = ((a + 8 + n : Nat) : Int) by rw [w64 (by omega) (by omega)]; omega, show wrap64 (((a + 12 : Nat) : Int) + (n : Int)) = ((a + 12 + n : Nat) : Int) by rw [w64 (by omega) (by omega)]; omega]
          simp only [Int.toNat_natCast]
          rw [if_pos (by omega), if_pos (by omega), if_pos (by omega), if_pos (by omega), if_pos (by omega), if_pos (by omega), spec_NameOk_eq]
          simp only [Option.bind_some]
          by_cases h3 : nameOk (s.extract (a + 4) (a + 8)) = true
          · rw [if_pos h3, if_pos (by omega), cat, spec_Crc_eq _ (by omega) k (by omega)]
            simp only [Option.bind_some]
            rw [spec_l11Four_eq _ k (by omega)]
            simp only [Option.bind_some]
            rw [if_pos (by omega), if_pos (by omega), if_pos (by omega)]
            by_cases h4 : (s.extract (a + 8 + n) (a + 12 + n)).toList = (four (crc (s.extract (a + 4) (a + 8 + n)))).toList
            · have q : chunkNum s a = 0 := by unfold chunkNum; rw [hc, if_neg h2, if_neg (by simp [h3]), if_pos h4]
              rw [if_pos h4.symm, if_pos (by omega), if_pos q]
              have st := ih k (a + 12 + n) (acc ++ [chunkOf s a]) (by omega) (by simp; omega) (by omega)
              unfold chunkOf at st ⊢
              rw [hc] at st ⊢
              exact st
            · have q : chunkNum s a = 4 := by unfold chunkNum; rw [hc, if_neg h2, if_neg (by simp [h3]), if_neg h4]
              rw [if_neg (fun e => h4 e.symm), q]; rfl
          · have q : chunkNum s a = 3 := by unfold chunkNum; rw [hc, if_neg h2, if_pos (by simpa using h3)]
            rw [if_neg h3, q]; rfl
      · have q : chunkNum s a = 2 := by unfold chunkNum; rw [if_pos (by omega)]
        rw [readBig_out s a (by omega)]
        simp only [Option.bind_some, Bool.false_eq_true, if_false]
        rw [no, q]; rfl
    · rw [if_neg (by omega), if_neg h]
theorem spec_ReadChunks_eq (s : ByteArray) (hs : s.size ≤ 9223372036854775807) (k : Nat) (hk : 12400 ≤ k) : spec_ReadChunks.f k s = some (chunksOf s) := by
  obtain ⟨k, rfl⟩ : ∃ m, k = m + 1 := ⟨k - 1, by omega⟩
  have no : spec_ReadChunks.j0 (k + 1) s [] true = some ([], 1) := by simp [spec_ReadChunks.j0]
  unfold spec_ReadChunks.f chunksOf
  simp only [Option.bind_some, spec_l16Sign.f]
  by_cases h1 : s.size ≤ 12000
  · rw [if_neg (by omega)]
    by_cases h2 : 8 ≤ s.size
    · rw [if_neg (by omega), if_pos (by omega), if_pos (by omega)]
      by_cases e : ((s.extract 0 8).toList == (⟨#[137, 80, 78, 71, 13, 10, 26, 10]⟩ : ByteArray).toList) = true
      · have sg : isSign s = true := by unfold isSign; rw [decide_eq_true h2, e]; rfl
        rw [if_pos ⟨sg, h1⟩, bne, e]
        simp only [Bool.not_true, spec_ReadChunks.j0]
        rw [if_neg (by decide)]
        exact spec_ReadChunks_l0 s h1 40 k 8 [] (by omega) rfl (by omega)
      · have sg : ¬ isSign s = true := by unfold isSign; rw [decide_eq_true h2, Bool.true_and]; exact e
        rw [if_neg (fun q => sg q.1), bne, Bool.eq_false_iff.2 e]
        exact no
    · have sg : ¬ isSign s = true := by unfold isSign; simp [h2]
      rw [if_pos (by omega), if_neg (fun q => sg q.1)]
      exact no
  · rw [if_pos (by omega), if_neg (fun q => h1 q.2)]
    exact no

/-- The text that a number is marked by. -/
def mtxt : Nat → Int → ByteArray → ByteArray
  | 0, _, acc => acc
  | f + 1, x, acc => if x > 0 then mtxt f (x / 10) (strOfNums [(48 + x % 10) % 256] ++ acc) else (⟨#[109]⟩ : ByteArray) ++ acc
def markT (x : Int) : ByteArray := if x ≤ 0 then (⟨#[109, 48]⟩ : ByteArray) else mtxt 11 x ⟨#[]⟩
theorem laws_markText_l0 (f : Nat) : ∀ (k : Nat) (x : Int) (acc : ByteArray), 0 ≤ x → x < 10 ^ f → x ≤ 1000000000000 → acc.size + f ≤ 1000 → f < k → laws_markText.l0 k x acc = some (mtxt (f + 1) x acc) := by
  induction f with
  | zero =>
    intro k x acc h0 h1 _ ha hk
    obtain ⟨k, rfl⟩ : ∃ m, k = m + 1 := ⟨k - 1, by omega⟩
    simp only [laws_markText.l0, mtxt]
    rw [if_neg (by simp at h1; omega), if_pos (by omega), if_neg (by simp at h1; omega)]
  | succ f ih =>
    intro k x acc h0 h1 hx ha hk
    obtain ⟨k, rfl⟩ : ∃ m, k = m + 1 := ⟨k - 1, by omega⟩
    simp only [laws_markText.l0, Option.bind_some]
    rw [mtxt]
    by_cases h : x > 0
    · rw [if_pos h, if_pos h, str_size, if_pos (by simp only [List.length_cons, List.length_nil]; omega), Int.tmod_eq_emod_of_nonneg h0, Int.tdiv_eq_ediv_of_nonneg h0, w64 (x := x / 10) (by omega) (by omega), w64 (x := 48 + x % 10) (by omega) (by omega)]
      refine ih k _ _ (by omega) ?_ (by omega) ?_ (by omega)
      · rw [Int.pow_succ] at h1; omega
      · rw [ByteArray.size_append, str_size]; simp only [List.length_cons, List.length_nil]; omega
    · rw [if_neg h, if_pos (by omega), if_neg h]
theorem laws_markText_eq (x : Int) (hx : x < 10000000000) (k : Nat) (hk : 11 ≤ k) : laws_markText.f k x = some (markT x) := by
  unfold laws_markText.f markT
  by_cases h : x ≤ 0
  · rw [if_pos h, if_pos h]
  · rw [if_neg h, if_neg h]
    exact laws_markText_l0 10 k x ⟨#[]⟩ (by omega) (by simpa using hx) (by omega) (by decide) (by omega)

theorem laws_markChunkS_l0 (d : Nat) : ∀ (k i : Nat) (xs : List S56) (m : Int), i ≤ xs.length → xs.length - i = d → d + 12 < k → xs.length ≤ 1000000000 → 0 ≤ m → m + 2 * d ≤ 4000000000 →
    ∃ ys : List S56, laws_markChunkS.l0 k xs m i = some (m + 2 * d, ys) ∧ ys.length = xs.length ∧ (∀ j : Nat, j < i → ys[j]? = xs[j]?) ∧ ∀ q, d + 12 < q → laws_heldChunkS.l0 q ys m i = some (m + 2 * d) := by
  induction d with
  | zero =>
    intro k i xs m hi hd hk hx h0 hm
    obtain ⟨k, rfl⟩ : ∃ m, k = m + 1 := ⟨k - 1, by omega⟩
    refine ⟨xs, ?_, rfl, fun _ _ => rfl, fun q hq => ?_⟩
    · simp only [laws_markChunkS.l0]
      rw [if_neg (by omega)]
      simp
    · obtain ⟨q, rfl⟩ : ∃ m, q = m + 1 := ⟨q - 1, by omega⟩
      simp only [laws_heldChunkS.l0]
      rw [if_neg (by omega)]
      simp
  | succ d ih =>
    intro k i xs m hi hd hk hx h0 hm
    obtain ⟨k, rfl⟩ : ∃ m, k = m + 1 := ⟨k - 1, by omega⟩
    have lt : i < xs.length := by omega
    push_cast at hm
    obtain ⟨ys, e1, e2, e3, e4⟩ := ih k (i + 1) (xs.set i ⟨markT m, markT (m + 1)⟩) (m + 2) (by simp; omega) (by simp; omega) (by omega) (by simpa using hx) (by omega) (by omega)
    refine ⟨ys, ?_, by simpa using e2, ?_, ?_⟩
    · simp only [laws_markChunkS.l0]
      rw [if_pos (by omega), w64 (x := m + 1) (by omega) (by omega), w64 (x := m + 1 + 1) (by omega) (by omega), w64 (x := (i : Int) + 1) (by omega) (by omega), laws_markText_eq m (by omega) k (by omega), laws_markText_eq (m + 1) (by omega) k (by omega)]
      simp only [Option.bind_some]
      rw [if_pos (by omega)]
      simp only [Int.toNat_natCast]
      rw [rd_Chunk (xs.set i _) i (by simpa using lt), List.getElem_set_self, List.set_set]
      have e1' := e1
      push_cast at e1'
      rw [show m + 1 + 1 = m + 2 by omega, e1']
      congr 2; push_cast; omega
    · intro j hj
      rw [e3 j (by omega), List.getElem?_set_ne (by omega)]
    · intro q hq
      obtain ⟨q, rfl⟩ : ∃ m, q = m + 1 := ⟨q - 1, by omega⟩
      have hl : i < ys.length := by rw [e2]; simpa using lt
      have hv : rd_T56 ys i = ⟨markT m, markT (m + 1)⟩ := by
        rw [rd_Chunk _ i hl]
        have := e3 i (by omega)
        rw [List.getElem?_set_self lt, List.getElem?_eq_getElem hl] at this
        exact Option.some.inj this
      simp only [laws_heldChunkS.l0]
      rw [if_pos (by omega), if_pos (by omega), hv, w64 (x := m + 1) (by omega) (by omega), w64 (x := m + 1 + 1) (by omega) (by omega), w64 (x := (i : Int) + 1) (by omega) (by omega), laws_markText_eq m (by omega) q (by omega), laws_markText_eq (m + 1) (by omega) q (by omega)]
      simp only [Option.bind_some, if_true]
      have := e4 q (by omega)
      push_cast at this
      rw [show m + 1 + 1 = m + 2 by omega, this]
      congr 1; push_cast; omega
theorem laws_mark_held_Chunk (xs : List S56) (hx : xs.length ≤ 1000000000) (m : Int) (h0 : 0 ≤ m) (hm : m ≤ 1000000000) (k q : Nat) (hk : xs.length + 12 < k) (hq : xs.length + 12 < q) :
    ∃ ys, laws_markChunkS.f k xs m = some (m + 2 * (xs.length : Int), ys) ∧ laws_heldChunkS.f q ys m = some (m + 2 * (xs.length : Int)) ∧ ys.length = xs.length := by
  obtain ⟨ys, h1, h3, _, h2⟩ := laws_markChunkS_l0 xs.length k 0 xs m (by omega) (by omega) hk hx (by omega) (by omega)
  exact ⟨ys, h1, h2 q hq, h3⟩

theorem laws_eqChunkS_l0 (xs : List S56) (hx : xs.length ≤ 9223372036854775807) (d : Nat) : ∀ (k i : Nat), i ≤ xs.length → xs.length - i = d → d < k → laws_eqChunkS.l0 k xs xs i = some true := by
  induction d with
  | zero =>
    intro k i hi hd hk
    obtain ⟨k, rfl⟩ : ∃ m, k = m + 1 := ⟨k - 1, by omega⟩
    simp only [laws_eqChunkS.l0]
    rw [if_neg (by omega)]
  | succ d ih =>
    intro k i hi hd hk
    obtain ⟨k, rfl⟩ : ∃ m, k = m + 1 := ⟨k - 1, by omega⟩
    simp only [laws_eqChunkS.l0]
    rw [if_pos (by omega), if_pos (by omega), if_pos (by omega)]
    simp only [laws_eqChunk.f, if_true, Option.bind_some]
    rw [w64 (by omega) (by omega)]
    exact ih k (i + 1) (by omega) (by omega) (by omega)
theorem laws_eqChunkS_refl (xs : List S56) (hx : xs.length ≤ 9223372036854775807) (k : Nat) (hk : xs.length < k) : laws_eqChunkS.f k xs xs = some true := by
  unfold laws_eqChunkS.f
  rw [if_pos rfl]
  exact laws_eqChunkS_l0 xs hx xs.length k 0 (by omega) (by omega) hk

theorem readChunks_len (s : ByteArray) (f : Nat) : ∀ a acc, (readChunks s f a acc).1.length ≤ acc.length + f := by
  induction f with
  | zero => intro a acc; simp [readChunks]
  | succ f ih =>
    intro a acc
    rw [readChunks]
    split
    · split
      · simp
      · split
        · have := ih (a + 12 + chunkN s a) (acc ++ [chunkOf s a]); simp at this; omega
        · simp
    · simp
theorem chunksOf_len (s : ByteArray) : (chunksOf s).1.length ≤ 41 := by
  unfold chunksOf
  split
  · have := readChunks_len s 41 8 []; simpa using this
  · simp
theorem FnExactReadChunks : laws_FnExactReadChunks.Pure := by
  intro s hs
  obtain ⟨k, hk⟩ : ∃ k : Nat, k = 12500 := ⟨12500, rfl⟩
  refine ⟨k + 2, ?_⟩
  have hl := chunksOf_len s
  obtain ⟨ys, h1, h2, h3⟩ := laws_mark_held_Chunk (chunksOf s).1 (by omega) 1 (by omega) (by omega) (k + 1) (k + 1) (by omega) (by omega)
  obtain ⟨ys', h1', h2', h3'⟩ := laws_mark_held_Chunk (chunksOf s).1 (by omega) 1 (by omega) (by omega) (k + 1) k (by omega) (by omega)
  have yy : ys' = ys := by rw [h1] at h1'; injection h1' with e; injection e with _ e; exact e.symm
  subst yy
  unfold laws_FnExactReadChunks.f
  by_cases hb : (s.size : Int) > 1048576
  · rw [if_pos hb]
  · rw [if_neg hb, spec_ReadChunks_eq s (by omega) _ (by omega), impl_ReadChunks_eq s (by omega) _ (by omega)]
    simp only [Option.bind_some]
    rw [laws_eqChunkS_refl _ (by omega) _ (by omega)]
    simp only [Option.bind_some, if_true, bne_self_eq_false, laws_FnExactReadChunks.j0, Bool.false_eq_true, if_false]
    rw [h1]
    simp only [Option.bind_some]
    rw [h2]
    simp only [Option.bind_some]
    rw [if_neg (by omega)]
    simp only [if_true]
    rw [impl_ReadChunks_eq s (by omega) _ (by omega)]
    simp only [Option.bind_some]
    rw [laws_eqChunkS_refl _ (by omega) _ (by omega)]
    simp only [Option.bind_some, if_true, bne_self_eq_false, laws_FnExactReadChunks.j1, Bool.false_eq_true, if_false]
    rw [h2']
    simp only [Option.bind_some]
    rw [if_neg (by omega)]
    simp

end Go.Proofs.Ytefoebmcimnapaa.Pure
