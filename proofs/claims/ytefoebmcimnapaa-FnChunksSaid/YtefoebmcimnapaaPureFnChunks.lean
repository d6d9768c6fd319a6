/- FnChunks: the text tells its chunks -/
import Derived.Test.YtefoebmcimnapaaPFnChunksx10
set_option linter.unusedVariables false
set_option linter.unusedSimpArgs false
namespace Go.Proofs.Ytefoebmcimnapaa.Pure
open Go.RowKit Go.Proofs.Ytefoebmcimnapaa.PFnChunks Go.Proofs.YtefoebmcimnapaaW.PrintWords Go.Proofs.YtefoebmcimnapaaW.PrintLast

theorem w64 {x : Int} (h : -9223372036854775808 ≤ x) (h' : x ≤ 9223372036854775807) : wrap64 x = x := by unfold wrap64; omega
theorem wf_i64 {a : Int} (h : (Lit.int .i64 a).wf = true) : -9223372036854775808 ≤ a ∧ a ≤ 9223372036854775807 := by
  simpa [Lit.wf, IntKind.min, IntKind.max, IntKind.signed, IntKind.bits] using h
theorem wbt (s : ByteArray) (i : Int) : wrap64 (bt s i) = bt s i := w64 (by have := bt_range s i; omega) (by have := bt_range s i; omega)

theorem str_append (xs ys : List Int) : strOfNums xs ++ strOfNums ys = strOfNums (xs ++ ys) := by
  apply ByteArray.ext
  apply Array.ext'
  rw [ByteArray.data_append, Array.toList_append, strOfNums_data, strOfNums_data, strOfNums_data, List.map_append]
theorem str_nil : (⟨#[]⟩ : ByteArray) = strOfNums [] := rfl
theorem str_size (xs : List Int) : (strOfNums xs).size = xs.length := strOfNums_size xs

def p2 (n : Int) : Int := 2 ^ n.toNat
theorem p2_nat (n : Nat) : p2 n = ((2 ^ n : Nat) : Int) := by simp [p2]
theorem p2_succ (n : Int) (h : 0 ≤ n) : p2 (n + 1) = 2 * p2 n := by
  obtain ⟨m, rfl⟩ := Int.eq_ofNat_of_zero_le h
  have : ((m : Int) + 1) = ((m + 1 : Nat) : Int) := by omega
  rw [this, p2_nat, p2_nat, Nat.pow_succ]; push_cast; omega
theorem p2_zero : p2 0 = 1 := rfl
theorem p2_pos (n : Int) : 1 ≤ p2 n := by
  unfold p2
  have h := Nat.one_le_two_pow (n := n.toNat)
  exact_mod_cast h
theorem p2_le {m n : Int} (h : m ≤ n) : p2 m ≤ p2 n := by
  unfold p2
  have h := Nat.pow_le_pow_right (n := 2) (by decide) (show m.toNat ≤ n.toNat by omega)
  exact_mod_cast h
theorem p2_62 {n : Int} (h : n ≤ 62) : p2 n ≤ 4611686018427387904 := p2_le (n := 62) h
theorem p2_16 {n : Int} (h : n ≤ 16) : p2 n ≤ 65536 := p2_le (n := 16) h

/-- A number in so many bytes, the highest first. -/
def bigB (n : Int) : Nat → List Int
  | 0 => []
  | s + 1 => bigB (n / 256) s ++ [n % 256]
theorem bigB_len (s : Nat) : ∀ n, (bigB n s).length = s := by
  induction s with
  | zero => intro n; rfl
  | succ s ih => intro n; simp [bigB, ih]
theorem bigB_cons (s : Nat) : ∀ n : Int, bigB n (s + 1) = (n / 256 ^ s % 256) :: bigB n s := by
  induction s with
  | zero => intro n; simp [bigB]
  | succ s ih =>
    intro n
    have e : n / 256 / 256 ^ s = n / 256 ^ (s + 1) := by
      rw [Int.ediv_ediv_of_nonneg (by decide), Int.pow_succ, Int.mul_comm]
    calc bigB n (s + 1 + 1) = bigB (n / 256) (s + 1) ++ [n % 256] := rfl
      _ = (n / 256 ^ (s + 1) % 256) :: (bigB (n / 256) s ++ [n % 256]) := by rw [ih, e]; rfl
      _ = _ := rfl

/-- The number that n bytes tell, the highest first. -/
def valB (s : ByteArray) (o : Nat) : Nat → Int
  | 0 => 0
  | n + 1 => 256 * valB s o n + bt s ((o + n : Nat) : Int)
theorem valB_bd (s : ByteArray) (o n : Nat) : 0 ≤ valB s o n ∧ valB s o n < 256 ^ n := by
  induction n with
  | zero => simp [valB]
  | succ n ih => have := bt_range s ((o + n : Nat) : Int); simp only [valB, Int.pow_succ]; omega
theorem pow256 {n : Nat} (h : n ≤ 4) : (256 : Int) ^ n ≤ 4294967296 := by
  have : n = 0 ∨ n = 1 ∨ n = 2 ∨ n = 3 ∨ n = 4 := by omega
  rcases this with rfl | rfl | rfl | rfl | rfl <;> decide
def readBig (s : ByteArray) (at_ size : Int) : Int × Bool := if 1 ≤ size ∧ size ≤ 4 ∧ 0 ≤ at_ ∧ at_ ≤ s.size - size then (valB s at_.toNat size.toNat, true) else (0, false)

abbrev W32 := BitVec 32
def enc (v : W32) : Int := (v.toNat : Int)
theorem enc_bd (v : W32) : 0 ≤ enc v ∧ enc v < 4294967296 := by unfold enc; have := v.isLt; omega
theorem enc_inj {a b : W32} (h : enc a = enc b) : a = b := by
  unfold enc at h; exact BitVec.eq_of_toNat_eq (by omega)
theorem ofInt_enc (v : W32) : BitVec.ofInt 32 (enc v) = v := by
  unfold enc; rw [BitVec.ofInt_natCast]; exact BitVec.eq_of_toNat_eq (by rw [BitVec.toNat_ofNat, Nat.mod_eq_of_lt v.isLt])
theorem xor_enc (a b : W32) : Go.bits .xor .u32 (enc a) (enc b) = enc (a ^^^ b) := by
  unfold Go.bits
  simp only [IntKind.bits]
  rw [ofInt_enc, ofInt_enc, IntKind.wrap_u32]
  show ((a ^^^ b).toNat : Int) % 4294967296 = enc (a ^^^ b)
  have := (a ^^^ b).isLt
  unfold enc; omega
theorem not_enc (a : W32) : Go.bits .xor .u32 (-1) (enc a) = enc (~~~ a) := by
  unfold Go.bits
  simp only [IntKind.bits]
  rw [ofInt_enc, IntKind.wrap_u32]
  have e : BitVec.ofInt 32 (-1) ^^^ a = ~~~ a := by
    rw [show BitVec.ofInt 32 (-1) = BitVec.allOnes 32 from by decide, BitVec.allOnes_xor]
  show ((BitVec.ofInt 32 (-1) ^^^ a).toNat : Int) % 4294967296 = enc (~~~ a)
  rw [e]
  have := (~~~ a).isLt
  unfold enc; omega
def poly : W32 := 3988292384#32
def hstep (v : W32) : W32 := if v.toNat % 2 = 1 then (v >>> 1) ^^^ poly else v >>> 1
def hstepN : Nat → W32 → W32
  | 0, v => v
  | n + 1, v => hstepN n (hstep v)
def halved8 (v : W32) : W32 := hstepN 8 v
theorem shr_enc (v : W32) : enc (v >>> 1) = enc v / 2 := by
  unfold enc
  rw [BitVec.toNat_ushiftRight, Nat.shiftRight_eq_div_pow]
  omega
theorem odd_xor (a b : W32) : (a ^^^ b).toNat % 2 = (a.toNat % 2 + b.toNat % 2) % 2 := by
  rw [BitVec.toNat_xor]
  have h := Nat.testBit_xor a.toNat b.toNat 0
  simp only [Nat.testBit_zero] at h
  generalize a.toNat ^^^ b.toNat = x at h ⊢
  have hx : x % 2 = 0 ∨ x % 2 = 1 := by omega
  have ha : a.toNat % 2 = 0 ∨ a.toNat % 2 = 1 := by omega
  have hb : b.toNat % 2 = 0 ∨ b.toNat % 2 = 1 := by omega
  rcases hx with hx | hx <;> rcases ha with ha | ha <;> rcases hb with hb | hb <;> simp [hx, ha, hb] at h ⊢
theorem hstep_xor (a b : W32) : hstep (a ^^^ b) = hstep a ^^^ hstep b := by
  unfold hstep
  rw [odd_xor, BitVec.ushiftRight_xor_distrib]
  have ha : a.toNat % 2 = 0 ∨ a.toNat % 2 = 1 := by omega
  have hb : b.toNat % 2 = 0 ∨ b.toNat % 2 = 1 := by omega
  rcases ha with ha | ha <;> rcases hb with hb | hb <;> simp [ha, hb]
  · rw [BitVec.xor_assoc]
  · rw [BitVec.xor_assoc (a >>> 1) poly, BitVec.xor_comm poly, ← BitVec.xor_assoc]
  · rw [BitVec.xor_assoc, BitVec.xor_comm poly, BitVec.xor_assoc, BitVec.xor_self, BitVec.xor_zero]
theorem hstepN_xor (n : Nat) : ∀ a b : W32, hstepN n (a ^^^ b) = hstepN n a ^^^ hstepN n b := by
  induction n with
  | zero => intro a b; rfl
  | succ n ih => intro a b; simp only [hstepN]; rw [hstep_xor, ih]
theorem hstep_zero {v : W32} (h : hstep v = 0#32) : v = 0#32 := by
  unfold hstep at h
  have hv := v.isLt
  have e : (v >>> 1).toNat = v.toNat / 2 := by rw [BitVec.toNat_ushiftRight, Nat.shiftRight_eq_div_pow]
  split at h
  · have h2 : v >>> 1 = poly := by
      have := congrArg (· ^^^ poly) h
      simpa [BitVec.xor_assoc] using this
    have h3 := congrArg BitVec.toNat h2
    rw [e] at h3
    have : poly.toNat = 3988292384 := rfl
    omega
  · have h3 := congrArg BitVec.toNat h
    rw [e] at h3
    apply BitVec.eq_of_toNat_eq
    have : (0#32).toNat = 0 := rfl
    omega
theorem hstepN_zero (n : Nat) : ∀ {v : W32}, hstepN n v = 0#32 → v = 0#32 := by
  induction n with
  | zero => intro v h; exact h
  | succ n ih => intro v h; exact hstep_zero (ih h)
theorem halved8_inj {a b : W32} (h : halved8 a = halved8 b) : a = b := by
  have e : halved8 (a ^^^ b) = 0#32 := by
    unfold halved8 at h ⊢
    generalize (8 : Nat) = n at h ⊢
    rw [hstepN_xor, h, BitVec.xor_self]
  have : a ^^^ b = 0#32 := by
    unfold halved8 at e
    generalize (8 : Nat) = n at e
    exact hstepN_zero n e
  have h2 := congrArg (· ^^^ b) this
  simpa [BitVec.xor_assoc] using h2
theorem halved8_xor (a b : W32) : halved8 (a ^^^ b) = halved8 a ^^^ halved8 b := by
  unfold halved8
  generalize (8 : Nat) = n
  exact hstepN_xor n a b
/-- A sum taken through bytes. -/
def regW (h : W32 → W32) : W32 → List W32 → W32
  | r, [] => r
  | r, b :: bs => regW h (h (r ^^^ b)) bs
theorem regW_cons (h : W32 → W32) (r b : W32) (bs : List W32) : regW h r (b :: bs) = regW h (h (r ^^^ b)) bs := rfl
def reg (r : W32) (bs : List W32) : W32 := regW halved8 r bs
theorem reg_cons (r b : W32) (bs : List W32) : reg r (b :: bs) = reg (halved8 (r ^^^ b)) bs := regW_cons halved8 r b bs
theorem reg_append (xs ys : List W32) : ∀ r, reg r (xs ++ ys) = reg (reg r xs) ys := by
  induction xs with
  | nil => intro r; rfl
  | cons x xs ih => intro r; rw [List.cons_append, reg_cons, ih, reg_cons]
def timesW (h : W32 → W32) : Nat → W32 → W32
  | 0, v => v
  | n + 1, v => timesW h n (h v)
theorem timesW_succ (h : W32 → W32) (n : Nat) (v : W32) : timesW h (n + 1) v = timesW h n (h v) := rfl
def zeros8 (n : Nat) (v : W32) : W32 := timesW halved8 n v
theorem zeros8_succ (n : Nat) (v : W32) : zeros8 (n + 1) v = zeros8 n (halved8 v) := timesW_succ halved8 n v
theorem reg_xor (bs : List W32) : ∀ r x, reg (r ^^^ x) bs = reg r bs ^^^ zeros8 bs.length x := by
  induction bs with
  | nil => intro r x; rfl
  | cons b bs ih =>
    intro r x
    rw [reg_cons, reg_cons, List.length_cons, zeros8_succ]
    rw [show r ^^^ x ^^^ b = (r ^^^ b) ^^^ x by rw [BitVec.xor_assoc, BitVec.xor_comm x b, ← BitVec.xor_assoc], halved8_xor, ih]
theorem reg_inj (bs : List W32) : ∀ {r s}, reg r bs = reg s bs → r = s := by
  induction bs with
  | nil => intro r s h; exact h
  | cons b bs ih =>
    intro r s h
    rw [reg_cons, reg_cons] at h
    have h2 := halved8_inj (ih h)
    have h3 := congrArg (· ^^^ b) h2
    simpa [BitVec.xor_assoc] using h3
def wordsOf (s : ByteArray) : List W32 := (bytesOf s).map fun x => BitVec.ofInt 32 x
def crcMore (sum : W32) (s : ByteArray) : W32 := ~~~ reg (~~~ sum) (wordsOf s)
def crc (s : ByteArray) : W32 := crcMore 0#32 s
theorem bytesOf_len (s : ByteArray) : (bytesOf s).length = s.size := by
  unfold bytesOf; rw [List.length_map, Array.length_toList]; rfl
theorem wordsOf_len (s : ByteArray) : (wordsOf s).length = s.size := by unfold wordsOf; rw [List.length_map, bytesOf_len]
theorem bytesOf_get (s : ByteArray) (i : Nat) (h : i < s.size) : (bytesOf s)[i]'(by rw [bytesOf_len]; exact h) = bt s i := by
  have h2 : (i : Int).toNat < s.size := by simpa using h
  rw [← bt_at s i h2]
  simp only [bytesOf, List.getElem_map, Array.getElem_toList, Int.toNat_natCast]
  rfl
theorem wordsOf_get (s : ByteArray) (i : Nat) (h : i < s.size) : enc ((wordsOf s)[i]'(by rw [wordsOf_len]; exact h)) = bt s i := by
  have b := bt_range s i
  unfold wordsOf
  rw [List.getElem_map, bytesOf_get s i h]
  obtain ⟨m, hm⟩ := Int.eq_ofNat_of_zero_le b.1
  rw [hm, BitVec.ofInt_natCast]
  unfold enc
  rw [BitVec.toNat_ofNat]
  omega
theorem bytesOf_extract (s : ByteArray) (a b : Nat) : bytesOf (s.extract a b) = ((bytesOf s).drop a).take (b - a) := by
  unfold bytesOf
  rw [ByteArray.data_extract, Array.toList_extract, List.map_take, List.map_drop]
theorem wordsOf_extract (s : ByteArray) (a b : Nat) : wordsOf (s.extract a b) = ((wordsOf s).drop a).take (b - a) := by
  unfold wordsOf
  rw [bytesOf_extract, List.map_take, List.map_drop]
theorem wordsOf_cut (s : ByteArray) (m : Nat) (h : m ≤ s.size) : wordsOf (s.extract 0 m) ++ wordsOf (s.extract m s.size) = wordsOf s := by
  have hl := wordsOf_len s
  rw [wordsOf_extract, wordsOf_extract, List.drop_zero, Nat.sub_zero, List.take_of_length_le (i := s.size - m) (by rw [List.length_drop]; omega), List.take_append_drop]
theorem bytesOf_cut (s : ByteArray) (m : Nat) (h : m ≤ s.size) : bytesOf (s.extract 0 m) ++ bytesOf (s.extract m s.size) = bytesOf s := by
  have hl := bytesOf_len s
  rw [bytesOf_extract, bytesOf_extract, List.drop_zero, Nat.sub_zero, List.take_of_length_le (i := s.size - m) (by rw [List.length_drop]; omega), List.take_append_drop]
theorem not_not32 (a : W32) : ~~~ (~~~ a) = a := BitVec.not_not
theorem crc_more (s : ByteArray) (m : Nat) (h : m ≤ s.size) : crcMore (crc (s.extract 0 m)) (s.extract m s.size) = crc s := by
  unfold crc crcMore
  rw [not_not32, ← reg_append, wordsOf_cut s m h]
theorem crc_join (s : ByteArray) (m : Nat) (h : m ≤ s.size) : zeros8 (s.size - m) (crc (s.extract 0 m)) ^^^ crc (s.extract m s.size) = crc s := by
  have hl : (wordsOf (s.extract m s.size)).length = s.size - m := by rw [wordsOf_len, ByteArray.size_extract]; omega
  have e := crc_more s m h
  have flip : ∀ a : W32, ~~~ a = ~~~ (0#32) ^^^ a := by
    intro a
    rw [show ~~~ (0#32) = BitVec.allOnes 32 from by decide, BitVec.allOnes_xor]
  rw [← e]
  generalize crc (s.extract 0 m) = v
  unfold crcMore crc crcMore
  rw [flip v, reg_xor, hl]
  generalize reg (~~~ 0#32) (wordsOf (s.extract m s.size)) = y
  generalize zeros8 (s.size - m) v = z
  rw [flip (y ^^^ z), flip y, BitVec.xor_comm z, BitVec.xor_assoc]

def four (v : W32) : ByteArray := strOfNums (bigB (enc v) 4)

theorem impl_within_eq (a b c : Int) : impl_within.f a b c = some (decide (b ≤ a) && decide (a ≤ c)) := by
  unfold impl_within.f
  by_cases h : b ≤ a <;> simp [h]

def great (c : Int) : Bool := decide (65 ≤ c) && decide (c ≤ 90)
def small (c : Int) : Bool := decide (97 ≤ c) && decide (c ≤ 122)
theorem spec_l16Letter_eq (c : Int) : spec_l16Letter.f c = some (great c || small c) := by
  unfold spec_l16Letter.f great small
  by_cases h1 : 65 ≤ c
  · by_cases h2 : c ≤ 90
    · simp [h1, h2]
    · by_cases h3 : 97 ≤ c
      · simp [h1, h2, h3]
      · simp [h1, h2, h3]
  · have h3 : ¬ (97 ≤ c) := by omega
    simp [h1, h3]
theorem impl_isGreat_eq (s : ByteArray) (i : Int) : impl_isGreat.f (bt s i) = some (great (bt s i)) := by
  simp [impl_isGreat.f, wbt, impl_within_eq, great]
theorem impl_isSmall_eq (s : ByteArray) (i : Int) : impl_isSmall.f (bt s i) = some (small (bt s i)) := by
  simp [impl_isSmall.f, wbt, impl_within_eq, small]
/-- A letter that may stand at a place of a name. -/
def letterAt (s : ByteArray) (i : Int) : Bool := great (bt s i) || (small (bt s i) && decide (i ≠ 2))
def nameOk (s : ByteArray) : Bool := (s.size == 4) && letterAt s 0 && letterAt s 1 && letterAt s 2 && letterAt s 3
theorem impl_NameOk_round (s : ByteArray) (hs : s.size ≤ 9223372036854775807) (k : Nat) (i : Int) (h0 : 0 ≤ i) (h1 : i < s.size) :
    impl_NameOk.l0 (k + 1) s s.size i = if letterAt s i = true then impl_NameOk.l0 k s s.size (i + 1) else some false := by
  simp only [impl_NameOk.l0]
  rw [if_pos h1, if_pos h0, if_pos h1, impl_isGreat_eq, impl_isSmall_eq, w64 (by omega) (by omega)]
  simp only [Option.bind_some, letterAt]
  by_cases hg : great (bt s i) = true
  · simp [hg]
  · by_cases hm : small (bt s i) = true
    · by_cases h2 : i = 2
      · simp [hg, hm, h2]
      · simp [hg, hm, h2]
    · simp [hg, hm]
theorem impl_NameOk_end (s : ByteArray) (k : Nat) : impl_NameOk.l0 (k + 1) s s.size s.size = some (s.size == 4) := by
  simp only [impl_NameOk.l0]
  rw [if_neg (by omega)]
  congr 1
  rw [Bool.eq_iff_iff]
  simp
  omega
/-- A name that is not of four bytes is none. -/
theorem impl_NameOk_not4 (s : ByteArray) (hs : s.size ≤ 9223372036854775807) (h4 : s.size ≠ 4) (d : Nat) : ∀ (k : Nat) (i : Int), 0 ≤ i → i ≤ s.size → (s.size : Int) - i = d → d < k → impl_NameOk.l0 k s s.size i = some false := by
  induction d with
  | zero =>
    intro k i h0 h1 hd hk
    obtain ⟨k, rfl⟩ : ∃ m, k = m + 1 := ⟨k - 1, by omega⟩
    have : i = s.size := by omega
    subst this
    rw [impl_NameOk_end]
    simp [h4]
  | succ d ih =>
    intro k i h0 h1 hd hk
    obtain ⟨k, rfl⟩ : ∃ m, k = m + 1 := ⟨k - 1, by omega⟩
    rw [impl_NameOk_round s hs k i h0 (by omega)]
    split
    · exact ih k (i + 1) (by omega) (by omega) (by omega) (by omega)
    · rfl
theorem impl_NameOk_eq (s : ByteArray) (hs : s.size ≤ 9223372036854775807) (k : Nat) (hk : s.size + 5 ≤ k) : impl_NameOk.f k s = some (nameOk s) := by
  unfold impl_NameOk.f nameOk
  by_cases h4 : s.size = 4
  · obtain ⟨k, rfl⟩ : ∃ m, k = m + 5 := ⟨k - 5, by omega⟩
    have r := impl_NameOk_round s hs
    have e := impl_NameOk_end s
    rw [h4] at r e ⊢
    rw [r (k + 4) 0 (by omega) (by omega), r (k + 3) (0 + 1) (by omega) (by omega), r (k + 2) (0 + 1 + 1) (by omega) (by omega), r (k + 1) (0 + 1 + 1 + 1) (by omega) (by omega)]
    have e' : impl_NameOk.l0 (k + 1) s ((4 : Nat) : Int) (0 + 1 + 1 + 1 + 1) = some (4 == 4) := e k
    rw [e']
    simp only [Int.zero_add, show (1 : Int) + 1 = 2 from rfl, show (2 : Int) + 1 = 3 from rfl]
    cases letterAt s 0 <;> cases letterAt s 1 <;> cases letterAt s 2 <;> cases letterAt s 3 <;> rfl
  · rw [impl_NameOk_not4 s hs h4 s.size k 0 (by omega) (by omega) (by omega) (by omega)]
    simp [h4]
theorem spec_NameOk_eq (s : ByteArray) : spec_NameOk.f s = some (nameOk s) := by
  unfold spec_NameOk.f nameOk
  by_cases h4 : s.size = 4
  · simp only [spec_l16Letter_eq, Option.bind_some]
    rw [h4]
    have l0 : letterAt s 0 = (great (bt s 0) || small (bt s 0)) := by simp [letterAt]
    have l1 : letterAt s 1 = (great (bt s 1) || small (bt s 1)) := by simp [letterAt]
    have l3 : letterAt s 3 = (great (bt s 3) || small (bt s 3)) := by simp [letterAt]
    have l2 : letterAt s 2 = great (bt s 2) := by simp [letterAt]
    have q : ((great (bt s 2) || small (bt s 2)) && decide (bt s 2 ≤ 90)) = great (bt s 2) := by
      rw [Bool.eq_iff_iff]; simp [great, small]; omega
    rw [l0, l1, l2, l3]
    cases h0 : (great (bt s 0) || small (bt s 0)) <;> cases h1 : (great (bt s 1) || small (bt s 1)) <;> cases h3 : (great (bt s 3) || small (bt s 3)) <;> cases h2 : (great (bt s 2) || small (bt s 2)) <;> rw [← q, h2] <;> simp
  · rw [if_neg (by omega)]; simp [h4]

theorem rd_Chunk (xs : List S56) (i : Nat) (h : i < xs.length) : rd_T56 xs i = xs[i] := by
  simp [rd_T56, List.getD, h]

theorem bt_extract (s : ByteArray) (a b i : Nat) (h : a + i < min b s.size) : bt (s.extract a b) (i : Int) = bt s ((a + i : Nat) : Int) := by
  have h1 : (i : Int).toNat < (s.extract a b).size := by rw [ByteArray.size_extract]; simp; omega
  have h2 : ((a + i : Nat) : Int).toNat < s.size := by simp; omega
  rw [← bt_at _ _ h1, ← bt_at _ _ h2]
  simp only [Int.toNat_natCast]
  rw [ByteArray.getElem_extract]
theorem valB_extract (s : ByteArray) (a b o n : Nat) (h : a + o + n ≤ min b s.size) : valB (s.extract a b) o n = valB s (a + o) n := by
  induction n with
  | zero => rfl
  | succ n ih =>
    simp only [valB]
    rw [ih (by omega), bt_extract s a b (o + n) (by omega), show a + (o + n) = a + o + n by omega]
theorem toList_nil {s : ByteArray} : s.toList = ([] : List UInt8) ↔ s.size = 0 := by
  rw [ByteArray.toList_eq, List.eq_nil_iff_length_eq_zero, Array.length_toList]; rfl
/-- How many bytes of data a chunk tells. -/
def chunkN (s : ByteArray) (a : Nat) : Nat := (valB s a 4).toNat
def chunkNum (s : ByteArray) (a : Nat) : Int :=
  if s.size < a + 12 + chunkN s a then 2
  else if nameOk (s.extract (a + 4) (a + 8)) = false then 3
  else if (s.extract (a + 8 + chunkN s a) (a + 12 + chunkN s a)).toList = (four (crc (s.extract (a + 4) (a + 8 + chunkN s a)))).toList then 0 else 4
def chunkOf (s : ByteArray) (a : Nat) : S56 := ⟨s.extract (a + 4) (a + 8), s.extract (a + 8) (a + 8 + chunkN s a)⟩
def readChunks (s : ByteArray) : Nat → Nat → List S56 → List S56 × Int
  | 0, _, _ => ([], 5)
  | f + 1, a, acc => if a < s.size then (if acc.length = 40 then ([], 5) else if chunkNum s a = 0 then readChunks s f (a + 12 + chunkN s a) (acc ++ [chunkOf s a]) else ([], chunkNum s a)) else (acc, 0)
theorem chunkN_val (s : ByteArray) (a : Nat) : valB s a 4 = (chunkN s a : Int) ∧ chunkN s a < 4294967296 := by
  have b := valB_bd s a 4
  unfold chunkN
  rw [show (256 : Int) ^ 4 = 4294967296 from rfl] at b
  omega
def isSign (s : ByteArray) : Bool := decide (8 ≤ s.size) && (s.extract 0 8).toList == (⟨#[137, 80, 78, 71, 13, 10, 26, 10]⟩ : ByteArray).toList
def chunksOf (s : ByteArray) : List S56 × Int := if isSign s = true ∧ s.size ≤ 12000 then readChunks s 41 8 [] else ([], 1)
theorem readBig_in (s : ByteArray) (a : Nat) (h : a + 4 ≤ s.size) : readBig s a 4 = (valB s a 4, true) := by
  unfold readBig; rw [if_pos (by omega)]; rfl
theorem readBig_out (s : ByteArray) (a : Nat) (h : s.size < a + 4) : readBig s a 4 = (0, false) := by
  unfold readBig; rw [if_neg (by omega)]

theorem bt_str (xs : List Int) (i : Nat) (h : i < xs.length) (h0 : 0 ≤ xs[i]) (h1 : xs[i] ≤ 255) : bt (strOfNums xs) i = xs[i] := by
  have hs : (i : Int).toNat < (strOfNums xs).size := by rw [str_size]; simpa using h
  rw [← bt_at (strOfNums xs) i hs]
  have e : (strOfNums xs)[(i : Int).toNat]'hs = UInt8.ofNat xs[i].toNat := by
    have := strOfNums_data xs
    have q : (strOfNums xs).data.toList[i]? = some (UInt8.ofNat xs[i].toNat) := by rw [this]; simp [h]
    rw [ByteArray.getElem_eq_getElem_data]
    simp only [Array.getElem?_toList] at q
    obtain ⟨_, h⟩ := Array.getElem?_eq_some_iff.1 q
    simpa using h
  rw [e]
  simp
  omega
/-- The bits of bytes that were made of bits. -/

theorem bytesOf_str (xs : List Int) (hx : ∀ x ∈ xs, 0 ≤ x ∧ x ≤ 255) : bytesOf (strOfNums xs) = xs := by
  unfold bytesOf
  rw [strOfNums_data, List.map_map]
  refine (List.map_congr_left (g := id) ?_).trans (List.map_id _)
  intro x hm
  have := hx x hm
  simp only [Function.comp, UInt8.toNat_ofNat', id]
  omega
theorem bytesOf_bd (s : ByteArray) : ∀ x ∈ bytesOf s, 0 ≤ x ∧ x ≤ 255 := by
  intro x hx
  unfold bytesOf at hx
  obtain ⟨b, _, rfl⟩ := List.mem_map.mp hx
  have := b.toNat_lt
  omega
theorem xor8 (a b : Int) (ha : 0 ≤ a ∧ a ≤ 255) (hb : 1 ≤ b ∧ b ≤ 255) : 0 ≤ Go.bits .xor .u8 a b ∧ Go.bits .xor .u8 a b ≤ 255 ∧ Go.bits .xor .u8 a b ≠ a := by
  obtain ⟨m, rfl⟩ := Int.eq_ofNat_of_zero_le ha.1
  obtain ⟨n, rfl⟩ := Int.eq_ofNat_of_zero_le (show 0 ≤ b by omega)
  unfold Go.bits
  simp only [IntKind.bits]
  rw [BitVec.ofInt_natCast, BitVec.ofInt_natCast, IntKind.wrap_u8]
  show 0 ≤ ((BitVec.ofNat 8 m ^^^ BitVec.ofNat 8 n).toNat : Int) % 256 ∧ ((BitVec.ofNat 8 m ^^^ BitVec.ofNat 8 n).toNat : Int) % 256 ≤ 255 ∧ ((BitVec.ofNat 8 m ^^^ BitVec.ofNat 8 n).toNat : Int) % 256 ≠ m
  have l := (BitVec.ofNat 8 m ^^^ BitVec.ofNat 8 n).isLt
  refine ⟨by omega, by omega, fun e => ?_⟩
  have e2 : BitVec.ofNat 8 m ^^^ BitVec.ofNat 8 n = BitVec.ofNat 8 m := BitVec.eq_of_toNat_eq (by rw [BitVec.toNat_ofNat (x := m)]; omega)
  have e3 := congrArg (BitVec.ofNat 8 m ^^^ ·) e2
  simp only [← BitVec.xor_assoc, BitVec.xor_self, BitVec.zero_xor] at e3
  have e4 := congrArg BitVec.toNat e3
  rw [BitVec.toNat_ofNat] at e4
  have : (0#8).toNat = 0 := rfl
  omega
theorem crc_set (s : ByteArray) (j : Nat) (hj : j < s.size) (v : Int) (hv : 0 ≤ v ∧ v ≤ 255) (hne : v ≠ bt s j) : crc (strOfNums ((bytesOf s).set j v)) ≠ crc s := by
  have hl := bytesOf_len s
  have lw := wordsOf_len s
  have g := wordsOf_get s j hj
  have hb : ∀ x ∈ (bytesOf s).set j v, 0 ≤ x ∧ x ≤ 255 := by
    intro x hx
    rcases List.mem_or_eq_of_mem_set hx with h | h
    · exact bytesOf_bd s x h
    · omega
  have hw : wordsOf (strOfNums ((bytesOf s).set j v)) = (wordsOf s).set j (BitVec.ofInt 32 v) := by
    unfold wordsOf
    rw [bytesOf_str _ hb, List.map_set]
  intro e
  unfold crc crcMore at e
  rw [hw] at e
  have e2 := congrArg (~~~ ·) e
  simp only [BitVec.not_not] at e2
  have s1 : (wordsOf s).set j (BitVec.ofInt 32 v) = (wordsOf s).take j ++ BitVec.ofInt 32 v :: (wordsOf s).drop (j + 1) := by
    rw [List.set_eq_take_append_cons_drop, if_pos (by omega)]
  have s2 : wordsOf s = (wordsOf s).take j ++ (wordsOf s)[j]'(by omega) :: (wordsOf s).drop (j + 1) := by
    rw [← List.drop_eq_getElem_cons, List.take_append_drop]
  rw [s1, reg_append, reg_cons] at e2
  rw [congrArg (reg (~~~ 0#32)) s2, reg_append, reg_cons] at e2
  have e3 := halved8_inj (reg_inj _ e2)
  have e4 := congrArg (reg (~~~ 0#32) ((wordsOf s).take j) ^^^ ·) e3
  simp only [← BitVec.xor_assoc, BitVec.xor_self, BitVec.zero_xor] at e4
  rw [← e4] at g
  obtain ⟨m, rfl⟩ := Int.eq_ofNat_of_zero_le hv.1
  rw [BitVec.ofInt_natCast] at g
  unfold enc at g
  rw [BitVec.toNat_ofNat] at g
  omega

def bigT (n : Nat) : ByteArray := strOfNums (bigB (n : Int) 4)
/-- A chunk, as it stands in a file. -/
def chunkB (x : S56) : ByteArray := bigT x.f1.size ++ x.f0 ++ x.f1 ++ four (crc (x.f0 ++ x.f1))
def chunksT : ByteArray → List S56 → ByteArray × Bool
  | acc, [] => (acc, true)
  | acc, x :: xs => if nameOk x.f0 = true ∧ acc.size + x.f1.size + 12 ≤ 12000 then chunksT (acc ++ chunkB x) xs else (⟨#[]⟩, false)
def signT : ByteArray := ⟨#[137, 80, 78, 71, 13, 10, 26, 10]⟩
def chunksText (xs : List S56) : ByteArray × Bool := if xs.length ≤ 40 then chunksT signT xs else (⟨#[]⟩, false)
theorem bigT_size (n : Nat) : (bigT n).size = 4 := by unfold bigT; rw [str_size, bigB_len]
theorem four_size (v : W32) : (four v).size = 4 := by unfold four; rw [str_size, bigB_len]
theorem nameOk_size {s : ByteArray} (h : nameOk s = true) : s.size = 4 := by
  unfold nameOk at h
  simp only [Bool.and_eq_true, beq_iff_eq] at h
  exact h.1.1.1.1
theorem chunkB_size {x : S56} (h : nameOk x.f0 = true) : (chunkB x).size = x.f1.size + 12 := by
  unfold chunkB
  rw [ByteArray.size_append, ByteArray.size_append, ByteArray.size_append, bigT_size, four_size, nameOk_size h]; omega
theorem bytes_ext {s t : ByteArray} (h : bytesOf s = bytesOf t) : s = t := by
  have e : ∀ u : ByteArray, strOfNums (bytesOf u) = u := by
    intro u
    apply ByteArray.ext
    apply Array.ext'
    rw [strOfNums_data]
    unfold bytesOf
    rw [List.map_map]
    have : (fun n : Int => UInt8.ofNat n.toNat) ∘ (fun b : UInt8 => (b.toNat : Int)) = id := by
      funext b; simp
    rw [this, List.map_id]
  rw [← e s, h, e]
theorem bytesOf_append (s t : ByteArray) : bytesOf (s ++ t) = bytesOf s ++ bytesOf t := by
  unfold bytesOf
  rw [ByteArray.data_append, Array.toList_append, List.map_append]
theorem ext_mid (a b c : ByteArray) (i j : Nat) (hi : i = a.size) (hj : j = a.size + b.size) : (a ++ b ++ c).extract i j = b := by
  have la := bytesOf_len a
  have lb := bytesOf_len b
  apply bytes_ext
  rw [bytesOf_extract, bytesOf_append, bytesOf_append, List.append_assoc, hi, hj, ← la, List.drop_left, show (bytesOf a).length + b.size - (bytesOf a).length = (bytesOf b).length by omega, List.take_left]
/-- A text with one byte turned. -/
def turnAt (s : ByteArray) (j : Nat) (v : Int) : ByteArray := strOfNums ((bytesOf s).set j v)
theorem turnAt_size (s : ByteArray) (j : Nat) (v : Int) : (turnAt s j v).size = s.size := by unfold turnAt; rw [str_size, List.length_set, bytesOf_len]
theorem turnAt_bytes (s : ByteArray) (j : Nat) (v : Int) (hv : 0 ≤ v ∧ v ≤ 255) : bytesOf (turnAt s j v) = (bytesOf s).set j v := by
  unfold turnAt
  refine bytesOf_str _ (fun x hx => ?_)
  rcases List.mem_or_eq_of_mem_set hx with h | h
  · exact bytesOf_bd s x h
  · omega
theorem turnAt_out (s : ByteArray) (j : Nat) (v : Int) (hv : 0 ≤ v ∧ v ≤ 255) (a b : Nat) (h : j < a ∨ b ≤ j) : (turnAt s j v).extract a b = s.extract a b := by
  apply bytes_ext
  rw [bytesOf_extract, bytesOf_extract, turnAt_bytes s j v hv]
  apply List.ext_getElem?
  intro i
  rw [List.getElem?_take, List.getElem?_take]
  split
  · rw [List.getElem?_drop, List.getElem?_drop, List.getElem?_set_ne (by omega)]
  · rfl
theorem turnAt_in (s : ByteArray) (j : Nat) (v : Int) (hv : 0 ≤ v ∧ v ≤ 255) (a b : Nat) (h : a ≤ j) : (turnAt s j v).extract a b = turnAt (s.extract a b) (j - a) v := by
  apply bytes_ext
  rw [bytesOf_extract, turnAt_bytes s j v hv, turnAt_bytes _ _ v hv, bytesOf_extract, List.drop_set, if_neg (by omega), List.take_set]
theorem valB_by (s : ByteArray) (a : Nat) (h : a + 4 ≤ s.size) : valB s a 4 = valB (s.extract a (a + 4)) 0 4 := by
  rw [valB_extract s a (a + 4) 0 4 (by omega)]; rfl
theorem valB_big (n : Nat) (h : n < 4294967296) : valB (bigT n) 0 4 = n := by
  have hb : ∀ x ∈ bigB (n : Int) 4, 0 ≤ x ∧ x ≤ 255 := by
    intro x hx
    simp [bigB] at hx
    rcases hx with rfl | rfl | rfl | rfl <;> omega
  have l := bigB_len 4 (n : Int)
  have g : ∀ i (hi : i < 4), bt (bigT n) (i : Nat) = (bigB (n : Int) 4)[i]'(by omega) := fun i hi => bt_str _ i (by omega) (hb _ (List.getElem_mem _)).1 (hb _ (List.getElem_mem _)).2
  have g0 := g 0 (by omega)
  have g1 := g 1 (by omega)
  have g2 := g 2 (by omega)
  have g3 := g 3 (by omega)
  simp only [valB]
  simp only [Nat.zero_add, Nat.add_zero] at g0 g1 g2 g3 ⊢
  rw [g0, g1, g2, g3]
  simp [bigB]
  omega

theorem impl_halved_l0 (r : Nat) : ∀ (k i : Nat) (v : W32), i + r = 8 → r < k → impl_halved.l0 k (enc v) i = some (enc (hstepN r v)) := by
  induction r with
  | zero =>
    intro k i v hi hk
    obtain ⟨k, rfl⟩ : ∃ m, k = m + 1 := ⟨k - 1, by omega⟩
    simp only [impl_halved.l0]
    rw [if_neg (by omega)]; rfl
  | succ r ih =>
    intro k i v hi hk
    obtain ⟨k, rfl⟩ : ∃ m, k = m + 1 := ⟨k - 1, by omega⟩
    have b := enc_bd v
    have st := ih k (i + 1) (hstep v) (by omega) (by omega)
    push_cast at st
    simp only [impl_halved.l0]
    rw [if_pos (by omega), w64 (x := (i : Int) + 1) (by omega) (by omega), Int.tmod_eq_emod_of_nonneg b.1, Int.tdiv_eq_ediv_of_nonneg b.1, show enc v / 2 % 4294967296 = enc v / 2 by omega, ← shr_enc, show (3988292384 : Int) = enc poly from rfl, xor_enc]
    unfold hstep at st
    by_cases h : v.toNat % 2 = 1
    · rw [if_pos (show enc v % 2 = 1 by unfold enc; omega)]
      rw [if_pos h] at st
      rw [st]
      simp [hstepN, hstep, h]
    · rw [if_neg (show ¬ (enc v % 2 = 1) by unfold enc; omega)]
      rw [if_neg h] at st
      rw [st]
      simp [hstepN, hstep, h]
theorem impl_halved_eq (v : W32) (k : Nat) (hk : 9 ≤ k) : impl_halved.f k (enc v) = some (enc (halved8 v)) := impl_halved_l0 8 k 0 v (by omega) (by omega)
theorem impl_CrcMore_l0 (s : ByteArray) (hs : s.size ≤ 9223372036854775807) (n : Nat) : ∀ (k i : Nat) (v : W32), i ≤ s.size → s.size - i = n → n + 10 < k → impl_CrcMore.l0 k (enc v) s s.size i = some (enc (~~~ reg v ((wordsOf s).drop i))) := by
  have hl := wordsOf_len s
  induction n with
  | zero =>
    intro k i v hi hn hk
    obtain ⟨k, rfl⟩ : ∃ m, k = m + 1 := ⟨k - 1, by omega⟩
    simp only [impl_CrcMore.l0]
    rw [if_neg (by omega), not_enc, List.drop_eq_nil_of_le (by omega)]; rfl
  | succ n ih =>
    intro k i v hi hn hk
    obtain ⟨k, rfl⟩ : ∃ m, k = m + 1 := ⟨k - 1, by omega⟩
    have lt : i < s.size := by omega
    have b := bt_range s i
    have st := fun v => ih k (i + 1) v (by omega) (by omega) (by omega)
    push_cast at st
    simp only [impl_CrcMore.l0]
    rw [if_pos (by omega), if_pos (by omega), if_pos (by omega), show bt s i % 4294967296 = bt s i by omega, ← wordsOf_get s i lt, xor_enc, impl_halved_eq _ k (by omega)]
    simp only [Option.bind_some]
    rw [w64 (x := (i : Int) + 1) (by omega) (by omega), st, List.drop_eq_getElem_cons (l := wordsOf s) (i := i) (by omega), reg_cons]
theorem impl_CrcMore_eq (sum : W32) (s : ByteArray) (hs : s.size ≤ 9223372036854775807) (k : Nat) (hk : s.size + 10 < k) : impl_CrcMore.f k (enc sum) s = some (enc (crcMore sum s)) := by
  unfold impl_CrcMore.f crcMore
  rw [not_enc]
  have := impl_CrcMore_l0 s hs s.size k 0 (~~~ sum) (by omega) (by omega) hk
  simpa using this
theorem impl_Crc_eq (s : ByteArray) (hs : s.size ≤ 9223372036854775807) (k : Nat) (hk : s.size + 10 < k) : impl_Crc.f k s = some (enc (crc s)) := by
  unfold impl_Crc.f
  have := impl_CrcMore_eq 0#32 s hs k hk
  change impl_CrcMore.f k 0 s = _ at this
  rw [this]; rfl

theorem shl_one (n : Int) (h0 : 0 ≤ n) (h62 : n ≤ 62) : shl .i64 1 n = p2 n := by
  have b1 := p2_pos n
  have b2 := p2_62 h62
  unfold shl
  rw [show min n.toNat IntKind.i64.bits = n.toNat by simp [IntKind.bits]; omega, Int.one_mul, IntKind.wrap_i64]
  show (p2 n + 9223372036854775808) % 18446744073709551616 - 9223372036854775808 = p2 n
  omega
theorem impl_powerOf_eq (n : Int) : impl_powerOf.f n = some (if 0 ≤ n ∧ n ≤ 62 then p2 n else 0) := by
  unfold impl_powerOf.f
  rw [impl_within_eq]
  simp only [Option.bind_some]
  by_cases h0 : 0 ≤ n
  · by_cases h1 : n ≤ 62
    · simp [h0, h1, shl_one n h0 h1]
    · simp [h0, h1]
  · simp [h0]

theorem shr_bytes (n : Int) (i : Nat) (hi : i ≤ 7) : shr .i64 n (8 * (i : Int)) = n / 256 ^ i := by
  unfold shr
  rw [show min (8 * (i : Int)).toNat IntKind.i64.bits = 8 * i by simp [IntKind.bits]; omega, Int.pow_mul]
  rfl
theorem impl_BigText_l0 (n : Int) (r : Nat) : ∀ (k : Nat) (s : List Int), r ≤ 4 → r < k → s.length + r ≤ 4 → impl_BigText.l0 k n s ((r : Int) - 1) = some (strOfNums (s ++ bigB n r), true) := by
  induction r with
  | zero =>
    intro k s hr hk hs
    obtain ⟨k, rfl⟩ : ∃ m, k = m + 1 := ⟨k - 1, by omega⟩
    simp only [impl_BigText.l0]
    rw [if_neg (by omega)]
    simp [bigB]
  | succ r ih =>
    intro k s hr hk hs
    obtain ⟨k, rfl⟩ : ∃ m, k = m + 1 := ⟨k - 1, by omega⟩
    have e : (((r + 1 : Nat) : Int) - 1) = r := by omega
    rw [e]
    simp only [impl_BigText.l0]
    rw [w64 (x := 8 * (r : Int)) (by omega) (by omega), if_pos (by omega), if_pos (by omega), if_pos (by omega), shr_bytes n r (by omega), w64 (x := (r : Int) - 1) (by omega) (by omega)]
    rw [ih k _ (by omega) (by omega) (by simp; omega), bigB_cons]
    simp
theorem impl_BigText_eq (n size : Int) (k : Nat) (hk : 6 ≤ k) : impl_BigText.f k n size = some (if 1 ≤ size ∧ size ≤ 4 ∧ 0 ≤ n ∧ n ≤ p2 (8 * size) - 1 then (strOfNums (bigB n size.toNat), true) else (⟨#[]⟩, false)) := by
  obtain ⟨k, rfl⟩ : ∃ m, k = m + 1 := ⟨k - 1, by omega⟩
  unfold impl_BigText.f
  simp only [impl_within_eq, impl_powerOf_eq, Option.bind_some]
  by_cases h : 1 ≤ size ∧ size ≤ 4
  · have b1 := p2_pos (8 * size)
    have b2 := p2_62 (n := 8 * size) (by omega)
    rw [if_pos (by simp; omega), w64 (x := 8 * size) (by omega) (by omega), if_pos (by omega), w64 (x := p2 (8 * size) - 1) (by omega) (by omega)]
    simp only [impl_BigText.j0]
    by_cases hn : 0 ≤ n ∧ n ≤ p2 (8 * size) - 1
    · obtain ⟨m, rfl⟩ := Int.eq_ofNat_of_zero_le (show 0 ≤ size by omega)
      rw [if_neg (by simp; omega), if_pos (by omega), w64 (by omega) (by omega), impl_BigText_l0 n m k [] (by omega) (by omega) (by simp; omega)]
      rfl
    · rw [if_pos (by simp; omega), if_neg (by omega)]
  · rw [if_neg (by simp; omega), if_neg (by omega)]
    simp [impl_BigText.j0]

theorem impl_bigSum_eq (v : W32) (k : Nat) (hk : 6 ≤ k) : impl_bigSum.f k (enc v) = some (four v) := by
  have b := enc_bd v
  unfold impl_bigSum.f four
  rw [w64 (by omega) (by omega), impl_BigText_eq _ _ k hk]
  simp only [Option.bind_some]
  rw [if_pos ⟨by omega, by omega, b.1, by rw [show p2 (8 * 4) = 4294967296 from rfl]; omega⟩]
  rfl

theorem impl_ChunksText_l0 (xs : List S56) (hx : xs.length ≤ 40) (hz : ∀ x ∈ xs, x.f0.size ≤ 1048576 ∧ x.f1.size ≤ 1048576) (d : Nat) : ∀ (k i : Nat) (acc : ByteArray), i ≤ xs.length → xs.length - i = d → 2 * d + 1048700 < k → acc.size ≤ 12000 → impl_ChunksText.l0 k acc xs xs.length i = some (chunksT acc (xs.drop i)) := by
  induction d with
  | zero =>
    intro k i acc hi hd hk ha
    obtain ⟨k, rfl⟩ : ∃ m, k = m + 1 := ⟨k - 1, by omega⟩
    simp only [impl_ChunksText.l0]
    rw [if_neg (by omega), List.drop_eq_nil_of_le (by omega)]; rfl
  | succ d ih =>
    intro k i acc hi hd hk ha
    obtain ⟨k, rfl⟩ : ∃ m, k = m + 2 := ⟨k - 2, by omega⟩
    have lt : i < xs.length := by omega
    have z := hz _ (List.getElem_mem lt)
    have no : ∀ b c e f, impl_ChunksText.j1 (k + 1) acc b xs c e true (xs[i]).f0 f = some (⟨#[]⟩, false) := fun b c e f => by simp [impl_ChunksText.j1]
    simp only [impl_ChunksText.l0]
    rw [if_pos (by omega), if_pos (by omega), if_pos (by omega), rd_Chunk xs i lt, impl_BigText_eq _ _ _ (by omega), if_pos ⟨by omega, by omega, by omega, by rw [show p2 (8 * 4) = 4294967296 from rfl]; omega⟩]
    rw [List.drop_eq_getElem_cons lt, chunksT]
    simp only [Option.bind_some, if_true]
    rw [impl_NameOk_eq _ (by omega) _ (by omega), w64 (x := (acc.size : Int) + xs[i].f1.size) (by omega) (by omega), w64 (x := (acc.size : Int) + xs[i].f1.size + 12) (by omega) (by omega)]
    simp only [Option.bind_some]
    by_cases hn : nameOk xs[i].f0 = true
    · rw [if_pos hn]
      have n4 := nameOk_size hn
      by_cases hf : acc.size + xs[i].f1.size + 12 ≤ 12000
      · rw [decide_eq_false (by omega), if_pos ⟨hn, hf⟩]
        have zb : (strOfNums (bigB (xs[i].f1.size : Int) 4)).size = 4 := by rw [str_size, bigB_len]
        have st := ih k (i + 1) (acc ++ chunkB xs[i]) (by omega) (by omega) (by omega) (by rw [ByteArray.size_append, chunkB_size hn]; omega)
        push_cast at st
        simp only [impl_ChunksText.j1, Bool.false_eq_true, if_false]
        rw [show ((4 : Int).toNat) = 4 from rfl, zb, if_pos (by omega), if_pos (by rw [ByteArray.size_append, zb]; omega), if_pos (by omega), impl_Crc_eq _ (by rw [ByteArray.size_append]; omega) k (by rw [ByteArray.size_append]; omega)]
        unfold chunkB bigT at st ⊢
        generalize crc (xs[i].f0 ++ xs[i].f1) = v at st ⊢
        rw [Option.bind_some, impl_bigSum_eq v k (by omega), Option.bind_some]
        have zf := four_size v
        rw [if_pos (by rw [ByteArray.size_append, ByteArray.size_append, zb, zf]; omega), if_pos (by rw [ByteArray.size_append, ByteArray.size_append, ByteArray.size_append, zb, zf]; omega), w64 (by omega) (by omega)]
        exact st
      · rw [decide_eq_true (by omega), if_neg (fun q => hf q.2), no]
    · rw [if_neg hn, if_neg (fun q => hn q.1), no]
theorem impl_ChunksText_eq (xs : List S56) (hl : xs.length ≤ 9223372036854775807) (hz : ∀ x ∈ xs, x.f0.size ≤ 1048576 ∧ x.f1.size ≤ 1048576) (k : Nat) (hk : 1048900 ≤ k) : impl_ChunksText.f k xs = some (chunksText xs) := by
  unfold impl_ChunksText.f chunksText
  by_cases h : xs.length ≤ 40
  · rw [if_neg (by omega), if_pos h]
    have R := impl_ChunksText_l0 xs h hz xs.length k 0 signT (by omega) (by omega) (by omega) (by decide)
    exact R
  · rw [if_pos (by omega), if_neg h]

theorem spec_l01Big_l0 (size : Nat) (hs : size ≤ 1000) (r : Nat) : ∀ (k i : Nat) (n : Int) (s : List Int), 0 ≤ n → n ≤ 9223372036854775807 → i + r = size → r < k → s.length = i → spec_l01Big.l0 k n size (strOfNums s) i = some (strOfNums (bigB n r ++ s)) := by
  induction r with
  | zero =>
    intro k i n s h0 h1 hi hk hl
    obtain ⟨k, rfl⟩ : ∃ m, k = m + 1 := ⟨k - 1, by omega⟩
    simp only [spec_l01Big.l0]
    rw [if_neg (by omega)]
    rfl
  | succ r ih =>
    intro k i n s h0 h1 hi hk hl
    obtain ⟨k, rfl⟩ : ∃ m, k = m + 1 := ⟨k - 1, by omega⟩
    simp only [spec_l01Big.l0, Option.bind_some]
    rw [if_pos (by omega), str_size, str_size, if_pos (by simp; omega), str_append, Int.tmod_eq_emod_of_nonneg h0, Int.tdiv_eq_ediv_of_nonneg h0, w64 (x := n / 256) (by omega) (by omega), w64 (x := (i : Int) + 1) (by omega) (by omega)]
    have step := ih k (i + 1) (n / 256) ([n % 256 % 256] ++ s) (by omega) (by omega) (by omega) (by omega) (by simp; omega)
    push_cast at step
    rw [step, show n % 256 % 256 = n % 256 by omega]
    simp [bigB]
theorem spec_l01Big_eq (size : Nat) (hs : size ≤ 1000) (n : Int) (h0 : 0 ≤ n) (h1 : n ≤ 9223372036854775807) (k : Nat) (hk : size < k) : spec_l01Big.f k n size = some (strOfNums (bigB n size)) := by
  unfold spec_l01Big.f
  have R := spec_l01Big_l0 size hs size k 0 n [] h0 h1 (by omega) hk rfl
  rw [List.append_nil] at R
  exact R

theorem not_enc_s (a : W32) : Go.bits .xor .u32 (enc a) 4294967295 = enc (~~~ a) := by
  rw [show (4294967295 : Int) = enc (BitVec.allOnes 32) from by decide, xor_enc, BitVec.xor_allOnes]
theorem spec_l02Step_l0 (r : Nat) : ∀ (k i : Nat) (v : W32), i + r = 8 → r < k → spec_l02Step.l0 k (enc v) i = some (enc (hstepN r v)) := by
  induction r with
  | zero =>
    intro k i v hi hk
    obtain ⟨k, rfl⟩ : ∃ m, k = m + 1 := ⟨k - 1, by omega⟩
    simp only [spec_l02Step.l0]
    rw [if_neg (by omega)]; rfl
  | succ r ih =>
    intro k i v hi hk
    obtain ⟨k, rfl⟩ : ∃ m, k = m + 1 := ⟨k - 1, by omega⟩
    have b := enc_bd v
    have st := ih k (i + 1) (hstep v) (by omega) (by omega)
    push_cast at st
    simp only [spec_l02Step.l0]
    rw [if_pos (by omega), w64 (x := (i : Int) + 1) (by omega) (by omega), Int.tmod_eq_emod_of_nonneg b.1, Int.tdiv_eq_ediv_of_nonneg b.1, show enc v / 2 % 4294967296 = enc v / 2 by omega, ← shr_enc, show (3988292384 : Int) = enc poly from rfl, xor_enc]
    unfold hstep at st
    by_cases h : v.toNat % 2 = 1
    · rw [if_pos (show enc v % 2 = 1 by unfold enc; omega)]
      rw [if_pos h] at st
      rw [st]
      simp [hstepN, hstep, h]
    · rw [if_neg (show ¬ (enc v % 2 = 1) by unfold enc; omega)]
      rw [if_neg h] at st
      rw [st]
      simp [hstepN, hstep, h]
theorem spec_l02Step_eq (v : W32) (k : Nat) (hk : 9 ≤ k) : spec_l02Step.f k (enc v) = some (enc (halved8 v)) := spec_l02Step_l0 8 k 0 v (by omega) (by omega)
theorem spec_CrcMore_l0 (s : ByteArray) (hs : s.size ≤ 9223372036854775807) (n : Nat) : ∀ (k i : Nat) (v : W32), i ≤ s.size → s.size - i = n → n + 10 < k → spec_CrcMore.l0 k s (enc v) i = some (enc (~~~ reg v ((wordsOf s).drop i))) := by
  have hl := wordsOf_len s
  induction n with
  | zero =>
    intro k i v hi hn hk
    obtain ⟨k, rfl⟩ : ∃ m, k = m + 1 := ⟨k - 1, by omega⟩
    simp only [spec_CrcMore.l0]
    rw [if_neg (by omega), not_enc_s, List.drop_eq_nil_of_le (by omega)]; rfl
  | succ n ih =>
    intro k i v hi hn hk
    obtain ⟨k, rfl⟩ : ∃ m, k = m + 1 := ⟨k - 1, by omega⟩
    have lt : i < s.size := by omega
    have b := bt_range s i
    have st := fun v => ih k (i + 1) v (by omega) (by omega) (by omega)
    push_cast at st
    simp only [spec_CrcMore.l0]
    rw [if_pos (by omega), if_pos (by omega), show bt s i % 4294967296 = bt s i by omega, ← wordsOf_get s i lt, xor_enc, spec_l02Step_eq _ k (by omega)]
    simp only [Option.bind_some]
    rw [w64 (x := (i : Int) + 1) (by omega) (by omega), st, List.drop_eq_getElem_cons (l := wordsOf s) (i := i) (by omega), reg_cons]
theorem spec_CrcMore_eq (sum : W32) (s : ByteArray) (hs : s.size ≤ 9223372036854775807) (k : Nat) (hk : s.size + 10 < k) : spec_CrcMore.f k (enc sum) s = some (enc (crcMore sum s)) := by
  unfold spec_CrcMore.f crcMore
  rw [not_enc_s]
  have := spec_CrcMore_l0 s hs s.size k 0 (~~~ sum) (by omega) (by omega) hk
  simpa using this
theorem spec_Crc_eq (s : ByteArray) (hs : s.size ≤ 9223372036854775807) (k : Nat) (hk : s.size + 10 < k) : spec_Crc.f k s = some (enc (crc s)) := by
  unfold spec_Crc.f
  have := spec_CrcMore_eq 0#32 s hs k hk
  change spec_CrcMore.f k 0 s = _ at this
  rw [this]; rfl

theorem spec_l11Four_eq (v : W32) (k : Nat) (hk : 4 < k) : spec_l11Four.f k (enc v) = some (four v) := by
  have b := enc_bd v
  have e := spec_l01Big_eq 4 (by omega) (enc v) b.1 (by omega) k hk
  unfold spec_l11Four.f four
  rw [w64 (by omega) (by omega)]
  rw [show ((4 : Nat) : Int) = 4 from rfl] at e
  rw [e]; rfl

theorem str_bytesOf2 (s : ByteArray) : strOfNums (bytesOf s) = s := by
  apply bytes_ext
  exact bytesOf_str _ (fun x hx => bytesOf_bd s x hx)
theorem spec_ChunksText_l0 (xs : List S56) (hx : xs.length ≤ 40) (hz : ∀ x ∈ xs, x.f0.size ≤ 1048576 ∧ x.f1.size ≤ 1048576) (d : Nat) : ∀ (k i : Nat) (acc : ByteArray), i ≤ xs.length → xs.length - i = d → 2 * d + 1048700 < k → acc.size ≤ 12000 → spec_ChunksText.l0 k xs (bytesOf acc) i = some (chunksT acc (xs.drop i)) := by
  induction d with
  | zero =>
    intro k i acc hi hd hk ha
    obtain ⟨k, rfl⟩ : ∃ m, k = m + 1 := ⟨k - 1, by omega⟩
    simp only [spec_ChunksText.l0]
    rw [if_neg (by omega), List.drop_eq_nil_of_le (by omega), str_bytesOf2]; rfl
  | succ d ih =>
    intro k i acc hi hd hk ha
    obtain ⟨k, rfl⟩ : ∃ m, k = m + 2 := ⟨k - 2, by omega⟩
    have lt : i < xs.length := by omega
    have z := hz _ (List.getElem_mem lt)
    have no : ∀ e f, spec_ChunksText.j1 (k + 1) xs (bytesOf acc) i true e f = some (⟨#[]⟩, false) := fun e f => by simp [spec_ChunksText.j1]
    rw [spec_ChunksText.l0, if_pos (by omega), if_pos (by omega), rd_Chunk xs i lt, spec_NameOk_eq, Option.bind_some, List.drop_eq_getElem_cons lt, chunksT]
    by_cases hn : nameOk xs[i].f0 = true
    · rw [if_pos hn]
      have n4 := nameOk_size hn
      by_cases hf : acc.size + xs[i].f1.size + 12 ≤ 12000
      · rw [decide_eq_false (by omega), if_pos ⟨hn, hf⟩]
        have zb : (strOfNums (bigB (xs[i].f1.size : Int) 4)).size = 4 := by rw [str_size, bigB_len]
        have zc := chunkB_size hn
        have st := ih k (i + 1) (acc ++ chunkB xs[i]) (by omega) (by omega) (by omega) (by rw [ByteArray.size_append, zc]; omega)
        push_cast at st
        have b4 := spec_l01Big_eq 4 (by omega) (xs[i].f1.size : Int) (by omega) (by omega) k (by omega)
        rw [show ((4 : Nat) : Int) = 4 from rfl] at b4
        simp only [spec_ChunksText.j1, Bool.false_eq_true, if_false]
        rw [b4, Option.bind_some, zb, if_pos (by omega), if_pos (by rw [ByteArray.size_append, zb]; omega), if_pos (by omega), spec_Crc_eq _ (by rw [ByteArray.size_append]; omega) k (by rw [ByteArray.size_append]; omega)]
        unfold chunkB bigT at st zc ⊢
        generalize crc (xs[i].f0 ++ xs[i].f1) = v at st zc ⊢
        rw [Option.bind_some, spec_l11Four_eq v k (by omega), Option.bind_some]
        have zf := four_size v
        rw [if_pos (by rw [ByteArray.size_append, ByteArray.size_append, zb, zf]; omega), if_pos (by rw [ByteArray.size_append, ByteArray.size_append, ByteArray.size_append, zb, zf]; omega), Option.bind_some,
          if_pos (by rw [bytesOf_len, bytesOf_len, zc]; omega), Option.bind_some, if_neg (by rw [List.length_append, bytesOf_len, bytesOf_len, zc]; omega), w64 (by omega) (by omega), ← bytesOf_append]
        exact st
      · rw [if_neg (fun q => hf q.2)]
        by_cases hd : xs[i].f1.size ≤ 12000
        · rw [decide_eq_false (by omega)]
          have zb : (strOfNums (bigB (xs[i].f1.size : Int) 4)).size = 4 := by rw [str_size, bigB_len]
          have zc := chunkB_size hn
          have b4 := spec_l01Big_eq 4 (by omega) (xs[i].f1.size : Int) (by omega) (by omega) k (by omega)
          rw [show ((4 : Nat) : Int) = 4 from rfl] at b4
          simp only [spec_ChunksText.j1, Bool.false_eq_true, if_false]
          rw [b4, Option.bind_some, zb, if_pos (by omega), if_pos (by rw [ByteArray.size_append, zb]; omega), if_pos (by omega), spec_Crc_eq _ (by rw [ByteArray.size_append]; omega) k (by rw [ByteArray.size_append]; omega)]
          unfold chunkB bigT at zc
          generalize crc (xs[i].f0 ++ xs[i].f1) = v at zc ⊢
          rw [Option.bind_some, spec_l11Four_eq v k (by omega), Option.bind_some]
          have zf := four_size v
          rw [if_pos (by rw [ByteArray.size_append, ByteArray.size_append, zb, zf]; omega), if_pos (by rw [ByteArray.size_append, ByteArray.size_append, ByteArray.size_append, zb, zf]; omega), Option.bind_some,
            if_pos (by rw [bytesOf_len, bytesOf_len, zc]; omega), Option.bind_some, if_pos (by rw [List.length_append, bytesOf_len, bytesOf_len, zc]; omega)]
        · rw [decide_eq_true (by omega), no]
    · rw [if_neg hn, if_neg (fun q => hn q.1), no]
theorem spec_ChunksText_eq (xs : List S56) (hl : xs.length ≤ 9223372036854775807) (hz : ∀ x ∈ xs, x.f0.size ≤ 1048576 ∧ x.f1.size ≤ 1048576) (k : Nat) (hk : 1048900 ≤ k) : spec_ChunksText.f k xs = some (chunksText xs) := by
  unfold spec_ChunksText.f chunksText
  by_cases h : xs.length ≤ 40
  · rw [if_neg (by omega), if_pos h]
    have R := spec_ChunksText_l0 xs h hz xs.length k 0 signT (by omega) (by omega) (by omega) (by decide)
    unfold spec_l16Sign.f
    rw [Option.bind_some, if_pos (by decide)]
    exact R
  · rw [if_pos (by omega), if_neg h]

theorem or_byte (a b : Int) (ha : 0 ≤ a ∧ a ≤ 4294967296) (hb : 0 ≤ b ∧ b ≤ 255) : Go.bits .or .i64 (a * 256) b = 256 * a + b := by
  have := bits_join .i64 62 (by decide) (fun n h0 h1 => by rw [IntKind.wrap_i64]; omega) 8 (a * 256) b (by omega) (by simp) (by simp; omega) hb.1 (by simp; omega) (by simp; omega)
  rw [this]; omega
theorem impl_ReadBig_l0 (s : ByteArray) (hs : s.size ≤ 9223372036854775807) (o size : Nat) (h4 : size ≤ 4) (ho : o + size ≤ s.size) (r : Nat) : ∀ (k i : Nat), i + r = size → r < k → impl_ReadBig.l0 k s o (valB s o i) size i = some (valB s o size, true) := by
  induction r with
  | zero =>
    intro k i hi hk
    obtain ⟨k, rfl⟩ : ∃ m, k = m + 1 := ⟨k - 1, by omega⟩
    obtain rfl : i = size := by omega
    simp only [impl_ReadBig.l0]
    rw [if_neg (by omega)]
  | succ r ih =>
    intro k i hi hk
    obtain ⟨k, rfl⟩ : ∃ m, k = m + 1 := ⟨k - 1, by omega⟩
    have b := valB_bd s o i
    have p := pow256 (n := i) (by omega)
    have bb := bt_range s ((o + i : Nat) : Int)
    have st := ih k (i + 1) (by omega) (by omega)
    simp only [valB] at st
    simp only [impl_ReadBig.l0]
    rw [if_pos (by omega), w64 (x := (o : Int) + i) (by omega) (by omega), if_pos (by omega), if_pos (by omega), show (o : Int) + i = ((o + i : Nat) : Int) by omega, wbt, w64 (x := valB s o i * 256) (by omega) (by omega), or_byte _ _ (by omega) bb, w64 (x := (i : Int) + 1) (by omega) (by omega)]
    exact st
theorem impl_ReadBig_eq (s : ByteArray) (hs : s.size ≤ 4611686018427387904) (at_ size : Int) (k : Nat) (hk : 6 ≤ k) : impl_ReadBig.f k s at_ size = some (readBig s at_ size) := by
  obtain ⟨k, rfl⟩ : ∃ m, k = m + 1 := ⟨k - 1, by omega⟩
  have no : impl_ReadBig.j0 (k + 1) s at_ size true = some (0, false) := by simp [impl_ReadBig.j0]
  unfold impl_ReadBig.f readBig
  rw [impl_within_eq, no]
  simp only [Option.bind_some]
  by_cases h : 1 ≤ size ∧ size ≤ 4
  · rw [if_pos (by simp; omega), w64 (by omega) (by omega)]
    by_cases h0 : at_ < 0
    · rw [if_pos h0, if_neg (by omega)]
    · rw [if_neg h0]
      by_cases h1 : at_ > s.size - size
      · rw [decide_eq_true h1, no, if_neg (by omega)]
      · rw [decide_eq_false h1, if_pos (by omega)]
        simp only [impl_ReadBig.j0]
        rw [if_neg (by decide)]
        obtain ⟨o, rfl⟩ := Int.eq_ofNat_of_zero_le (show 0 ≤ at_ by omega)
        obtain ⟨z, rfl⟩ := Int.eq_ofNat_of_zero_le (show 0 ≤ size by omega)
        exact impl_ReadBig_l0 s (by omega) o z (by omega) (by omega) z k 0 (by omega) (by omega)
  · rw [if_neg (by simp; omega), if_neg (by omega)]

theorem impl_readChunk_eq (s : ByteArray) (hs : s.size ≤ 12000) (a : Nat) (ha : a ≤ s.size) (k : Nat) (hk : 12100 ≤ k) :
    impl_readChunk.f k (s.extract a s.size) = some (if chunkNum s a = 0 then ((chunkOf s a).f0, (chunkOf s a).f1, s.extract (a + 12 + chunkN s a) s.size, 0) else (⟨#[]⟩, ⟨#[]⟩, ⟨#[]⟩, chunkNum s a)) := by
  obtain ⟨k, rfl⟩ : ∃ m, k = m + 1 := ⟨k - 1, by omega⟩
  have sz : (s.extract a s.size).size = s.size - a := by rw [ByteArray.size_extract]; omega
  obtain ⟨hv, hn⟩ := chunkN_val s a
  have no : ∀ z, impl_readChunk.j0 (k + 1) (s.extract a s.size) z true = some (⟨#[]⟩, ⟨#[]⟩, ⟨#[]⟩, 2) := fun z => by simp [impl_readChunk.j0]
  unfold impl_readChunk.f
  rw [impl_ReadBig_eq _ (by omega) 0 4 _ (by omega)]
  by_cases h1 : a + 4 ≤ s.size
  · rw [show readBig (s.extract a s.size) 0 4 = _ from readBig_in _ 0 (by omega)]
    simp only [Option.bind_some, if_true]
    have e : valB (s.extract a s.size) 0 4 = valB s a 4 := valB_extract s a s.size 0 4 (by omega)
    rw [e, hv, w64 (by omega) (by omega), sz]
    by_cases h2 : s.size < a + 12 + chunkN s a
    · have q : chunkNum s a = 2 := by unfold chunkNum; rw [if_pos h2]
      rw [decide_eq_true (by omega), no, q, if_neg (by decide)]
    · rw [decide_eq_false (by omega)]
      generalize hc : chunkN s a = n at *
      have x1 : (s.extract a s.size).extract 4 8 = s.extract (a + 4) (a + 8) := by rw [ByteArray.extract_extract]; congr 1; omega
      have x2 : (s.extract a s.size).extract 4 (8 + n) = s.extract (a + 4) (a + 8 + n) := by rw [ByteArray.extract_extract]; congr 1; omega
      have x3 : (s.extract a s.size).extract (8 + n) (12 + n) = s.extract (a + 8 + n) (a + 12 + n) := by rw [ByteArray.extract_extract]; congr 1 <;> omega
      have x4 : (s.extract a s.size).extract 8 (8 + n) = s.extract (a + 8) (a + 8 + n) := by rw [ByteArray.extract_extract]; congr 1; omega
      have x5 : (s.extract a s.size).extract (12 + n) (s.size - a) = s.extract (a + 12 + n) s.size := by rw [ByteArray.extract_extract]; congr 1 <;> omega
      have z1 : (s.extract (a + 4) (a + 8)).size = 4 := by rw [ByteArray.size_extract]; omega
      have z2 : (s.extract (a + 4) (a + 8 + n)).size = 4 + n := by rw [ByteArray.size_extract]; omega
      simp only [impl_readChunk.j0]
      rw [if_neg (by decide), sz]
      rw [show wrap64 (8 + (n : Int)) = ((8 + n : Nat) : Int) by rw [w64 (by omega) (by omega)]; omega, show wrap64 (12 + (n : Int)) = ((12 + n : Nat) : Int) by rw [w64 (by omega) (by omega)]; omega]
      simp only [Int.toNat_natCast]
      rw [if_pos (by omega), if_pos (by omega), if_pos (by omega), if_pos (by omega), x1, x2, x3, x4, x5, impl_NameOk_eq _ (by omega) k (by omega)]
      simp only [Option.bind_some]
      by_cases h3 : nameOk (s.extract (a + 4) (a + 8)) = true
      · rw [if_pos h3, if_pos (by omega), if_pos (by omega), if_pos (by omega), if_pos (by omega), impl_Crc_eq _ (by omega) k (by omega)]
        generalize hF : crc (s.extract (a + 4) (a + 8 + n)) = F
        rw [Option.bind_some, impl_bigSum_eq _ k (by omega), Option.bind_some]
        by_cases h4 : (s.extract (a + 8 + n) (a + 12 + n)).toList = (four F).toList
        · have q : chunkNum s a = 0 := by unfold chunkNum; rw [hc, if_neg h2, if_neg (by simp [h3]), hF, if_pos h4]
          rw [if_pos h4, if_pos (by omega), if_pos q]
          unfold chunkOf; rw [hc]
        · have q : chunkNum s a = 4 := by unfold chunkNum; rw [hc, if_neg h2, if_neg (by simp [h3]), hF, if_neg h4]
          rw [if_neg h4, q, if_neg (by decide)]
      · have q : chunkNum s a = 3 := by unfold chunkNum; rw [hc, if_neg h2, if_pos (by simpa using h3)]
        rw [if_neg h3, q, if_neg (by decide)]
  · have q : chunkNum s a = 2 := by unfold chunkNum; rw [if_pos (by omega)]
    rw [show readBig (s.extract a s.size) 0 4 = _ from readBig_out _ 0 (by omega)]
    simp only [Option.bind_some, Bool.false_eq_true, if_false]
    rw [no, q, if_neg (by decide)]
theorem impl_ReadChunks_l0 (s : ByteArray) (hs : s.size ≤ 12000) (d : Nat) : ∀ (k a : Nat) (acc : List S56), a ≤ s.size → acc.length + d = 40 → d + 12200 ≤ k → impl_ReadChunks.l0 k (s.extract a s.size) acc = some (readChunks s (d + 1) a acc) := by
  induction d with
  | zero =>
    intro k a acc ha hd hk
    obtain ⟨k, rfl⟩ : ∃ m, k = m + 1 := ⟨k - 1, by omega⟩
    have sz : (s.extract a s.size).size = s.size - a := by rw [ByteArray.size_extract]; omega
    simp only [impl_ReadChunks.l0, readChunks]
    by_cases h : a < s.size
    · rw [if_neg (by rw [toList_nil]; omega), if_pos (by omega), if_pos h, if_pos (by omega)]
    · rw [if_pos (by rw [toList_nil]; omega), if_neg h]
  | succ d ih =>
    intro k a acc ha hd hk
    obtain ⟨k, rfl⟩ : ∃ m, k = m + 1 := ⟨k - 1, by omega⟩
    have sz : (s.extract a s.size).size = s.size - a := by rw [ByteArray.size_extract]; omega
    simp only [impl_ReadChunks.l0]
    rw [readChunks]
    by_cases h : a < s.size
    · rw [if_neg (by rw [toList_nil]; omega), if_neg (by omega), if_pos h, if_neg (by omega), impl_readChunk_eq s hs a ha k (by omega)]
      simp only [Option.bind_some]
      by_cases q : chunkNum s a = 0
      · have fit : ¬ s.size < a + 12 + chunkN s a := by
          intro hf; unfold chunkNum at q; rw [if_pos hf] at q; cases q
        rw [if_pos q, if_pos q]
        simp only [if_true]
        rw [if_pos (by omega)]
        exact ih k _ _ (by omega) (by simp; omega) (by omega)
      · rw [if_neg q, if_neg q]
        simp only []
        rw [if_neg q]
    · rw [if_pos (by rw [toList_nil]; omega), if_neg h]
theorem strings_CutPrefix_sign (s : ByteArray) (hs : s.size ≤ 9223372036854775807) : strings_CutPrefix.f s (⟨#[137, 80, 78, 71, 13, 10, 26, 10]⟩ : ByteArray) = some (if isSign s = true then (s.extract 8 s.size, true) else (s, false)) := by
  have z : (⟨#[137, 80, 78, 71, 13, 10, 26, 10]⟩ : ByteArray).size = 8 := rfl
  unfold strings_CutPrefix.f stringslite_CutPrefix.f stringslite_HasPrefix.f isSign
  rw [z]
  simp only [show (((8 : Nat) : Int) : Int).toNat = 8 from rfl]
  by_cases h : 8 ≤ s.size
  · rw [if_pos (by omega), if_pos (by omega), if_pos (by omega)]
    simp only [Option.bind_some]
    rw [decide_eq_true h, Bool.true_and]
    by_cases e : ((s.extract 0 8).toList == (⟨#[137, 80, 78, 71, 13, 10, 26, 10]⟩ : ByteArray).toList) = true
    · rw [if_pos e, if_pos e, if_pos (by omega), if_pos (by omega)]; rfl
    · rw [if_neg e, if_neg e]; rfl
  · rw [if_neg (by omega), decide_eq_false h]
    simp
theorem impl_ReadChunks_eq (s : ByteArray) (hs : s.size ≤ 9223372036854775807) (k : Nat) (hk : 12300 ≤ k) : impl_ReadChunks.f k s = some (chunksOf s) := by
  obtain ⟨k, rfl⟩ : ∃ m, k = m + 1 := ⟨k - 1, by omega⟩
  unfold impl_ReadChunks.f chunksOf
  rw [strings_CutPrefix_sign s hs]
  simp only [Option.bind_some]
  by_cases h : isSign s = true
  · have h8 : 8 ≤ s.size := by unfold isSign at h; simp at h; exact h.1
    rw [if_pos h]
    simp only [if_true]
    by_cases h2 : s.size ≤ 12000
    · rw [decide_eq_false (by omega), if_pos ⟨h, h2⟩]
      simp only [impl_ReadChunks.j0]
      rw [if_neg (by decide)]
      exact impl_ReadChunks_l0 s h2 40 k 8 [] (by omega) rfl (by omega)
    · rw [decide_eq_true (by omega), if_neg (fun q => h2 q.2)]
      simp [impl_ReadChunks.j0]
  · rw [if_neg h, if_neg (c := isSign s = true ∧ s.size ≤ 12000) (fun q => h q.1)]
    simp [impl_ReadChunks.j0]

theorem rd_at (xs : List Int) (i : Nat) (h : i < xs.length) : rd xs i = xs[i] := by simp [rd, List.getD, h]
def inB (m x : Int) : Bool := decide (0 ≤ x) && decide (x ≤ m)
theorem drop_all (p : Int → Bool) (xs : List Int) (i : Nat) (h : i < xs.length) : (xs.drop i).all p = (p xs[i] && (xs.drop (i + 1)).all p) := by
  rw [List.drop_eq_getElem_cons h]; rfl
theorem drop_all_end (p : Int → Bool) (xs : List Int) (i : Nat) (h : xs.length ≤ i) : (xs.drop i).all p = true := by
  rw [List.drop_eq_nil_of_le h]; rfl

theorem and_bd (x : Int) (m : Nat) (hm : m < 9223372036854775808) : 0 ≤ Go.bits .and .i64 x m ∧ Go.bits .and .i64 x m ≤ m := by
  unfold Go.bits
  simp only [IntKind.wrap_i64]
  have h : (BitVec.ofInt IntKind.i64.bits x &&& BitVec.ofInt IntKind.i64.bits (m : Int)).toNat ≤ m := by
    rw [BitVec.toNat_and]
    refine Nat.le_trans Nat.and_le_right ?_
    rw [BitVec.ofInt_natCast, BitVec.toNat_ofNat]
    exact Nat.mod_le _ _
  omega
theorem and_255 (x : Int) : 0 ≤ Go.bits .and .i64 x 255 ∧ Go.bits .and .i64 x 255 ≤ 255 := and_bd x 255 (by omega)
theorem spec_l01New_l0 (l : List Int) (hl : l.length ≤ 1048576) (d : Nat) : ∀ (k i : Nat) (h : Int), i ≤ l.length → l.length - i = d → d < k → ∃ h', spec_l01New.l0 k l h i = some (l, 0, h') := by
  induction d with
  | zero =>
    intro k i h hi hd hk
    obtain ⟨k, rfl⟩ : ∃ m, k = m + 1 := ⟨k - 1, by omega⟩
    exact ⟨h, by simp only [spec_l01New.l0]; rw [if_neg (by omega)]⟩
  | succ d ih =>
    intro k i h hi hd hk
    obtain ⟨k, rfl⟩ : ∃ m, k = m + 1 := ⟨k - 1, by omega⟩
    simp only [spec_l01New.l0]
    rw [if_pos (by omega)]
    by_cases h4 : (i : Int) < 4000
    · rw [if_pos h4, if_pos (by omega), w64 (x := (i : Int) + 1) (by omega) (by omega)]
      exact ih k (i + 1) _ (by omega) (by omega) (by omega)
    · rw [if_neg h4]; exact ⟨h, rfl⟩
theorem spec_l01New_eq (l : List Int) (hl : l.length ≤ 1048576) (k : Nat) (hk : l.length < k) : ∃ h, spec_l01New.f k l = some (l, 0, h) := by
  unfold spec_l01New.f
  exact spec_l01New_l0 l hl l.length k 0 _ (by omega) (by omega) hk
/-- A cursor's place. -/
def Cur (l : List Int) (i : Int) : Prop := l.length ≤ 1048576 ∧ 0 ≤ i ∧ i ≤ l.length
theorem cur_new {l : List Int} (hl : l.length ≤ 1048576) : Cur l 0 := ⟨hl, by omega, by omega⟩
theorem spec_l01Byte_eq {l : List Int} {i : Int} (hc : Cur l i) (h : Int) : ∃ x i' h', spec_l01Byte.f l i h = some (x, i', h') ∧ 0 ≤ x ∧ x ≤ 255 ∧ Cur l i' := by
  obtain ⟨hl, h0, h1⟩ := hc
  unfold spec_l01Byte.f
  by_cases hi : i < l.length
  · rw [if_pos hi, if_pos h0, w64 (x := i + 1) (by omega) (by omega)]
    exact ⟨_, _, _, rfl, (and_255 _).1, (and_255 _).2, hl, by omega, by omega⟩
  · rw [if_neg hi]
    exact ⟨_, _, _, rfl, (and_255 _).1, (and_255 _).2, hl, h0, h1⟩
theorem spec_l01Below_eq {l : List Int} {i : Int} (hc : Cur l i) (h : Int) (n : Int) : ∃ x i' h', spec_l01Below.f l i h n = some (x, i', h') ∧ 0 ≤ x ∧ (0 < n → x < n) ∧ (n ≤ 0 → x = 0) ∧ Cur l i' := by
  unfold spec_l01Below.f
  by_cases h0 : n ≤ 0
  · rw [if_pos h0]
    exact ⟨_, _, _, rfl, by omega, by omega, fun _ => rfl, hc⟩
  · rw [if_neg h0]
    have tm : ∀ y : Int, 0 ≤ y → 0 ≤ Int.tmod y n ∧ Int.tmod y n < n := fun y hy => ⟨Int.tmod_nonneg _ hy, Int.tmod_lt_of_pos _ (by omega)⟩
    by_cases h1 : n ≤ 256
    · rw [if_pos h1]
      obtain ⟨x, i1, h1', e1, a1, b1, c1⟩ := spec_l01Byte_eq hc h
      rw [e1]
      simp only [Option.bind_some]
      rw [if_neg (by omega)]
      exact ⟨_, _, _, rfl, (tm x a1).1, fun _ => (tm x a1).2, by omega, c1⟩
    · rw [if_neg h1]
      obtain ⟨x, i1, h1', e1, a1, b1, c1⟩ := spec_l01Byte_eq hc h
      rw [e1]; simp only [Option.bind_some]
      obtain ⟨y, i2, h2', e2, a2, b2, c2⟩ := spec_l01Byte_eq c1 h1'
      rw [e2]; simp only [Option.bind_some]
      obtain ⟨z, i3, h3', e3, a3, b3, c3⟩ := spec_l01Byte_eq c2 h2'
      rw [e3]; simp only [Option.bind_some]
      obtain ⟨u, i4, h4', e4, a4, b4, c4⟩ := spec_l01Byte_eq c3 h3'
      rw [e4]; simp only [Option.bind_some]
      rw [if_neg (by omega), w64 (x := x * 16777216) (by omega) (by omega), w64 (x := y * 65536) (by omega) (by omega), w64 (x := x * 16777216 + y * 65536) (by omega) (by omega), w64 (x := z * 256) (by omega) (by omega), w64 (x := x * 16777216 + y * 65536 + z * 256) (by omega) (by omega), w64 (x := x * 16777216 + y * 65536 + z * 256 + u) (by omega) (by omega)]
      exact ⟨_, _, _, rfl, (tm _ (by omega)).1, fun _ => (tm _ (by omega)).2, by omega, c4⟩

theorem spec_l01Text_l0 (l : List Int) (n : Nat) (hn : n ≤ 5000) (r : Nat) : ∀ (k j : Nat) (s : List Int) (i h : Int), Cur l i → s.length = j → j + r = n → r < k → ∃ t i' h', spec_l01Text.l0 k n s j l i h = some (t, i', h') ∧ t.size = n ∧ Cur l i' := by
  induction r with
  | zero =>
    intro k j s i h hc hs hj hk
    obtain ⟨k, rfl⟩ : ∃ m, k = m + 1 := ⟨k - 1, by omega⟩
    simp only [spec_l01Text.l0]
    rw [if_neg (by omega)]
    exact ⟨_, _, _, rfl, by rw [str_size]; omega, hc⟩
  | succ r ih =>
    intro k j s i h hc hs hj hk
    obtain ⟨k, rfl⟩ : ∃ m, k = m + 1 := ⟨k - 1, by omega⟩
    simp only [spec_l01Text.l0]
    obtain ⟨x, i1, h1, e1, a1, b1, c1⟩ := spec_l01Byte_eq hc h
    rw [if_pos (by omega), e1]
    simp only [Option.bind_some]
    rw [if_pos (by omega), w64 (x := (j : Int) + 1) (by omega) (by omega)]
    have st := ih k (j + 1) (s ++ [x % 256]) i1 h1 c1 (by rw [List.length_append]; simp [hs]) (by omega) (by omega)
    push_cast at st
    exact st
theorem spec_l01Text_eq {l : List Int} {i : Int} (hc : Cur l i) (h : Int) (n : Nat) (hn : n ≤ 5000) (k : Nat) (hk : n + 1 < k) : ∃ t i' h', spec_l01Text.f k l i h n = some (t, i', h') ∧ t.size = n ∧ Cur l i' := by
  obtain ⟨k, rfl⟩ : ∃ m, k = m + 1 := ⟨k - 1, by omega⟩
  unfold spec_l01Text.f
  rw [if_neg (by omega)]
  simp only [spec_l01Text.j0]
  have := spec_l01Text_l0 l n hn n k 0 [] i h hc rfl (by omega) (by omega)
  simpa using this

theorem chOnce_eq {l : List Int} {i : Int} (hc : Cur l i) (h n : Int) : ∃ b i' h', spec_l01Once.f l i h n = some (b, i', h') ∧ Cur l i' := by
  unfold spec_l01Once.f
  obtain ⟨x, i1, h1, e1, _, _, _, c1⟩ := spec_l01Below_eq hc h n
  rw [e1]; exact ⟨_, _, _, rfl, c1⟩
theorem spec_l01Pick_eq {l : List Int} {i : Int} (hc : Cur l i) (h : Int) (xs : List ByteArray) (hx : 0 < xs.length) : ∃ s i' h', spec_l01Pick.f l i h xs = some (s, i', h') ∧ s ∈ xs ∧ Cur l i' := by
  unfold spec_l01Pick.f
  obtain ⟨x, i1, h1, e1, a1, b1, _, c1⟩ := spec_l01Below_eq hc h xs.length
  have := b1 (by omega)
  rw [e1]; simp only [Option.bind_some]
  rw [if_pos a1, if_pos this]
  obtain ⟨m, rfl⟩ := Int.eq_ofNat_of_zero_le a1
  refine ⟨_, _, _, rfl, ?_, c1⟩
  simp [rdOf, List.getD, show m < xs.length by omega]
def shortS (s : ByteArray) : Prop := s.size ≤ 12
theorem spec_l16Names_ex : ∃ xs, spec_l16Names.f = some xs ∧ 0 < xs.length ∧ ∀ x ∈ xs, x.size ≤ 12 := ⟨_, rfl, by decide, by
  intro x hx
  simp only [List.mem_cons, List.not_mem_nil, or_false] at hx
  rcases hx with rfl | rfl | rfl | rfl | rfl | rfl | rfl | rfl | rfl | rfl | rfl <;> decide⟩
theorem spec_l16Name_eq {l : List Int} {i : Int} (hc : Cur l i) (h : Int) : ∃ s i' h', spec_l16Name.f l i h = some (s, i', h') ∧ s.size ≤ 12 ∧ Cur l i' := by
  unfold spec_l16Name.f
  obtain ⟨b, i1, h1, e1, c1⟩ := chOnce_eq hc h 12
  rw [e1]; simp only [Option.bind_some]
  split
  · obtain ⟨s, i2, h2, e2, hm, c2⟩ := spec_l01Pick_eq c1 h1 [(⟨#[]⟩ : ByteArray), (⟨#[73, 72, 68]⟩ : ByteArray), (⟨#[73, 72, 100, 82]⟩ : ByteArray), (⟨#[49, 72, 68, 82]⟩ : ByteArray), (⟨#[73, 72, 68, 82, 32]⟩ : ByteArray), (⟨#[91, 72, 68, 82]⟩ : ByteArray), (⟨#[73, 64, 68, 82]⟩ : ByteArray), (⟨#[122, 122, 90, 122]⟩ : ByteArray)] (by decide)
    rw [e2]
    refine ⟨_, _, _, rfl, ?_, c2⟩
    simp only [List.mem_cons, List.not_mem_nil, or_false] at hm
    rcases hm with rfl | rfl | rfl | rfl | rfl | rfl | rfl | rfl <;> (dsimp only; decide)
  · obtain ⟨xs, e, hx, hb⟩ := spec_l16Names_ex
    rw [e]; simp only [Option.bind_some]
    obtain ⟨s, i2, h2, e2, hm, c2⟩ := spec_l01Pick_eq c1 h1 xs hx
    rw [e2]; exact ⟨_, _, _, rfl, hb _ hm, c2⟩
theorem spec_l01Long_l0 (n : Nat) (v : Int) (hn : n ≤ 1000000) (d : Nat) : ∀ (k i : Nat) (xs : List Int), xs.length = n → i + d = n → d < k → ∃ s, spec_l01Long.l0 k n v xs i = some s ∧ s.size = n := by
  induction d with
  | zero =>
    intro k i xs hx hd hk
    obtain ⟨k, rfl⟩ : ∃ m, k = m + 1 := ⟨k - 1, by omega⟩
    simp only [spec_l01Long.l0]
    rw [if_neg (by omega)]
    exact ⟨_, rfl, by rw [str_size]; exact hx⟩
  | succ d ih =>
    intro k i xs hx hd hk
    obtain ⟨k, rfl⟩ : ∃ m, k = m + 1 := ⟨k - 1, by omega⟩
    simp only [spec_l01Long.l0]
    rw [if_pos (by omega), if_pos (by omega), if_pos (by omega), w64 (x := (i : Int) + 1) (by omega) (by omega)]
    have := ih k (i + 1) (xs.set (i : Int).toNat v) (by simpa using hx) (by omega) (by omega)
    push_cast at this
    exact this
theorem spec_l01Long_eq (n : Nat) (v : Int) (hn : n ≤ 1000000) (k : Nat) (hk : n < k) : ∃ s, spec_l01Long.f k n v = some s ∧ s.size = n := by
  unfold spec_l01Long.f
  rw [if_pos (by omega), if_pos (by omega)]
  exact spec_l01Long_l0 n v hn n k 0 _ (by simp) (by omega) hk
def drawnOk (xs : List S56) : Prop := xs.length ≤ 60 ∧ ∀ x ∈ xs, x.f0.size ≤ 12 ∧ x.f1.size ≤ 12000
theorem drawnOk_snoc {xs : List S56} {n : Nat} (hl : xs.length ≤ n) (hn : n < 60) (h : ∀ x ∈ xs, x.f0.size ≤ 12 ∧ x.f1.size ≤ 12000) {x : S56} (hx : x.f0.size ≤ 12 ∧ x.f1.size ≤ 12000) : drawnOk (xs ++ [x]) :=
  ⟨by simp; omega, by intro y hy; rcases List.mem_append.1 hy with q | q; exact h y q; rw [List.mem_singleton.1 q]; exact hx⟩
theorem spec_l16Chunks_l1 {l : List Int} (d : Nat) : ∀ (k : Nat) (xs : List S56) (i h : Int), Cur l i → xs.length + d = 50 → d < k → (∀ x ∈ xs, x.f0.size ≤ 12 ∧ x.f1.size ≤ 12000) → ∃ ys i' h', spec_l16Chunks.l1 k xs l i h = some (ys, i', h') ∧ drawnOk ys := by
  induction d with
  | zero =>
    intro k xs i h hc hd hk ha
    obtain ⟨k, rfl⟩ : ∃ m, k = m + 1 := ⟨k - 1, by omega⟩
    simp only [spec_l16Chunks.l1]
    obtain ⟨a, i1, h1, e1, p1, q1, _, c1⟩ := spec_l01Below_eq hc h 2
    have := q1 (by omega)
    rw [e1]; simp only [Option.bind_some]
    rw [w64 (x := 40 + a) (by omega) (by omega), if_neg (by omega)]
    exact ⟨_, _, _, rfl, by omega, ha⟩
  | succ d ih =>
    intro k xs i h hc hd hk ha
    obtain ⟨k, rfl⟩ : ∃ m, k = m + 1 := ⟨k - 1, by omega⟩
    simp only [spec_l16Chunks.l1]
    obtain ⟨a, i1, h1, e1, p1, q1, _, c1⟩ := spec_l01Below_eq hc h 2
    rw [e1]; simp only [Option.bind_some]
    by_cases b : (xs.length : Int) < wrap64 (40 + a)
    · rw [if_pos b, if_pos (by omega)]
      exact ih k _ i1 h1 c1 (by simp; omega) (by omega) (drawnOk_snoc (n := 50) (by omega) (by omega) ha ⟨by decide, by decide⟩).2
    · rw [if_neg b]; exact ⟨_, _, _, rfl, by omega, ha⟩
theorem spec_l16Chunks_l0 {l : List Int} (d : Nat) : ∀ (k : Nat) (xs : List S56) (n : Nat) (i h : Int), Cur l i → xs.length = n → n + d = 5 → d + 12100 < k → (∀ x ∈ xs, x.f0.size ≤ 12 ∧ x.f1.size ≤ 12000) → ∃ ys i' h', spec_l16Chunks.l0 k xs n l i h = some (ys, i', h') ∧ drawnOk ys := by
  have fin : ∀ (k : Nat) (xs : List S56) (i h : Int), Cur l i → xs.length ≤ 5 → 12000 < k → (∀ x ∈ xs, x.f0.size ≤ 12 ∧ x.f1.size ≤ 12000) → ∃ ys i' h', ((spec_l01Below.f l i h 30).bind fun bt204 => (if bt204.1 = 0 then ((spec_l16Name.f l bt204.2.1 bt204.2.2).bind fun bt207 => (if xs.length < 4398046511104 then (some ((xs ++ [(⟨bt207.1, (⟨#[]⟩ : ByteArray)⟩ : S56)]), bt207.2.1, bt207.2.2)) else (none))) else (if bt204.1 = 1 then (spec_l16Chunks.l1 k xs l bt204.2.1 bt204.2.2) else (if bt204.1 = 2 then ((spec_l01Below.f l bt204.2.1 bt204.2.2 2).bind fun bt219 => ((spec_l01Long.f k (wrap64 (11980 + bt219.1)) 1).bind fun t222 => (some ((([(⟨(⟨#[73, 68, 65, 84]⟩ : ByteArray), t222⟩ : S56)] : List (S56))), bt219.2.1, bt219.2.2)))) else (some (xs, bt204.2.1, bt204.2.2)))))) = some (ys, i', h') ∧ drawnOk ys := by
    intro k xs i h hc hx hk ha
    obtain ⟨a, i1, h1, e1, p1, q1, _, c1⟩ := spec_l01Below_eq hc h 30
    rw [e1]; simp only [Option.bind_some]
    split
    · obtain ⟨s, i2, h2, e2, hs, c2⟩ := spec_l16Name_eq c1 h1
      rw [e2]; simp only [Option.bind_some]
      rw [if_pos (by omega)]
      exact ⟨_, _, _, rfl, drawnOk_snoc hx (by omega) ha ⟨hs, show (⟨#[]⟩ : ByteArray).size ≤ 12000 by decide⟩⟩
    · split
      · exact spec_l16Chunks_l1 (50 - xs.length) k xs i1 h1 c1 (by omega) (by omega) ha
      · split
        · obtain ⟨u, i2, h2, e2, p2, q2, _, c2⟩ := spec_l01Below_eq c1 h1 2
          have := q2 (by omega)
          rw [e2]; simp only [Option.bind_some]
          rw [w64 (x := 11980 + u) (by omega) (by omega)]
          obtain ⟨m, hm⟩ := Int.eq_ofNat_of_zero_le (show 0 ≤ 11980 + u by omega)
          rw [hm]
          obtain ⟨s, e3, hs⟩ := spec_l01Long_eq m 1 (by omega) k (by omega)
          rw [e3]
          refine ⟨_, _, _, rfl, by simp, ?_⟩
          intro x hx'
          rw [List.mem_singleton.1 hx']
          exact ⟨show (⟨#[73, 68, 65, 84]⟩ : ByteArray).size ≤ 12 by decide, by show s.size ≤ 12000; omega⟩
        · exact ⟨_, _, _, rfl, by omega, ha⟩
  induction d with
  | zero =>
    intro k xs n i h hc hx hd hk ha
    obtain ⟨k, rfl⟩ : ∃ m, k = m + 1 := ⟨k - 1, by omega⟩
    simp only [spec_l16Chunks.l0]
    obtain ⟨a, i1, h1, e1, p1, q1, _, c1⟩ := spec_l01Below_eq hc h 5
    have := q1 (by omega)
    rw [e1]; simp only [Option.bind_some]
    rw [if_neg (by omega)]
    exact fin k xs i1 h1 c1 (by omega) (by omega) ha
  | succ d ih =>
    intro k xs n i h hc hx hd hk ha
    obtain ⟨k, rfl⟩ : ∃ m, k = m + 1 := ⟨k - 1, by omega⟩
    simp only [spec_l16Chunks.l0]
    obtain ⟨a, i1, h1, e1, p1, q1, _, c1⟩ := spec_l01Below_eq hc h 5
    have := q1 (by omega)
    rw [e1]; simp only [Option.bind_some]
    by_cases b : (n : Int) < a
    · rw [if_pos b]
      obtain ⟨ns, e, hn, hb⟩ := spec_l16Names_ex
      rw [e]; simp only [Option.bind_some]
      obtain ⟨s, i2, h2, e2, hm, c2⟩ := spec_l01Pick_eq c1 h1 ns hn
      rw [e2]; simp only [Option.bind_some]
      obtain ⟨u, i3, h3, e3, p3, q3, _, c3⟩ := spec_l01Below_eq c2 h2 9
      have := q3 (by omega)
      rw [e3]; simp only [Option.bind_some]
      obtain ⟨m, rfl⟩ := Int.eq_ofNat_of_zero_le p3
      obtain ⟨t, i4, h4, e4, z4, c4⟩ := spec_l01Text_eq c3 h3 m (by omega) k (by omega)
      rw [e4]; simp only [Option.bind_some]
      rw [if_pos (by omega), w64 (x := (n : Int) + 1) (by omega) (by omega)]
      have := ih k (xs ++ [⟨s, t⟩]) (n + 1) i4 h4 c4 (by simp [hx]) (by omega) (by omega) (drawnOk_snoc (n := 50) (by omega) (by omega) ha ⟨hb _ hm, by show t.size ≤ 12000; omega⟩).2
      push_cast at this
      exact this
    · rw [if_neg b]
      exact fin k xs i1 h1 c1 (by omega) (by omega) ha
theorem spec_DrawChunksText_eq (l : List Int) (hl : l.length ≤ 1048576) (k : Nat) (hk : l.length + 13000 < k) : ∃ xs, spec_DrawChunksText.f k l = some xs ∧ drawnOk xs := by
  unfold spec_DrawChunksText.f
  obtain ⟨h, e⟩ := spec_l01New_eq l hl k (by omega)
  rw [e]; simp only [Option.bind_some]
  unfold spec_l16Chunks.f
  obtain ⟨ys, i1, h1, e1, b⟩ := spec_l16Chunks_l0 (l := l) 5 k [] 0 0 h (cur_new hl) rfl (by omega) (by omega) (by simp)
  have e1' : spec_l16Chunks.l0 k [] 0 l 0 h = some (ys, i1, h1) := e1
  rw [e1']; exact ⟨_, rfl, b⟩

theorem spec_DrawPlaces_l0 (l : List Int) (r : Nat) : ∀ (k j : Nat) (s : List Int) (i h : Int), Cur l i → s.length = j → (∀ x ∈ s, 0 ≤ x ∧ x < 10000) → j + r = 12 → r < k → ∃ t, spec_DrawPlaces.l0 k s j l i h = some t ∧ t.length = 12 ∧ (∀ x ∈ t, 0 ≤ x ∧ x < 10000) := by
  induction r with
  | zero =>
    intro k j s i h hc hs hb hj hk
    obtain ⟨k, rfl⟩ : ∃ m, k = m + 1 := ⟨k - 1, by omega⟩
    simp only [spec_DrawPlaces.l0]
    rw [if_neg (by omega)]
    exact ⟨_, rfl, by omega, hb⟩
  | succ r ih =>
    intro k j s i h hc hs hb hj hk
    obtain ⟨k, rfl⟩ : ∃ m, k = m + 1 := ⟨k - 1, by omega⟩
    simp only [spec_DrawPlaces.l0]
    obtain ⟨x, i1, h1, e1, a1, b1, _, c1⟩ := spec_l01Below_eq hc h 10000
    rw [if_pos (by omega), e1]
    simp only [Option.bind_some]
    rw [if_pos (by omega), w64 (x := (j : Int) + 1) (by omega) (by omega)]
    have st := ih k (j + 1) (s ++ [x]) i1 h1 c1 (by rw [List.length_append]; simp [hs]) (by
      intro y hy
      rcases List.mem_append.mp hy with hy | hy
      · exact hb y hy
      · rw [List.mem_singleton.mp hy]; exact ⟨a1, b1 (by omega)⟩) (by omega) (by omega)
    push_cast at st
    exact st
theorem spec_DrawPlaces_eq (l : List Int) (hl : l.length ≤ 1048576) (k : Nat) (hk : l.length + 100 < k) : ∃ t, spec_DrawPlaces.f k l = some t ∧ t.length = 12 ∧ (∀ x ∈ t, 0 ≤ x ∧ x < 10000) := by
  unfold spec_DrawPlaces.f
  obtain ⟨h, e⟩ := spec_l01New_eq l hl k (by omega)
  rw [e]; simp only [Option.bind_some]
  obtain ⟨x, i1, h1, e1, _, _, c1⟩ := spec_l01Byte_eq (cur_new hl) h
  rw [e1]; simp only [Option.bind_some]
  exact spec_DrawPlaces_l0 l 12 k 0 [] i1 h1 c1 rfl (by simp) (by omega) (by omega)

theorem ext_left (b c : ByteArray) (j : Nat) (hj : j = b.size) : (b ++ c).extract 0 j = b := by
  apply bytes_ext
  have lb := bytesOf_len b
  rw [bytesOf_extract, bytesOf_append, List.drop_zero, hj, Nat.sub_zero, ← lb, List.take_left]
theorem toList_inj {s t : ByteArray} (h : s.toList = t.toList) : s = t := by
  rw [ByteArray.toList_eq, ByteArray.toList_eq] at h
  apply ByteArray.ext
  exact Array.ext' h
theorem four_inj {a b : W32} (h : four a = four b) : a = b := by
  have ha := valB_big a.toNat a.isLt
  have hb := valB_big b.toNat b.isLt
  have e1 : four a = bigT a.toNat := rfl
  have e2 : four b = bigT b.toNat := rfl
  rw [← e1, h, e2, hb] at ha
  exact BitVec.eq_of_toNat_eq (by omega)
theorem one_parts (x : S56) (hn : nameOk x.f0 = true) :
    (signT ++ chunkB x).size = 20 + x.f1.size ∧ (signT ++ chunkB x).extract 0 8 = signT ∧ (signT ++ chunkB x).extract 8 12 = bigT x.f1.size ∧ (signT ++ chunkB x).extract 12 16 = x.f0 ∧
    (signT ++ chunkB x).extract 12 (16 + x.f1.size) = x.f0 ++ x.f1 ∧ (signT ++ chunkB x).extract (16 + x.f1.size) (20 + x.f1.size) = four (crc (x.f0 ++ x.f1)) := by
  have zs : signT.size = 8 := by decide
  have zn := nameOk_size hn
  have zb := bigT_size x.f1.size
  unfold chunkB
  generalize crc (x.f0 ++ x.f1) = v
  have zf := four_size v
  refine ⟨?_, ?_, ?_, ?_, ?_, ?_⟩
  · simp only [ByteArray.size_append, zs, zn, zb, zf]; omega
  · exact ext_left _ _ 8 zs.symm
  · have := ext_mid signT (bigT x.f1.size) (x.f0 ++ x.f1 ++ four v) 8 12 (by omega) (by omega)
    simpa only [ByteArray.append_assoc] using this
  · have := ext_mid (signT ++ bigT x.f1.size) x.f0 (x.f1 ++ four v) 12 16 (by rw [ByteArray.size_append]; omega) (by rw [ByteArray.size_append]; omega)
    simpa only [ByteArray.append_assoc] using this
  · have := ext_mid (signT ++ bigT x.f1.size) (x.f0 ++ x.f1) (four v) 12 (16 + x.f1.size) (by rw [ByteArray.size_append]; omega) (by rw [ByteArray.size_append, ByteArray.size_append]; omega)
    simpa only [ByteArray.append_assoc] using this
  · have := ext_mid (signT ++ bigT x.f1.size ++ x.f0 ++ x.f1) (four v) ⟨#[]⟩ (16 + x.f1.size) (20 + x.f1.size) (by simp only [ByteArray.size_append]; omega) (by simp only [ByteArray.size_append]; omega)
    have e : ∀ s : ByteArray, s ++ (⟨#[]⟩ : ByteArray) = s := fun s => by apply bytes_ext; rw [bytesOf_append]; simp [bytesOf]
    rw [e] at this
    simpa only [ByteArray.append_assoc] using this
theorem one_turned (x : S56) (hn : nameOk x.f0 = true) (hz : x.f1.size < 9000) (j : Nat) (h1 : 12 ≤ j) (h2 : j < 16 + x.f1.size) (v : Int) (hv : 0 ≤ v ∧ v ≤ 255) (hne : v ≠ bt (signT ++ chunkB x) j) :
    (chunksOf (turnAt (signT ++ chunkB x) j v)).2 = 4 ∨ ((chunksOf (turnAt (signT ++ chunkB x) j v)).2 = 3 ∧ j < 16) := by
  obtain ⟨z, p0, p1, p2, p3, p4⟩ := one_parts x hn
  generalize hS : signT ++ chunkB x = S at *
  have zT := turnAt_size S j v
  have t0 := turnAt_out S j v hv 0 8 (by omega)
  have t1 := turnAt_out S j v hv 8 12 (by omega)
  have t2 := turnAt_in S j v hv 12 (16 + x.f1.size) h1
  have t4 := turnAt_out S j v hv (16 + x.f1.size) (20 + x.f1.size) (by omega)
  have sg : isSign (turnAt S j v) = true := by
    unfold isSign
    rw [t0, p0, decide_eq_true (by omega)]
    show (true && (signT.toList == signT.toList)) = true
    simp
  have vN : valB (turnAt S j v) 8 4 = x.f1.size := by
    rw [valB_by _ 8 (by omega), t1, p1, valB_big _ (by omega)]
  have cN : chunkN (turnAt S j v) 8 = x.f1.size := by unfold chunkN; rw [vN]; omega
  have num : chunkNum (turnAt S j v) 8 = 4 ∨ (chunkNum (turnAt S j v) 8 = 3 ∧ j < 16) := by
    unfold chunkNum
    rw [cN, if_neg (by omega)]
    by_cases q : nameOk ((turnAt S j v).extract (8 + 4) (8 + 8)) = false
    · rw [if_pos q]
      refine .inr ⟨rfl, ?_⟩
      rcases Nat.lt_or_ge j 16 with h | h
      · exact h
      · have t3 := turnAt_out S j v hv 12 16 (by omega)
        rw [show 8 + 4 = 12 from rfl, show 8 + 8 = 16 from rfl, t3, p2, hn] at q
        cases q
    · rw [if_neg q]
      left
      rw [if_neg]
      rw [show 8 + 8 + x.f1.size = 16 + x.f1.size by omega, show 8 + 12 + x.f1.size = 20 + x.f1.size by omega, show 8 + 4 = 12 from rfl, t4, p4, t2, p3]
      intro e
      have e2 := four_inj (toList_inj e)
      have b12 : bt (x.f0 ++ x.f1) ((j - 12 : Nat) : Int) = bt S j := by
        rw [← p3, bt_extract S 12 (16 + x.f1.size) (j - 12) (by omega)]
        congr 1; omega
      exact crc_set (x.f0 ++ x.f1) (j - 12) (by rw [ByteArray.size_append, nameOk_size hn]; omega) v hv (by rw [b12]; exact hne) e2.symm
  have co : chunksOf (turnAt S j v) = ([], chunkNum (turnAt S j v) 8) := by
    unfold chunksOf
    rw [if_pos ⟨sg, by omega⟩, readChunks, if_pos (by omega), if_neg (by simp), if_neg (by omega)]
  rw [co]
  exact num

theorem laws_big_eq (l : List Int) : laws_big.f l = some (decide (1048576 < l.length)) := by
  unfold laws_big.f
  congr 1
  rw [Bool.eq_iff_iff]; simp; omega

theorem laws_turned_eq (s : ByteArray) (hs : 0 < s.size) (i d : Int) (hi : 0 ≤ i) (hd : 0 ≤ d) : ∃ (j : Nat) (v : Int), laws_turned.f s i d = some (strOfNums ((bytesOf s).set j v)) ∧ j < s.size ∧ (0 ≤ v ∧ v ≤ 255) ∧ v ≠ bt s j := by
  have hl := bytesOf_len s
  have tm := Int.tmod_lt_of_pos i (show (0 : Int) < s.size by omega)
  have tn : 0 ≤ Int.tmod i (s.size : Int) := Int.tmod_nonneg _ hi
  obtain ⟨j, hj⟩ := Int.eq_ofNat_of_zero_le tn
  have dm := Int.tmod_lt_of_pos d (show (0 : Int) < 255 by omega)
  have dn : 0 ≤ Int.tmod d 255 := Int.tmod_nonneg _ hd
  unfold laws_turned.f
  rw [if_pos (by omega), if_pos tn, hj, rd_bytesOf, w64 (x := 1 + Int.tmod d 255) (by omega) (by omega), show (1 + Int.tmod d 255) % 256 = 1 + Int.tmod d 255 by omega]
  have x := xor8 (bt s j) (1 + Int.tmod d 255) (bt_range s j) (by omega)
  exact ⟨j, _, rfl, by omega, ⟨x.1, x.2.1⟩, x.2.2⟩

def catC : List S56 → ByteArray
  | [] => ⟨#[]⟩
  | x :: xs => chunkB x ++ catC xs
theorem app_nil (s : ByteArray) : s ++ (⟨#[]⟩ : ByteArray) = s := by
  apply bytes_ext; rw [bytesOf_append]; simp [bytesOf]
theorem nil_app (s : ByteArray) : (⟨#[]⟩ : ByteArray) ++ s = s := by
  apply bytes_ext; rw [bytesOf_append]; simp [bytesOf]
theorem chunksT_cat (xs : List S56) : ∀ (acc S : ByteArray), acc.size ≤ 12000 → chunksT acc xs = (S, true) → S = acc ++ catC xs ∧ S.size ≤ 12000 ∧ ∀ x ∈ xs, nameOk x.f0 = true ∧ x.f1.size ≤ 12000 := by
  induction xs with
  | nil =>
    intro acc S ha h
    rw [chunksT] at h
    injection h with h _
    subst h
    exact ⟨(app_nil _).symm, ha, fun x hx => by cases hx⟩
  | cons x xs ih =>
    intro acc S ha h
    rw [chunksT] at h
    by_cases c : nameOk x.f0 = true ∧ acc.size + x.f1.size + 12 ≤ 12000
    · rw [if_pos c] at h
      obtain ⟨h1, h2, h3⟩ := ih (acc ++ chunkB x) S (by rw [ByteArray.size_append, chunkB_size c.1]; omega) h
      refine ⟨by rw [h1, catC, ByteArray.append_assoc], h2, fun y hy => ?_⟩
      rcases List.mem_cons.1 hy with rfl | hy
      · exact ⟨c.1, by omega⟩
      · exact h3 y hy
    · rw [if_neg c] at h
      injection h with _ h
      cases h
/-- What stands at a chunk's place. -/
theorem chunk_at (A R : ByteArray) (x : S56) (hn : nameOk x.f0 = true) (hz : x.f1.size ≤ 12000) (S : ByteArray) (hS : S = A ++ (chunkB x ++ R)) :
    S.size = A.size + (x.f1.size + 12) + R.size ∧ S.extract A.size (A.size + 4) = bigT x.f1.size ∧ S.extract (A.size + 4) (A.size + 8) = x.f0 ∧ S.extract (A.size + 8) (A.size + 8 + x.f1.size) = x.f1 ∧
    S.extract (A.size + 4) (A.size + 8 + x.f1.size) = x.f0 ++ x.f1 ∧ S.extract (A.size + 8 + x.f1.size) (A.size + 12 + x.f1.size) = four (crc (x.f0 ++ x.f1)) := by
  have zc := chunkB_size hn
  have zn := nameOk_size hn
  have zb := bigT_size x.f1.size
  have z0 : S.size = A.size + (x.f1.size + 12) + R.size := by rw [hS, ByteArray.size_append, ByteArray.size_append, zc]; omega
  unfold chunkB at hS
  generalize crc (x.f0 ++ x.f1) = v at hS ⊢
  have zf := four_size v
  refine ⟨z0, ?_, ?_, ?_, ?_, ?_⟩
  · have := ext_mid A (bigT x.f1.size) (x.f0 ++ x.f1 ++ four v ++ R) A.size (A.size + 4) rfl (by omega)
    rw [hS]; simpa only [ByteArray.append_assoc] using this
  · have := ext_mid (A ++ bigT x.f1.size) x.f0 (x.f1 ++ four v ++ R) (A.size + 4) (A.size + 8) (by rw [ByteArray.size_append]; omega) (by rw [ByteArray.size_append]; omega)
    rw [hS]; simpa only [ByteArray.append_assoc] using this
  · have := ext_mid (A ++ bigT x.f1.size ++ x.f0) x.f1 (four v ++ R) (A.size + 8) (A.size + 8 + x.f1.size) (by simp only [ByteArray.size_append]; omega) (by simp only [ByteArray.size_append]; omega)
    rw [hS]; simpa only [ByteArray.append_assoc] using this
  · have := ext_mid (A ++ bigT x.f1.size) (x.f0 ++ x.f1) (four v ++ R) (A.size + 4) (A.size + 8 + x.f1.size) (by simp only [ByteArray.size_append]; omega) (by simp only [ByteArray.size_append]; omega)
    rw [hS]; simpa only [ByteArray.append_assoc] using this
  · have := ext_mid (A ++ bigT x.f1.size ++ x.f0 ++ x.f1) (four v) R (A.size + 8 + x.f1.size) (A.size + 12 + x.f1.size) (by simp only [ByteArray.size_append]; omega) (by simp only [ByteArray.size_append]; omega)
    rw [hS]; simpa only [ByteArray.append_assoc] using this
/-- Reading gives the list back. -/
theorem readChunks_cat (S : ByteArray) (xs : List S56) : ∀ (f : Nat) (A : ByteArray) (acc : List S56), S = A ++ catC xs → (∀ x ∈ xs, nameOk x.f0 = true ∧ x.f1.size ≤ 12000) → xs.length < f → acc.length + xs.length ≤ 40 → readChunks S f A.size acc = (acc ++ xs, 0) := by
  induction xs with
  | nil =>
    intro f A acc hS hx hf ha
    obtain ⟨f, rfl⟩ : ∃ m, f = m + 1 := ⟨f - 1, by simp at hf; omega⟩
    rw [catC, app_nil] at hS
    rw [readChunks, hS, if_neg (by omega), List.append_nil]
  | cons x xs ih =>
    intro f A acc hS hx hf ha
    obtain ⟨f, rfl⟩ : ∃ m, f = m + 1 := ⟨f - 1, by simp at hf; omega⟩
    have hx0 := hx x (List.mem_cons_self ..)
    obtain ⟨p0, p1, p2, p3, p4, p5⟩ := chunk_at A (catC xs) x hx0.1 hx0.2 S hS
    simp only [List.length_cons] at hf ha
    have hN : chunkN S A.size = x.f1.size := by
      unfold chunkN
      rw [valB_by S A.size (by omega), p1, valB_big _ (by omega)]
      omega
    have hO : chunkOf S A.size = x := by unfold chunkOf; rw [hN, p2, p3]
    have h0 : chunkNum S A.size = 0 := by
      unfold chunkNum
      rw [hN, if_neg (by omega), p2, if_neg (by rw [hx0.1]; decide), p4, p5, if_pos rfl]
    rw [readChunks, if_pos (by omega), if_neg (by omega), if_pos h0, hN, hO]
    have q := ih f (A ++ chunkB x) (acc ++ [x]) (by rw [hS, catC, ByteArray.append_assoc]) (fun y hy => hx y (List.mem_cons_of_mem _ hy)) (by omega) (by rw [List.length_append]; simp only [List.length_cons, List.length_nil]; omega)
    rw [ByteArray.size_append, chunkB_size hx0.1] at q
    rw [show A.size + 12 + x.f1.size = A.size + (x.f1.size + 12) from by omega, q]
    simp
theorem ext_bytes4 (s : ByteArray) (a : Nat) (h : a + 4 ≤ s.size) : bytesOf (s.extract a (a + 4)) = [bt s a, bt s ((a + 1 : Nat) : Int), bt s ((a + 2 : Nat) : Int), bt s ((a + 3 : Nat) : Int)] := by
  have hl : (bytesOf (s.extract a (a + 4))).length = 4 := by rw [bytesOf_len, ByteArray.size_extract]; omega
  have g : ∀ i (hi : i < 4), (bytesOf (s.extract a (a + 4)))[i]'(by omega) = bt s ((a + i : Nat) : Int) := by
    intro i hi
    rw [← bt_extract s a (a + 4) i (by omega), ← rd_bytesOf, rd_at _ _ (by omega)]
  apply List.ext_getElem
  · rw [hl]; rfl
  · intro i h1 h2
    rw [g i (by omega)]
    have : i = 0 ∨ i = 1 ∨ i = 2 ∨ i = 3 := by omega
    rcases this with rfl | rfl | rfl | rfl <;> rfl
theorem bigT_val (s : ByteArray) (a : Nat) (h : a + 4 ≤ s.size) : bigT (chunkN s a) = s.extract a (a + 4) := by
  have v := (chunkN_val s a).1
  have b0 := bt_range s (a : Nat)
  have b1 := bt_range s ((a + 1 : Nat) : Int)
  have b2 := bt_range s ((a + 2 : Nat) : Int)
  have b3 := bt_range s ((a + 3 : Nat) : Int)
  apply bytes_ext
  unfold bigT
  rw [← v, ext_bytes4 s a h, bytesOf_str]
  · simp only [bigB, valB, Nat.add_zero, List.nil_append, List.cons_append]
    congr 1
    · omega
    · congr 1
      · omega
      · congr 1
        · omega
        · congr 1
          omega
  · intro x hx
    simp [bigB] at hx
    rcases hx with rfl | rfl | rfl | rfl <;> omega
theorem ext_join (s : ByteArray) (a b c : Nat) (h1 : a ≤ b) (h2 : b ≤ c) : s.extract a b ++ s.extract b c = s.extract a c := by
  apply bytes_ext
  rw [bytesOf_append, bytesOf_extract, bytesOf_extract, bytesOf_extract]
  rw [show c - a = (b - a) + (c - b) from by omega, List.take_add, List.drop_drop, show a + (b - a) = b from by omega]
theorem chunkB_val (s : ByteArray) (a : Nat) (h : chunkNum s a = 0) : s.extract a (a + 12 + chunkN s a) = chunkB (chunkOf s a) ∧ a + 12 + chunkN s a ≤ s.size := by
  unfold chunkNum at h
  by_cases c1 : s.size < a + 12 + chunkN s a
  · rw [if_pos c1] at h; omega
  · rw [if_neg c1] at h
    by_cases c2 : nameOk (s.extract (a + 4) (a + 8)) = false
    · rw [if_pos c2] at h; omega
    · rw [if_neg c2] at h
      by_cases c3 : (s.extract (a + 8 + chunkN s a) (a + 12 + chunkN s a)).toList = (four (crc (s.extract (a + 4) (a + 8 + chunkN s a)))).toList
      · refine ⟨?_, by omega⟩
        have c4 := toList_inj c3
        unfold chunkB chunkOf
        simp only
        have zd : (s.extract (a + 8) (a + 8 + chunkN s a)).size = chunkN s a := by rw [ByteArray.size_extract]; omega
        rw [zd, bigT_val s a (by omega), ext_join s (a + 4) (a + 8) _ (by omega) (by omega), ← c4, ext_join s a (a + 4) (a + 8) (by omega) (by omega), ext_join s a (a + 8) _ (by omega) (by omega), ext_join s a _ _ (by omega) (by omega)]
      · rw [if_neg c3] at h; omega
/-- What is read tells the text. -/
theorem readChunks_text (s : ByteArray) (f : Nat) : ∀ (a : Nat) (acc ys : List S56), a ≤ s.size → readChunks s f a acc = (ys, 0) → ∃ xs, ys = acc ++ xs ∧ s.extract a s.size = catC xs := by
  induction f with
  | zero => intro a acc ys ha h; rw [readChunks] at h; injection h with _ h; omega
  | succ f ih =>
    intro a acc ys ha h
    rw [readChunks] at h
    by_cases c1 : a < s.size
    · rw [if_pos c1] at h
      by_cases c2 : acc.length = 40
      · rw [if_pos c2] at h; injection h with _ h; omega
      · rw [if_neg c2] at h
        by_cases c3 : chunkNum s a = 0
        · rw [if_pos c3] at h
          obtain ⟨e, hb⟩ := chunkB_val s a c3
          obtain ⟨xs, h1, h2⟩ := ih _ _ _ hb h
          refine ⟨chunkOf s a :: xs, by rw [h1]; simp, ?_⟩
          rw [catC, ← e, ← h2, ext_join s _ _ _ (by omega) hb]
        · rw [if_neg c3] at h; injection h with _ h; exact absurd h c3
    · rw [if_neg c1] at h
      injection h with h _
      refine ⟨[], by rw [h]; simp, ?_⟩
      apply bytes_ext
      rw [bytesOf_extract, show s.size - a = 0 from by omega]
      rfl

theorem chunk_ext {x y : S56} (h0 : x.f0 = y.f0) (h1 : x.f1 = y.f1) : x = y := by
  cases x; cases y; simp only at h0 h1; rw [h0, h1]
theorem laws_sameChunks_l0 (xs ys : List S56) (hl : xs.length = ys.length) (hx : xs.length ≤ 1000000) (d : Nat) : ∀ (k i : Nat), i ≤ xs.length → xs.length - i = d → d < k → ∃ b, laws_sameChunks.l0 k xs ys i = some b ∧ (b = true ↔ xs.drop i = ys.drop i) := by
  induction d with
  | zero =>
    intro k i hi hd hk
    obtain ⟨k, rfl⟩ : ∃ m, k = m + 1 := ⟨k - 1, by omega⟩
    simp only [laws_sameChunks.l0]
    rw [if_neg (by omega), List.drop_eq_nil_of_le (by omega), List.drop_eq_nil_of_le (by omega)]
    exact ⟨true, rfl, by simp⟩
  | succ d ih =>
    intro k i hi hd hk
    obtain ⟨k, rfl⟩ : ∃ m, k = m + 1 := ⟨k - 1, by omega⟩
    have lx : i < xs.length := by omega
    have ly : i < ys.length := by omega
    rw [laws_sameChunks.l0, if_pos (by omega), if_pos (by omega), if_pos (by omega), rd_Chunk xs i lx, rd_Chunk ys i ly, w64 (by omega) (by omega), List.drop_eq_getElem_cons lx, List.drop_eq_getElem_cons ly]
    obtain ⟨b, e, hb⟩ := ih k (i + 1) (by omega) (by omega) (by omega)
    push_cast at e
    by_cases h0 : xs[i].f0.toList = ys[i].f0.toList
    · by_cases h1 : xs[i].f1.toList = ys[i].f1.toList
      · rw [if_neg (by simp [h0, h1]), e]
        refine ⟨b, rfl, hb.trans ⟨fun q => by rw [q, chunk_ext (toList_inj h0) (toList_inj h1)], fun q => (List.cons.inj q).2⟩⟩
      · rw [if_pos (by simp [h1])]
        exact ⟨false, rfl, ⟨(fun q => by cases q), (fun q => absurd (congrArg (fun (z : S56) => z.f1.toList) (List.cons.inj q).1) h1)⟩⟩
    · rw [if_pos (by simp [h0])]
      exact ⟨false, rfl, ⟨(fun q => by cases q), (fun q => absurd (congrArg (fun (z : S56) => z.f0.toList) (List.cons.inj q).1) h0)⟩⟩
theorem laws_sameChunks_eq (xs ys : List S56) (hx : xs.length ≤ 1000000) (k : Nat) (hk : xs.length < k) : ∃ b, laws_sameChunks.f k xs ys = some b ∧ (b = true ↔ xs = ys) := by
  unfold laws_sameChunks.f
  by_cases h : xs.length = ys.length
  · rw [if_pos (by omega)]
    obtain ⟨b, e, hb⟩ := laws_sameChunks_l0 xs ys h hx xs.length k 0 (by omega) (by omega) hk
    exact ⟨b, e, by simpa using hb⟩
  · rw [if_neg (by omega)]
    exact ⟨false, rfl, by simp; intro q; exact h (by rw [q])⟩

theorem chunksOf_text (xs : List S56) (S : ByteArray) (hl : xs.length ≤ 40) (h : chunksT signT xs = (S, true)) : chunksOf S = (xs, 0) ∧ S = signT ++ catC xs ∧ S.size ≤ 12000 ∧ 8 ≤ S.size := by
  obtain ⟨h1, h2, h3⟩ := chunksT_cat xs signT S (by decide) h
  have z8 : signT.size = 8 := by decide
  have hz : 8 ≤ S.size := by rw [h1, ByteArray.size_append, z8]; omega
  have r := readChunks_cat S xs 41 signT [] h1 h3 (by omega) (by simpa using hl)
  have sg : isSign S = true := by
    unfold isSign
    rw [h1, ext_left signT (catC xs) 8 z8.symm, ← h1, decide_eq_true hz]
    simp [signT]
  refine ⟨?_, h1, h2, hz⟩
  unfold chunksOf
  rw [if_pos ⟨sg, h2⟩, ← z8, r]
  simp
theorem chunksOf_inj (S T : ByteArray) (xs : List S56) (hS : S = signT ++ catC xs) (hT : chunksOf T = (xs, 0)) : T = S := by
  unfold chunksOf at hT
  by_cases c : isSign T = true ∧ T.size ≤ 12000
  · rw [if_pos c] at hT
    have sg := c.1
    unfold isSign at sg
    rw [Bool.and_eq_true, decide_eq_true_eq, beq_iff_eq] at sg
    obtain ⟨ys, h1, h2⟩ := readChunks_text T 41 8 [] xs sg.1 hT
    rw [List.nil_append] at h1
    subst h1
    rw [hS, ← h2, show signT = T.extract 0 8 from (toList_inj sg.2).symm, ext_join T 0 8 T.size (by omega) sg.1]
    apply bytes_ext
    rw [bytesOf_extract, List.drop_zero, List.take_of_length_le (by rw [bytesOf_len]; omega)]
  · rw [if_neg c] at hT
    injection hT with _ hT
    omega
theorem chunksOf_short (s : ByteArray) : (chunksOf s).1.length ≤ 60 := by
  have g : ∀ f a acc, (readChunks s f a acc).1.length ≤ acc.length + f := by
    intro f
    induction f with
    | zero => intro a acc; simp [readChunks]
    | succ f ih =>
      intro a acc
      rw [readChunks]
      split
      · split
        · simp
        · split
          · have := ih (a + 12 + chunkN s a) (acc ++ [chunkOf s a]); simp at this; omega
          · simp
      · simp
  unfold chunksOf
  split
  · have := g 41 8 []; simp at this; omega
  · simp
theorem FnChunks : laws_FnChunks.Pure := by
  intro l _ _ _
  obtain ⟨k, hk⟩ : ∃ k : Nat, k = 5000000 := ⟨_, rfl⟩
  refine ⟨k + 1, ?_⟩
  unfold laws_FnChunks.f
  rw [laws_big_eq, Option.bind_some]
  by_cases hb : 1048576 < l.length
  · rw [if_pos (by simpa using hb)]
  · rw [if_neg (by simpa using hb)]
    have hl : l.length ≤ 1048576 := by omega
    obtain ⟨xs, e1, hx, ha⟩ := spec_DrawChunksText_eq l hl (k + 1) (by omega)
    have hz : ∀ x ∈ xs, x.f0.size ≤ 1048576 ∧ x.f1.size ≤ 1048576 := fun x hx => by have := ha x hx; omega
    rw [e1, Option.bind_some, impl_ChunksText_eq xs (by omega) hz (k + 1) (by omega), Option.bind_some, spec_ChunksText_eq xs (by omega) hz (k + 1) (by omega), Option.bind_some, if_neg (by simp)]
    by_cases c : (chunksText xs).2 = true
    · rw [if_pos c]
      have h40 : xs.length ≤ 40 := by
        unfold chunksText at c
        by_cases h : xs.length ≤ 40
        · exact h
        · rw [if_neg h] at c; cases c
      obtain ⟨S, hS⟩ : ∃ S, chunksText xs = (S, true) := ⟨(chunksText xs).1, by rw [← c]⟩
      rw [hS]
      simp only
      have hT : chunksT signT xs = (S, true) := by unfold chunksText at hS; rwa [if_pos h40] at hS
      obtain ⟨r1, r2, r3, r4⟩ := chunksOf_text xs S h40 hT
      rw [impl_ReadChunks_eq S (by omega) (k + 1) (by omega), r1, Option.bind_some, if_pos rfl]
      obtain ⟨b, eb, hb'⟩ := laws_sameChunks_eq xs xs (by omega) (k + 1) (by omega)
      rw [eb, Option.bind_some, hb'.2 rfl, if_pos rfl, decide_eq_false (by omega)]
      simp only [laws_FnChunks.j0, Bool.false_eq_true, if_false]
      obtain ⟨t, e, ht, hbt⟩ := spec_DrawPlaces_eq l hl k (by omega)
      have b0 := hbt _ (List.getElem_mem (show 0 < t.length by omega))
      have b1 := hbt _ (List.getElem_mem (show 1 < t.length by omega))
      have r0 : rd t 0 = t[0]'(by omega) := rd_at t 0 (by omega)
      have r1' : rd t 1 = t[1]'(by omega) := rd_at t 1 (by omega)
      obtain ⟨j, v, et, hj, hv, hne⟩ := laws_turned_eq S (by omega) (t[0]'(by omega)) (t[1]'(by omega)) b0.1 b1.1
      rw [e, Option.bind_some, if_pos (by omega), if_pos (by omega), r0, r1', et, Option.bind_some]
      have zt := turnAt_size S j v
      have zb := turnAt_bytes S j v hv
      rw [show strOfNums ((bytesOf S).set j v) = turnAt S j v from rfl, impl_ReadChunks_eq _ (by omega) k (by omega), Option.bind_some]
      have sh := chunksOf_short (turnAt S j v)
      by_cases c2 : (chunksOf (turnAt S j v)).2 = 0
      · rw [if_pos c2]
        obtain ⟨b2, eb2, hb2⟩ := laws_sameChunks_eq (chunksOf (turnAt S j v)).1 xs (by omega) k (by omega)
        rw [eb2, Option.bind_some]
        have : b2 = false := by
          rw [Bool.eq_false_iff]
          intro q
          have q2 := hb2.1 q
          have q3 : chunksOf (turnAt S j v) = (xs, 0) := by rw [← q2, ← c2]
          have q4 := chunksOf_inj S _ xs r2 q3
          rw [q4] at zb
          have q5 := congrArg (fun zs => zs[j]?) zb
          simp only [List.getElem?_set_self (show j < (bytesOf S).length by rw [bytesOf_len]; exact hj)] at q5
          have q6 : rd (bytesOf S) (j : Nat) = v := by
            have hjl : j < (bytesOf S).length := by rw [bytesOf_len]; exact hj
            rw [rd_at _ _ hjl]
            rw [List.getElem?_eq_getElem hjl] at q5
            injection q5
          rw [rd_bytesOf] at q6
          exact hne q6.symm
        rw [this]; rfl
      · rw [if_neg c2]
    · rw [if_neg c]
      have : (chunksText xs).1 = ⟨#[]⟩ := by
        have g : ∀ (ys : List S56) (acc : ByteArray), (chunksT acc ys).2 ≠ true → (chunksT acc ys).1 = ⟨#[]⟩ := by
          intro ys
          induction ys with
          | nil => intro acc h; exact absurd rfl h
          | cons y ys ih =>
            intro acc h
            rw [chunksT] at h ⊢
            split at h
            · rename_i q; rw [if_pos q]; exact ih _ h
            · rename_i q; rw [if_neg q]
        unfold chunksText at c ⊢
        split at c
        · rename_i q; rw [if_pos q]; exact g xs _ c
        · rename_i q; rw [if_neg q]
      rw [this, show (⟨#[]⟩ : ByteArray).toList = [] from toList_nil.2 rfl]; rfl

end Go.Proofs.Ytefoebmcimnapaa.Pure
