/- The law FnExactReadHead as a statement over numbers and lists: for every text of a size that a machine can hold, the law's function returns true. -/
import Derived.Test.YtefoebmcimnapaaPFnExactReadHeadx6
set_option linter.unusedVariables false
set_option linter.unusedSimpArgs false
namespace Go.Proofs.Ytefoebmcimnapaa.Pure
open Go.RowKit Go.Proofs.Ytefoebmcimnapaa.PFnExactReadHead Go.Proofs.YtefoebmcimnapaaW.PrintWords Go.Proofs.YtefoebmcimnapaaW.PrintLast

theorem w64 {x : Int} (h : -9223372036854775808 ≤ x) (h' : x ≤ 9223372036854775807) : wrap64 x = x := by unfold wrap64; omega
theorem wf_i64 {a : Int} (h : (Lit.int .i64 a).wf = true) : -9223372036854775808 ≤ a ∧ a ≤ 9223372036854775807 := by
  simpa [Lit.wf, IntKind.min, IntKind.max, IntKind.signed, IntKind.bits] using h
theorem wbt (s : ByteArray) (i : Int) : wrap64 (bt s i) = bt s i := w64 (by have := bt_range s i; omega) (by have := bt_range s i; omega)

theorem str_append (xs ys : List Int) : strOfNums xs ++ strOfNums ys = strOfNums (xs ++ ys) := by
  apply ByteArray.ext
  apply Array.ext'
  rw [ByteArray.data_append, Array.toList_append, strOfNums_data, strOfNums_data, strOfNums_data, List.map_append]
theorem str_nil : (⟨#[]⟩ : ByteArray) = strOfNums [] := rfl
theorem str_size (xs : List Int) : (strOfNums xs).size = xs.length := strOfNums_size xs

def p2 (n : Int) : Int := 2 ^ n.toNat
theorem p2_nat (n : Nat) : p2 n = ((2 ^ n : Nat) : Int) := by simp [p2]
theorem p2_succ (n : Int) (h : 0 ≤ n) : p2 (n + 1) = 2 * p2 n := by
  obtain ⟨m, rfl⟩ := Int.eq_ofNat_of_zero_le h
  have : ((m : Int) + 1) = ((m + 1 : Nat) : Int) := by omega
  rw [this, p2_nat, p2_nat, Nat.pow_succ]; push_cast; omega
theorem p2_zero : p2 0 = 1 := rfl
theorem p2_pos (n : Int) : 1 ≤ p2 n := by
  unfold p2
  have h := Nat.one_le_two_pow (n := n.toNat)
  exact_mod_cast h
theorem p2_le {m n : Int} (h : m ≤ n) : p2 m ≤ p2 n := by
  unfold p2
  have h := Nat.pow_le_pow_right (n := 2) (by decide) (show m.toNat ≤ n.toNat by omega)
  exact_mod_cast h
theorem p2_62 {n : Int} (h : n ≤ 62) : p2 n ≤ 4611686018427387904 := p2_le (n := 62) h
theorem p2_16 {n : Int} (h : n ≤ 16) : p2 n ≤ 65536 := p2_le (n := 16) h

/-- A number in so many bytes, the highest first. -/
def bigB (n : Int) : Nat → List Int
  | 0 => []
  | s + 1 => bigB (n / 256) s ++ [n % 256]
theorem bigB_len (s : Nat) : ∀ n, (bigB n s).length = s := by
  induction s with
  | zero => intro n; rfl
  | succ s ih => intro n; simp [bigB, ih]
theorem bigB_cons (s : Nat) : ∀ n : Int, bigB n (s + 1) = (n / 256 ^ s % 256) :: bigB n s := by
  induction s with
  | zero => intro n; simp [bigB]
  | succ s ih =>
    intro n
    have e : n / 256 / 256 ^ s = n / 256 ^ (s + 1) := by
      rw [Int.ediv_ediv_of_nonneg (by decide), Int.pow_succ, Int.mul_comm]
    calc bigB n (s + 1 + 1) = bigB (n / 256) (s + 1) ++ [n % 256] := rfl
      _ = (n / 256 ^ (s + 1) % 256) :: (bigB (n / 256) s ++ [n % 256]) := by rw [ih, e]; rfl
      _ = _ := rfl

/-- The number that n bytes tell, the highest first. -/
def valB (s : ByteArray) (o : Nat) : Nat → Int
  | 0 => 0
  | n + 1 => 256 * valB s o n + bt s ((o + n : Nat) : Int)
theorem valB_bd (s : ByteArray) (o n : Nat) : 0 ≤ valB s o n ∧ valB s o n < 256 ^ n := by
  induction n with
  | zero => simp [valB]
  | succ n ih => have := bt_range s ((o + n : Nat) : Int); simp only [valB, Int.pow_succ]; omega
theorem pow256 {n : Nat} (h : n ≤ 4) : (256 : Int) ^ n ≤ 4294967296 := by
  have : n = 0 ∨ n = 1 ∨ n = 2 ∨ n = 3 ∨ n = 4 := by omega
  rcases this with rfl | rfl | rfl | rfl | rfl <;> decide
def readBig (s : ByteArray) (at_ size : Int) : Int × Bool := if 1 ≤ size ∧ size ≤ 4 ∧ 0 ≤ at_ ∧ at_ ≤ s.size - size then (valB s at_.toNat size.toNat, true) else (0, false)

def sideB (n : Int) : Bool := decide (1 ≤ n) && decide (n ≤ 24)
theorem sideB_iff (n : Int) : sideB n = true ↔ 1 ≤ n ∧ n ≤ 24 := by simp [sideB]

def smallD (d : Int) : Bool := d == 1 || d == 2 || d == 4
def bigD (d : Int) : Bool := d == 8 || d == 16
def dok (c d : Int) : Bool := if c = 0 then smallD d || bigD d else if c = 3 then smallD d || d == 8 else if c = 2 then bigD d else if c = 4 then bigD d else if c = 6 then bigD d else false
theorem some_or (a b : Bool) : (if a = true then some true else some b) = some (a || b) := by cases a <;> rfl
theorem spec_DepthOk_eq (k : Nat) (hk : 1 ≤ k) (c d : Int) : spec_DepthOk.f k c d = some (dok c d) := by
  obtain ⟨k, rfl⟩ : ∃ m, k = m + 1 := ⟨k - 1, by omega⟩
  have e : ∀ x : Bool, spec_DepthOk.j0 (k + 1) c d x = some (if c = 0 then x || bigD d else if c = 3 then x || d == 8 else if c = 2 then bigD d else if c = 4 then bigD d else if c = 6 then bigD d else false) := by
    intro x
    have h8 : (if d = 8 then some true else some (d == 16)) = some (bigD d) := by unfold bigD; by_cases h : d = 8 <;> simp [h]
    simp only [spec_DepthOk.j0, h8, some_or]
    repeat (first | rfl | split)
  simp only [spec_DepthOk.f, e, dok, smallD]
  by_cases h1 : d = 1
  · simp [h1]
  by_cases h2 : d = 2
  · simp [h2]
  · have e1 : (d == 1) = false := by simpa using h1
    have e2 : (d == 2) = false := by simpa using h2
    simp only [h1, h2, e1, e2, if_false, Bool.false_or]

def headB (w h d c : Int) : Bool := sideB w && sideB h && dok c d

def flagN (l : Bool) : Int := if l then 1 else 0
def headBytes (w h d c : Int) (l : Bool) : List Int := bigB w 4 ++ bigB h 4 ++ [d % 256, c % 256, 0, 0, flagN l]
def headText (w h d c : Int) (l : Bool) : ByteArray × Bool := if headB w h d c then (strOfNums (headBytes w h d c l), true) else (⟨#[]⟩, false)
theorem headB_bd {w h d c : Int} (q : headB w h d c = true) : (1 ≤ w ∧ w ≤ 24) ∧ 1 ≤ h ∧ h ≤ 24 := by
  simp only [headB, Bool.and_eq_true, sideB_iff] at q; omega

def readHead (s : ByteArray) : Int × Int × Int × Int × Bool × Bool :=
  if s.size = 13 then
    let w := (readBig s 0 4).1; let h := (readBig s 4 4).1; let d := bt s 8; let c := bt s 9; let l := (bt s 12) == 1
    if (headText w h d c l).2 = true ∧ (headText w h d c l).1.toList = s.toList then (w, h, d, c, l, true) else (0, 0, 0, 0, false, false)
  else (0, 0, 0, 0, false, false)

theorem spec_l01In_eq (a b c : Int) : spec_l01In.f a b c = some (decide (b ≤ a) && decide (a ≤ c)) := by
  unfold spec_l01In.f
  by_cases h : b ≤ a <;> simp [h]

theorem spec_ReadBig_l0 (s : ByteArray) (hs : s.size ≤ 9223372036854775807) (o size : Nat) (h4 : size ≤ 4) (ho : o + size ≤ s.size) (r : Nat) : ∀ (k i : Nat), i + r = size → r < k → spec_ReadBig.l0 k s o size (valB s o i) i = some (valB s o size, true) := by
  induction r with
  | zero =>
    intro k i hi hk
    obtain ⟨k, rfl⟩ : ∃ m, k = m + 1 := ⟨k - 1, by omega⟩
    obtain rfl : i = size := by omega
    simp only [spec_ReadBig.l0]
    rw [if_neg (by omega)]
  | succ r ih =>
    intro k i hi hk
    obtain ⟨k, rfl⟩ : ∃ m, k = m + 1 := ⟨k - 1, by omega⟩
    have b := valB_bd s o i
    have p := pow256 (n := i) (by omega)
    have bb := bt_range s ((o + i : Nat) : Int)
    have st := ih k (i + 1) (by omega) (by omega)
    simp only [valB] at st
    simp only [spec_ReadBig.l0]
    rw [if_pos (by omega), w64 (x := (o : Int) + i) (by omega) (by omega), if_pos (by omega), if_pos (by omega), show (o : Int) + i = ((o + i : Nat) : Int) by omega, wbt, w64 (x := 256 * valB s o i) (by omega) (by omega), w64 (x := 256 * valB s o i + bt s ((o + i : Nat) : Int)) (by omega) (by omega), w64 (x := (i : Int) + 1) (by omega) (by omega)]
    exact st
theorem spec_ReadBig_eq (s : ByteArray) (hs : s.size ≤ 4611686018427387904) (at_ size : Int) (k : Nat) (hk : 6 ≤ k) : spec_ReadBig.f k s at_ size = some (readBig s at_ size) := by
  obtain ⟨k, rfl⟩ : ∃ m, k = m + 1 := ⟨k - 1, by omega⟩
  have no : spec_ReadBig.j0 (k + 1) s at_ size true = some (0, false) := by simp [spec_ReadBig.j0]
  unfold spec_ReadBig.f readBig
  rw [spec_l01In_eq, no]
  simp only [Option.bind_some]
  by_cases h : 1 ≤ size ∧ size ≤ 4
  · rw [if_pos (by simp; omega), w64 (by omega) (by omega)]
    by_cases h0 : at_ < 0
    · rw [if_pos h0, if_neg (by omega)]
    · rw [if_neg h0]
      by_cases h1 : at_ > s.size - size
      · rw [decide_eq_true h1, no, if_neg (by omega)]
      · rw [decide_eq_false h1, if_pos (by omega)]
        simp only [spec_ReadBig.j0]
        rw [if_neg (by decide)]
        obtain ⟨o, rfl⟩ := Int.eq_ofNat_of_zero_le (show 0 ≤ at_ by omega)
        obtain ⟨z, rfl⟩ := Int.eq_ofNat_of_zero_le (show 0 ≤ size by omega)
        exact spec_ReadBig_l0 s (by omega) o z (by omega) (by omega) z k 0 (by omega) (by omega)
  · rw [if_neg (by simp; omega), if_neg (by omega)]

theorem spec_l12Side_eq (n : Int) : spec_l12Side.f n = some (sideB n) := by simp [spec_l12Side.f, spec_l01In_eq, sideB]

theorem spec_HeadOk_eq (k : Nat) (hk : 1 ≤ k) (w h d c : Int) (l : Bool) : spec_HeadOk.f k w h d c l = some (headB w h d c) := by
  unfold spec_HeadOk.f headB
  simp only [spec_l12Side_eq, spec_DepthOk_eq k hk, Option.bind_some]
  cases sideB w <;> cases sideB h <;> simp

theorem spec_l01Big_l0 (size : Nat) (hs : size ≤ 1000) (r : Nat) : ∀ (k i : Nat) (n : Int) (s : List Int), 0 ≤ n → n ≤ 9223372036854775807 → i + r = size → r < k → s.length = i → spec_l01Big.l0 k n size (strOfNums s) i = some (strOfNums (bigB n r ++ s)) := by
  induction r with
  | zero =>
    intro k i n s h0 h1 hi hk hl
    obtain ⟨k, rfl⟩ : ∃ m, k = m + 1 := ⟨k - 1, by omega⟩
    simp only [spec_l01Big.l0]
    rw [if_neg (by omega)]
    rfl
  | succ r ih =>
    intro k i n s h0 h1 hi hk hl
    obtain ⟨k, rfl⟩ : ∃ m, k = m + 1 := ⟨k - 1, by omega⟩
    simp only [spec_l01Big.l0, Option.bind_some]
    rw [if_pos (by omega), str_size, str_size, if_pos (by simp; omega), str_append, Int.tmod_eq_emod_of_nonneg h0, Int.tdiv_eq_ediv_of_nonneg h0, w64 (x := n / 256) (by omega) (by omega), w64 (x := (i : Int) + 1) (by omega) (by omega)]
    have step := ih k (i + 1) (n / 256) ([n % 256 % 256] ++ s) (by omega) (by omega) (by omega) (by omega) (by simp; omega)
    push_cast at step
    rw [step, show n % 256 % 256 = n % 256 by omega]
    simp [bigB]
theorem spec_l01Big_eq (size : Nat) (hs : size ≤ 1000) (n : Int) (h0 : 0 ≤ n) (h1 : n ≤ 9223372036854775807) (k : Nat) (hk : size < k) : spec_l01Big.f k n size = some (strOfNums (bigB n size)) := by
  unfold spec_l01Big.f
  have R := spec_l01Big_l0 size hs size k 0 n [] h0 h1 (by omega) hk rfl
  rw [List.append_nil] at R
  exact R

theorem spec_HeadText_eq (k : Nat) (hk : 6 ≤ k) (w h d c : Int) (l : Bool) : spec_HeadText.f k w h d c l = some (headText w h d c l) := by
  unfold spec_HeadText.f headText
  rw [spec_HeadOk_eq k (by omega)]
  simp only [Option.bind_some]
  by_cases q : headB w h d c = true
  · have b := headB_bd q
    have e1 := spec_l01Big_eq 4 (by omega) w (by omega) (by omega) k (by omega)
    have e2 := spec_l01Big_eq 4 (by omega) h (by omega) (by omega) k (by omega)
    have l1 := bigB_len 4 w
    have l2 := bigB_len 4 h
    change spec_l01Big.f k w 4 = _ at e1
    change spec_l01Big.f k h 4 = _ at e2
    rw [if_pos q, if_pos q, e1, e2]
    simp only [Option.bind_some, str_append, str_size, List.length_append, l1, l2, List.length_cons, List.length_nil]
    unfold headBytes flagN
    cases l <;> simp
  · rw [if_neg q, if_neg q]

theorem spec_ReadHead_eq (s : ByteArray) (k : Nat) (hk : 6 ≤ k) : spec_ReadHead.f k s = some (readHead s) := by
  unfold spec_ReadHead.f readHead
  by_cases hs : s.size = 13
  · rw [if_pos (by omega), if_pos hs, spec_ReadBig_eq s (by omega) 0 4 k hk, spec_ReadBig_eq s (by omega) 4 4 k hk]
    simp only [Option.bind_some]
    rw [if_pos (by omega), if_pos (by omega), if_pos (by omega), wbt, wbt, spec_HeadText_eq k hk]
    simp only [Option.bind_some]
    split
    · rename_i h1
      split
      · rename_i h2; rw [if_pos ⟨h1, h2⟩]
      · rename_i h2; rw [if_neg (fun q => h2 q.2)]
    · rename_i h1; rw [if_neg (fun q => h1 q.1)]
  · rw [if_neg (by omega), if_neg hs]

theorem impl_within_eq (a b c : Int) : impl_within.f a b c = some (decide (b ≤ a) && decide (a ≤ c)) := by
  unfold impl_within.f
  by_cases h : b ≤ a <;> simp [h]

theorem or_byte (a b : Int) (ha : 0 ≤ a ∧ a ≤ 4294967296) (hb : 0 ≤ b ∧ b ≤ 255) : Go.bits .or .i64 (a * 256) b = 256 * a + b := by
  have := bits_join .i64 62 (by decide) (fun n h0 h1 => by rw [IntKind.wrap_i64]; omega) 8 (a * 256) b (by omega) (by simp) (by simp; omega) hb.1 (by simp; omega) (by simp; omega)
  rw [this]; omega
theorem impl_ReadBig_l0 (s : ByteArray) (hs : s.size ≤ 9223372036854775807) (o size : Nat) (h4 : size ≤ 4) (ho : o + size ≤ s.size) (r : Nat) : ∀ (k i : Nat), i + r = size → r < k → impl_ReadBig.l0 k s o (valB s o i) size i = some (valB s o size, true) := by
  induction r with
  | zero =>
    intro k i hi hk
    obtain ⟨k, rfl⟩ : ∃ m, k = m + 1 := ⟨k - 1, by omega⟩
    obtain rfl : i = size := by omega
    simp only [impl_ReadBig.l0]
    rw [if_neg (by omega)]
  | succ r ih =>
    intro k i hi hk
    obtain ⟨k, rfl⟩ : ∃ m, k = m + 1 := ⟨k - 1, by omega⟩
    have b := valB_bd s o i
    have p := pow256 (n := i) (by omega)
    have bb := bt_range s ((o + i : Nat) : Int)
    have st := ih k (i + 1) (by omega) (by omega)
    simp only [valB] at st
    simp only [impl_ReadBig.l0]
    rw [if_pos (by omega), w64 (x := (o : Int) + i) (by omega) (by omega), if_pos (by omega), if_pos (by omega), show (o : Int) + i = ((o + i : Nat) : Int) by omega, wbt, w64 (x := valB s o i * 256) (by omega) (by omega), or_byte _ _ (by omega) bb, w64 (x := (i : Int) + 1) (by omega) (by omega)]
    exact st
theorem impl_ReadBig_eq (s : ByteArray) (hs : s.size ≤ 4611686018427387904) (at_ size : Int) (k : Nat) (hk : 6 ≤ k) : impl_ReadBig.f k s at_ size = some (readBig s at_ size) := by
  obtain ⟨k, rfl⟩ : ∃ m, k = m + 1 := ⟨k - 1, by omega⟩
  have no : impl_ReadBig.j0 (k + 1) s at_ size true = some (0, false) := by simp [impl_ReadBig.j0]
  unfold impl_ReadBig.f readBig
  rw [impl_within_eq, no]
  simp only [Option.bind_some]
  by_cases h : 1 ≤ size ∧ size ≤ 4
  · rw [if_pos (by simp; omega), w64 (by omega) (by omega)]
    by_cases h0 : at_ < 0
    · rw [if_pos h0, if_neg (by omega)]
    · rw [if_neg h0]
      by_cases h1 : at_ > s.size - size
      · rw [decide_eq_true h1, no, if_neg (by omega)]
      · rw [decide_eq_false h1, if_pos (by omega)]
        simp only [impl_ReadBig.j0]
        rw [if_neg (by decide)]
        obtain ⟨o, rfl⟩ := Int.eq_ofNat_of_zero_le (show 0 ≤ at_ by omega)
        obtain ⟨z, rfl⟩ := Int.eq_ofNat_of_zero_le (show 0 ≤ size by omega)
        exact impl_ReadBig_l0 s (by omega) o z (by omega) (by omega) z k 0 (by omega) (by omega)
  · rw [if_neg (by simp; omega), if_neg (by omega)]

theorem impl_isSide_eq (n : Int) : impl_isSide.f n = some (sideB n) := by simp [impl_isSide.f, impl_within_eq, sideB]

def chan (c : Int) : Int := if c = 0 then 1 else if c = 3 then 1 else if c = 2 then 3 else if c = 4 then 2 else if c = 6 then 4 else 0

theorem impl_ChannelsOf_eq (k : Nat) (hk : 1 ≤ k) (c : Int) : impl_ChannelsOf.f k c = some (chan c) := by
  obtain ⟨k, rfl⟩ : ∃ m, k = m + 1 := ⟨k - 1, by omega⟩
  simp only [impl_ChannelsOf.f, impl_ChannelsOf.j0, chan]
  by_cases h0 : c = 0
  · simp [h0]
  · by_cases h3 : c = 3
    · simp [h3]
    · by_cases h2 : c = 2
      · simp [h2]
      · by_cases h4 : c = 4
        · simp [h4]
        · simp [h0, h3, h2, h4]; repeat (first | split | rfl)

theorem impl_isDepth_eq (d : Int) : impl_isDepth.f d = some (smallD d || bigD d) := by
  simp only [impl_isDepth.f, smallD, bigD]
  by_cases h1 : d = 1
  · simp [h1]
  by_cases h2 : d = 2
  · simp [h2]
  by_cases h4 : d = 4
  · simp [h4]
  by_cases h8 : d = 8
  · simp [h8]
  · have e1 : (d == 1) = false := by simpa using h1
    have e2 : (d == 2) = false := by simpa using h2
    have e4 : (d == 4) = false := by simpa using h4
    have e8 : (d == 8) = false := by simpa using h8
    simp only [h1, h2, h4, h8, e1, e2, e4, e8, if_false, Bool.false_or]

theorem impl_DepthOk_eq (k : Nat) (hk : 1 ≤ k) (c d : Int) : impl_DepthOk.f k c d = some (dok c d) := by
  have h8 : (if d = 8 then some true else some (d == 16)) = some (bigD d) := by unfold bigD; by_cases h : d = 8 <;> simp [h]
  simp only [impl_DepthOk.f, impl_isDepth_eq, impl_ChannelsOf_eq k hk, Option.bind_some, dok, h8]
  by_cases h0 : c = 0
  · simp [h0]
  by_cases h3 : c = 3
  · subst h3
    simp only [show ¬ ((3 : Int) = 0) by decide, if_true, if_false]
    unfold smallD bigD
    by_cases h1 : d = 1
    · simp [h1]
    by_cases h2 : d = 2
    · simp [h2]
    by_cases h4 : d = 4
    · simp [h4]
    by_cases h8 : d = 8
    · simp [h8]
    by_cases h16 : d = 16
    · simp [h16]
    · simp [h1, h2, h4, h8, h16]
  · simp only [h0, h3, chan, if_false]
    by_cases h2 : c = 2
    · simp [h2]
    by_cases h4 : c = 4
    · simp [h4]
    by_cases h6 : c = 6
    · simp [h6]
    · simp [h2, h4, h6]

theorem impl_HeadOk_eq (k : Nat) (hk : 1 ≤ k) (w h d c : Int) (l : Bool) : impl_HeadOk.f k w h d c l = some (headB w h d c) := by
  unfold impl_HeadOk.f headB
  simp only [impl_isSide_eq, impl_DepthOk_eq k hk, Option.bind_some]
  cases sideB w <;> cases sideB h <;> simp

theorem shl_one (n : Int) (h0 : 0 ≤ n) (h62 : n ≤ 62) : shl .i64 1 n = p2 n := by
  have b1 := p2_pos n
  have b2 := p2_62 h62
  unfold shl
  rw [show min n.toNat IntKind.i64.bits = n.toNat by simp [IntKind.bits]; omega, Int.one_mul, IntKind.wrap_i64]
  show (p2 n + 9223372036854775808) % 18446744073709551616 - 9223372036854775808 = p2 n
  omega
theorem impl_powerOf_eq (n : Int) : impl_powerOf.f n = some (if 0 ≤ n ∧ n ≤ 62 then p2 n else 0) := by
  unfold impl_powerOf.f
  rw [impl_within_eq]
  simp only [Option.bind_some]
  by_cases h0 : 0 ≤ n
  · by_cases h1 : n ≤ 62
    · simp [h0, h1, shl_one n h0 h1]
    · simp [h0, h1]
  · simp [h0]

theorem shr_bytes (n : Int) (i : Nat) (hi : i ≤ 7) : shr .i64 n (8 * (i : Int)) = n / 256 ^ i := by
  unfold shr
  rw [show min (8 * (i : Int)).toNat IntKind.i64.bits = 8 * i by simp [IntKind.bits]; omega, Int.pow_mul]
  rfl
theorem impl_BigText_l0 (n : Int) (r : Nat) : ∀ (k : Nat) (s : List Int), r ≤ 4 → r < k → s.length + r ≤ 4 → impl_BigText.l0 k n s ((r : Int) - 1) = some (strOfNums (s ++ bigB n r), true) := by
  induction r with
  | zero =>
    intro k s hr hk hs
    obtain ⟨k, rfl⟩ : ∃ m, k = m + 1 := ⟨k - 1, by omega⟩
    simp only [impl_BigText.l0]
    rw [if_neg (by omega)]
    simp [bigB]
  | succ r ih =>
    intro k s hr hk hs
    obtain ⟨k, rfl⟩ : ∃ m, k = m + 1 := ⟨k - 1, by omega⟩
    have e : (((r + 1 : Nat) : Int) - 1) = r := by omega
    rw [e]
    simp only [impl_BigText.l0]
    rw [w64 (x := 8 * (r : Int)) (by omega) (by omega), if_pos (by omega), if_pos (by omega), if_pos (by omega), shr_bytes n r (by omega), w64 (x := (r : Int) - 1) (by omega) (by omega)]
    rw [ih k _ (by omega) (by omega) (by simp; omega), bigB_cons]
    simp
theorem impl_BigText_eq (n size : Int) (k : Nat) (hk : 6 ≤ k) : impl_BigText.f k n size = some (if 1 ≤ size ∧ size ≤ 4 ∧ 0 ≤ n ∧ n ≤ p2 (8 * size) - 1 then (strOfNums (bigB n size.toNat), true) else (⟨#[]⟩, false)) := by
  obtain ⟨k, rfl⟩ : ∃ m, k = m + 1 := ⟨k - 1, by omega⟩
  unfold impl_BigText.f
  simp only [impl_within_eq, impl_powerOf_eq, Option.bind_some]
  by_cases h : 1 ≤ size ∧ size ≤ 4
  · have b1 := p2_pos (8 * size)
    have b2 := p2_62 (n := 8 * size) (by omega)
    rw [if_pos (by simp; omega), w64 (x := 8 * size) (by omega) (by omega), if_pos (by omega), w64 (x := p2 (8 * size) - 1) (by omega) (by omega)]
    simp only [impl_BigText.j0]
    by_cases hn : 0 ≤ n ∧ n ≤ p2 (8 * size) - 1
    · obtain ⟨m, rfl⟩ := Int.eq_ofNat_of_zero_le (show 0 ≤ size by omega)
      rw [if_neg (by simp; omega), if_pos (by omega), w64 (by omega) (by omega), impl_BigText_l0 n m k [] (by omega) (by omega) (by simp; omega)]
      rfl
    · rw [if_pos (by simp; omega), if_neg (by omega)]
  · rw [if_neg (by simp; omega), if_neg (by omega)]
    simp [impl_BigText.j0]

theorem impl_byteText_eq (n : Int) : impl_byteText.f n = some (strOfNums [n % 256]) := rfl
theorem impl_flag_eq (l : Bool) : impl_flag.f l = some (flagN l) := by unfold impl_flag.f flagN; cases l <;> rfl
theorem impl_HeadText_eq (k : Nat) (hk : 6 ≤ k) (w h d c : Int) (l : Bool) : impl_HeadText.f k w h d c l = some (headText w h d c l) := by
  unfold impl_HeadText.f headText
  rw [impl_HeadOk_eq k (by omega)]
  simp only [Option.bind_some]
  by_cases q : headB w h d c = true
  · have b := headB_bd q
    have l1 := bigB_len 4 w
    have l2 := bigB_len 4 h
    have p : p2 (8 * 4) - 1 = 4294967295 := rfl
    rw [if_pos q, if_pos q, impl_BigText_eq w 4 k hk, impl_BigText_eq h 4 k hk, if_pos (by omega), if_pos (by omega), impl_flag_eq]
    simp only [Option.bind_some, impl_byteText_eq, show (⟨#[0, 0]⟩ : ByteArray) = strOfNums [0, 0] from rfl, str_append, str_size, show (4 : Int).toNat = 4 from rfl, List.length_append, l1, l2, List.length_cons, List.length_nil]
    unfold headBytes flagN
    cases l <;> simp
  · rw [if_neg q, if_neg q]

theorem impl_ReadHead_eq (s : ByteArray) (k : Nat) (hk : 6 ≤ k) : impl_ReadHead.f k s = some (readHead s) := by
  unfold impl_ReadHead.f readHead
  by_cases hs : s.size = 13
  · rw [if_pos (by omega), if_pos hs, if_pos (by omega), if_pos (by omega), if_pos (by omega), impl_ReadBig_eq s (by omega) 0 4 k hk, impl_ReadBig_eq s (by omega) 4 4 k hk]
    simp only [Option.bind_some]
    rw [wbt, wbt, impl_HeadText_eq k hk]
    simp only [Option.bind_some]
    split
    · rename_i h1
      split
      · rename_i h2; rw [if_pos ⟨h1, h2⟩]
      · rename_i h2; rw [if_neg (fun q => h2 q.2)]
    · rename_i h1; rw [if_neg (fun q => h1 q.1)]
  · rw [if_neg (by omega), if_neg hs]

theorem FnExactReadHead : laws_FnExactReadHead.Pure := by
  intro s _
  refine ⟨6, ?_⟩
  unfold laws_FnExactReadHead.f
  rw [spec_ReadHead_eq s 6 (by omega), impl_ReadHead_eq s 6 (by omega)]
  simp [laws_eqHead.f]

end Go.Proofs.Ytefoebmcimnapaa.Pure
