/- The program's ClearText returns what the reference's returns, for all arguments. -/
import Derived.Test.YtefoebmcimnapaaPFnExactClearTextx5
set_option linter.unusedVariables false
set_option linter.unusedSimpArgs false
namespace Go.Proofs.Ytefoebmcimnapaa.Pure
open Go.RowKit Go.Proofs.Ytefoebmcimnapaa.PFnExactClearText Go.Proofs.YtefoebmcimnapaaW.PrintWords Go.Proofs.YtefoebmcimnapaaW.PrintLast

theorem w64 {x : Int} (h : -9223372036854775808 ≤ x) (h' : x ≤ 9223372036854775807) : wrap64 x = x := by unfold wrap64; omega
theorem wf_i64 {a : Int} (h : (Lit.int .i64 a).wf = true) : -9223372036854775808 ≤ a ∧ a ≤ 9223372036854775807 := by
  simpa [Lit.wf, IntKind.min, IntKind.max, IntKind.signed, IntKind.bits] using h
theorem wbt (s : ByteArray) (i : Int) : wrap64 (bt s i) = bt s i := w64 (by have := bt_range s i; omega) (by have := bt_range s i; omega)

def sideB (n : Int) : Bool := decide (1 ≤ n) && decide (n ≤ 24)
theorem sideB_iff (n : Int) : sideB n = true ↔ 1 ≤ n ∧ n ≤ 24 := by simp [sideB]

def smallD (d : Int) : Bool := d == 1 || d == 2 || d == 4
def bigD (d : Int) : Bool := d == 8 || d == 16
def dok (c d : Int) : Bool := if c = 0 then smallD d || bigD d else if c = 3 then smallD d || d == 8 else if c = 2 then bigD d else if c = 4 then bigD d else if c = 6 then bigD d else false
theorem some_or (a b : Bool) : (if a = true then some true else some b) = some (a || b) := by cases a <;> rfl
theorem spec_DepthOk_eq (k : Nat) (hk : 1 ≤ k) (c d : Int) : spec_DepthOk.f k c d = some (dok c d) := by
  obtain ⟨k, rfl⟩ : ∃ m, k = m + 1 := ⟨k - 1, by omega⟩
  have e : ∀ x : Bool, spec_DepthOk.j0 (k + 1) c d x = some (if c = 0 then x || bigD d else if c = 3 then x || d == 8 else if c = 2 then bigD d else if c = 4 then bigD d else if c = 6 then bigD d else false) := by
    intro x
    have h8 : (if d = 8 then some true else some (d == 16)) = some (bigD d) := by unfold bigD; by_cases h : d = 8 <;> simp [h]
    simp only [spec_DepthOk.j0, h8, some_or]
    repeat (first | rfl | split)
  simp only [spec_DepthOk.f, e, dok, smallD]
  by_cases h1 : d = 1
  · simp [h1]
  by_cases h2 : d = 2
  · simp [h2]
  · have e1 : (d == 1) = false := by simpa using h1
    have e2 : (d == 2) = false := by simpa using h2
    simp only [h1, h2, e1, e2, if_false, Bool.false_or]

def headB (w h d c : Int) : Bool := sideB w && sideB h && dok c d

def p2 (n : Int) : Int := 2 ^ n.toNat
theorem p2_nat (n : Nat) : p2 n = ((2 ^ n : Nat) : Int) := by simp [p2]
theorem p2_succ (n : Int) (h : 0 ≤ n) : p2 (n + 1) = 2 * p2 n := by
  obtain ⟨m, rfl⟩ := Int.eq_ofNat_of_zero_le h
  have : ((m : Int) + 1) = ((m + 1 : Nat) : Int) := by omega
  rw [this, p2_nat, p2_nat, Nat.pow_succ]; push_cast; omega
theorem p2_zero : p2 0 = 1 := rfl
theorem p2_pos (n : Int) : 1 ≤ p2 n := by
  unfold p2
  have h := Nat.one_le_two_pow (n := n.toNat)
  exact_mod_cast h
theorem p2_le {m n : Int} (h : m ≤ n) : p2 m ≤ p2 n := by
  unfold p2
  have h := Nat.pow_le_pow_right (n := 2) (by decide) (show m.toNat ≤ n.toNat by omega)
  exact_mod_cast h
theorem p2_62 {n : Int} (h : n ≤ 62) : p2 n ≤ 4611686018427387904 := p2_le (n := 62) h
theorem p2_16 {n : Int} (h : n ≤ 16) : p2 n ≤ 65536 := p2_le (n := 16) h

theorem rd_at (xs : List Int) (i : Nat) (h : i < xs.length) : rd xs i = xs[i] := by simp [rd, List.getD, h]
def inB (m x : Int) : Bool := decide (0 ≤ x) && decide (x ≤ m)
theorem drop_all (p : Int → Bool) (xs : List Int) (i : Nat) (h : i < xs.length) : (xs.drop i).all p = (p xs[i] && (xs.drop (i + 1)).all p) := by
  rw [List.drop_eq_getElem_cons h]; rfl
theorem drop_all_end (p : Int → Bool) (xs : List Int) (i : Nat) (h : xs.length ≤ i) : (xs.drop i).all p = true := by
  rw [List.drop_eq_nil_of_le h]; rfl

def depB (d : Int) : Int := if 0 ≤ d ∧ d ≤ 16 then d else 0
theorem depB_bd (d : Int) : 0 ≤ depB d ∧ depB d ≤ 16 := by unfold depB; split <;> omega
def clearOk (d c t : Int) (xs : List Int) : Bool :=
  if c = 3 then decide ((xs.length : Int) ≤ t) && xs.all (inB 255)
  else if xs.length = 0 then true
  else if c = 0 then decide (xs.length = 1) && xs.all (inB (p2 (depB d) - 1))
  else if c = 2 then decide (xs.length = 3) && xs.all (inB (p2 (depB d) - 1)) else false

theorem str_append (xs ys : List Int) : strOfNums xs ++ strOfNums ys = strOfNums (xs ++ ys) := by
  apply ByteArray.ext
  apply Array.ext'
  rw [ByteArray.data_append, Array.toList_append, strOfNums_data, strOfNums_data, strOfNums_data, List.map_append]
theorem str_nil : (⟨#[]⟩ : ByteArray) = strOfNums [] := rfl
theorem str_size (xs : List Int) : (strOfNums xs).size = xs.length := strOfNums_size xs

/-- A number in so many bytes, the highest first. -/
def bigB (n : Int) : Nat → List Int
  | 0 => []
  | s + 1 => bigB (n / 256) s ++ [n % 256]
theorem bigB_len (s : Nat) : ∀ n, (bigB n s).length = s := by
  induction s with
  | zero => intro n; rfl
  | succ s ih => intro n; simp [bigB, ih]
theorem bigB_cons (s : Nat) : ∀ n : Int, bigB n (s + 1) = (n / 256 ^ s % 256) :: bigB n s := by
  induction s with
  | zero => intro n; simp [bigB]
  | succ s ih =>
    intro n
    have e : n / 256 / 256 ^ s = n / 256 ^ (s + 1) := by
      rw [Int.ediv_ediv_of_nonneg (by decide), Int.pow_succ, Int.mul_comm]
    calc bigB n (s + 1 + 1) = bigB (n / 256) (s + 1) ++ [n % 256] := rfl
      _ = (n / 256 ^ (s + 1) % 256) :: (bigB (n / 256) s ++ [n % 256]) := by rw [ih, e]; rfl
      _ = _ := rfl

def clearSz (c : Int) : Nat := if c = 3 then 1 else 2
def clearBytes (c : Int) (xs : List Int) : List Int := xs.flatMap fun x => bigB x (clearSz c)
def clearText (w h d c t : Int) (xs : List Int) : ByteArray × Bool := if decide (xs.length ≠ 0) && headB w h d c && clearOk d c t xs then (strOfNums (clearBytes c xs), true) else (⟨#[]⟩, false)
theorem clearBytes_take (c : Int) (xs : List Int) (i : Nat) (h : i < xs.length) : clearBytes c (xs.take (i + 1)) = clearBytes c (xs.take i) ++ bigB xs[i] (clearSz c) := by
  unfold clearBytes
  rw [List.take_succ_eq_append_getElem h, List.flatMap_append]; simp
theorem clearBytes_len (c : Int) (xs : List Int) : (clearBytes c xs).length ≤ 2 * xs.length := by
  have hs : clearSz c ≤ 2 := by unfold clearSz; split <;> omega
  unfold clearBytes
  induction xs with
  | nil => simp
  | cons x xs ih => simp only [List.flatMap_cons, List.length_append, List.length_cons, bigB_len]; omega
/-- What is clear is told in so many bytes. -/
theorem clearOk_bd {d c t : Int} {xs : List Int} (h : clearOk d c t xs = true) (hl : xs.length ≠ 0) : ∀ x ∈ xs, 0 ≤ x ∧ x ≤ 65535 ∧ (c = 3 → x ≤ 255) := by
  have b := depB_bd d
  have p := p2_16 b.2
  intro x hx
  unfold clearOk at h
  split at h
  · rename_i h3
    simp only [Bool.and_eq_true] at h
    have := List.all_eq_true.1 h.2 x hx
    simp [inB] at this
    omega
  · rename_i h3
    try rw [if_neg hl] at h
    split at h
    · simp only [Bool.and_eq_true] at h
      have := List.all_eq_true.1 h.2 x hx
      simp [inB] at this
      exact ⟨this.1, by omega, fun e => absurd e h3⟩
    · split at h
      · simp only [Bool.and_eq_true] at h
        have := List.all_eq_true.1 h.2 x hx
        simp [inB] at this
        exact ⟨this.1, by omega, fun e => absurd e h3⟩
      · cases h

theorem spec_l01In_eq (a b c : Int) : spec_l01In.f a b c = some (decide (b ≤ a) && decide (a ≤ c)) := by
  unfold spec_l01In.f
  by_cases h : b ≤ a <;> simp [h]

theorem spec_l12Side_eq (n : Int) : spec_l12Side.f n = some (sideB n) := by simp [spec_l12Side.f, spec_l01In_eq, sideB]

theorem spec_HeadOk_eq (k : Nat) (hk : 1 ≤ k) (w h d c : Int) (l : Bool) : spec_HeadOk.f k w h d c l = some (headB w h d c) := by
  unfold spec_HeadOk.f headB
  simp only [spec_l12Side_eq, spec_DepthOk_eq k hk, Option.bind_some]
  cases sideB w <;> cases sideB h <;> simp

theorem spec_l01Pow_l0 (n : Int) (h62 : n ≤ 62) (d : Nat) : ∀ (k : Nat) (i : Int), 0 ≤ i → i ≤ n → n - i = d → d < k → spec_l01Pow.l0 k n (p2 i) i = some (p2 n) := by
  induction d with
  | zero =>
    intro k i h0 h1 hd hk
    obtain ⟨k, rfl⟩ : ∃ m, k = m + 1 := ⟨k - 1, by omega⟩
    obtain rfl : i = n := by omega
    simp only [spec_l01Pow.l0]
    rw [if_neg (by omega)]
  | succ d ih =>
    intro k i h0 h1 hd hk
    obtain ⟨k, rfl⟩ : ∃ m, k = m + 1 := ⟨k - 1, by omega⟩
    have b1 := p2_pos (i + 1)
    have b2 := p2_62 (n := i + 1) (by omega)
    have e := p2_succ i h0
    simp only [spec_l01Pow.l0]
    rw [if_pos (by omega), ← e, w64 (x := p2 (i + 1)) (by omega) (by omega), w64 (x := i + 1) (by omega) (by omega)]
    exact ih k (i + 1) (by omega) (by omega) (by omega) (by omega)
theorem spec_l01Pow_eq (k : Nat) (n : Int) (h62 : n ≤ 62) (hk : 64 ≤ k) : spec_l01Pow.f k n = some (p2 n) := by
  unfold spec_l01Pow.f
  by_cases h0 : 0 ≤ n
  · exact spec_l01Pow_l0 n h62 n.toNat k 0 (by omega) h0 (by omega) (by omega)
  · obtain ⟨k, rfl⟩ : ∃ m, k = m + 1 := ⟨k - 1, by omega⟩
    simp only [spec_l01Pow.l0]
    rw [if_neg (by omega)]
    have : n.toNat = 0 := by omega
    unfold p2; rw [this]; rfl

theorem spec_l17Depth_eq (w h d c : Int) (l : Bool) : spec_l17Depth.f w h d c l = some (depB d) := by
  unfold spec_l17Depth.f depB
  rw [spec_l01In_eq]
  simp only [Option.bind_some]
  by_cases h0 : 0 ≤ d <;> by_cases h1 : d ≤ 16 <;> simp [h0, h1]
theorem spec_ClearOk_l0 (m n : Int) (xs : List Int) (hx : xs.length ≤ 9223372036854775807) (d : Nat) : ∀ (k i : Nat), i ≤ xs.length → xs.length - i = d → d < k → spec_ClearOk.l0 k xs m n i = some ((xs.drop i).all (inB m) && decide ((xs.length : Int) = n)) := by
  induction d with
  | zero =>
    intro k i hi hd hk
    obtain ⟨k, rfl⟩ : ∃ m, k = m + 1 := ⟨k - 1, by omega⟩
    simp only [spec_ClearOk.l0]
    rw [if_neg (by omega), drop_all_end _ _ _ (by omega)]
    simp [Bool.beq_eq_decide_eq]
  | succ d ih =>
    intro k i hi hd hk
    obtain ⟨k, rfl⟩ : ∃ m, k = m + 1 := ⟨k - 1, by omega⟩
    have lt : i < xs.length := by omega
    simp only [spec_ClearOk.l0, spec_l01In_eq, Option.bind_some]
    rw [if_pos (by omega), if_pos (by omega), rd_at xs i lt, w64 (by omega) (by omega), drop_all _ _ _ lt]
    have step := ih k (i + 1) (by omega) (by omega) (by omega)
    push_cast at step
    rw [step]
    unfold inB
    cases (decide (0 ≤ xs[i]) && decide (xs[i] ≤ m)) <;> simp
theorem spec_ClearOk_j0 (m n : Int) (xs : List Int) (hx : xs.length ≤ 9223372036854775807) (k : Nat) (hk : xs.length + 1 < k) : spec_ClearOk.j0 k xs m n = some (decide (xs.length = 0) || (xs.all (inB m) && decide ((xs.length : Int) = n))) := by
  obtain ⟨k, rfl⟩ : ∃ m, k = m + 1 := ⟨k - 1, by omega⟩
  simp only [spec_ClearOk.j0]
  have R := spec_ClearOk_l0 m n xs hx xs.length k 0 (by omega) (by omega) (by omega)
  by_cases h : xs.length = 0
  · rw [if_pos (by omega)]; simp [h]
  · rw [if_neg (by omega)]
    simpa [h] using R
theorem spec_ClearOk_eq (w h d c : Int) (l : Bool) (t : Int) (xs : List Int) (hx : xs.length ≤ 9223372036854775807) (k : Nat) (hk : xs.length + 70 < k) : spec_ClearOk.f k w h d c l t xs = some (clearOk d c t xs) := by
  have b := depB_bd d
  have b1 := p2_pos (depB d)
  have b2 := p2_16 b.2
  unfold spec_ClearOk.f clearOk
  simp only [spec_l17Depth_eq, spec_l01Pow_eq k (depB d) (by omega) (by omega), Option.bind_some]
  rw [w64 (x := p2 (depB d) - 1) (by omega) (by omega)]
  simp only [spec_ClearOk_j0 _ _ xs hx k (by omega)]
  by_cases h0 : c = 0
  · subst h0
    simp only [if_true, show ¬ ((0 : Int) = 3) by decide, if_false]
    by_cases hl : xs.length = 0
    · simp [hl]
    · have e : decide ((xs.length : Int) = 1) = decide (xs.length = 1) := by rw [decide_eq_decide]; omega
      rw [e]
      simp [hl, Bool.and_comm]
  · by_cases h2 : c = 2
    · subst h2
      simp only [if_true, show ¬ ((2 : Int) = 3) by decide, show ¬ ((2 : Int) = 0) by decide, if_false]
      by_cases hl : xs.length = 0
      · simp [hl]
      · have e : decide ((xs.length : Int) = 3) = decide (xs.length = 3) := by rw [decide_eq_decide]; omega
        rw [e]
        simp [hl, Bool.and_comm]
    · by_cases h3 : c = 3
      · subst h3
        simp only [if_true, show ¬ ((3 : Int) = 2) by decide, show ¬ ((3 : Int) = 0) by decide, if_false]
        by_cases hl : xs.length = 0
        · have : xs = [] := List.eq_nil_of_length_eq_zero hl
          subst this
          by_cases ht : (0 : Int) ≤ t
          · rw [if_neg (by simp; omega)]; simp [ht]
          · rw [if_pos (by simp; omega)]; simp [ht]
        · by_cases ht : (xs.length : Int) ≤ t
          · rw [if_neg (by omega)]; simp [ht, hl]
          · rw [if_pos (by omega)]; simp [ht]
      · simp only [h0, h2, h3, if_false]
        by_cases hl : xs.length = 0
        · simp [hl]
        · have e : decide ((xs.length : Int) = 0) = false := by simp; exact fun h => hl (by simp [h])
          rw [e]; simp [hl]

theorem spec_l01Big_l0 (size : Nat) (hs : size ≤ 1000) (r : Nat) : ∀ (k i : Nat) (n : Int) (s : List Int), 0 ≤ n → n ≤ 9223372036854775807 → i + r = size → r < k → s.length = i → spec_l01Big.l0 k n size (strOfNums s) i = some (strOfNums (bigB n r ++ s)) := by
  induction r with
  | zero =>
    intro k i n s h0 h1 hi hk hl
    obtain ⟨k, rfl⟩ : ∃ m, k = m + 1 := ⟨k - 1, by omega⟩
    simp only [spec_l01Big.l0]
    rw [if_neg (by omega)]
    rfl
  | succ r ih =>
    intro k i n s h0 h1 hi hk hl
    obtain ⟨k, rfl⟩ : ∃ m, k = m + 1 := ⟨k - 1, by omega⟩
    simp only [spec_l01Big.l0, Option.bind_some]
    rw [if_pos (by omega), str_size, str_size, if_pos (by simp; omega), str_append, Int.tmod_eq_emod_of_nonneg h0, Int.tdiv_eq_ediv_of_nonneg h0, w64 (x := n / 256) (by omega) (by omega), w64 (x := (i : Int) + 1) (by omega) (by omega)]
    have step := ih k (i + 1) (n / 256) ([n % 256 % 256] ++ s) (by omega) (by omega) (by omega) (by omega) (by simp; omega)
    push_cast at step
    rw [step, show n % 256 % 256 = n % 256 by omega]
    simp [bigB]
theorem spec_l01Big_eq (size : Nat) (hs : size ≤ 1000) (n : Int) (h0 : 0 ≤ n) (h1 : n ≤ 9223372036854775807) (k : Nat) (hk : size < k) : spec_l01Big.f k n size = some (strOfNums (bigB n size)) := by
  unfold spec_l01Big.f
  have R := spec_l01Big_l0 size hs size k 0 n [] h0 h1 (by omega) hk rfl
  rw [List.append_nil] at R
  exact R

theorem spec_ClearText_l0 (c : Int) (xs : List Int) (hx : xs.length ≤ 1048576) (hb : ∀ x ∈ xs, 0 ≤ x ∧ x ≤ 65535) (d : Nat) : ∀ (k i : Nat), i ≤ xs.length → xs.length - i = d → d + 5 < k → spec_ClearText.l0 k xs (clearSz c) (strOfNums (clearBytes c (xs.take i))) i = some (strOfNums (clearBytes c xs), true) := by
  have hs : clearSz c ≤ 2 := by unfold clearSz; split <;> omega
  induction d with
  | zero =>
    intro k i hi hd hk
    obtain ⟨k, rfl⟩ : ∃ m, k = m + 1 := ⟨k - 1, by omega⟩
    obtain rfl : i = xs.length := by omega
    simp only [spec_ClearText.l0]
    rw [if_neg (by omega), List.take_length]
  | succ d ih =>
    intro k i hi hd hk
    obtain ⟨k, rfl⟩ : ∃ m, k = m + 1 := ⟨k - 1, by omega⟩
    have lt : i < xs.length := by omega
    have b := hb _ (List.getElem_mem lt)
    have ln := clearBytes_len c (xs.take i)
    rw [List.length_take] at ln
    have st := ih k (i + 1) (by omega) (by omega) (by omega)
    rw [clearBytes_take c xs i lt] at st
    push_cast at st
    simp only [spec_ClearText.l0]
    rw [if_pos (by omega), if_pos (by omega), rd_at xs i lt, spec_l01Big_eq (clearSz c) (by omega) _ b.1 (by omega) k (by omega)]
    simp only [Option.bind_some]
    rw [str_size, str_size, bigB_len, if_pos (by omega), str_append, w64 (by omega) (by omega)]
    exact st
theorem spec_ClearText_eq (w h d c : Int) (l : Bool) (t : Int) (xs : List Int) (hx : xs.length ≤ 1048576) (k : Nat) (hk : xs.length + 80 < k) : spec_ClearText.f k w h d c l t xs = some (clearText w h d c t xs) := by
  obtain ⟨k, rfl⟩ : ∃ m, k = m + 2 := ⟨k - 2, by omega⟩
  have no : spec_ClearText.j0 (k + 2) xs true w h d c l = some (⟨#[]⟩, false) := by simp [spec_ClearText.j0]
  unfold spec_ClearText.f clearText
  rw [spec_HeadOk_eq _ (by omega), no]
  simp only [Option.bind_some]
  by_cases hh : headB w h d c = true
  · rw [if_pos hh, hh]
    by_cases hl : xs.length = 0
    · rw [if_pos (by omega)]; simp [hl]
    · rw [if_neg (by omega), spec_ClearOk_eq w h d c l t xs (by omega) _ (by omega)]
      simp only [Option.bind_some]
      by_cases hc : clearOk d c t xs = true
      · have bd := clearOk_bd hc hl
        rw [hc]
        simp only [spec_ClearText.j0, spec_ClearText.j1, Bool.not_true]
        rw [if_neg (by decide)]
        have R := spec_ClearText_l0 c xs hx (fun x hm => ⟨(bd x hm).1, (bd x hm).2.1⟩) xs.length k 0 (by omega) (by omega) (by omega)
        rw [show strOfNums (clearBytes c (xs.take 0)) = ⟨#[]⟩ by simp [clearBytes]; rfl] at R
        unfold clearSz at R
        by_cases h3 : c = 3
        · rw [if_pos h3]
          simp only [h3, if_true] at R
          simpa [h3, hl] using R
        · rw [if_neg h3]
          simp only [h3, if_false] at R
          simpa [hl] using R
      · have : clearOk d c t xs = false := by simpa using hc
        rw [this, Bool.not_false, no]
        simp
  · rw [if_neg hh]; simp [hh]

theorem impl_within_eq (a b c : Int) : impl_within.f a b c = some (decide (b ≤ a) && decide (a ≤ c)) := by
  unfold impl_within.f
  by_cases h : b ≤ a <;> simp [h]

theorem impl_isSide_eq (n : Int) : impl_isSide.f n = some (sideB n) := by simp [impl_isSide.f, impl_within_eq, sideB]

def chan (c : Int) : Int := if c = 0 then 1 else if c = 3 then 1 else if c = 2 then 3 else if c = 4 then 2 else if c = 6 then 4 else 0

theorem impl_ChannelsOf_eq (k : Nat) (hk : 1 ≤ k) (c : Int) : impl_ChannelsOf.f k c = some (chan c) := by
  obtain ⟨k, rfl⟩ : ∃ m, k = m + 1 := ⟨k - 1, by omega⟩
  simp only [impl_ChannelsOf.f, impl_ChannelsOf.j0, chan]
  by_cases h0 : c = 0
  · simp [h0]
  · by_cases h3 : c = 3
    · simp [h3]
    · by_cases h2 : c = 2
      · simp [h2]
      · by_cases h4 : c = 4
        · simp [h4]
        · simp [h0, h3, h2, h4]; repeat (first | split | rfl)

theorem impl_isDepth_eq (d : Int) : impl_isDepth.f d = some (smallD d || bigD d) := by
  simp only [impl_isDepth.f, smallD, bigD]
  by_cases h1 : d = 1
  · simp [h1]
  by_cases h2 : d = 2
  · simp [h2]
  by_cases h4 : d = 4
  · simp [h4]
  by_cases h8 : d = 8
  · simp [h8]
  · have e1 : (d == 1) = false := by simpa using h1
    have e2 : (d == 2) = false := by simpa using h2
    have e4 : (d == 4) = false := by simpa using h4
    have e8 : (d == 8) = false := by simpa using h8
    simp only [h1, h2, h4, h8, e1, e2, e4, e8, if_false, Bool.false_or]

theorem impl_DepthOk_eq (k : Nat) (hk : 1 ≤ k) (c d : Int) : impl_DepthOk.f k c d = some (dok c d) := by
  have h8 : (if d = 8 then some true else some (d == 16)) = some (bigD d) := by unfold bigD; by_cases h : d = 8 <;> simp [h]
  simp only [impl_DepthOk.f, impl_isDepth_eq, impl_ChannelsOf_eq k hk, Option.bind_some, dok, h8]
  by_cases h0 : c = 0
  · simp [h0]
  by_cases h3 : c = 3
  · subst h3
    simp only [show ¬ ((3 : Int) = 0) by decide, if_true, if_false]
    unfold smallD bigD
    by_cases h1 : d = 1
    · simp [h1]
    by_cases h2 : d = 2
    · simp [h2]
    by_cases h4 : d = 4
    · simp [h4]
    by_cases h8 : d = 8
    · simp [h8]
    by_cases h16 : d = 16
    · simp [h16]
    · simp [h1, h2, h4, h8, h16]
  · simp only [h0, h3, chan, if_false]
    by_cases h2 : c = 2
    · simp [h2]
    by_cases h4 : c = 4
    · simp [h4]
    by_cases h6 : c = 6
    · simp [h6]
    · simp [h2, h4, h6]

theorem impl_HeadOk_eq (k : Nat) (hk : 1 ≤ k) (w h d c : Int) (l : Bool) : impl_HeadOk.f k w h d c l = some (headB w h d c) := by
  unfold impl_HeadOk.f headB
  simp only [impl_isSide_eq, impl_DepthOk_eq k hk, Option.bind_some]
  cases sideB w <;> cases sideB h <;> simp

theorem shl_one (n : Int) (h0 : 0 ≤ n) (h62 : n ≤ 62) : shl .i64 1 n = p2 n := by
  have b1 := p2_pos n
  have b2 := p2_62 h62
  unfold shl
  rw [show min n.toNat IntKind.i64.bits = n.toNat by simp [IntKind.bits]; omega, Int.one_mul, IntKind.wrap_i64]
  show (p2 n + 9223372036854775808) % 18446744073709551616 - 9223372036854775808 = p2 n
  omega
theorem impl_powerOf_eq (n : Int) : impl_powerOf.f n = some (if 0 ≤ n ∧ n ≤ 62 then p2 n else 0) := by
  unfold impl_powerOf.f
  rw [impl_within_eq]
  simp only [Option.bind_some]
  by_cases h0 : 0 ≤ n
  · by_cases h1 : n ≤ 62
    · simp [h0, h1, shl_one n h0 h1]
    · simp [h0, h1]
  · simp [h0]

theorem impl_samplesOk_l0 (n : Int) (h0 : 0 ≤ n) (h1 : n ≤ 62) (xs : List Int) (hx : xs.length ≤ 9223372036854775807) (d : Nat) : ∀ (k i : Nat), i ≤ xs.length → xs.length - i = d → d < k → impl_samplesOk.l0 k n xs xs.length i = some ((xs.drop i).all (inB (p2 n - 1))) := by
  induction d with
  | zero =>
    intro k i hi hd hk
    obtain ⟨k, rfl⟩ : ∃ m, k = m + 1 := ⟨k - 1, by omega⟩
    simp only [impl_samplesOk.l0]
    rw [if_neg (by omega), drop_all_end _ _ _ (by omega)]
  | succ d ih =>
    intro k i hi hd hk
    obtain ⟨k, rfl⟩ : ∃ m, k = m + 1 := ⟨k - 1, by omega⟩
    have lt : i < xs.length := by omega
    have b1 := p2_pos n
    have b2 := p2_62 h1
    simp only [impl_samplesOk.l0, impl_powerOf_eq, Option.bind_some]
    rw [if_pos (by omega), if_pos (by omega), if_pos (by omega), if_pos ⟨h0, h1⟩, w64 (x := p2 n - 1) (by omega) (by omega), impl_within_eq, rd_at xs i lt, w64 (by omega) (by omega), drop_all _ _ _ lt]
    simp only [Option.bind_some]
    have step := ih k (i + 1) (by omega) (by omega) (by omega)
    push_cast at step
    rw [step]
    unfold inB
    cases (decide (0 ≤ xs[i]) && decide (xs[i] ≤ p2 n - 1)) <;> simp
theorem impl_samplesOk_eq (n : Int) (h0 : 0 ≤ n) (h1 : n ≤ 62) (xs : List Int) (hx : xs.length ≤ 9223372036854775807) (k : Nat) (hk : xs.length < k) : impl_samplesOk.f k xs n = some (xs.all (inB (p2 n - 1))) := by
  unfold impl_samplesOk.f
  have := impl_samplesOk_l0 n h0 h1 xs hx xs.length k 0 (by omega) (by omega) hk
  simpa using this

theorem impl_ClearOk_j0 (t : Int) (xs : List Int) (hx : xs.length ≤ 9223372036854775807) (hl : xs.length ≠ 0) (w h d c : Int) (l : Bool) (k : Nat) (hk : xs.length + 1 < k) : impl_ClearOk.j0 k t xs (depB d) w h d c l = some (clearOk d c t xs) := by
  obtain ⟨k, rfl⟩ : ∃ m, k = m + 1 := ⟨k - 1, by omega⟩
  have b := depB_bd d
  simp only [impl_ClearOk.j0, clearOk]
  rw [impl_samplesOk_eq (depB d) b.1 (by omega) xs hx k (by omega), impl_samplesOk_eq 8 (by omega) (by omega) xs hx k (by omega)]
  simp only [Option.bind_some, hl, if_false, show p2 8 - 1 = 255 from rfl]
  by_cases h0 : c = 0
  · subst h0
    simp only [if_true, show ¬ ((0 : Int) = 3) by decide, if_false]
    by_cases h1 : xs.length = 1
    · rw [if_pos (by omega)]; simp [h1]
    · rw [if_neg (by omega)]; simp [h1]
  · by_cases h2 : c = 2
    · subst h2
      simp only [if_true, show ¬ ((2 : Int) = 3) by decide, show ¬ ((2 : Int) = 0) by decide, if_false]
      by_cases h1 : xs.length = 3
      · rw [if_pos (by omega)]; simp [h1]
      · rw [if_neg (by omega)]; simp [h1]
    · by_cases h3 : c = 3
      · subst h3
        simp only [if_true, show ¬ ((3 : Int) = 2) by decide, show ¬ ((3 : Int) = 0) by decide, if_false]
        by_cases ht : (xs.length : Int) ≤ t
        · rw [if_pos ht]; simp [ht]
        · rw [if_neg ht]; simp [ht]
      · simp only [h0, h2, h3, if_false]
theorem impl_ClearOk_eq (w h d c : Int) (l : Bool) (t : Int) (xs : List Int) (hx : xs.length ≤ 9223372036854775807) (k : Nat) (hk : xs.length + 1 < k) : impl_ClearOk.f k w h d c l t xs = some (clearOk d c t xs) := by
  unfold impl_ClearOk.f
  by_cases hl : xs.length = 0
  · have e0 : xs = [] := List.eq_nil_of_length_eq_zero hl
    subst e0
    rw [if_pos (by simp)]
    unfold clearOk
    by_cases h3 : c = 3
    · simp [h3]
    · simp [h3]
  · rw [if_neg (by omega), impl_within_eq]
    simp only [Option.bind_some]
    have e := impl_ClearOk_j0 t xs hx hl w h d c l k hk
    by_cases hd : 0 ≤ d ∧ d ≤ 16
    · rw [if_pos (by simp; omega)]
      rw [show depB d = d from if_pos hd] at e
      exact e
    · rw [if_neg (by simp; omega)]
      rw [show depB d = 0 from if_neg hd] at e
      exact e

theorem shr_bytes (n : Int) (i : Nat) (hi : i ≤ 7) : shr .i64 n (8 * (i : Int)) = n / 256 ^ i := by
  unfold shr
  rw [show min (8 * (i : Int)).toNat IntKind.i64.bits = 8 * i by simp [IntKind.bits]; omega, Int.pow_mul]
  rfl
theorem impl_BigText_l0 (n : Int) (r : Nat) : ∀ (k : Nat) (s : List Int), r ≤ 4 → r < k → s.length + r ≤ 4 → impl_BigText.l0 k n s ((r : Int) - 1) = some (strOfNums (s ++ bigB n r), true) := by
  induction r with
  | zero =>
    intro k s hr hk hs
    obtain ⟨k, rfl⟩ : ∃ m, k = m + 1 := ⟨k - 1, by omega⟩
    simp only [impl_BigText.l0]
    rw [if_neg (by omega)]
    simp [bigB]
  | succ r ih =>
    intro k s hr hk hs
    obtain ⟨k, rfl⟩ : ∃ m, k = m + 1 := ⟨k - 1, by omega⟩
    have e : (((r + 1 : Nat) : Int) - 1) = r := by omega
    rw [e]
    simp only [impl_BigText.l0]
    rw [w64 (x := 8 * (r : Int)) (by omega) (by omega), if_pos (by omega), if_pos (by omega), if_pos (by omega), shr_bytes n r (by omega), w64 (x := (r : Int) - 1) (by omega) (by omega)]
    rw [ih k _ (by omega) (by omega) (by simp; omega), bigB_cons]
    simp
theorem impl_BigText_eq (n size : Int) (k : Nat) (hk : 6 ≤ k) : impl_BigText.f k n size = some (if 1 ≤ size ∧ size ≤ 4 ∧ 0 ≤ n ∧ n ≤ p2 (8 * size) - 1 then (strOfNums (bigB n size.toNat), true) else (⟨#[]⟩, false)) := by
  obtain ⟨k, rfl⟩ : ∃ m, k = m + 1 := ⟨k - 1, by omega⟩
  unfold impl_BigText.f
  simp only [impl_within_eq, impl_powerOf_eq, Option.bind_some]
  by_cases h : 1 ≤ size ∧ size ≤ 4
  · have b1 := p2_pos (8 * size)
    have b2 := p2_62 (n := 8 * size) (by omega)
    rw [if_pos (by simp; omega), w64 (x := 8 * size) (by omega) (by omega), if_pos (by omega), w64 (x := p2 (8 * size) - 1) (by omega) (by omega)]
    simp only [impl_BigText.j0]
    by_cases hn : 0 ≤ n ∧ n ≤ p2 (8 * size) - 1
    · obtain ⟨m, rfl⟩ := Int.eq_ofNat_of_zero_le (show 0 ≤ size by omega)
      rw [if_neg (by simp; omega), if_pos (by omega), w64 (by omega) (by omega), impl_BigText_l0 n m k [] (by omega) (by omega) (by simp; omega)]
      rfl
    · rw [if_pos (by simp; omega), if_neg (by omega)]
  · rw [if_neg (by simp; omega), if_neg (by omega)]
    simp [impl_BigText.j0]

theorem impl_clearSize_eq (w h d c : Int) (l : Bool) : impl_clearSize.f w h d c l = some ((clearSz c : Nat) : Int) := by
  unfold impl_clearSize.f clearSz
  split <;> rfl
theorem impl_BigText_clear (c x : Int) (h : 0 ≤ x ∧ x ≤ 65535 ∧ (c = 3 → x ≤ 255)) (k : Nat) (hk : 6 ≤ k) : impl_BigText.f k x (clearSz c : Nat) = some (strOfNums (bigB x (clearSz c)), true) := by
  rw [impl_BigText_eq _ _ k hk, if_pos]
  · simp
  · unfold clearSz
    by_cases h3 : c = 3
    · rw [if_pos h3]
      have := h.2.2 h3
      exact ⟨by omega, by omega, h.1, by show x ≤ 255; omega⟩
    · rw [if_neg h3]
      exact ⟨by omega, by omega, h.1, by show x ≤ 65535; omega⟩
theorem impl_ClearText_l0 (w h d c : Int) (l : Bool) (xs : List Int) (hx : xs.length ≤ 1048576) (hb : ∀ x ∈ xs, 0 ≤ x ∧ x ≤ 65535 ∧ (c = 3 → x ≤ 255)) (n : Nat) : ∀ (k i : Nat), i ≤ xs.length → xs.length - i = n → n + 10 < k → impl_ClearText.l0 k (strOfNums (clearBytes c (xs.take i))) xs xs.length i w h d c l = some (strOfNums (clearBytes c xs), true) := by
  have hs : clearSz c ≤ 2 := by unfold clearSz; split <;> omega
  induction n with
  | zero =>
    intro k i hi hd hk
    obtain ⟨k, rfl⟩ : ∃ m, k = m + 1 := ⟨k - 1, by omega⟩
    obtain rfl : i = xs.length := by omega
    simp only [impl_ClearText.l0]
    rw [if_neg (by omega), List.take_length]
  | succ n ih =>
    intro k i hi hd hk
    obtain ⟨k, rfl⟩ : ∃ m, k = m + 1 := ⟨k - 1, by omega⟩
    have lt : i < xs.length := by omega
    have b := hb _ (List.getElem_mem lt)
    have ln := clearBytes_len c (xs.take i)
    rw [List.length_take] at ln
    have st := ih k (i + 1) (by omega) (by omega) (by omega)
    rw [clearBytes_take c xs i lt] at st
    push_cast at st
    simp only [impl_ClearText.l0, impl_clearSize_eq, Option.bind_some]
    rw [if_pos (by omega), if_pos (by omega), if_pos (by omega), rd_at xs i lt, impl_BigText_clear c _ b k (by omega)]
    simp only [Option.bind_some]
    rw [str_size, str_size, bigB_len, if_pos (by omega), str_append, w64 (by omega) (by omega)]
    exact st
theorem impl_ClearText_eq (w h d c : Int) (l : Bool) (t : Int) (xs : List Int) (hx : xs.length ≤ 1048576) (k : Nat) (hk : xs.length + 80 < k) : impl_ClearText.f k w h d c l t xs = some (clearText w h d c t xs) := by
  obtain ⟨k, rfl⟩ : ∃ m, k = m + 1 := ⟨k - 1, by omega⟩
  have no : impl_ClearText.j0 (k + 1) xs true w h d c l = some (⟨#[]⟩, false) := by simp [impl_ClearText.j0]
  unfold impl_ClearText.f clearText
  rw [impl_HeadOk_eq _ (by omega), no]
  simp only [Option.bind_some]
  by_cases hl : xs.length = 0
  · rw [if_pos (by omega)]; simp [hl]
  · rw [if_neg (by omega)]
    by_cases hh : headB w h d c = true
    · rw [if_pos hh, hh, impl_ClearOk_eq w h d c l t xs (by omega) _ (by omega)]
      simp only [Option.bind_some]
      by_cases hc : clearOk d c t xs = true
      · have bd := clearOk_bd hc hl
        rw [hc]
        simp only [impl_ClearText.j0, Bool.not_true]
        rw [if_neg (by decide)]
        have R := impl_ClearText_l0 w h d c l xs hx bd xs.length k 0 (by omega) (by omega) (by omega)
        rw [show strOfNums (clearBytes c (xs.take 0)) = ⟨#[]⟩ by simp [clearBytes]; rfl] at R
        simpa [hl] using R
      · have : clearOk d c t xs = false := by simpa using hc
        rw [this, Bool.not_false, no]
        simp
    · rw [if_neg hh]; simp [hh]

theorem laws_toIntS_l0 (xs : List Int) (hx : xs.length ≤ 9223372036854775807) (d : Nat) : ∀ (k i : Nat) (ys : List Int), i ≤ xs.length → xs.length - i = d → d < k → ys.length = xs.length → (∀ j : Nat, j < i → ys[j]? = xs[j]?) → laws_toIntS.l0 k xs ys i = some xs := by
  induction d with
  | zero =>
    intro k i ys hi hd hk hl hy
    obtain ⟨k, rfl⟩ : ∃ m, k = m + 1 := ⟨k - 1, by omega⟩
    simp only [laws_toIntS.l0]
    rw [if_neg (by omega)]
    congr 1
    apply List.ext_getElem?
    intro j
    by_cases hj : j < i
    · exact hy j hj
    · rw [List.getElem?_eq_none (by omega), List.getElem?_eq_none (by omega)]
  | succ d ih =>
    intro k i ys hi hd hk hl hy
    obtain ⟨k, rfl⟩ : ∃ m, k = m + 1 := ⟨k - 1, by omega⟩
    have lt : i < xs.length := by omega
    simp only [laws_toIntS.l0]
    rw [if_pos (by omega), if_pos (by omega), if_pos (by omega), rd_at xs i lt, w64 (by omega) (by omega), Int.toNat_natCast]
    refine ih k (i + 1) (ys.set i xs[i]) (by omega) (by omega) (by omega) (by simpa using hl) (fun j hj => ?_)
    by_cases e : j = i
    · subst e
      rw [List.getElem?_set_self (by omega), List.getElem?_eq_getElem lt]
    · rw [List.getElem?_set_ne (by omega), hy j (by omega)]
theorem laws_toIntS_eq (xs : List Int) (hx : xs.length ≤ 1048576) (k : Nat) (hk : xs.length < k) : laws_toIntS.f k xs = some xs := by
  unfold laws_toIntS.f
  rw [if_pos (by omega), if_pos (by omega), Int.toNat_natCast]
  exact laws_toIntS_l0 xs (by omega) xs.length k 0 _ (by omega) (by omega) hk (by simp) (fun j hj => absurd hj (by omega))

theorem laws_eqIntS_l0 (xs : List Int) (hx : xs.length ≤ 9223372036854775807) (d : Nat) : ∀ (k i : Nat), i ≤ xs.length → xs.length - i = d → d < k → laws_eqIntS.l0 k xs xs i = some true := by
  induction d with
  | zero =>
    intro k i hi hd hk
    obtain ⟨k, rfl⟩ : ∃ m, k = m + 1 := ⟨k - 1, by omega⟩
    simp only [laws_eqIntS.l0]
    rw [if_neg (by omega)]
  | succ d ih =>
    intro k i hi hd hk
    obtain ⟨k, rfl⟩ : ∃ m, k = m + 1 := ⟨k - 1, by omega⟩
    simp only [laws_eqIntS.l0]
    rw [if_pos (by omega), if_pos (by omega), if_pos (by omega)]
    simp only [if_true]
    rw [w64 (by omega) (by omega)]
    exact ih k (i + 1) (by omega) (by omega) (by omega)
theorem laws_eqIntS_refl (xs : List Int) (hx : xs.length ≤ 9223372036854775807) (k : Nat) (hk : xs.length < k) : laws_eqIntS.f k xs xs = some true := by
  unfold laws_eqIntS.f
  rw [if_pos rfl]
  exact laws_eqIntS_l0 xs hx xs.length k 0 (by omega) (by omega) hk

theorem FnExactClearText (w h d c : Int) (l : Bool) (t : Int) (xs : List Int) (_ : (Lit.int .i64 w).wf = true) (_ : (Lit.int .i64 h).wf = true) (_ : (Lit.int .i64 d).wf = true) (_ : (Lit.int .i64 c).wf = true) (_ : (Lit.int .i64 t).wf = true) (hx : xs.length ≤ 9223372036854775807) (_ : ∀ x ∈ xs, (Lit.int .i64 x).wf = true) : ∃ k, laws_FnExactClearText.f k w h d c l t xs = some true := by
  obtain ⟨k, hk⟩ : ∃ k : Nat, k = 5000000 := ⟨_, rfl⟩
  refine ⟨k + 1, ?_⟩
  unfold laws_FnExactClearText.f
  by_cases hl : (xs.length : Int) > 1048576
  · rw [if_pos hl]
  · rw [if_neg hl]
    simp only [laws_toHead.f, Option.bind_some]
    rw [laws_toIntS_eq xs (by omega) _ (by omega)]
    simp only [Option.bind_some]
    rw [spec_ClearText_eq w h d c l t xs (by omega) _ (by omega), impl_ClearText_eq w h d c l t xs (by omega) _ (by omega)]
    simp only [Option.bind_some, if_true, laws_FnExactClearText.j0]
    rw [if_neg (by simp), laws_toIntS_eq xs (by omega) _ (by omega)]
    simp only [Option.bind_some]
    rw [laws_eqIntS_refl xs hx _ (by omega)]
    simp

end Go.Proofs.Ytefoebmcimnapaa.Pure
