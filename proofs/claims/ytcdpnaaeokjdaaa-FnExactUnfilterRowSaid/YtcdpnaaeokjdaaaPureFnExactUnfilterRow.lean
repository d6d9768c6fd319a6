/- The two ways of UnfilterRow answer alike. -/
import Derived.Test.YtcdpnaaeokjdaaaPFnExactUnfilterRowx3
set_option linter.unusedVariables false
set_option linter.unusedSimpArgs false
namespace Go.Proofs.Ytcdpnaaeokjdaaa.Pure
open Go.RowKit Go.Proofs.Ytcdpnaaeokjdaaa.PFnExactUnfilterRow Go.Proofs.YtcdpnaaeokjdaaaW.PrintWords Go.Proofs.YtcdpnaaeokjdaaaW.PrintLast

theorem w64 {x : Int} (h : -9223372036854775808 ≤ x) (h' : x ≤ 9223372036854775807) : wrap64 x = x := by unfold wrap64; omega
theorem wf_i64 {a : Int} (h : (Lit.int .i64 a).wf = true) : -9223372036854775808 ≤ a ∧ a ≤ 9223372036854775807 := by
  simpa [Lit.wf, IntKind.min, IntKind.max, IntKind.signed, IntKind.bits] using h
theorem wbt (s : ByteArray) (i : Int) : wrap64 (bt s i) = bt s i := w64 (by have := bt_range s i; omega) (by have := bt_range s i; omega)

def absD (x : Int) : Int := if x < 0 then -x else x
def inR (x : Int) : Bool := decide (-1000 ≤ x) && decide (x ≤ 1000)
/-- Paeth of numbers that are not too great. -/
def paeth (a b c : Int) : Int := if absD (b + a - c - a) ≤ absD (a + b - c - b) ∧ absD (b + a - c - a) ≤ absD (a + b - c - c) then a else if absD (a + b - c - b) ≤ absD (a + b - c - c) then b else c
def paethAll (a b c : Int) : Int := if inR a && inR b && inR c then paeth a b c else 0
theorem inR_iff (x : Int) : inR x = true ↔ -1000 ≤ x ∧ x ≤ 1000 := by simp [inR]

theorem rd_at (xs : List Int) (i : Nat) (h : i < xs.length) : rd xs i = xs[i] := by simp [rd, List.getD, h]
def inB (m x : Int) : Bool := decide (0 ≤ x) && decide (x ≤ m)
theorem drop_all (p : Int → Bool) (xs : List Int) (i : Nat) (h : i < xs.length) : (xs.drop i).all p = (p xs[i] && (xs.drop (i + 1)).all p) := by
  rw [List.drop_eq_getElem_cons h]; rfl
theorem drop_all_end (p : Int → Bool) (xs : List Int) (i : Nat) (h : xs.length ≤ i) : (xs.drop i).all p = true := by
  rw [List.drop_eq_nil_of_le h]; rfl

def filterB (d : Int) (s t : ByteArray) (u : Int) : Bool := decide (0 ≤ d) && decide (d ≤ 4) && decide (1 ≤ u) && decide (u ≤ 8) && decide (s.size = t.size) && decide (s.size ≤ 200)
theorem filterB_iff (d : Int) (s t : ByteArray) (u : Int) : filterB d s t u = true ↔ ((((0 ≤ d ∧ d ≤ 4) ∧ 1 ≤ u) ∧ u ≤ 8) ∧ s.size = t.size) ∧ s.size ≤ 200 := by simp [filterB, and_assoc]
def guess (d a b c : Int) : Int := if d = 1 then a else if d = 2 then b else if d = 3 then (a + b) / 2 else if d = 4 then paethAll a b c else 0
/-- What is foretold at place i. -/
def says (d : Int) (xs : List Int) (t : ByteArray) (u i : Nat) : Int := guess d (if u ≤ i then rd xs ((i - u : Nat) : Int) else 0) (bt t i) (if u ≤ i then bt t ((i - u : Nat) : Int) else 0)
theorem paethAll_bd {a b c : Int} (ha : 0 ≤ a ∧ a ≤ 255) (hb : 0 ≤ b ∧ b ≤ 255) (hc : 0 ≤ c ∧ c ≤ 255) : 0 ≤ paethAll a b c ∧ paethAll a b c ≤ 255 := by
  unfold paethAll paeth
  split
  · split
    · exact ha
    · split
      · exact hb
      · exact hc
  · omega
theorem guess_bd {d a b c : Int} (ha : 0 ≤ a ∧ a ≤ 255) (hb : 0 ≤ b ∧ b ≤ 255) (hc : 0 ≤ c ∧ c ≤ 255) : 0 ≤ guess d a b c ∧ guess d a b c ≤ 255 := by
  have := paethAll_bd ha hb hc
  unfold guess
  split
  · exact ha
  · split
    · exact hb
    · split
      · omega
      · split
        · exact this
        · omega
def Bytes (xs : List Int) : Prop := ∀ x ∈ xs, 0 ≤ x ∧ x ≤ 255
theorem rd_bd {xs : List Int} (h : Bytes xs) (i : Int) : 0 ≤ rd xs i ∧ rd xs i ≤ 255 := by
  unfold rd
  rw [List.getD_eq_getElem?_getD]
  cases e : xs[i.toNat]? with
  | none => simp
  | some x => simpa using h x (List.mem_of_getElem? e)
theorem bytesOf_Bytes (s : ByteArray) : Bytes (bytesOf s) := by
  intro x hx
  unfold bytesOf at hx
  obtain ⟨b, _, rfl⟩ := List.mem_map.mp hx
  have := b.toNat_lt
  omega
theorem says_bd {d : Int} {xs : List Int} (h : Bytes xs) (t : ByteArray) (u i : Nat) : 0 ≤ says d xs t u i ∧ says d xs t u i ≤ 255 := by
  unfold says
  refine guess_bd ?_ (bt_range t i) ?_
  · split
    · exact rd_bd h _
    · omega
  · split
    · exact bt_range _ _
    · omega
def filtL (d : Int) (s t : ByteArray) (u n : Nat) : List Int := (List.range n).map fun (j : Nat) => (bt s j - says d (bytesOf s) t u j) % 256
theorem filtL_len (d : Int) (s t : ByteArray) (u n : Nat) : (filtL d s t u n).length = n := by simp [filtL]
theorem filtL_succ (d : Int) (s t : ByteArray) (u n : Nat) : filtL d s t u (n + 1) = filtL d s t u n ++ [(bt s n - says d (bytesOf s) t u n) % 256] := by simp [filtL, List.range_succ]
def filterRow (d : Int) (s t : ByteArray) (u : Int) : ByteArray × Bool := if filterB d s t u then (strOfNums (filtL d s t u.toNat s.size), true) else (⟨#[]⟩, false)
theorem bytesOf_len (s : ByteArray) : (bytesOf s).length = s.size := by
  unfold bytesOf; rw [List.length_map, Array.length_toList]; rfl

theorem spec_l01In_eq (a b c : Int) : spec_l01In.f a b c = some (decide (b ≤ a) && decide (a ≤ c)) := by
  unfold spec_l01In.f
  by_cases h : b ≤ a <;> simp [h]

theorem spec_l13Size_eq (a : Int) (h : -10000 ≤ a) (h' : a ≤ 10000) : spec_l13Size.f a = some (absD a) := by
  unfold spec_l13Size.f absD
  rw [w64 (by omega) (by omega)]
  split <;> rfl
theorem spec_Paeth_eq (k : Nat) (hk : 2 ≤ k) (a b c : Int) : spec_Paeth.f k a b c = some (paethAll a b c) := by
  obtain ⟨k, rfl⟩ : ∃ m, k = m + 2 := ⟨k - 2, by omega⟩
  unfold spec_Paeth.f paethAll
  simp only [spec_l01In_eq, Option.bind_some]
  change (if inR a = true then (if inR b = true then spec_Paeth.j0 (k + 2) a b c (!(inR c)) else spec_Paeth.j0 (k + 2) a b c true) else spec_Paeth.j0 (k + 2) a b c true) = _
  have yes : spec_Paeth.j0 (k + 2) a b c true = some 0 := by simp [spec_Paeth.j0]
  rw [yes]
  by_cases ha : inR a = true
  · by_cases hb : inR b = true
    · by_cases hc : inR c = true
      · simp only [ha, hb, hc, if_true, Bool.not_true, Bool.and_self]
        rw [inR_iff] at ha hb hc
        simp only [spec_Paeth.j0, spec_Paeth.j1]
        rw [w64 (x := a + b) (by omega) (by omega), w64 (x := a + b - c) (by omega) (by omega), w64 (x := a + b - c - a) (by omega) (by omega), w64 (x := a + b - c - b) (by omega) (by omega), w64 (x := a + b - c - c) (by omega) (by omega)]
        rw [spec_l13Size_eq _ (by omega) (by omega), spec_l13Size_eq _ (by omega) (by omega), spec_l13Size_eq _ (by omega) (by omega)]
        simp only [Option.bind_some, paeth, show b + a - c - a = a + b - c - a by omega]
        by_cases h1 : absD (a + b - c - a) ≤ absD (a + b - c - b)
        · by_cases h2 : absD (a + b - c - a) ≤ absD (a + b - c - c)
          · simp [h1, h2]
          · simp [h1, h2]; split <;> rfl
        · simp [h1]; split <;> rfl
      · simp [ha, hb, hc, yes]
    · simp [ha, hb]
  · simp [ha]

theorem spec_l13Ok_eq (d : Int) (s t : ByteArray) (u : Int) : spec_l13Ok.f d s t u = some (filterB d s t u) := by
  unfold spec_l13Ok.f
  rw [spec_l01In_eq]
  simp only [Option.bind_some]
  split
  · rename_i h1
    rw [spec_l01In_eq]
    simp only [Option.bind_some]
    split
    · rename_i h2
      split
      · rename_i h3
        congr 1
        rw [Bool.eq_iff_iff, filterB_iff]
        simp at h1 h2 ⊢; omega
      · rename_i h3
        congr 1
        symm
        rw [Bool.eq_false_iff, ne_eq, filterB_iff]
        omega
    · rename_i h2
      congr 1
      symm
      rw [Bool.eq_false_iff, ne_eq, filterB_iff]
      simp at h2; omega
  · rename_i h1
    congr 1
    symm
    rw [Bool.eq_false_iff, ne_eq, filterB_iff]
    simp at h1; omega
theorem spec_l13Says_j0_eq {d a b c : Int} (ha : 0 ≤ a ∧ a ≤ 255) (hb : 0 ≤ b ∧ b ≤ 255) (k : Nat) (hk : 3 ≤ k) : spec_l13Says.j0 k d a c b = some (guess d a b c) := by
  obtain ⟨k, rfl⟩ : ∃ m, k = m + 1 := ⟨k - 1, by omega⟩
  simp only [spec_l13Says.j0]
  unfold guess
  split
  · rfl
  · split
    · rfl
    · split
      · rw [w64 (x := a + b) (by omega) (by omega), Int.tdiv_eq_ediv_of_nonneg (by omega), w64 (by omega) (by omega)]
      · split
        · rw [spec_Paeth_eq k (by omega)]; rfl
        · rfl
theorem spec_l13Says_eq (d : Int) (xs : List Int) (hx : Bytes xs) (t : ByteArray) (ht : t.size ≤ 1000000) (u i : Nat) (hu : 1 ≤ u ∧ u ≤ 8) (hi : i < t.size) (hl : u ≤ i → i - u < xs.length) (k : Nat) (hk : 3 ≤ k) : spec_l13Says.f k d xs t u i = some (says d xs t u i) := by
  unfold spec_l13Says.f says
  have bb := bt_range t i
  rw [if_pos (by omega), if_pos (by omega), w64 (x := bt t i) (by omega) (by omega)]
  by_cases h : u ≤ i
  · have e : ((i : Int) - (u : Int)) = ((i - u : Nat) : Int) := by omega
    have hl' := hl h
    have ba := rd_bd hx ((i - u : Nat) : Int)
    have bc := bt_range t ((i - u : Nat) : Int)
    rw [if_pos (show (i : Int) ≥ u by omega), w64 (x := (i : Int) - u) (by omega) (by omega), e, if_pos (by omega), if_pos (by omega), if_pos (by omega), w64 (x := rd xs ((i - u : Nat) : Int)) (by omega) (by omega), w64 (x := bt t ((i - u : Nat) : Int)) (by omega) (by omega), if_pos h, if_pos h]
    exact spec_l13Says_j0_eq ba bb k hk
  · rw [if_neg (show ¬ (i : Int) ≥ u by omega), if_neg h, if_neg h]
    exact spec_l13Says_j0_eq (by omega) bb k hk

def unfL (d : Int) (s t : ByteArray) (u : Nat) : Nat → List Int
  | 0 => []
  | n + 1 => unfL d s t u n ++ [(bt s n + says d (unfL d s t u n) t u n) % 256]
theorem unfL_len (d : Int) (s t : ByteArray) (u n : Nat) : (unfL d s t u n).length = n := by
  induction n with
  | zero => rfl
  | succ n ih => rw [unfL, List.length_append, ih]; rfl
theorem unfL_Bytes (d : Int) (s t : ByteArray) (u n : Nat) : Bytes (unfL d s t u n) := by
  induction n with
  | zero => intro x hx; cases hx
  | succ n ih =>
    intro x hx
    rw [unfL] at hx
    rcases List.mem_append.mp hx with h | h
    · exact ih x h
    · rw [List.mem_singleton.mp h]; omega
def unfilterRow (d : Int) (s t : ByteArray) (u : Int) : ByteArray × Bool := if filterB d s t u then (strOfNums (unfL d s t u.toNat s.size), true) else (⟨#[]⟩, false)
theorem says_congr (d : Int) (xs ys : List Int) (t : ByteArray) (u i : Nat) (h : u ≤ i → rd xs ((i - u : Nat) : Int) = rd ys ((i - u : Nat) : Int)) : says d xs t u i = says d ys t u i := by
  unfold says
  by_cases hu : u ≤ i
  · rw [if_pos hu, if_pos hu, if_pos hu, h hu]
  · rw [if_neg hu, if_neg hu, if_neg hu]
theorem rd_left (xs ys : List Int) (i : Nat) (h : i < xs.length) : rd (xs ++ ys) i = rd xs i := by
  rw [rd_at _ _ (by rw [List.length_append]; omega), rd_at _ _ h, List.getElem_append_left h]
theorem rd_mid (xs ys : List Int) (y : Int) (i : Nat) (h : i = xs.length) : rd (xs ++ y :: ys) i = y := by
  subst h
  rw [rd_at _ _ (by rw [List.length_append, List.length_cons]; omega), List.getElem_append_right (Nat.le_refl _)]
  simp

theorem spec_UnfilterRow_l0 (d : Int) (s t : ByteArray) (u : Nat) (hu : 1 ≤ u ∧ u ≤ 8) (hs : s.size = t.size) (hs2 : s.size ≤ 200) (n : Nat) : ∀ (k i : Nat), i ≤ s.size → s.size - i = n → n + 5 < k → spec_UnfilterRow.l0 k d s t u (unfL d s t u i) i = some (strOfNums (unfL d s t u s.size), true) := by
  induction n with
  | zero =>
    intro k i hi hn hk
    obtain ⟨k, rfl⟩ : ∃ m, k = m + 1 := ⟨k - 1, by omega⟩
    obtain rfl : i = s.size := by omega
    simp only [spec_UnfilterRow.l0]
    rw [if_neg (by omega)]
  | succ n ih =>
    intro k i hi hn hk
    obtain ⟨k, rfl⟩ : ∃ m, k = m + 1 := ⟨k - 1, by omega⟩
    have lt : i < s.size := by omega
    have b := bt_range s i
    have hb := unfL_Bytes d s t u i
    have y := says_bd (d := d) hb t u i
    have hl := unfL_len d s t u i
    have st := ih k (i + 1) (by omega) (by omega) (by omega)
    push_cast at st
    simp only [spec_UnfilterRow.l0]
    rw [if_pos (by omega), if_pos (by omega), spec_l13Says_eq d _ hb t (by omega) u i hu (by omega) (by omega) k (by omega)]
    simp only [Option.bind_some]
    rw [if_pos (by omega), w64 (x := bt s i) (by omega) (by omega), w64 (x := bt s i + says d (unfL d s t u i) t u i) (by omega) (by omega), w64 (x := (i : Int) + 1) (by omega) (by omega)]
    exact st
theorem spec_UnfilterRow_eq (d : Int) (s t : ByteArray) (u : Int) (k : Nat) (hk : 300 ≤ k) : spec_UnfilterRow.f k d s t u = some (unfilterRow d s t u) := by
  unfold spec_UnfilterRow.f unfilterRow
  rw [spec_l13Ok_eq]
  simp only [Option.bind_some]
  by_cases h : filterB d s t u = true
  · rw [if_pos h, if_pos h]
    have q := (filterB_iff d s t u).mp h
    obtain ⟨n, rfl⟩ := Int.eq_ofNat_of_zero_le (show 0 ≤ u by omega)
    have := spec_UnfilterRow_l0 d s t n (by omega) (by omega) (by omega) s.size k 0 (by omega) (by omega) (by omega)
    rw [Int.toNat_natCast]
    exact this
  · rw [if_neg h, if_neg h]

theorem impl_within_eq (a b c : Int) : impl_within.f a b c = some (decide (b ≤ a) && decide (a ≤ c)) := by
  unfold impl_within.f
  by_cases h : b ≤ a <;> simp [h]

theorem impl_distance_eq (a b : Int) (ha : -10000 ≤ a) (ha' : a ≤ 10000) (hb : -10000 ≤ b) (hb' : b ≤ 10000) : impl_distance.f a b = some (absD (b - a)) := by
  unfold impl_distance.f absD
  rw [w64 (x := a - b) (by omega) (by omega), w64 (x := b - a) (by omega) (by omega)]
  unfold mx
  split <;> split <;> congr 1 <;> omega
theorem impl_Paeth_l1 (k : Nat) (p x b c : Int) (hp : -10000 ≤ p) (hp' : p ≤ 10000) (hx : -10000 ≤ x) (hx' : x ≤ 10000) (hb : -10000 ≤ b) (hb' : b ≤ 10000) (hc : -10000 ≤ c) (hc' : c ≤ 10000) :
    impl_Paeth.l1 (k + 3) p x [b, c] 2 0 = some (if absD (p - c) < absD (p - (if absD (p - b) < absD (p - x) then b else x)) then c else if absD (p - b) < absD (p - x) then b else x) := by
  have r : ∀ (k : Nat) (y : Int) (i : Int) (z : Int), -10000 ≤ y → y ≤ 10000 → (i = 0 ∧ z = b ∨ i = 1 ∧ z = c) → impl_Paeth.l1 (k + 1) p y [b, c] 2 i = impl_Paeth.l1 k p (if absD (p - z) < absD (p - y) then z else y) [b, c] 2 (i + 1) := by
    intro k y i z hy hy' h
    have hi : 0 ≤ i ∧ i < 2 := by omega
    have hz : rd [b, c] i = z := by rcases h with ⟨rfl, rfl⟩ | ⟨rfl, rfl⟩ <;> rfl
    have hzb : -10000 ≤ z ∧ z ≤ 10000 := by rcases h with ⟨_, rfl⟩ | ⟨_, rfl⟩ <;> omega
    simp only [impl_Paeth.l1]
    rw [if_pos hi.2, if_pos hi.1, if_pos (by simpa using hi.2), hz, impl_distance_eq z p (by omega) (by omega) hp hp', impl_distance_eq y p hy hy' hp hp', w64 (by omega) (by omega)]
    simp only [Option.bind_some]
    split <;> rfl
  rw [r (k + 2) x 0 b hx hx' (.inl ⟨rfl, rfl⟩), r (k + 1) _ (0 + 1) c (by split <;> omega) (by split <;> omega) (.inr ⟨rfl, rfl⟩)]
  simp only [impl_Paeth.l1]
  rw [if_neg (by decide)]
theorem impl_Paeth_eq (k : Nat) (hk : 8 ≤ k) (a b c : Int) : impl_Paeth.f k a b c = some (paethAll a b c) := by
  obtain ⟨k, rfl⟩ : ∃ m, k = m + 8 := ⟨k - 8, by omega⟩
  unfold impl_Paeth.f paethAll
  simp only [Option.bind_some]
  have r : ∀ (k : Nat) (i z : Int), (i = 0 ∧ z = a ∨ i = 1 ∧ z = b ∨ i = 2 ∧ z = c) → impl_Paeth.l0 (k + 1) a b c [a, b, c] 3 i = if inR z = true then impl_Paeth.l0 k a b c [a, b, c] 3 (i + 1) else some 0 := by
    intro k i z h
    have hi : 0 ≤ i ∧ i < 3 := by omega
    have hz : rd [a, b, c] i = z := by rcases h with ⟨rfl, rfl⟩ | ⟨rfl, rfl⟩ | ⟨rfl, rfl⟩ <;> rfl
    simp only [impl_Paeth.l0]
    rw [if_pos hi.2, if_pos hi.1, if_pos (by simpa using hi.2), hz, impl_within_eq, w64 (by omega) (by omega)]
    rfl
  change impl_Paeth.l0 (k + 8) a b c [a, b, c] 3 0 = _
  rw [r (k + 7) 0 a (.inl ⟨rfl, rfl⟩), r (k + 6) (0 + 1) b (.inr (.inl ⟨rfl, rfl⟩)), r (k + 5) (0 + 1 + 1) c (.inr (.inr ⟨rfl, rfl⟩))]
  by_cases ha : inR a = true
  · by_cases hb : inR b = true
    · by_cases hc : inR c = true
      · simp only [ha, hb, hc, if_true, Bool.and_self]
        rw [inR_iff] at ha hb hc
        simp only [impl_Paeth.l0]
        rw [if_neg (by decide)]
        simp only [Option.bind_some]
        rw [w64 (x := a + b) (by omega) (by omega), w64 (x := a + b - c) (by omega) (by omega)]
        have := impl_Paeth_l1 (k + 1) (a + b - c) a b c (by omega) (by omega) (by omega) (by omega) (by omega) (by omega) (by omega) (by omega)
        change impl_Paeth.l1 (k + 4) (a + b - c) a [b, c] 2 0 = _
        rw [this]
        unfold paeth
        rw [show b + a - c - a = a + b - c - a by omega]
        congr 1
        by_cases h1 : absD (a + b - c - b) < absD (a + b - c - a)
        · rw [if_pos h1, if_neg (show ¬ (absD (a + b - c - a) ≤ absD (a + b - c - b) ∧ absD (a + b - c - a) ≤ absD (a + b - c - c)) by omega)]
          by_cases h2 : absD (a + b - c - c) < absD (a + b - c - b)
          · rw [if_pos h2, if_neg (by omega)]
          · rw [if_neg h2, if_pos (by omega)]
        · rw [if_neg h1]
          by_cases h2 : absD (a + b - c - c) < absD (a + b - c - a)
          · rw [if_pos h2, if_neg (by omega), if_neg (by omega)]
          · rw [if_neg h2, if_pos (by omega)]
      · simp [ha, hb, hc]
    · simp [ha, hb]
  · simp [ha]

theorem impl_filterOk_eq (d : Int) (s t : ByteArray) (u : Int) : impl_filterOk.f d s t u = some (filterB d s t u) := by
  unfold impl_filterOk.f
  rw [impl_within_eq]
  simp only [Option.bind_some]
  split
  · rename_i h1
    rw [impl_within_eq]
    simp only [Option.bind_some]
    split
    · rename_i h2
      split
      · rename_i h3
        congr 1
        rw [Bool.eq_iff_iff, filterB_iff]
        simp at h1 h2 ⊢; omega
      · rename_i h3
        congr 1
        symm
        rw [Bool.eq_false_iff, ne_eq, filterB_iff]
        omega
    · rename_i h2
      congr 1
      symm
      rw [Bool.eq_false_iff, ne_eq, filterB_iff]
      simp at h2; omega
  · rename_i h1
    congr 1
    symm
    rw [Bool.eq_false_iff, ne_eq, filterB_iff]
    simp at h1; omega
theorem impl_byteAt_eq (xs : List Int) (hx : Bytes xs) (i : Int) (h : i < xs.length) : impl_byteAt.f xs i = some (if i < 0 then 0 else rd xs i) := by
  unfold impl_byteAt.f
  have b := rd_bd hx i
  by_cases h0 : i < 0
  · rw [if_pos h0, if_pos h0]
  · rw [if_neg h0, if_neg h0, if_pos (by omega), if_pos h, w64 (by omega) (by omega)]
theorem impl_foretold_eq (d : Int) (xs : List Int) (hx : Bytes xs) (t : ByteArray) (ht : t.size ≤ 1000000) (u i : Nat) (hu : 1 ≤ u ∧ u ≤ 8) (hi : i < t.size) (hl : i < xs.length) (k : Nat) (hk : 9 ≤ k) : impl_foretold.f k d xs (bytesOf t) i u = some (says d xs t u i) := by
  unfold impl_foretold.f says
  have bb := bt_range t i
  have tl := bytesOf_len t
  rw [w64 (x := (i : Int) - u) (by omega) (by omega), impl_byteAt_eq xs hx _ (by omega)]
  simp only [Option.bind_some]
  rw [impl_byteAt_eq (bytesOf t) (bytesOf_Bytes t) (i : Int) (by omega), if_neg (show ¬ (i : Int) < 0 by omega), rd_bytesOf]
  simp only [Option.bind_some]
  rw [impl_byteAt_eq (bytesOf t) (bytesOf_Bytes t) ((i : Int) - u) (by omega)]
  simp only [Option.bind_some]
  have ea : (if (i : Int) - u < 0 then 0 else rd xs ((i : Int) - u)) = (if u ≤ i then rd xs ((i - u : Nat) : Int) else 0) := by
    by_cases h : u ≤ i
    · rw [if_neg (by omega), if_pos h, show (i : Int) - u = ((i - u : Nat) : Int) by omega]
    · rw [if_pos (by omega), if_neg h]
  have ec : (if (i : Int) - u < 0 then 0 else rd (bytesOf t) ((i : Int) - u)) = (if u ≤ i then bt t ((i - u : Nat) : Int) else 0) := by
    by_cases h : u ≤ i
    · rw [if_neg (by omega), if_pos h, show (i : Int) - u = ((i - u : Nat) : Int) by omega, rd_bytesOf]
    · rw [if_pos (by omega), if_neg h]
  have ba : 0 ≤ (if u ≤ i then rd xs ((i - u : Nat) : Int) else 0) ∧ (if u ≤ i then rd xs ((i - u : Nat) : Int) else 0) ≤ 255 := by
    split
    · exact rd_bd hx _
    · omega
  rw [ea, ec]
  generalize (if u ≤ i then rd xs ((i - u : Nat) : Int) else 0) = a at ba ⊢
  generalize (if u ≤ i then bt t ((i - u : Nat) : Int) else 0) = c
  unfold guess
  split
  · rfl
  · split
    · rfl
    · split
      · rw [w64 (x := a + bt t i) (by omega) (by omega), Int.tdiv_eq_ediv_of_nonneg (by omega), w64 (by omega) (by omega)]
      · split
        · rw [impl_Paeth_eq k (by omega)]; rfl
        · rfl

theorem impl_UnfilterRow_l0 (d : Int) (s t : ByteArray) (u : Nat) (hu : 1 ≤ u ∧ u ≤ 8) (hs : s.size = t.size) (hs2 : s.size ≤ 200) (n : Nat) : ∀ (k i : Nat), i ≤ s.size → s.size - i = n → n + 15 < k → impl_UnfilterRow.l0 k d u (unfL d s t u i ++ (bytesOf s).drop i) (bytesOf t) s.size i = some (strOfNums (unfL d s t u s.size), true) := by
  have hl := bytesOf_len s
  induction n with
  | zero =>
    intro k i hi hn hk
    obtain ⟨k, rfl⟩ : ∃ m, k = m + 1 := ⟨k - 1, by omega⟩
    obtain rfl : i = s.size := by omega
    simp only [impl_UnfilterRow.l0]
    rw [if_neg (by omega), List.drop_eq_nil_of_le (by omega), List.append_nil]
  | succ n ih =>
    intro k i hi hn hk
    obtain ⟨k, rfl⟩ : ∃ m, k = m + 1 := ⟨k - 1, by omega⟩
    have lt : i < s.size := by omega
    have b := bt_range s i
    have hb := unfL_Bytes d s t u i
    have hlen := unfL_len d s t u i
    have y := says_bd (d := d) hb t u i
    have st := ih k (i + 1) (by omega) (by omega) (by omega)
    have dr : (bytesOf s).drop i = bt s i :: (bytesOf s).drop (i + 1) := by
      rw [List.drop_eq_getElem_cons (by omega), ← rd_at (bytesOf s) i (by omega), rd_bytesOf]
    have hB : Bytes (unfL d s t u i ++ (bytesOf s).drop i) := by
      intro x hx
      rcases List.mem_append.mp hx with h | h
      · exact hb x h
      · exact bytesOf_Bytes s x (List.mem_of_mem_drop h)
    have hL : (unfL d s t u i ++ (bytesOf s).drop i).length = s.size := by rw [List.length_append, List.length_drop]; omega
    have e1 : says d (unfL d s t u i ++ (bytesOf s).drop i) t u i = says d (unfL d s t u i) t u i := says_congr d _ _ t u i (fun h => rd_left _ _ _ (by omega))
    have e2 : rd (unfL d s t u i ++ (bytesOf s).drop i) i = bt s i := by rw [dr]; exact rd_mid _ _ _ i hlen.symm
    push_cast at st
    simp only [impl_UnfilterRow.l0]
    rw [if_pos (by omega), if_pos (by omega), if_pos (by omega), impl_foretold_eq d _ hB t (by omega) u i hu (by omega) (by omega) k (by omega)]
    simp only [Option.bind_some]
    rw [e1, e2, w64 (x := (i : Int) + 1) (by omega) (by omega), Int.toNat_natCast]
    have e3 : (unfL d s t u i ++ (bytesOf s).drop i).set i ((bt s i + says d (unfL d s t u i) t u i % 256) % 256) = unfL d s t u (i + 1) ++ (bytesOf s).drop (i + 1) := by
      rw [dr, List.set_append_right _ _ (by omega), hlen, Nat.sub_self, List.set_cons_zero, unfL, List.append_assoc, List.singleton_append, show (bt s i + says d (unfL d s t u i) t u i % 256) % 256 = (bt s i + says d (unfL d s t u i) t u i) % 256 by omega]
    rw [e3]
    exact st
theorem impl_UnfilterRow_eq (d : Int) (s t : ByteArray) (u : Int) (k : Nat) (hk : 300 ≤ k) : impl_UnfilterRow.f k d s t u = some (unfilterRow d s t u) := by
  unfold impl_UnfilterRow.f unfilterRow
  rw [impl_filterOk_eq]
  simp only [Option.bind_some]
  by_cases h : filterB d s t u = true
  · rw [if_pos h, if_pos h]
    have q := (filterB_iff d s t u).mp h
    obtain ⟨n, rfl⟩ := Int.eq_ofNat_of_zero_le (show 0 ≤ u by omega)
    have := impl_UnfilterRow_l0 d s t n (by omega) (by omega) (by omega) s.size k 0 (by omega) (by omega) (by omega)
    rw [if_pos (by omega), if_pos (by omega), Int.toNat_natCast, bytesOf_len]
    exact this
  · rw [if_neg h, if_neg h]

theorem FnExactUnfilterRow : laws_FnExactUnfilterRow.Pure := by
  intro d s t u _ _ _ _
  obtain ⟨k, hk⟩ : ∃ k : Nat, k = 1000 := ⟨_, rfl⟩
  refine ⟨k, ?_⟩
  unfold laws_FnExactUnfilterRow.f
  by_cases h1 : (s.size : Int) > 1048576
  · rw [if_pos h1]
  · rw [if_neg h1]
    by_cases h2 : (t.size : Int) > 1048576
    · rw [if_pos h2]
    · rw [if_neg h2, spec_UnfilterRow_eq d s t u k (by omega)]
      simp only [Option.bind_some]
      rw [impl_UnfilterRow_eq d s t u k (by omega)]
      simp

end Go.Proofs.Ytcdpnaaeokjdaaa.Pure
