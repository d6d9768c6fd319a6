/- The filters of FnFilters answer true for each draw. -/
import Derived.Test.YtefoebmcimnapaaPFnFiltersx5
set_option linter.unusedVariables false
set_option linter.unusedSimpArgs false
namespace Go.Proofs.Ytefoebmcimnapaa.Pure
open Go.RowKit Go.Proofs.Ytefoebmcimnapaa.PFnFilters Go.Proofs.YtefoebmcimnapaaW.PrintWords Go.Proofs.YtefoebmcimnapaaW.PrintLast

theorem w64 {x : Int} (h : -9223372036854775808 ≤ x) (h' : x ≤ 9223372036854775807) : wrap64 x = x := by unfold wrap64; omega
theorem wf_i64 {a : Int} (h : (Lit.int .i64 a).wf = true) : -9223372036854775808 ≤ a ∧ a ≤ 9223372036854775807 := by
  simpa [Lit.wf, IntKind.min, IntKind.max, IntKind.signed, IntKind.bits] using h
theorem wbt (s : ByteArray) (i : Int) : wrap64 (bt s i) = bt s i := w64 (by have := bt_range s i; omega) (by have := bt_range s i; omega)

def absD (x : Int) : Int := if x < 0 then -x else x
def inR (x : Int) : Bool := decide (-1000 ≤ x) && decide (x ≤ 1000)
/-- Paeth of numbers that are not too great. -/
def paeth (a b c : Int) : Int := if absD (b + a - c - a) ≤ absD (a + b - c - b) ∧ absD (b + a - c - a) ≤ absD (a + b - c - c) then a else if absD (a + b - c - b) ≤ absD (a + b - c - c) then b else c
def paethAll (a b c : Int) : Int := if inR a && inR b && inR c then paeth a b c else 0
theorem inR_iff (x : Int) : inR x = true ↔ -1000 ≤ x ∧ x ≤ 1000 := by simp [inR]

theorem rd_at (xs : List Int) (i : Nat) (h : i < xs.length) : rd xs i = xs[i] := by simp [rd, List.getD, h]
def inB (m x : Int) : Bool := decide (0 ≤ x) && decide (x ≤ m)
theorem drop_all (p : Int → Bool) (xs : List Int) (i : Nat) (h : i < xs.length) : (xs.drop i).all p = (p xs[i] && (xs.drop (i + 1)).all p) := by
  rw [List.drop_eq_getElem_cons h]; rfl
theorem drop_all_end (p : Int → Bool) (xs : List Int) (i : Nat) (h : xs.length ≤ i) : (xs.drop i).all p = true := by
  rw [List.drop_eq_nil_of_le h]; rfl

def filterB (d : Int) (s t : ByteArray) (u : Int) : Bool := decide (0 ≤ d) && decide (d ≤ 4) && decide (1 ≤ u) && decide (u ≤ 8) && decide (s.size = t.size) && decide (s.size ≤ 200)
theorem filterB_iff (d : Int) (s t : ByteArray) (u : Int) : filterB d s t u = true ↔ ((((0 ≤ d ∧ d ≤ 4) ∧ 1 ≤ u) ∧ u ≤ 8) ∧ s.size = t.size) ∧ s.size ≤ 200 := by simp [filterB, and_assoc]
def guess (d a b c : Int) : Int := if d = 1 then a else if d = 2 then b else if d = 3 then (a + b) / 2 else if d = 4 then paethAll a b c else 0
/-- What is foretold at place i. -/
def says (d : Int) (xs : List Int) (t : ByteArray) (u i : Nat) : Int := guess d (if u ≤ i then rd xs ((i - u : Nat) : Int) else 0) (bt t i) (if u ≤ i then bt t ((i - u : Nat) : Int) else 0)
theorem paethAll_bd {a b c : Int} (ha : 0 ≤ a ∧ a ≤ 255) (hb : 0 ≤ b ∧ b ≤ 255) (hc : 0 ≤ c ∧ c ≤ 255) : 0 ≤ paethAll a b c ∧ paethAll a b c ≤ 255 := by
  unfold paethAll paeth
  split
  · split
    · exact ha
    · split
      · exact hb
      · exact hc
  · omega
theorem guess_bd {d a b c : Int} (ha : 0 ≤ a ∧ a ≤ 255) (hb : 0 ≤ b ∧ b ≤ 255) (hc : 0 ≤ c ∧ c ≤ 255) : 0 ≤ guess d a b c ∧ guess d a b c ≤ 255 := by
  have := paethAll_bd ha hb hc
  unfold guess
  split
  · exact ha
  · split
    · exact hb
    · split
      · omega
      · split
        · exact this
        · omega
def Bytes (xs : List Int) : Prop := ∀ x ∈ xs, 0 ≤ x ∧ x ≤ 255
theorem rd_bd {xs : List Int} (h : Bytes xs) (i : Int) : 0 ≤ rd xs i ∧ rd xs i ≤ 255 := by
  unfold rd
  rw [List.getD_eq_getElem?_getD]
  cases e : xs[i.toNat]? with
  | none => simp
  | some x => simpa using h x (List.mem_of_getElem? e)
theorem bytesOf_Bytes (s : ByteArray) : Bytes (bytesOf s) := by
  intro x hx
  unfold bytesOf at hx
  obtain ⟨b, _, rfl⟩ := List.mem_map.mp hx
  have := b.toNat_lt
  omega
theorem says_bd {d : Int} {xs : List Int} (h : Bytes xs) (t : ByteArray) (u i : Nat) : 0 ≤ says d xs t u i ∧ says d xs t u i ≤ 255 := by
  unfold says
  refine guess_bd ?_ (bt_range t i) ?_
  · split
    · exact rd_bd h _
    · omega
  · split
    · exact bt_range _ _
    · omega
def filtL (d : Int) (s t : ByteArray) (u n : Nat) : List Int := (List.range n).map fun (j : Nat) => (bt s j - says d (bytesOf s) t u j) % 256
theorem filtL_len (d : Int) (s t : ByteArray) (u n : Nat) : (filtL d s t u n).length = n := by simp [filtL]
theorem filtL_succ (d : Int) (s t : ByteArray) (u n : Nat) : filtL d s t u (n + 1) = filtL d s t u n ++ [(bt s n - says d (bytesOf s) t u n) % 256] := by simp [filtL, List.range_succ]
def filterRow (d : Int) (s t : ByteArray) (u : Int) : ByteArray × Bool := if filterB d s t u then (strOfNums (filtL d s t u.toNat s.size), true) else (⟨#[]⟩, false)
theorem bytesOf_len (s : ByteArray) : (bytesOf s).length = s.size := by
  unfold bytesOf; rw [List.length_map, Array.length_toList]; rfl

def unfL (d : Int) (s t : ByteArray) (u : Nat) : Nat → List Int
  | 0 => []
  | n + 1 => unfL d s t u n ++ [(bt s n + says d (unfL d s t u n) t u n) % 256]
theorem unfL_len (d : Int) (s t : ByteArray) (u n : Nat) : (unfL d s t u n).length = n := by
  induction n with
  | zero => rfl
  | succ n ih => rw [unfL, List.length_append, ih]; rfl
theorem unfL_Bytes (d : Int) (s t : ByteArray) (u n : Nat) : Bytes (unfL d s t u n) := by
  induction n with
  | zero => intro x hx; cases hx
  | succ n ih =>
    intro x hx
    rw [unfL] at hx
    rcases List.mem_append.mp hx with h | h
    · exact ih x h
    · rw [List.mem_singleton.mp h]; omega
def unfilterRow (d : Int) (s t : ByteArray) (u : Int) : ByteArray × Bool := if filterB d s t u then (strOfNums (unfL d s t u.toNat s.size), true) else (⟨#[]⟩, false)
theorem says_congr (d : Int) (xs ys : List Int) (t : ByteArray) (u i : Nat) (h : u ≤ i → rd xs ((i - u : Nat) : Int) = rd ys ((i - u : Nat) : Int)) : says d xs t u i = says d ys t u i := by
  unfold says
  by_cases hu : u ≤ i
  · rw [if_pos hu, if_pos hu, if_pos hu, h hu]
  · rw [if_neg hu, if_neg hu, if_neg hu]
theorem rd_left (xs ys : List Int) (i : Nat) (h : i < xs.length) : rd (xs ++ ys) i = rd xs i := by
  rw [rd_at _ _ (by rw [List.length_append]; omega), rd_at _ _ h, List.getElem_append_left h]
theorem rd_mid (xs ys : List Int) (y : Int) (i : Nat) (h : i = xs.length) : rd (xs ++ y :: ys) i = y := by
  subst h
  rw [rd_at _ _ (by rw [List.length_append, List.length_cons]; omega), List.getElem_append_right (Nat.le_refl _)]
  simp

theorem bytesOf_str' (xs : List Int) (hx : Bytes xs) : bytesOf (strOfNums xs) = xs := by
  unfold bytesOf
  rw [strOfNums_data, List.map_map]
  refine (List.map_congr_left (g := id) ?_).trans (List.map_id _)
  intro x hm
  have := hx x hm
  simp only [Function.comp, UInt8.toNat_ofNat', id]
  omega
theorem str_bytesOf' (s : ByteArray) : strOfNums (bytesOf s) = s := by
  apply ByteArray.ext
  apply Array.ext'
  rw [strOfNums_data]
  unfold bytesOf
  rw [List.map_map]
  have : (fun n : Int => UInt8.ofNat n.toNat) ∘ (fun b : UInt8 => (b.toNat : Int)) = id := by
    funext b; simp
  rw [this, List.map_id]

theorem filtL_Bytes (d : Int) (s t : ByteArray) (u n : Nat) : Bytes (filtL d s t u n) := by
  intro x hx
  unfold filtL at hx
  obtain ⟨j, _, rfl⟩ := List.mem_map.mp hx
  omega
theorem filtL_at (d : Int) (s t : ByteArray) (u n i : Nat) (h : i < n) : rd (filtL d s t u n) i = (bt s i - says d (bytesOf s) t u i) % 256 := by
  rw [rd_at _ _ (by rw [filtL_len]; exact h)]
  simp [filtL]
theorem unf_filt (d : Int) (s t : ByteArray) (u : Nat) (f : ByteArray) (hf : f = strOfNums (filtL d s t u s.size)) (hu : 1 ≤ u) (n : Nat) : n ≤ s.size → unfL d f t u n = (bytesOf s).take n := by
  have hl := bytesOf_len s
  induction n with
  | zero => intro _; simp [unfL]
  | succ n ih =>
    intro hn
    have b := bt_range s n
    have e := ih (by omega)
    have ef : bytesOf f = filtL d s t u s.size := by rw [hf]; exact bytesOf_str' _ (filtL_Bytes d s t u s.size)
    have bf : bt f n = (bt s n - says d (bytesOf s) t u n) % 256 := by rw [← rd_bytesOf, ef, filtL_at d s t u _ n (by omega)]
    have sy : says d ((bytesOf s).take n) t u n = says d (bytesOf s) t u n := by
      refine says_congr d _ _ t u n (fun h => ?_)
      have lt : n - u < ((bytesOf s).take n).length := by rw [List.length_take]; omega
      rw [rd_at _ _ lt, rd_at _ _ (by omega), List.getElem_take]
    rw [unfL, e, sy, bf, List.take_succ_eq_append_getElem (by omega), ← rd_at (bytesOf s) n (by omega), rd_bytesOf]
    congr 2
    omega

theorem impl_within_eq (a b c : Int) : impl_within.f a b c = some (decide (b ≤ a) && decide (a ≤ c)) := by
  unfold impl_within.f
  by_cases h : b ≤ a <;> simp [h]

theorem impl_distance_eq (a b : Int) (ha : -10000 ≤ a) (ha' : a ≤ 10000) (hb : -10000 ≤ b) (hb' : b ≤ 10000) : impl_distance.f a b = some (absD (b - a)) := by
  unfold impl_distance.f absD
  rw [w64 (x := a - b) (by omega) (by omega), w64 (x := b - a) (by omega) (by omega)]
  unfold mx
  split <;> split <;> congr 1 <;> omega
theorem impl_Paeth_l1 (k : Nat) (p x b c : Int) (hp : -10000 ≤ p) (hp' : p ≤ 10000) (hx : -10000 ≤ x) (hx' : x ≤ 10000) (hb : -10000 ≤ b) (hb' : b ≤ 10000) (hc : -10000 ≤ c) (hc' : c ≤ 10000) :
    impl_Paeth.l1 (k + 3) p x [b, c] 2 0 = some (if absD (p - c) < absD (p - (if absD (p - b) < absD (p - x) then b else x)) then c else if absD (p - b) < absD (p - x) then b else x) := by
  have r : ∀ (k : Nat) (y : Int) (i : Int) (z : Int), -10000 ≤ y → y ≤ 10000 → (i = 0 ∧ z = b ∨ i = 1 ∧ z = c) → impl_Paeth.l1 (k + 1) p y [b, c] 2 i = impl_Paeth.l1 k p (if absD (p - z) < absD (p - y) then z else y) [b, c] 2 (i + 1) := by
    intro k y i z hy hy' h
    have hi : 0 ≤ i ∧ i < 2 := by omega
    have hz : rd [b, c] i = z := by rcases h with ⟨rfl, rfl⟩ | ⟨rfl, rfl⟩ <;> rfl
    have hzb : -10000 ≤ z ∧ z ≤ 10000 := by rcases h with ⟨_, rfl⟩ | ⟨_, rfl⟩ <;> omega
    simp only [impl_Paeth.l1]
    rw [if_pos hi.2, if_pos hi.1, if_pos (by simpa using hi.2), hz, impl_distance_eq z p (by omega) (by omega) hp hp', impl_distance_eq y p hy hy' hp hp', w64 (by omega) (by omega)]
    simp only [Option.bind_some]
    split <;> rfl
  rw [r (k + 2) x 0 b hx hx' (.inl ⟨rfl, rfl⟩), r (k + 1) _ (0 + 1) c (by split <;> omega) (by split <;> omega) (.inr ⟨rfl, rfl⟩)]
  simp only [impl_Paeth.l1]
  rw [if_neg (by decide)]
theorem impl_Paeth_eq (k : Nat) (hk : 8 ≤ k) (a b c : Int) : impl_Paeth.f k a b c = some (paethAll a b c) := by
  obtain ⟨k, rfl⟩ : ∃ m, k = m + 8 := ⟨k - 8, by omega⟩
  unfold impl_Paeth.f paethAll
  simp only [Option.bind_some]
  have r : ∀ (k : Nat) (i z : Int), (i = 0 ∧ z = a ∨ i = 1 ∧ z = b ∨ i = 2 ∧ z = c) → impl_Paeth.l0 (k + 1) a b c [a, b, c] 3 i = if inR z = true then impl_Paeth.l0 k a b c [a, b, c] 3 (i + 1) else some 0 := by
    intro k i z h
    have hi : 0 ≤ i ∧ i < 3 := by omega
    have hz : rd [a, b, c] i = z := by rcases h with ⟨rfl, rfl⟩ | ⟨rfl, rfl⟩ | ⟨rfl, rfl⟩ <;> rfl
    simp only [impl_Paeth.l0]
    rw [if_pos hi.2, if_pos hi.1, if_pos (by simpa using hi.2), hz, impl_within_eq, w64 (by omega) (by omega)]
    rfl
  change impl_Paeth.l0 (k + 8) a b c [a, b, c] 3 0 = _
  rw [r (k + 7) 0 a (.inl ⟨rfl, rfl⟩), r (k + 6) (0 + 1) b (.inr (.inl ⟨rfl, rfl⟩)), r (k + 5) (0 + 1 + 1) c (.inr (.inr ⟨rfl, rfl⟩))]
  by_cases ha : inR a = true
  · by_cases hb : inR b = true
    · by_cases hc : inR c = true
      · simp only [ha, hb, hc, if_true, Bool.and_self]
        rw [inR_iff] at ha hb hc
        simp only [impl_Paeth.l0]
        rw [if_neg (by decide)]
        simp only [Option.bind_some]
        rw [w64 (x := a + b) (by omega) (by omega), w64 (x := a + b - c) (by omega) (by omega)]
        have := impl_Paeth_l1 (k + 1) (a + b - c) a b c (by omega) (by omega) (by omega) (by omega) (by omega) (by omega) (by omega) (by omega)
        change impl_Paeth.l1 (k + 4) (a + b - c) a [b, c] 2 0 = _
        rw [this]
        unfold paeth
        rw [show b + a - c - a = a + b - c - a by omega]
        congr 1
        by_cases h1 : absD (a + b - c - b) < absD (a + b - c - a)
        · rw [if_pos h1, if_neg (show ¬ (absD (a + b - c - a) ≤ absD (a + b - c - b) ∧ absD (a + b - c - a) ≤ absD (a + b - c - c)) by omega)]
          by_cases h2 : absD (a + b - c - c) < absD (a + b - c - b)
          · rw [if_pos h2, if_neg (by omega)]
          · rw [if_neg h2, if_pos (by omega)]
        · rw [if_neg h1]
          by_cases h2 : absD (a + b - c - c) < absD (a + b - c - a)
          · rw [if_pos h2, if_neg (by omega), if_neg (by omega)]
          · rw [if_neg h2, if_pos (by omega)]
      · simp [ha, hb, hc]
    · simp [ha, hb]
  · simp [ha]

theorem impl_filterOk_eq (d : Int) (s t : ByteArray) (u : Int) : impl_filterOk.f d s t u = some (filterB d s t u) := by
  unfold impl_filterOk.f
  rw [impl_within_eq]
  simp only [Option.bind_some]
  split
  · rename_i h1
    rw [impl_within_eq]
    simp only [Option.bind_some]
    split
    · rename_i h2
      split
      · rename_i h3
        congr 1
        rw [Bool.eq_iff_iff, filterB_iff]
        simp at h1 h2 ⊢; omega
      · rename_i h3
        congr 1
        symm
        rw [Bool.eq_false_iff, ne_eq, filterB_iff]
        omega
    · rename_i h2
      congr 1
      symm
      rw [Bool.eq_false_iff, ne_eq, filterB_iff]
      simp at h2; omega
  · rename_i h1
    congr 1
    symm
    rw [Bool.eq_false_iff, ne_eq, filterB_iff]
    simp at h1; omega
theorem impl_byteAt_eq (xs : List Int) (hx : Bytes xs) (i : Int) (h : i < xs.length) : impl_byteAt.f xs i = some (if i < 0 then 0 else rd xs i) := by
  unfold impl_byteAt.f
  have b := rd_bd hx i
  by_cases h0 : i < 0
  · rw [if_pos h0, if_pos h0]
  · rw [if_neg h0, if_neg h0, if_pos (by omega), if_pos h, w64 (by omega) (by omega)]
theorem impl_foretold_eq (d : Int) (xs : List Int) (hx : Bytes xs) (t : ByteArray) (ht : t.size ≤ 1000000) (u i : Nat) (hu : 1 ≤ u ∧ u ≤ 8) (hi : i < t.size) (hl : i < xs.length) (k : Nat) (hk : 9 ≤ k) : impl_foretold.f k d xs (bytesOf t) i u = some (says d xs t u i) := by
  unfold impl_foretold.f says
  have bb := bt_range t i
  have tl := bytesOf_len t
  rw [w64 (x := (i : Int) - u) (by omega) (by omega), impl_byteAt_eq xs hx _ (by omega)]
  simp only [Option.bind_some]
  rw [impl_byteAt_eq (bytesOf t) (bytesOf_Bytes t) (i : Int) (by omega), if_neg (show ¬ (i : Int) < 0 by omega), rd_bytesOf]
  simp only [Option.bind_some]
  rw [impl_byteAt_eq (bytesOf t) (bytesOf_Bytes t) ((i : Int) - u) (by omega)]
  simp only [Option.bind_some]
  have ea : (if (i : Int) - u < 0 then 0 else rd xs ((i : Int) - u)) = (if u ≤ i then rd xs ((i - u : Nat) : Int) else 0) := by
    by_cases h : u ≤ i
    · rw [if_neg (by omega), if_pos h, show (i : Int) - u = ((i - u : Nat) : Int) by omega]
    · rw [if_pos (by omega), if_neg h]
  have ec : (if (i : Int) - u < 0 then 0 else rd (bytesOf t) ((i : Int) - u)) = (if u ≤ i then bt t ((i - u : Nat) : Int) else 0) := by
    by_cases h : u ≤ i
    · rw [if_neg (by omega), if_pos h, show (i : Int) - u = ((i - u : Nat) : Int) by omega, rd_bytesOf]
    · rw [if_pos (by omega), if_neg h]
  have ba : 0 ≤ (if u ≤ i then rd xs ((i - u : Nat) : Int) else 0) ∧ (if u ≤ i then rd xs ((i - u : Nat) : Int) else 0) ≤ 255 := by
    split
    · exact rd_bd hx _
    · omega
  rw [ea, ec]
  generalize (if u ≤ i then rd xs ((i - u : Nat) : Int) else 0) = a at ba ⊢
  generalize (if u ≤ i then bt t ((i - u : Nat) : Int) else 0) = c
  unfold guess
  split
  · rfl
  · split
    · rfl
    · split
      · rw [w64 (x := a + bt t i) (by omega) (by omega), Int.tdiv_eq_ediv_of_nonneg (by omega), w64 (by omega) (by omega)]
      · split
        · rw [impl_Paeth_eq k (by omega)]; rfl
        · rfl

theorem impl_FilterRow_l0 (d : Int) (s t : ByteArray) (u : Nat) (hu : 1 ≤ u ∧ u ≤ 8) (hs : s.size = t.size) (hs2 : s.size ≤ 200) (n : Nat) : ∀ (k i : Nat), i ≤ s.size → s.size - i = n → n + 15 < k → impl_FilterRow.l0 k d u (bytesOf s) (bytesOf t) (filtL d s t u i) s.size i = some (strOfNums (filtL d s t u s.size), true) := by
  have hl := bytesOf_len s
  induction n with
  | zero =>
    intro k i hi hn hk
    obtain ⟨k, rfl⟩ : ∃ m, k = m + 1 := ⟨k - 1, by omega⟩
    obtain rfl : i = s.size := by omega
    simp only [impl_FilterRow.l0]
    rw [if_neg (by omega)]
  | succ n ih =>
    intro k i hi hn hk
    obtain ⟨k, rfl⟩ : ∃ m, k = m + 1 := ⟨k - 1, by omega⟩
    have lt : i < s.size := by omega
    have b := bt_range s i
    have y := says_bd (d := d) (bytesOf_Bytes s) t u i
    have st := ih k (i + 1) (by omega) (by omega) (by omega)
    push_cast at st
    simp only [impl_FilterRow.l0]
    rw [if_pos (by omega), if_pos (by omega), if_pos (by omega), impl_foretold_eq d _ (bytesOf_Bytes s) t (by omega) u i hu (by omega) (by omega) k (by omega)]
    simp only [Option.bind_some]
    rw [if_pos (by rw [filtL_len]; omega), rd_bytesOf, w64 (x := (i : Int) + 1) (by omega) (by omega), show (bt s i - says d (bytesOf s) t u i % 256) % 256 = (bt s i - says d (bytesOf s) t u i) % 256 by omega, ← filtL_succ]
    exact st
theorem impl_FilterRow_eq (d : Int) (s t : ByteArray) (u : Int) (k : Nat) (hk : 300 ≤ k) : impl_FilterRow.f k d s t u = some (filterRow d s t u) := by
  unfold impl_FilterRow.f filterRow
  rw [impl_filterOk_eq]
  simp only [Option.bind_some]
  by_cases h : filterB d s t u = true
  · rw [if_pos h, if_pos h]
    have q := (filterB_iff d s t u).mp h
    obtain ⟨n, rfl⟩ := Int.eq_ofNat_of_zero_le (show 0 ≤ u by omega)
    have := impl_FilterRow_l0 d s t n (by omega) (by omega) (by omega) s.size k 0 (by omega) (by omega) (by omega)
    rw [if_pos (by omega), if_pos (by omega), Int.toNat_natCast, bytesOf_len]
    exact this
  · rw [if_neg h, if_neg h]

def lightOf (c : Int) : Int := if c > 127 then 256 - c else c
theorem mn_light (c : Int) (h : 0 ≤ c) (h' : c ≤ 255) : mn c (256 - c) = lightOf c := by unfold mn lightOf; split <;> split <;> omega
/-- What the first n bytes weigh. -/
def weigh (s : ByteArray) : Nat → Int
  | 0 => 0
  | n + 1 => weigh s n + lightOf (bt s n)
theorem weigh_bd (s : ByteArray) (n : Nat) : 0 ≤ weigh s n ∧ weigh s n ≤ 128 * n := by
  induction n with
  | zero => simp [weigh]
  | succ n ih => have := bt_range s n; simp only [weigh, lightOf]; split <;> omega

theorem impl_RowWeight_l0 (s : ByteArray) (hs : s.size ≤ 200) (d : Nat) : ∀ (k n : Nat), n ≤ s.size → s.size - n = d → d < k → impl_RowWeight.l0 k s (weigh s n) s.size n = some (weigh s s.size) := by
  induction d with
  | zero =>
    intro k n hn hd hk
    obtain ⟨k, rfl⟩ : ∃ m, k = m + 1 := ⟨k - 1, by omega⟩
    obtain rfl : n = s.size := by omega
    simp only [impl_RowWeight.l0]
    rw [if_neg (by omega)]
  | succ d ih =>
    intro k n hn hd hk
    obtain ⟨k, rfl⟩ : ∃ m, k = m + 1 := ⟨k - 1, by omega⟩
    have hb := bt_range s n
    have hw := weigh_bd s (n + 1)
    have step := ih k (n + 1) (by omega) (by omega) (by omega)
    have hl := mn_light (bt s n) hb.1 hb.2
    simp only [weigh] at step hw
    simp only [impl_RowWeight.l0]
    rw [if_pos (by omega), if_pos (by omega), if_pos (by omega), wbt, w64 (x := 256 - bt s n) (by omega) (by omega), hl, w64 (x := weigh s n + lightOf (bt s n)) (by omega) (by omega), w64 (x := (n : Int) + 1) (by omega) (by omega)]
    exact step
theorem impl_RowWeight_eq (s : ByteArray) (k : Nat) (hk : 201 ≤ k) : impl_RowWeight.f k s = some (if s.size ≤ 200 then weigh s s.size else -1) := by
  unfold impl_RowWeight.f
  by_cases h : s.size ≤ 200
  · rw [if_neg (by omega), if_pos h]
    exact impl_RowWeight_l0 s h s.size k 0 (by omega) (by omega) (by omega)
  · rw [if_pos (by omega), if_neg h]

def wt (s t : ByteArray) (u : Int) (d : Nat) : Int := weigh (filterRow d s t u).1 (filterRow d s t u).1.size
theorem filterRow_size (d : Int) (s t : ByteArray) (u : Int) : (filterRow d s t u).1.size ≤ 200 := by
  unfold filterRow
  split
  · rename_i h
    have q := (filterB_iff d s t u).mp h
    simp only
    rw [strOfNums_size, filtL_len]; omega
  · simp only; decide
theorem filterRow_ok (d : Int) (s t : ByteArray) (u : Int) : (filterRow d s t u).2 = filterB d s t u := by
  unfold filterRow
  split
  · rename_i h; exact h.symm
  · rename_i h; exact (Bool.eq_false_iff.mpr h).symm
theorem filterB_any (s t : ByteArray) (u : Int) (d : Nat) (hd : d ≤ 4) : filterB d s t u = filterB 0 s t u := by
  rw [Bool.eq_iff_iff, filterB_iff, filterB_iff]; omega
theorem RowWeight_filter (d : Nat) (s t : ByteArray) (u : Int) (k : Nat) (hk : 201 ≤ k) : impl_RowWeight.f k (filterRow d s t u).1 = some (wt s t u d) := by
  rw [impl_RowWeight_eq _ k hk, if_pos (filterRow_size _ s t u)]; rfl
theorem impl_best_l0 (s t : ByteArray) (u : Int) (ok : filterB 0 s t u = true) (r : Nat) : ∀ (k i b : Nat) (w : Int), i + r = 5 → r + 400 < k → (i = 0 ∧ w = -1 ∧ b = 0 ∨ 0 < i ∧ b < i ∧ w = wt s t u b ∧ ∀ j, j < i → w ≤ wt s t u j) →
    ∃ b' : Nat, impl_BestFilter.l0 k s t u b w i = some ((b' : Int), true) ∧ b' ≤ 4 ∧ ∀ j, j ≤ 4 → wt s t u b' ≤ wt s t u j := by
  induction r with
  | zero =>
    intro k i b w hi hk hw
    obtain ⟨k, rfl⟩ : ∃ m, k = m + 1 := ⟨k - 1, by omega⟩
    rcases hw with hw | ⟨h1, h2, h3, h4⟩
    · omega
    · refine ⟨b, ?_, by omega, fun j hj => ?_⟩
      · simp only [impl_BestFilter.l0]; rw [if_neg (by omega)]
      · rw [← h3]; exact h4 j (by omega)
  | succ r ih =>
    intro k i b w hi hk hw
    obtain ⟨k, rfl⟩ : ∃ m, k = m + 1 := ⟨k - 1, by omega⟩
    have fb := filterB_any s t u i (by omega)
    simp only [impl_BestFilter.l0]
    rw [if_pos (by omega), impl_FilterRow_eq _ s t u k (by omega), w64 (x := (i : Int) + 1) (by omega) (by omega)]
    simp only [Option.bind_some]
    rw [if_pos (by rw [filterRow_ok, fb]; exact ok), RowWeight_filter i s t u k (by omega)]
    simp only [Option.bind_some]
    have nn : ∀ j, 0 ≤ wt s t u j := fun j => (weigh_bd _ _).1
    have st := fun b w => ih k (i + 1) b w (by omega) (by omega)
    push_cast at st
    rcases hw with ⟨h1, h2, h3⟩ | ⟨h1, h2, h3, h4⟩
    · rw [if_pos (by omega)]
      exact st i _ (.inr ⟨by omega, by omega, rfl, fun j hj => by rw [show j = i by omega]; exact Int.le_refl _⟩)
    · have n1 := nn b
      rw [if_neg (by omega)]
      by_cases h5 : wt s t u i < w
      · rw [if_pos h5]
        refine st i _ (.inr ⟨by omega, by omega, rfl, fun j hj => ?_⟩)
        by_cases h6 : j = i
        · rw [h6]; exact Int.le_refl _
        · have := h4 j (by omega); omega
      · rw [if_neg h5]
        refine st b w (.inr ⟨by omega, by omega, h3, fun j hj => ?_⟩)
        by_cases h6 : j = i
        · rw [h6]; omega
        · exact h4 j (by omega)
theorem impl_BestFilter_ok (s t : ByteArray) (u : Int) (ok : filterB 0 s t u = true) (k : Nat) (hk : 500 ≤ k) : ∃ b : Nat, impl_BestFilter.f k s t u = some ((b : Int), true) ∧ b ≤ 4 ∧ ∀ j, j ≤ 4 → wt s t u b ≤ wt s t u j := by
  unfold impl_BestFilter.f
  exact impl_best_l0 s t u ok 5 k 0 0 (-1) (by omega) (by omega) (.inl ⟨rfl, rfl, rfl⟩)
theorem impl_BestFilter_no (s t : ByteArray) (u : Int) (ok : filterB 0 s t u = false) (k : Nat) (hk : 500 ≤ k) : impl_BestFilter.f k s t u = some (0, false) := by
  obtain ⟨k, rfl⟩ : ∃ m, k = m + 1 := ⟨k - 1, by omega⟩
  unfold impl_BestFilter.f
  simp only [impl_BestFilter.l0]
  rw [if_pos (by omega), impl_FilterRow_eq _ s t u k (by omega)]
  simp only [Option.bind_some]
  rw [if_neg (by rw [filterRow_ok, ok]; decide)]

theorem impl_UnfilterRow_l0 (d : Int) (s t : ByteArray) (u : Nat) (hu : 1 ≤ u ∧ u ≤ 8) (hs : s.size = t.size) (hs2 : s.size ≤ 200) (n : Nat) : ∀ (k i : Nat), i ≤ s.size → s.size - i = n → n + 15 < k → impl_UnfilterRow.l0 k d u (unfL d s t u i ++ (bytesOf s).drop i) (bytesOf t) s.size i = some (strOfNums (unfL d s t u s.size), true) := by
  have hl := bytesOf_len s
  induction n with
  | zero =>
    intro k i hi hn hk
    obtain ⟨k, rfl⟩ : ∃ m, k = m + 1 := ⟨k - 1, by omega⟩
    obtain rfl : i = s.size := by omega
    simp only [impl_UnfilterRow.l0]
    rw [if_neg (by omega), List.drop_eq_nil_of_le (by omega), List.append_nil]
  | succ n ih =>
    intro k i hi hn hk
    obtain ⟨k, rfl⟩ : ∃ m, k = m + 1 := ⟨k - 1, by omega⟩
    have lt : i < s.size := by omega
    have b := bt_range s i
    have hb := unfL_Bytes d s t u i
    have hlen := unfL_len d s t u i
    have y := says_bd (d := d) hb t u i
    have st := ih k (i + 1) (by omega) (by omega) (by omega)
    have dr : (bytesOf s).drop i = bt s i :: (bytesOf s).drop (i + 1) := by
      rw [List.drop_eq_getElem_cons (by omega), ← rd_at (bytesOf s) i (by omega), rd_bytesOf]
    have hB : Bytes (unfL d s t u i ++ (bytesOf s).drop i) := by
      intro x hx
      rcases List.mem_append.mp hx with h | h
      · exact hb x h
      · exact bytesOf_Bytes s x (List.mem_of_mem_drop h)
    have hL : (unfL d s t u i ++ (bytesOf s).drop i).length = s.size := by rw [List.length_append, List.length_drop]; omega
    have e1 : says d (unfL d s t u i ++ (bytesOf s).drop i) t u i = says d (unfL d s t u i) t u i := says_congr d _ _ t u i (fun h => rd_left _ _ _ (by omega))
    have e2 : rd (unfL d s t u i ++ (bytesOf s).drop i) i = bt s i := by rw [dr]; exact rd_mid _ _ _ i hlen.symm
    push_cast at st
    simp only [impl_UnfilterRow.l0]
    rw [if_pos (by omega), if_pos (by omega), if_pos (by omega), impl_foretold_eq d _ hB t (by omega) u i hu (by omega) (by omega) k (by omega)]
    simp only [Option.bind_some]
    rw [e1, e2, w64 (x := (i : Int) + 1) (by omega) (by omega), Int.toNat_natCast]
    have e3 : (unfL d s t u i ++ (bytesOf s).drop i).set i ((bt s i + says d (unfL d s t u i) t u i % 256) % 256) = unfL d s t u (i + 1) ++ (bytesOf s).drop (i + 1) := by
      rw [dr, List.set_append_right _ _ (by omega), hlen, Nat.sub_self, List.set_cons_zero, unfL, List.append_assoc, List.singleton_append, show (bt s i + says d (unfL d s t u i) t u i % 256) % 256 = (bt s i + says d (unfL d s t u i) t u i) % 256 by omega]
    rw [e3]
    exact st
theorem impl_UnfilterRow_eq (d : Int) (s t : ByteArray) (u : Int) (k : Nat) (hk : 300 ≤ k) : impl_UnfilterRow.f k d s t u = some (unfilterRow d s t u) := by
  unfold impl_UnfilterRow.f unfilterRow
  rw [impl_filterOk_eq]
  simp only [Option.bind_some]
  by_cases h : filterB d s t u = true
  · rw [if_pos h, if_pos h]
    have q := (filterB_iff d s t u).mp h
    obtain ⟨n, rfl⟩ := Int.eq_ofNat_of_zero_le (show 0 ≤ u by omega)
    have := impl_UnfilterRow_l0 d s t n (by omega) (by omega) (by omega) s.size k 0 (by omega) (by omega) (by omega)
    rw [if_pos (by omega), if_pos (by omega), Int.toNat_natCast, bytesOf_len]
    exact this
  · rw [if_neg h, if_neg h]

theorem spec_l01In_eq (a b c : Int) : spec_l01In.f a b c = some (decide (b ≤ a) && decide (a ≤ c)) := by
  unfold spec_l01In.f
  by_cases h : b ≤ a <;> simp [h]

theorem spec_l13Size_eq (a : Int) (h : -10000 ≤ a) (h' : a ≤ 10000) : spec_l13Size.f a = some (absD a) := by
  unfold spec_l13Size.f absD
  rw [w64 (by omega) (by omega)]
  split <;> rfl
theorem spec_Paeth_eq (k : Nat) (hk : 2 ≤ k) (a b c : Int) : spec_Paeth.f k a b c = some (paethAll a b c) := by
  obtain ⟨k, rfl⟩ : ∃ m, k = m + 2 := ⟨k - 2, by omega⟩
  unfold spec_Paeth.f paethAll
  simp only [spec_l01In_eq, Option.bind_some]
  change (if inR a = true then (if inR b = true then spec_Paeth.j0 (k + 2) a b c (!(inR c)) else spec_Paeth.j0 (k + 2) a b c true) else spec_Paeth.j0 (k + 2) a b c true) = _
  have yes : spec_Paeth.j0 (k + 2) a b c true = some 0 := by simp [spec_Paeth.j0]
  rw [yes]
  by_cases ha : inR a = true
  · by_cases hb : inR b = true
    · by_cases hc : inR c = true
      · simp only [ha, hb, hc, if_true, Bool.not_true, Bool.and_self]
        rw [inR_iff] at ha hb hc
        simp only [spec_Paeth.j0, spec_Paeth.j1]
        rw [w64 (x := a + b) (by omega) (by omega), w64 (x := a + b - c) (by omega) (by omega), w64 (x := a + b - c - a) (by omega) (by omega), w64 (x := a + b - c - b) (by omega) (by omega), w64 (x := a + b - c - c) (by omega) (by omega)]
        rw [spec_l13Size_eq _ (by omega) (by omega), spec_l13Size_eq _ (by omega) (by omega), spec_l13Size_eq _ (by omega) (by omega)]
        simp only [Option.bind_some, paeth, show b + a - c - a = a + b - c - a by omega]
        by_cases h1 : absD (a + b - c - a) ≤ absD (a + b - c - b)
        · by_cases h2 : absD (a + b - c - a) ≤ absD (a + b - c - c)
          · simp [h1, h2]
          · simp [h1, h2]; split <;> rfl
        · simp [h1]; split <;> rfl
      · simp [ha, hb, hc, yes]
    · simp [ha, hb]
  · simp [ha]

theorem spec_l13Ok_eq (d : Int) (s t : ByteArray) (u : Int) : spec_l13Ok.f d s t u = some (filterB d s t u) := by
  unfold spec_l13Ok.f
  rw [spec_l01In_eq]
  simp only [Option.bind_some]
  split
  · rename_i h1
    rw [spec_l01In_eq]
    simp only [Option.bind_some]
    split
    · rename_i h2
      split
      · rename_i h3
        congr 1
        rw [Bool.eq_iff_iff, filterB_iff]
        simp at h1 h2 ⊢; omega
      · rename_i h3
        congr 1
        symm
        rw [Bool.eq_false_iff, ne_eq, filterB_iff]
        omega
    · rename_i h2
      congr 1
      symm
      rw [Bool.eq_false_iff, ne_eq, filterB_iff]
      simp at h2; omega
  · rename_i h1
    congr 1
    symm
    rw [Bool.eq_false_iff, ne_eq, filterB_iff]
    simp at h1; omega
theorem spec_l13Says_j0_eq {d a b c : Int} (ha : 0 ≤ a ∧ a ≤ 255) (hb : 0 ≤ b ∧ b ≤ 255) (k : Nat) (hk : 3 ≤ k) : spec_l13Says.j0 k d a c b = some (guess d a b c) := by
  obtain ⟨k, rfl⟩ : ∃ m, k = m + 1 := ⟨k - 1, by omega⟩
  simp only [spec_l13Says.j0]
  unfold guess
  split
  · rfl
  · split
    · rfl
    · split
      · rw [w64 (x := a + b) (by omega) (by omega), Int.tdiv_eq_ediv_of_nonneg (by omega), w64 (by omega) (by omega)]
      · split
        · rw [spec_Paeth_eq k (by omega)]; rfl
        · rfl
theorem spec_l13Says_eq (d : Int) (xs : List Int) (hx : Bytes xs) (t : ByteArray) (ht : t.size ≤ 1000000) (u i : Nat) (hu : 1 ≤ u ∧ u ≤ 8) (hi : i < t.size) (hl : u ≤ i → i - u < xs.length) (k : Nat) (hk : 3 ≤ k) : spec_l13Says.f k d xs t u i = some (says d xs t u i) := by
  unfold spec_l13Says.f says
  have bb := bt_range t i
  rw [if_pos (by omega), if_pos (by omega), w64 (x := bt t i) (by omega) (by omega)]
  by_cases h : u ≤ i
  · have e : ((i : Int) - (u : Int)) = ((i - u : Nat) : Int) := by omega
    have hl' := hl h
    have ba := rd_bd hx ((i - u : Nat) : Int)
    have bc := bt_range t ((i - u : Nat) : Int)
    rw [if_pos (show (i : Int) ≥ u by omega), w64 (x := (i : Int) - u) (by omega) (by omega), e, if_pos (by omega), if_pos (by omega), if_pos (by omega), w64 (x := rd xs ((i - u : Nat) : Int)) (by omega) (by omega), w64 (x := bt t ((i - u : Nat) : Int)) (by omega) (by omega), if_pos h, if_pos h]
    exact spec_l13Says_j0_eq ba bb k hk
  · rw [if_neg (show ¬ (i : Int) ≥ u by omega), if_neg h, if_neg h]
    exact spec_l13Says_j0_eq (by omega) bb k hk

theorem spec_FilterRow_l0 (d : Int) (s t : ByteArray) (u : Nat) (hu : 1 ≤ u ∧ u ≤ 8) (hs : s.size = t.size) (hs2 : s.size ≤ 200) (n : Nat) : ∀ (k i : Nat), i ≤ s.size → s.size - i = n → n + 5 < k → spec_FilterRow.l0 k d s t u (filtL d s t u i) i = some (strOfNums (filtL d s t u s.size), true) := by
  induction n with
  | zero =>
    intro k i hi hn hk
    obtain ⟨k, rfl⟩ : ∃ m, k = m + 1 := ⟨k - 1, by omega⟩
    obtain rfl : i = s.size := by omega
    simp only [spec_FilterRow.l0]
    rw [if_neg (by omega)]
  | succ n ih =>
    intro k i hi hn hk
    obtain ⟨k, rfl⟩ : ∃ m, k = m + 1 := ⟨k - 1, by omega⟩
    have lt : i < s.size := by omega
    have b := bt_range s i
    have y := says_bd (d := d) (bytesOf_Bytes s) t u i
    have hl := bytesOf_len s
    have st := ih k (i + 1) (by omega) (by omega) (by omega)
    push_cast at st
    simp only [spec_FilterRow.l0]
    rw [if_pos (by omega), if_pos (by omega), if_pos (by omega), spec_l13Says_eq d _ (bytesOf_Bytes s) t (by omega) u i hu (by omega) (by omega) k (by omega)]
    simp only [Option.bind_some]
    rw [if_pos (by rw [filtL_len]; omega), w64 (x := bt s i) (by omega) (by omega), w64 (x := bt s i + 256) (by omega) (by omega), w64 (x := bt s i + 256 - says d (bytesOf s) t u i) (by omega) (by omega), w64 (x := (i : Int) + 1) (by omega) (by omega), show (bt s i + 256 - says d (bytesOf s) t u i) % 256 = (bt s i - says d (bytesOf s) t u i) % 256 by omega, ← filtL_succ]
    exact st
theorem spec_FilterRow_eq (d : Int) (s t : ByteArray) (u : Int) (k : Nat) (hk : 300 ≤ k) : spec_FilterRow.f k d s t u = some (filterRow d s t u) := by
  unfold spec_FilterRow.f filterRow
  rw [spec_l13Ok_eq]
  simp only [Option.bind_some]
  by_cases h : filterB d s t u = true
  · rw [if_pos h, if_pos h]
    have q := (filterB_iff d s t u).mp h
    obtain ⟨n, rfl⟩ := Int.eq_ofNat_of_zero_le (show 0 ≤ u by omega)
    have := spec_FilterRow_l0 d s t n (by omega) (by omega) (by omega) s.size k 0 (by omega) (by omega) (by omega)
    rw [Int.toNat_natCast]
    exact this
  · rw [if_neg h, if_neg h]

theorem and_bd (x : Int) (m : Nat) (hm : m < 9223372036854775808) : 0 ≤ Go.bits .and .i64 x m ∧ Go.bits .and .i64 x m ≤ m := by
  unfold Go.bits
  simp only [IntKind.wrap_i64]
  have h : (BitVec.ofInt IntKind.i64.bits x &&& BitVec.ofInt IntKind.i64.bits (m : Int)).toNat ≤ m := by
    rw [BitVec.toNat_and]
    refine Nat.le_trans Nat.and_le_right ?_
    rw [BitVec.ofInt_natCast, BitVec.toNat_ofNat]
    exact Nat.mod_le _ _
  omega
theorem and_255 (x : Int) : 0 ≤ Go.bits .and .i64 x 255 ∧ Go.bits .and .i64 x 255 ≤ 255 := and_bd x 255 (by omega)
theorem spec_l01New_l0 (l : List Int) (hl : l.length ≤ 1048576) (d : Nat) : ∀ (k i : Nat) (h : Int), i ≤ l.length → l.length - i = d → d < k → ∃ h', spec_l01New.l0 k l h i = some (l, 0, h') := by
  induction d with
  | zero =>
    intro k i h hi hd hk
    obtain ⟨k, rfl⟩ : ∃ m, k = m + 1 := ⟨k - 1, by omega⟩
    exact ⟨h, by simp only [spec_l01New.l0]; rw [if_neg (by omega)]⟩
  | succ d ih =>
    intro k i h hi hd hk
    obtain ⟨k, rfl⟩ : ∃ m, k = m + 1 := ⟨k - 1, by omega⟩
    simp only [spec_l01New.l0]
    rw [if_pos (by omega)]
    by_cases h4 : (i : Int) < 4000
    · rw [if_pos h4, if_pos (by omega), w64 (x := (i : Int) + 1) (by omega) (by omega)]
      exact ih k (i + 1) _ (by omega) (by omega) (by omega)
    · rw [if_neg h4]; exact ⟨h, rfl⟩
theorem spec_l01New_eq (l : List Int) (hl : l.length ≤ 1048576) (k : Nat) (hk : l.length < k) : ∃ h, spec_l01New.f k l = some (l, 0, h) := by
  unfold spec_l01New.f
  exact spec_l01New_l0 l hl l.length k 0 _ (by omega) (by omega) hk
/-- A cursor's place. -/
def Cur (l : List Int) (i : Int) : Prop := l.length ≤ 1048576 ∧ 0 ≤ i ∧ i ≤ l.length
theorem cur_new {l : List Int} (hl : l.length ≤ 1048576) : Cur l 0 := ⟨hl, by omega, by omega⟩
theorem spec_l01Byte_eq {l : List Int} {i : Int} (hc : Cur l i) (h : Int) : ∃ x i' h', spec_l01Byte.f l i h = some (x, i', h') ∧ 0 ≤ x ∧ x ≤ 255 ∧ Cur l i' := by
  obtain ⟨hl, h0, h1⟩ := hc
  unfold spec_l01Byte.f
  by_cases hi : i < l.length
  · rw [if_pos hi, if_pos h0, w64 (x := i + 1) (by omega) (by omega)]
    exact ⟨_, _, _, rfl, (and_255 _).1, (and_255 _).2, hl, by omega, by omega⟩
  · rw [if_neg hi]
    exact ⟨_, _, _, rfl, (and_255 _).1, (and_255 _).2, hl, h0, h1⟩
theorem spec_l01Below_eq {l : List Int} {i : Int} (hc : Cur l i) (h : Int) (n : Int) : ∃ x i' h', spec_l01Below.f l i h n = some (x, i', h') ∧ 0 ≤ x ∧ (0 < n → x < n) ∧ (n ≤ 0 → x = 0) ∧ Cur l i' := by
  unfold spec_l01Below.f
  by_cases h0 : n ≤ 0
  · rw [if_pos h0]
    exact ⟨_, _, _, rfl, by omega, by omega, fun _ => rfl, hc⟩
  · rw [if_neg h0]
    have tm : ∀ y : Int, 0 ≤ y → 0 ≤ Int.tmod y n ∧ Int.tmod y n < n := fun y hy => ⟨Int.tmod_nonneg _ hy, Int.tmod_lt_of_pos _ (by omega)⟩
    by_cases h1 : n ≤ 256
    · rw [if_pos h1]
      obtain ⟨x, i1, h1', e1, a1, b1, c1⟩ := spec_l01Byte_eq hc h
      rw [e1]
      simp only [Option.bind_some]
      rw [if_neg (by omega)]
      exact ⟨_, _, _, rfl, (tm x a1).1, fun _ => (tm x a1).2, by omega, c1⟩
    · rw [if_neg h1]
      obtain ⟨x, i1, h1', e1, a1, b1, c1⟩ := spec_l01Byte_eq hc h
      rw [e1]; simp only [Option.bind_some]
      obtain ⟨y, i2, h2', e2, a2, b2, c2⟩ := spec_l01Byte_eq c1 h1'
      rw [e2]; simp only [Option.bind_some]
      obtain ⟨z, i3, h3', e3, a3, b3, c3⟩ := spec_l01Byte_eq c2 h2'
      rw [e3]; simp only [Option.bind_some]
      obtain ⟨u, i4, h4', e4, a4, b4, c4⟩ := spec_l01Byte_eq c3 h3'
      rw [e4]; simp only [Option.bind_some]
      rw [if_neg (by omega), w64 (x := x * 16777216) (by omega) (by omega), w64 (x := y * 65536) (by omega) (by omega), w64 (x := x * 16777216 + y * 65536) (by omega) (by omega), w64 (x := z * 256) (by omega) (by omega), w64 (x := x * 16777216 + y * 65536 + z * 256) (by omega) (by omega), w64 (x := x * 16777216 + y * 65536 + z * 256 + u) (by omega) (by omega)]
      exact ⟨_, _, _, rfl, (tm _ (by omega)).1, fun _ => (tm _ (by omega)).2, by omega, c4⟩

theorem str_append (xs ys : List Int) : strOfNums xs ++ strOfNums ys = strOfNums (xs ++ ys) := by
  apply ByteArray.ext
  apply Array.ext'
  rw [ByteArray.data_append, Array.toList_append, strOfNums_data, strOfNums_data, strOfNums_data, List.map_append]
theorem str_nil : (⟨#[]⟩ : ByteArray) = strOfNums [] := rfl
theorem str_size (xs : List Int) : (strOfNums xs).size = xs.length := strOfNums_size xs

theorem spec_l01Text_l0 (l : List Int) (n : Nat) (hn : n ≤ 5000) (r : Nat) : ∀ (k j : Nat) (s : List Int) (i h : Int), Cur l i → s.length = j → j + r = n → r < k → ∃ t i' h', spec_l01Text.l0 k n s j l i h = some (t, i', h') ∧ t.size = n ∧ Cur l i' := by
  induction r with
  | zero =>
    intro k j s i h hc hs hj hk
    obtain ⟨k, rfl⟩ : ∃ m, k = m + 1 := ⟨k - 1, by omega⟩
    simp only [spec_l01Text.l0]
    rw [if_neg (by omega)]
    exact ⟨_, _, _, rfl, by rw [str_size]; omega, hc⟩
  | succ r ih =>
    intro k j s i h hc hs hj hk
    obtain ⟨k, rfl⟩ : ∃ m, k = m + 1 := ⟨k - 1, by omega⟩
    simp only [spec_l01Text.l0]
    obtain ⟨x, i1, h1, e1, a1, b1, c1⟩ := spec_l01Byte_eq hc h
    rw [if_pos (by omega), e1]
    simp only [Option.bind_some]
    rw [if_pos (by omega), w64 (x := (j : Int) + 1) (by omega) (by omega)]
    have st := ih k (j + 1) (s ++ [x % 256]) i1 h1 c1 (by rw [List.length_append]; simp [hs]) (by omega) (by omega)
    push_cast at st
    exact st
theorem spec_l01Text_eq {l : List Int} {i : Int} (hc : Cur l i) (h : Int) (n : Nat) (hn : n ≤ 5000) (k : Nat) (hk : n + 1 < k) : ∃ t i' h', spec_l01Text.f k l i h n = some (t, i', h') ∧ t.size = n ∧ Cur l i' := by
  obtain ⟨k, rfl⟩ : ∃ m, k = m + 1 := ⟨k - 1, by omega⟩
  unfold spec_l01Text.f
  rw [if_neg (by omega)]
  simp only [spec_l01Text.j0]
  have := spec_l01Text_l0 l n hn n k 0 [] i h hc rfl (by omega) (by omega)
  simpa using this

theorem spec_l01Once_eq {l : List Int} {i : Int} (hc : Cur l i) (h n : Int) : ∃ b i' h', spec_l01Once.f l i h n = some (b, i', h') ∧ Cur l i' := by
  unfold spec_l01Once.f
  obtain ⟨x, i1, h1, e1, _, _, _, c1⟩ := spec_l01Below_eq hc h n
  rw [e1]; exact ⟨_, _, _, rfl, c1⟩
theorem spec_l01PickInt_eq' {l : List Int} {i : Int} (hc : Cur l i) (h : Int) (xs : List Int) (hx : 0 < xs.length) : ∃ x i' h', spec_l01PickInt.f l i h xs = some (x, i', h') ∧ Cur l i' := by
  unfold spec_l01PickInt.f
  obtain ⟨x, i1, h1, e1, a1, b1, _, c1⟩ := spec_l01Below_eq hc h xs.length
  have := b1 (by omega)
  rw [e1]; simp only [Option.bind_some]
  rw [if_pos a1, if_pos this]
  exact ⟨_, _, _, rfl, c1⟩
theorem spec_l01Odd_eq {l : List Int} {i : Int} (hc : Cur l i) (h : Int) (xs : List Int) (hx : 0 < xs.length) : ∃ x i' h', spec_l01Odd.f l i h xs = some (x, i', h') ∧ Cur l i' := by
  unfold spec_l01Odd.f
  obtain ⟨b, i1, h1, e1, c1⟩ := spec_l01Once_eq hc h 15
  rw [e1]; simp only [Option.bind_some]
  split
  · obtain ⟨x, i2, h2, e2, c2⟩ := spec_l01PickInt_eq' c1 h1 [(-1), 9223372036854775807, (-9223372036854775808)] (by decide)
    rw [e2]; exact ⟨_, _, _, rfl, c2⟩
  · obtain ⟨x, i2, h2, e2, c2⟩ := spec_l01PickInt_eq' c1 h1 xs hx
    rw [e2]; exact ⟨_, _, _, rfl, c2⟩
theorem spec_l13Rows_j0 {l : List Int} {i : Int} (hc : Cur l i) (h : Int) (n : Nat) (hn : n ≤ 5000) (k : Nat) (hk : n + 5 < k) : ∃ s t u i' h', spec_l13Rows.j0 k n l i h = some (s, t, u, i', h') ∧ Cur l i' := by
  obtain ⟨k, rfl⟩ : ∃ m, k = m + 1 := ⟨k - 1, by omega⟩
  simp only [spec_l13Rows.j0]
  obtain ⟨s, i1, h1, e1, z1, c1⟩ := spec_l01Text_eq hc h n hn k (by omega)
  rw [e1]; simp only [Option.bind_some]
  obtain ⟨t, i2, h2, e2, z2, c2⟩ := spec_l01Text_eq c1 h1 n hn k (by omega)
  rw [e2]; simp only [Option.bind_some]
  obtain ⟨b, i3, h3, e3, c3⟩ := spec_l01Once_eq c2 h2 20
  rw [e3]; simp only [Option.bind_some]
  obtain ⟨u, i4, h4, e4, c4⟩ := spec_l01Odd_eq c3 h3 [1, 2, 3, 4, 6, 8, 1, 2, 3, 0, 9] (by decide)
  split
  · rw [if_pos (by omega), e4]; exact ⟨_, _, _, _, _, rfl, c4⟩
  · rw [e4]; exact ⟨_, _, _, _, _, rfl, c4⟩
theorem spec_l13Rows_eq {l : List Int} {i : Int} (hc : Cur l i) (h : Int) (k : Nat) (hk : 300 ≤ k) : ∃ s t u i' h', spec_l13Rows.f k l i h = some (s, t, u, i', h') ∧ Cur l i' := by
  unfold spec_l13Rows.f
  obtain ⟨n, i1, h1, e1, a1, b1, _, c1⟩ := spec_l01Below_eq hc h 16
  have := b1 (by omega)
  rw [e1]; simp only [Option.bind_some]
  obtain ⟨b, i2, h2, e2, c2⟩ := spec_l01Once_eq c1 h1 30
  rw [e2]; simp only [Option.bind_some]
  split
  · obtain ⟨m, i3, h3, e3, a3, b3, _, c3⟩ := spec_l01Below_eq c2 h2 2
    have := b3 (by omega)
    rw [e3]; simp only [Option.bind_some]
    rw [w64 (x := 200 + m) (by omega) (by omega)]
    obtain ⟨q, hq⟩ := Int.eq_ofNat_of_zero_le (show 0 ≤ 200 + m by omega)
    rw [hq]
    exact spec_l13Rows_j0 c3 h3 q (by omega) k (by omega)
  · obtain ⟨q, rfl⟩ := Int.eq_ofNat_of_zero_le a1
    exact spec_l13Rows_j0 c2 h2 q (by omega) k (by omega)
theorem spec_DrawBestFilter_eq (l : List Int) (hl : l.length ≤ 1048576) (k : Nat) (hk : l.length + 300 < k) : ∃ s t u, spec_DrawBestFilter.f k l = some (s, t, u) := by
  unfold spec_DrawBestFilter.f
  obtain ⟨h, e⟩ := spec_l01New_eq l hl k (by omega)
  rw [e]; simp only [Option.bind_some]
  obtain ⟨s, t, u, i1, h1, e1, _⟩ := spec_l13Rows_eq (cur_new hl) h k (by omega)
  rw [e1]
  exact ⟨_, _, _, rfl⟩

theorem laws_big_eq (l : List Int) : laws_big.f l = some (decide (1048576 < l.length)) := by
  unfold laws_big.f
  congr 1
  rw [Bool.eq_iff_iff]; simp; omega

theorem round_trip (d : Nat) (hd : d ≤ 4) (s t : ByteArray) (u : Int) (ok : filterB 0 s t u = true) : unfilterRow d (filterRow d s t u).1 t u = (s, true) := by
  have ok' : filterB d s t u = true := by rw [filterB_any s t u d hd]; exact ok
  have q := (filterB_iff d s t u).mp ok'
  have hl := bytesOf_len s
  obtain ⟨f, hf⟩ : ∃ f, f = strOfNums (filtL d s t u.toNat s.size) := ⟨_, rfl⟩
  have e1 : (filterRow d s t u).1 = f := by unfold filterRow; rw [if_pos ok', hf]
  have sz : f.size = s.size := by rw [hf, strOfNums_size, filtL_len]
  have ok2 : filterB d f t u = true := by rw [filterB_iff]; omega
  rw [e1]
  unfold unfilterRow
  rw [if_pos ok2, sz, unf_filt d s t u.toNat f hf (by omega) s.size (Nat.le_refl _), List.take_of_length_le (by omega), str_bytesOf']
theorem laws_FnFilters_l0 (s t : ByteArray) (u : Int) (ok : filterB 0 s t u = true) (b : Nat) (hb : ∀ j, j ≤ 4 → wt s t u b ≤ wt s t u j) (r : Nat) : ∀ (k i : Nat), i + r = 5 → r + 500 < k → laws_FnFilters.l0 k s t u (filterRow b s t u).1 i = some true := by
  induction r with
  | zero =>
    intro k i hi hk
    obtain ⟨k, rfl⟩ : ∃ m, k = m + 1 := ⟨k - 1, by omega⟩
    simp only [laws_FnFilters.l0]
    rw [if_neg (by omega)]
  | succ r ih =>
    intro k i hi hk
    obtain ⟨k, rfl⟩ : ∃ m, k = m + 1 := ⟨k - 1, by omega⟩
    have fb := filterB_any s t u i (by omega)
    have st := ih k (i + 1) (by omega) (by omega)
    push_cast at st
    simp only [laws_FnFilters.l0]
    rw [if_pos (by omega), impl_FilterRow_eq _ s t u k (by omega)]
    simp only [Option.bind_some]
    rw [impl_UnfilterRow_eq _ _ t u k (by omega), round_trip i (by omega) s t u ok]
    simp only [Option.bind_some]
    rw [if_pos (by rw [filterRow_ok, fb]; exact ok), if_pos trivial, if_pos trivial, RowWeight_filter i s t u k (by omega), RowWeight_filter b s t u k (by omega)]
    simp only [Option.bind_some]
    have h1 := hb i (by omega)
    have h2 : 0 ≤ wt s t u i := (weigh_bd _ _).1
    rw [if_neg (by omega), if_neg (by omega), w64 (x := (i : Int) + 1) (by omega) (by omega)]
    exact st
theorem FnFilters : laws_FnFilters.Pure := by
  intro l hl _ _
  obtain ⟨k, hk⟩ : ∃ k : Nat, k = 5000000 := ⟨_, rfl⟩
  refine ⟨k, ?_⟩
  unfold laws_FnFilters.f
  rw [laws_big_eq]
  simp only [Option.bind_some, decide_eq_true_eq]
  by_cases hbig : 1048576 < l.length
  · rw [if_pos hbig]
  · rw [if_neg hbig]
    obtain ⟨s, t, u, e⟩ := spec_DrawBestFilter_eq l (by omega) k (by omega)
    rw [e]
    simp only [Option.bind_some]
    rw [spec_FilterRow_eq 0 s t u k (by omega)]
    simp only [Option.bind_some]
    rw [filterRow_ok]
    by_cases ok : filterB 0 s t u = true
    · obtain ⟨b, e2, hb, hm⟩ := impl_BestFilter_ok s t u ok k (by omega)
      rw [e2]
      simp only [Option.bind_some]
      rw [ok, if_neg (by simp), if_pos trivial, impl_FilterRow_eq _ s t u k (by omega)]
      simp only [Option.bind_some]
      exact laws_FnFilters_l0 s t u ok b hm 5 k 0 (by omega) (by omega)
    · have ok' := Bool.eq_false_iff.mpr ok
      rw [impl_BestFilter_no s t u ok' k (by omega)]
      simp only [Option.bind_some]
      rw [ok', if_neg (by simp), if_neg (by simp)]
      rfl

end Go.Proofs.Ytefoebmcimnapaa.Pure
