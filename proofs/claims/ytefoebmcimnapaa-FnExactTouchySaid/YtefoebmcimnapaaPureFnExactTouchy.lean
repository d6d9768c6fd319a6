/- The program's Touchy returns what the reference's returns, for all arguments. -/
import Derived.Test.YtefoebmcimnapaaPFnExactTouchyx6
set_option linter.unusedVariables false
set_option linter.unusedSimpArgs false
namespace Go.Proofs.Ytefoebmcimnapaa.Pure
open Go.RowKit Go.Proofs.Ytefoebmcimnapaa.PFnExactTouchy Go.Proofs.YtefoebmcimnapaaW.PrintWords Go.Proofs.YtefoebmcimnapaaW.PrintLast

theorem w64 {x : Int} (h : -9223372036854775808 ≤ x) (h' : x ≤ 9223372036854775807) : wrap64 x = x := by unfold wrap64; omega
theorem wf_i64 {a : Int} (h : (Lit.int .i64 a).wf = true) : -9223372036854775808 ≤ a ∧ a ≤ 9223372036854775807 := by
  simpa [Lit.wf, IntKind.min, IntKind.max, IntKind.signed, IntKind.bits] using h
theorem wbt (s : ByteArray) (i : Int) : wrap64 (bt s i) = bt s i := w64 (by have := bt_range s i; omega) (by have := bt_range s i; omega)

theorem impl_within_eq (a b c : Int) : impl_within.f a b c = some (decide (b ≤ a) && decide (a ≤ c)) := by
  unfold impl_within.f
  by_cases h : b ≤ a <;> simp [h]

def great (c : Int) : Bool := decide (65 ≤ c) && decide (c ≤ 90)
def small (c : Int) : Bool := decide (97 ≤ c) && decide (c ≤ 122)
theorem spec_l16Letter_eq (c : Int) : spec_l16Letter.f c = some (great c || small c) := by
  unfold spec_l16Letter.f great small
  by_cases h1 : 65 ≤ c
  · by_cases h2 : c ≤ 90
    · simp [h1, h2]
    · by_cases h3 : 97 ≤ c
      · simp [h1, h2, h3]
      · simp [h1, h2, h3]
  · have h3 : ¬ (97 ≤ c) := by omega
    simp [h1, h3]
theorem impl_isGreat_eq (s : ByteArray) (i : Int) : impl_isGreat.f (bt s i) = some (great (bt s i)) := by
  simp [impl_isGreat.f, wbt, impl_within_eq, great]
theorem impl_isSmall_eq (s : ByteArray) (i : Int) : impl_isSmall.f (bt s i) = some (small (bt s i)) := by
  simp [impl_isSmall.f, wbt, impl_within_eq, small]
/-- A letter that may stand at a place of a name. -/
def letterAt (s : ByteArray) (i : Int) : Bool := great (bt s i) || (small (bt s i) && decide (i ≠ 2))
def nameOk (s : ByteArray) : Bool := (s.size == 4) && letterAt s 0 && letterAt s 1 && letterAt s 2 && letterAt s 3
theorem impl_NameOk_round (s : ByteArray) (hs : s.size ≤ 9223372036854775807) (k : Nat) (i : Int) (h0 : 0 ≤ i) (h1 : i < s.size) :
    impl_NameOk.l0 (k + 1) s s.size i = if letterAt s i = true then impl_NameOk.l0 k s s.size (i + 1) else some false := by
  simp only [impl_NameOk.l0]
  rw [if_pos h1, if_pos h0, if_pos h1, impl_isGreat_eq, impl_isSmall_eq, w64 (by omega) (by omega)]
  simp only [Option.bind_some, letterAt]
  by_cases hg : great (bt s i) = true
  · simp [hg]
  · by_cases hm : small (bt s i) = true
    · by_cases h2 : i = 2
      · simp [hg, hm, h2]
      · simp [hg, hm, h2]
    · simp [hg, hm]
theorem impl_NameOk_end (s : ByteArray) (k : Nat) : impl_NameOk.l0 (k + 1) s s.size s.size = some (s.size == 4) := by
  simp only [impl_NameOk.l0]
  rw [if_neg (by omega)]
  congr 1
  rw [Bool.eq_iff_iff]
  simp
  omega
/-- A name that is not of four bytes is none. -/
theorem impl_NameOk_not4 (s : ByteArray) (hs : s.size ≤ 9223372036854775807) (h4 : s.size ≠ 4) (d : Nat) : ∀ (k : Nat) (i : Int), 0 ≤ i → i ≤ s.size → (s.size : Int) - i = d → d < k → impl_NameOk.l0 k s s.size i = some false := by
  induction d with
  | zero =>
    intro k i h0 h1 hd hk
    obtain ⟨k, rfl⟩ : ∃ m, k = m + 1 := ⟨k - 1, by omega⟩
    have : i = s.size := by omega
    subst this
    rw [impl_NameOk_end]
    simp [h4]
  | succ d ih =>
    intro k i h0 h1 hd hk
    obtain ⟨k, rfl⟩ : ∃ m, k = m + 1 := ⟨k - 1, by omega⟩
    rw [impl_NameOk_round s hs k i h0 (by omega)]
    split
    · exact ih k (i + 1) (by omega) (by omega) (by omega) (by omega)
    · rfl
theorem impl_NameOk_eq (s : ByteArray) (hs : s.size ≤ 9223372036854775807) (k : Nat) (hk : s.size + 5 ≤ k) : impl_NameOk.f k s = some (nameOk s) := by
  unfold impl_NameOk.f nameOk
  by_cases h4 : s.size = 4
  · obtain ⟨k, rfl⟩ : ∃ m, k = m + 5 := ⟨k - 5, by omega⟩
    have r := impl_NameOk_round s hs
    have e := impl_NameOk_end s
    rw [h4] at r e ⊢
    rw [r (k + 4) 0 (by omega) (by omega), r (k + 3) (0 + 1) (by omega) (by omega), r (k + 2) (0 + 1 + 1) (by omega) (by omega), r (k + 1) (0 + 1 + 1 + 1) (by omega) (by omega)]
    have e' : impl_NameOk.l0 (k + 1) s ((4 : Nat) : Int) (0 + 1 + 1 + 1 + 1) = some (4 == 4) := e k
    rw [e']
    simp only [Int.zero_add, show (1 : Int) + 1 = 2 from rfl, show (2 : Int) + 1 = 3 from rfl]
    cases letterAt s 0 <;> cases letterAt s 1 <;> cases letterAt s 2 <;> cases letterAt s 3 <;> rfl
  · rw [impl_NameOk_not4 s hs h4 s.size k 0 (by omega) (by omega) (by omega) (by omega)]
    simp [h4]
theorem spec_NameOk_eq (s : ByteArray) : spec_NameOk.f s = some (nameOk s) := by
  unfold spec_NameOk.f nameOk
  by_cases h4 : s.size = 4
  · simp only [spec_l16Letter_eq, Option.bind_some]
    rw [h4]
    have l0 : letterAt s 0 = (great (bt s 0) || small (bt s 0)) := by simp [letterAt]
    have l1 : letterAt s 1 = (great (bt s 1) || small (bt s 1)) := by simp [letterAt]
    have l3 : letterAt s 3 = (great (bt s 3) || small (bt s 3)) := by simp [letterAt]
    have l2 : letterAt s 2 = great (bt s 2) := by simp [letterAt]
    have q : ((great (bt s 2) || small (bt s 2)) && decide (bt s 2 ≤ 90)) = great (bt s 2) := by
      rw [Bool.eq_iff_iff]; simp [great, small]; omega
    rw [l0, l1, l2, l3]
    cases h0 : (great (bt s 0) || small (bt s 0)) <;> cases h1 : (great (bt s 1) || small (bt s 1)) <;> cases h3 : (great (bt s 3) || small (bt s 3)) <;> cases h2 : (great (bt s 2) || small (bt s 2)) <;> rw [← q, h2] <;> simp
  · rw [if_neg (by omega)]; simp [h4]

def safeB (s : ByteArray) : Bool := nameOk s && small (bt s 3)
theorem spec_SafeToCopy_eq (s : ByteArray) : spec_SafeToCopy.f s = some (safeB s) := by
  unfold spec_SafeToCopy.f safeB
  rw [spec_NameOk_eq]
  simp only [Option.bind_some]
  by_cases h : nameOk s = true
  · have h' := h
    simp only [nameOk, Bool.and_eq_true, beq_iff_eq] at h'
    have e : small (bt s 3) = decide (bt s 3 ≥ 97) := by
      have := h'.2
      rw [Bool.eq_iff_iff]; simp [letterAt, great, small] at this ⊢; omega
    simp [h, h'.1.1.1.1, e]
  · simp [h]
theorem impl_SafeToCopy_eq (s : ByteArray) (hs : s.size ≤ 9223372036854775807) (k : Nat) (hk : s.size + 5 ≤ k) : impl_SafeToCopy.f k s = some (safeB s) := by
  unfold impl_SafeToCopy.f safeB
  rw [impl_NameOk_eq s hs k hk]
  simp only [Option.bind_some, impl_isSmall_eq]
  by_cases h : nameOk s = true
  · have h' := h
    simp only [nameOk, Bool.and_eq_true, beq_iff_eq] at h'
    simp [h, h'.1.1.1.1]
  · simp [h]

theorem rd_Chunk (xs : List S56) (i : Nat) (h : i < xs.length) : rd_T56 xs i = xs[i] := by
  simp [rd_T56, List.getD, h]

def touchName (s : ByteArray) : Bool := decide (s.toList = ([115, 66, 73, 84] : List UInt8)) || decide (s.toList = ([98, 75, 71, 68] : List UInt8)) || decide (s.toList = ([104, 73, 83, 84] : List UInt8)) || !(safeB s)
def touchB (kp : List S56) : Bool := kp.any fun c => touchName c.f0
theorem touch_drop (kp : List S56) (i : Nat) (h : i < kp.length) : touchB (kp.drop i) = (touchName kp[i].f0 || touchB (kp.drop (i + 1))) := by
  rw [List.drop_eq_getElem_cons h]; rfl

theorem spec_Touchy_l0 (w h d c : Int) (l : Bool) (tb : List S156) (cl : List Int) (rw_ rh rc rd_ : Int) (sm : List Int) (kp : List S56) (hx : kp.length ≤ 1048576) (n : Nat) : ∀ (k i : Nat), i ≤ kp.length → kp.length - i = n → n < k → spec_Touchy.l0 k i w h d c l tb cl rw_ rh rc rd_ sm kp = some (touchB (kp.drop i)) := by
  induction n with
  | zero =>
    intro k i hi hd hk
    obtain ⟨k, rfl⟩ : ∃ m, k = m + 1 := ⟨k - 1, by omega⟩
    simp only [spec_Touchy.l0]
    rw [if_neg (by omega), List.drop_eq_nil_of_le (by omega)]; rfl
  | succ n ih =>
    intro k i hi hd hk
    obtain ⟨k, rfl⟩ : ∃ m, k = m + 1 := ⟨k - 1, by omega⟩
    have lt : i < kp.length := by omega
    have st := ih k (i + 1) (by omega) (by omega) (by omega)
    push_cast at st
    simp only [spec_Touchy.l0]
    rw [if_pos (by omega), if_pos (by omega), rd_Chunk kp i lt, spec_SafeToCopy_eq, w64 (by omega) (by omega), st, touch_drop kp i lt]
    simp only [Option.bind_some, touchName]
    by_cases e1 : kp[i].f0.toList = ([115, 66, 73, 84] : List UInt8)
    · simp [e1]
    by_cases e2 : kp[i].f0.toList = ([98, 75, 71, 68] : List UInt8)
    · simp [e2]
    by_cases e3 : kp[i].f0.toList = ([104, 73, 83, 84] : List UInt8)
    · simp [e3]
    · simp only [e1, e2, e3, if_false, decide_false, Bool.false_or]
      cases safeB kp[i].f0 <;> simp
theorem spec_Touchy_eq (w h d c : Int) (l : Bool) (tb : List S156) (cl : List Int) (rw_ rh rc rd_ : Int) (sm : List Int) (kp : List S56) (hx : kp.length ≤ 1048576) (k : Nat) (hk : kp.length < k) : spec_Touchy.f k w h d c l tb cl rw_ rh rc rd_ sm kp = some (touchB kp) := by
  unfold spec_Touchy.f
  have := spec_Touchy_l0 w h d c l tb cl rw_ rh rc rd_ sm kp hx kp.length k 0 (by omega) (by omega) hk
  simpa using this

theorem impl_Touchy_l0 (kp : List S56) (hx : kp.length ≤ 1048576) (hc : ∀ x ∈ kp, x.f0.size ≤ 1048576) (n : Nat) : ∀ (k i : Nat), i ≤ kp.length → kp.length - i = n → n + 1048590 < k → impl_Touchy.l0 k kp kp.length i = some (touchB (kp.drop i)) := by
  induction n with
  | zero =>
    intro k i hi hd hk
    obtain ⟨k, rfl⟩ : ∃ m, k = m + 1 := ⟨k - 1, by omega⟩
    simp only [impl_Touchy.l0]
    rw [if_neg (by omega), List.drop_eq_nil_of_le (by omega)]; rfl
  | succ n ih =>
    intro k i hi hd hk
    obtain ⟨k, rfl⟩ : ∃ m, k = m + 1 := ⟨k - 1, by omega⟩
    have lt : i < kp.length := by omega
    have c := hc _ (List.getElem_mem lt)
    have st := ih k (i + 1) (by omega) (by omega) (by omega)
    push_cast at st
    simp only [impl_Touchy.l0]
    rw [if_pos (by omega), if_pos (by omega), if_pos (by omega), rd_Chunk kp i lt, impl_SafeToCopy_eq _ (by omega) k (by omega), w64 (by omega) (by omega), st, touch_drop kp i lt]
    simp only [Option.bind_some, touchName]
    by_cases e1 : kp[i].f0.toList = ([115, 66, 73, 84] : List UInt8)
    · simp [e1]
    by_cases e2 : kp[i].f0.toList = ([98, 75, 71, 68] : List UInt8)
    · simp [e2]
    by_cases e3 : kp[i].f0.toList = ([104, 73, 83, 84] : List UInt8)
    · simp [e3]
    · simp only [e1, e2, e3, if_false, decide_false, Bool.false_or]
      cases safeB kp[i].f0 <;> simp
theorem impl_Touchy_eq (w h d c : Int) (l : Bool) (tb : List S156) (cl : List Int) (rw_ rh rc rd_ : Int) (sm : List Int) (kp : List S56) (hx : kp.length ≤ 1048576) (hc : ∀ x ∈ kp, x.f0.size ≤ 1048576) (k : Nat) (hk : kp.length + 1048590 < k) : impl_Touchy.f k w h d c l tb cl rw_ rh rc rd_ sm kp = some (touchB kp) := by
  unfold impl_Touchy.f
  have := impl_Touchy_l0 kp hx hc kp.length k 0 (by omega) (by omega) hk
  simpa using this

theorem laws_szRgbS_eq (xs : List S158) (hx : xs.length ≤ 9223372036854775807) (t : Int) (h0 : 0 ≤ t) (h1 : t ≤ 1048576) : laws_szRgbS.f xs t = some (if t < xs.length then -1 else t - xs.length) := by
  unfold laws_szRgbS.f
  rw [w64 (by omega) (by omega)]
  split
  · rw [if_pos (by omega)]
  · rw [if_neg (by omega)]

theorem laws_szIntS_eq (xs : List Int) (hx : xs.length ≤ 9223372036854775807) (a : Int) (h0 : 0 ≤ a) (h1 : a ≤ 1048576) : laws_szIntS.f xs a = some (if a < xs.length then -1 else a - xs.length) := by
  unfold laws_szIntS.f
  rw [w64 (by omega) (by omega)]
  split
  · rw [if_pos (by omega)]
  · rw [if_neg (by omega)]

theorem rd_LChunk (xs : List S92) (i : Nat) (h : i < xs.length) : rd_T92 xs i = xs[i] := by
  simp [rd_T92, List.getD, h]
def toChunk (x : S92) : S56 := ⟨x.f0, x.f1⟩
theorem laws_toChunkS_l0 (xs : List S92) (hx : xs.length ≤ 9223372036854775807) (d : Nat) : ∀ (k i : Nat) (ys : List S56), i ≤ xs.length → xs.length - i = d → d < k → ys.length = xs.length → (∀ j : Nat, j < i → ys[j]? = (xs.map toChunk)[j]?) → laws_toChunkS.l0 k xs ys i = some (xs.map toChunk) := by
  induction d with
  | zero =>
    intro k i ys hi hd hk hl hy
    obtain ⟨k, rfl⟩ : ∃ m, k = m + 1 := ⟨k - 1, by omega⟩
    simp only [laws_toChunkS.l0]
    rw [if_neg (by omega)]
    congr 1
    apply List.ext_getElem?
    intro j
    by_cases hj : j < i
    · exact hy j hj
    · rw [List.getElem?_eq_none (by omega), List.getElem?_eq_none (by simp; omega)]
  | succ d ih =>
    intro k i ys hi hd hk hl hy
    obtain ⟨k, rfl⟩ : ∃ m, k = m + 1 := ⟨k - 1, by omega⟩
    have lt : i < xs.length := by omega
    simp only [laws_toChunkS.l0, laws_toChunk.f, Option.bind_some]
    rw [if_pos (by omega), if_pos (by omega), if_pos (by omega), rd_LChunk xs i lt, w64 (by omega) (by omega), Int.toNat_natCast]
    refine ih k (i + 1) _ (by omega) (by omega) (by omega) (by simpa using hl) (fun j hj => ?_)
    by_cases e : j = i
    · subst e
      rw [List.getElem?_set_self (by omega), List.getElem?_map, List.getElem?_eq_getElem lt]
      rfl
    · rw [List.getElem?_set_ne (by omega), hy j (by omega)]
theorem laws_toChunkS_eq (xs : List S92) (hx : xs.length ≤ 1048576) (k : Nat) (hk : xs.length < k) : laws_toChunkS.f k xs = some (xs.map toChunk) := by
  unfold laws_toChunkS.f
  rw [if_pos (by omega), if_pos (by omega), Int.toNat_natCast]
  exact laws_toChunkS_l0 xs (by omega) xs.length k 0 _ (by omega) (by omega) hk (by simp) (fun j hj => absurd hj (by omega))

theorem laws_szChunk_eq (a b : ByteArray) (ha : a.size ≤ 9223372036854775807) (hb : b.size ≤ 9223372036854775807) (t : Int) (h0 : 0 ≤ t) (h1 : t ≤ 1048576) : ∃ u, laws_szChunk.f a b t = some u ∧ u ≤ t ∧ (0 ≤ u → a.size ≤ 1048576 ∧ b.size ≤ 1048576) := by
  unfold laws_szChunk.f
  rw [w64 (x := t - a.size) (by omega) (by omega)]
  split
  · exact ⟨_, rfl, by omega, by omega⟩
  · rw [w64 (x := t - a.size - b.size) (by omega) (by omega)]
    split
    · exact ⟨_, rfl, by omega, by omega⟩
    · exact ⟨_, rfl, by omega, by omega⟩
theorem laws_szChunkS_l0 (xs : List S92) (hx : xs.length ≤ 1048576) (hc : ∀ x ∈ xs, x.f0.size ≤ 9223372036854775807 ∧ x.f1.size ≤ 9223372036854775807) (d : Nat) : ∀ (k i : Nat) (t : Int), i ≤ xs.length → xs.length - i = d → d < k → 0 ≤ t → t ≤ 1048576 →
    ∃ u, laws_szChunkS.l0 k xs t i = some u ∧ u ≤ t ∧ (0 ≤ u → ∀ j : Nat, i ≤ j → ∀ x, xs[j]? = some x → x.f0.size ≤ 1048576 ∧ x.f1.size ≤ 1048576) := by
  induction d with
  | zero =>
    intro k i t hi hd hk h0 h1
    obtain ⟨k, rfl⟩ : ∃ m, k = m + 1 := ⟨k - 1, by omega⟩
    simp only [laws_szChunkS.l0]
    rw [if_neg (by omega)]
    exact ⟨_, rfl, Int.le_refl _, fun _ j hj x hx => by rw [List.getElem?_eq_none (by omega)] at hx; cases hx⟩
  | succ d ih =>
    intro k i t hi hd hk h0 h1
    obtain ⟨k, rfl⟩ : ∃ m, k = m + 1 := ⟨k - 1, by omega⟩
    have lt : i < xs.length := by omega
    have c := hc _ (List.getElem_mem lt)
    simp only [laws_szChunkS.l0]
    rw [if_pos (by omega), if_pos (by omega), rd_LChunk xs i lt]
    obtain ⟨u, e, hu, hb⟩ := laws_szChunk_eq xs[i].f0 xs[i].f1 c.1 c.2 t h0 h1
    rw [e]; simp only [Option.bind_some]
    split
    · exact ⟨_, rfl, by omega, by omega⟩
    · rw [w64 (by omega) (by omega)]
      obtain ⟨v, e2, hv, hj⟩ := ih k (i + 1) u (by omega) (by omega) (by omega) (by omega) (by omega)
      refine ⟨v, e2, by omega, fun h j hj' x hx => ?_⟩
      by_cases ej : j = i
      · subst ej
        rw [List.getElem?_eq_getElem lt] at hx
        injection hx with hx
        subst hx
        exact hb (by omega)
      · exact hj h j (by omega) x hx
theorem laws_szChunkS_eq (xs : List S92) (hx : xs.length ≤ 9223372036854775807) (hc : ∀ x ∈ xs, x.f0.size ≤ 9223372036854775807 ∧ x.f1.size ≤ 9223372036854775807) (t : Int) (h0 : 0 ≤ t) (h1 : t ≤ 1048576) (k : Nat) (hk : 1048580 ≤ k) :
    ∃ u, laws_szChunkS.f k xs t = some u ∧ u ≤ t ∧ (0 ≤ u → xs.length ≤ 1048576 ∧ ∀ x ∈ xs, x.f0.size ≤ 1048576 ∧ x.f1.size ≤ 1048576) := by
  unfold laws_szChunkS.f
  rw [w64 (x := t - xs.length) (by omega) (by omega)]
  split
  · exact ⟨_, rfl, by omega, by omega⟩
  · obtain ⟨u, e, hu, hj⟩ := laws_szChunkS_l0 xs (by omega) hc xs.length k 0 (t - xs.length) (by omega) (by omega) (by omega) (by omega) (by omega)
    refine ⟨u, e, by omega, fun h => ⟨by omega, fun x hm => ?_⟩⟩
    obtain ⟨j, hj', rfl⟩ := List.getElem_of_mem hm
    exact hj h j (by omega) _ (List.getElem?_eq_getElem hj')

theorem rd_at (xs : List Int) (i : Nat) (h : i < xs.length) : rd xs i = xs[i] := by simp [rd, List.getD, h]
def inB (m x : Int) : Bool := decide (0 ≤ x) && decide (x ≤ m)
theorem drop_all (p : Int → Bool) (xs : List Int) (i : Nat) (h : i < xs.length) : (xs.drop i).all p = (p xs[i] && (xs.drop (i + 1)).all p) := by
  rw [List.drop_eq_getElem_cons h]; rfl
theorem drop_all_end (p : Int → Bool) (xs : List Int) (i : Nat) (h : xs.length ≤ i) : (xs.drop i).all p = true := by
  rw [List.drop_eq_nil_of_le h]; rfl

theorem laws_toIntS_l0 (xs : List Int) (hx : xs.length ≤ 9223372036854775807) (d : Nat) : ∀ (k i : Nat) (ys : List Int), i ≤ xs.length → xs.length - i = d → d < k → ys.length = xs.length → (∀ j : Nat, j < i → ys[j]? = xs[j]?) → laws_toIntS.l0 k xs ys i = some xs := by
  induction d with
  | zero =>
    intro k i ys hi hd hk hl hy
    obtain ⟨k, rfl⟩ : ∃ m, k = m + 1 := ⟨k - 1, by omega⟩
    simp only [laws_toIntS.l0]
    rw [if_neg (by omega)]
    congr 1
    apply List.ext_getElem?
    intro j
    by_cases hj : j < i
    · exact hy j hj
    · rw [List.getElem?_eq_none (by omega), List.getElem?_eq_none (by omega)]
  | succ d ih =>
    intro k i ys hi hd hk hl hy
    obtain ⟨k, rfl⟩ : ∃ m, k = m + 1 := ⟨k - 1, by omega⟩
    have lt : i < xs.length := by omega
    simp only [laws_toIntS.l0]
    rw [if_pos (by omega), if_pos (by omega), if_pos (by omega), rd_at xs i lt, w64 (by omega) (by omega), Int.toNat_natCast]
    refine ih k (i + 1) (ys.set i xs[i]) (by omega) (by omega) (by omega) (by simpa using hl) (fun j hj => ?_)
    by_cases e : j = i
    · subst e
      rw [List.getElem?_set_self (by omega), List.getElem?_eq_getElem lt]
    · rw [List.getElem?_set_ne (by omega), hy j (by omega)]
theorem laws_toIntS_eq (xs : List Int) (hx : xs.length ≤ 1048576) (k : Nat) (hk : xs.length < k) : laws_toIntS.f k xs = some xs := by
  unfold laws_toIntS.f
  rw [if_pos (by omega), if_pos (by omega), Int.toNat_natCast]
  exact laws_toIntS_l0 xs (by omega) xs.length k 0 _ (by omega) (by omega) hk (by simp) (fun j hj => absurd hj (by omega))

theorem laws_eqIntS_l0 (xs : List Int) (hx : xs.length ≤ 9223372036854775807) (d : Nat) : ∀ (k i : Nat), i ≤ xs.length → xs.length - i = d → d < k → laws_eqIntS.l0 k xs xs i = some true := by
  induction d with
  | zero =>
    intro k i hi hd hk
    obtain ⟨k, rfl⟩ : ∃ m, k = m + 1 := ⟨k - 1, by omega⟩
    simp only [laws_eqIntS.l0]
    rw [if_neg (by omega)]
  | succ d ih =>
    intro k i hi hd hk
    obtain ⟨k, rfl⟩ : ∃ m, k = m + 1 := ⟨k - 1, by omega⟩
    simp only [laws_eqIntS.l0]
    rw [if_pos (by omega), if_pos (by omega), if_pos (by omega)]
    simp only [if_true]
    rw [w64 (by omega) (by omega)]
    exact ih k (i + 1) (by omega) (by omega) (by omega)
theorem laws_eqIntS_refl (xs : List Int) (hx : xs.length ≤ 9223372036854775807) (k : Nat) (hk : xs.length < k) : laws_eqIntS.f k xs xs = some true := by
  unfold laws_eqIntS.f
  rw [if_pos rfl]
  exact laws_eqIntS_l0 xs hx xs.length k 0 (by omega) (by omega) hk

theorem laws_szRaster_eq (w h c d : Int) (xs : List Int) (hx : xs.length ≤ 9223372036854775807) (t : Int) (h0 : 0 ≤ t) (h1 : t ≤ 1048576) : laws_szRaster.f w h c d xs t = some (if t < xs.length then -1 else t - xs.length) := by
  unfold laws_szRaster.f
  rw [laws_szIntS_eq xs hx t h0 h1]
  simp only [Option.bind_some]
  by_cases hl : t < xs.length
  · rw [if_pos hl]; rfl
  · rw [if_neg hl, if_neg (by omega)]
theorem laws_toRaster_eq (w h c d : Int) (xs : List Int) (hx : xs.length ≤ 1048576) (k : Nat) (hk : xs.length < k) : laws_toRaster.f k w h c d xs = some (w, h, c, d, xs) := by
  unfold laws_toRaster.f
  rw [laws_toIntS_eq xs hx k hk]; rfl
theorem laws_eqRaster_refl (w h c d : Int) (xs : List Int) (hx : xs.length ≤ 1048576) (k : Nat) (hk : xs.length < k) : laws_eqRaster.f k w h c d xs w h c d xs = some true := by
  unfold laws_eqRaster.f
  rw [laws_eqIntS_refl xs (by omega) k hk]
  simp

theorem rd_Rgb (xs : List S156) (i : Nat) (h : i < xs.length) : rd_T156 xs i = xs[i] := by
  simp [rd_T156, List.getD, h]
theorem laws_eqRgbS_l0 (xs : List S156) (hx : xs.length ≤ 9223372036854775807) (d : Nat) : ∀ (k i : Nat), i ≤ xs.length → xs.length - i = d → d < k → laws_eqRgbS.l0 k xs xs i = some true := by
  induction d with
  | zero =>
    intro k i hi hd hk
    obtain ⟨k, rfl⟩ : ∃ m, k = m + 1 := ⟨k - 1, by omega⟩
    simp only [laws_eqRgbS.l0]
    rw [if_neg (by omega)]
  | succ d ih =>
    intro k i hi hd hk
    obtain ⟨k, rfl⟩ : ∃ m, k = m + 1 := ⟨k - 1, by omega⟩
    simp only [laws_eqRgbS.l0]
    rw [if_pos (by omega), if_pos (by omega), if_pos (by omega)]
    simp only [laws_eqRgb.f, if_true, Option.bind_some]
    rw [w64 (by omega) (by omega)]
    exact ih k (i + 1) (by omega) (by omega) (by omega)
theorem laws_eqRgbS_refl (xs : List S156) (hx : xs.length ≤ 9223372036854775807) (k : Nat) (hk : xs.length < k) : laws_eqRgbS.f k xs xs = some true := by
  unfold laws_eqRgbS.f
  rw [if_pos rfl]
  exact laws_eqRgbS_l0 xs hx xs.length k 0 (by omega) (by omega) hk

theorem rd_LRgb (xs : List S158) (i : Nat) (h : i < xs.length) : rd_T158 xs i = xs[i] := by
  simp [rd_T158, List.getD, h]
def toRgb (x : S158) : S156 := ⟨x.f0, x.f1, x.f2⟩
theorem laws_toRgbS_l0 (xs : List S158) (hx : xs.length ≤ 9223372036854775807) (d : Nat) : ∀ (k i : Nat) (ys : List S156), i ≤ xs.length → xs.length - i = d → d < k → ys.length = xs.length → (∀ j : Nat, j < i → ys[j]? = (xs.map toRgb)[j]?) → laws_toRgbS.l0 k xs ys i = some (xs.map toRgb) := by
  induction d with
  | zero =>
    intro k i ys hi hd hk hl hy
    obtain ⟨k, rfl⟩ : ∃ m, k = m + 1 := ⟨k - 1, by omega⟩
    simp only [laws_toRgbS.l0]
    rw [if_neg (by omega)]
    congr 1
    apply List.ext_getElem?
    intro j
    by_cases hj : j < i
    · exact hy j hj
    · rw [List.getElem?_eq_none (by omega), List.getElem?_eq_none (by simp; omega)]
  | succ d ih =>
    intro k i ys hi hd hk hl hy
    obtain ⟨k, rfl⟩ : ∃ m, k = m + 1 := ⟨k - 1, by omega⟩
    have lt : i < xs.length := by omega
    simp only [laws_toRgbS.l0, laws_toRgb.f, Option.bind_some]
    rw [if_pos (by omega), if_pos (by omega), if_pos (by omega), rd_LRgb xs i lt, w64 (by omega) (by omega), Int.toNat_natCast]
    refine ih k (i + 1) _ (by omega) (by omega) (by omega) (by simpa using hl) (fun j hj => ?_)
    by_cases e : j = i
    · subst e
      rw [List.getElem?_set_self (by omega), List.getElem?_map, List.getElem?_eq_getElem lt]
      rfl
    · rw [List.getElem?_set_ne (by omega), hy j (by omega)]
theorem laws_toRgbS_eq (xs : List S158) (hx : xs.length ≤ 1048576) (k : Nat) (hk : xs.length < k) : laws_toRgbS.f k xs = some (xs.map toRgb) := by
  unfold laws_toRgbS.f
  rw [if_pos (by omega), if_pos (by omega), Int.toNat_natCast]
  exact laws_toRgbS_l0 xs (by omega) xs.length k 0 _ (by omega) (by omega) hk (by simp) (fun j hj => absurd hj (by omega))

theorem laws_eqChunkS_l0 (xs : List S56) (hx : xs.length ≤ 9223372036854775807) (d : Nat) : ∀ (k i : Nat), i ≤ xs.length → xs.length - i = d → d < k → laws_eqChunkS.l0 k xs xs i = some true := by
  induction d with
  | zero =>
    intro k i hi hd hk
    obtain ⟨k, rfl⟩ : ∃ m, k = m + 1 := ⟨k - 1, by omega⟩
    simp only [laws_eqChunkS.l0]
    rw [if_neg (by omega)]
  | succ d ih =>
    intro k i hi hd hk
    obtain ⟨k, rfl⟩ : ∃ m, k = m + 1 := ⟨k - 1, by omega⟩
    simp only [laws_eqChunkS.l0]
    rw [if_pos (by omega), if_pos (by omega), if_pos (by omega)]
    simp only [laws_eqChunk.f, if_true, Option.bind_some]
    rw [w64 (by omega) (by omega)]
    exact ih k (i + 1) (by omega) (by omega) (by omega)
theorem laws_eqChunkS_refl (xs : List S56) (hx : xs.length ≤ 9223372036854775807) (k : Nat) (hk : xs.length < k) : laws_eqChunkS.f k xs xs = some true := by
  unfold laws_eqChunkS.f
  rw [if_pos rfl]
  exact laws_eqChunkS_l0 xs hx xs.length k 0 (by omega) (by omega) hk

theorem laws_szPng_eq (w h d c : Int) (l : Bool) (tb : List S158) (cl : List Int) (rw_ rh rc rd_ : Int) (sm : List Int) (kp : List S92) (h1 : tb.length ≤ 9223372036854775807) (h2 : cl.length ≤ 9223372036854775807) (h3 : sm.length ≤ 9223372036854775807) (h4 : kp.length ≤ 9223372036854775807)
    (hc : ∀ x ∈ kp, x.f0.size ≤ 9223372036854775807 ∧ x.f1.size ≤ 9223372036854775807) (k : Nat) (hk : 1048580 ≤ k) :
    ∃ u, laws_szPng.f k w h d c l tb cl rw_ rh rc rd_ sm kp 1048576 = some u ∧ (0 ≤ u → tb.length ≤ 1048576 ∧ cl.length ≤ 1048576 ∧ sm.length ≤ 1048576 ∧ kp.length ≤ 1048576 ∧ ∀ x ∈ kp, x.f0.size ≤ 1048576 ∧ x.f1.size ≤ 1048576) := by
  unfold laws_szPng.f
  rw [laws_szRgbS_eq tb h1 _ (by omega) (by omega)]
  simp only [Option.bind_some]
  by_cases e1 : (1048576 : Int) < tb.length
  · rw [if_pos e1]; exact ⟨_, rfl, by omega⟩
  rw [if_neg e1, if_neg (by omega), laws_szIntS_eq cl h2 _ (by omega) (by omega)]
  simp only [Option.bind_some]
  by_cases e2 : (1048576 : Int) - tb.length < cl.length
  · rw [if_pos e2]; exact ⟨_, rfl, by omega⟩
  rw [if_neg e2, if_neg (by omega), laws_szRaster_eq rw_ rh rc rd_ sm h3 _ (by omega) (by omega)]
  simp only [Option.bind_some]
  by_cases e3 : (1048576 : Int) - tb.length - cl.length < sm.length
  · rw [if_pos e3]; exact ⟨_, rfl, by omega⟩
  rw [if_neg e3, if_neg (by omega)]
  obtain ⟨u, e, hu, hj⟩ := laws_szChunkS_eq kp h4 hc (1048576 - tb.length - cl.length - sm.length) (by omega) (by omega) k hk
  rw [e]; simp only [Option.bind_some]
  split
  · exact ⟨_, rfl, by omega⟩
  · exact ⟨_, rfl, fun h0 => ⟨by omega, by omega, by omega, hj h0⟩⟩
theorem laws_toPng_eq (w h d c : Int) (l : Bool) (tb : List S158) (cl : List Int) (rw_ rh rc rd_ : Int) (sm : List Int) (kp : List S92) (h1 : tb.length ≤ 1048576) (h2 : cl.length ≤ 1048576) (h3 : sm.length ≤ 1048576) (h4 : kp.length ≤ 1048576) (k : Nat) (hk : 1048580 ≤ k) :
    laws_toPng.f k w h d c l tb cl rw_ rh rc rd_ sm kp = some (w, h, d, c, l, tb.map toRgb, cl, rw_, rh, rc, rd_, sm, kp.map toChunk) := by
  unfold laws_toPng.f
  simp only [laws_toHead.f, Option.bind_some]
  rw [laws_toRgbS_eq tb h1 k (by omega), laws_toIntS_eq cl h2 k (by omega), laws_toRaster_eq rw_ rh rc rd_ sm h3 k (by omega), laws_toChunkS_eq kp h4 k (by omega)]
  rfl
theorem laws_eqPng_refl (w h d c : Int) (l : Bool) (tb : List S156) (cl : List Int) (rw_ rh rc rd_ : Int) (sm : List Int) (kp : List S56) (h1 : tb.length ≤ 1048576) (h2 : cl.length ≤ 1048576) (h3 : sm.length ≤ 1048576) (h4 : kp.length ≤ 1048576) (k : Nat) (hk : 1048580 ≤ k) :
    laws_eqPng.f k w h d c l tb cl rw_ rh rc rd_ sm kp w h d c l tb cl rw_ rh rc rd_ sm kp = some true := by
  unfold laws_eqPng.f laws_eqHead.f
  rw [laws_eqRgbS_refl tb (by omega) k (by omega), laws_eqIntS_refl cl (by omega) k (by omega), laws_eqRaster_refl rw_ rh rc rd_ sm h3 k (by omega), laws_eqChunkS_refl kp (by omega) k (by omega)]
  simp

theorem FnExactTouchy (w h d c : Int) (l : Bool) (tb : List S158) (cl : List Int) (rw_ rh rc rd_ : Int) (sm : List Int) (kp : List S92) (_ : (Lit.int .i64 w).wf = true) (_ : (Lit.int .i64 h).wf = true) (_ : (Lit.int .i64 d).wf = true) (_ : (Lit.int .i64 c).wf = true) (h1 : tb.length ≤ 9223372036854775807) (_ : ∀ x ∈ tb, ((Lit.int .i64 x.f0).wf = true) ∧ ((Lit.int .i64 x.f1).wf = true) ∧ ((Lit.int .i64 x.f2).wf = true)) (h2 : cl.length ≤ 9223372036854775807) (_ : ∀ x ∈ cl, (Lit.int .i64 x).wf = true)
    (_ : (Lit.int .i64 rw_).wf = true) (_ : (Lit.int .i64 rh).wf = true) (_ : (Lit.int .i64 rc).wf = true) (_ : (Lit.int .i64 rd_).wf = true) (h3 : sm.length ≤ 9223372036854775807) (_ : ∀ x ∈ sm, (Lit.int .i64 x).wf = true) (h4 : kp.length ≤ 9223372036854775807) (hc : ∀ x ∈ kp, (x.f0.size ≤ 9223372036854775807) ∧ (x.f1.size ≤ 9223372036854775807)) :
    ∃ k, laws_FnExactTouchy.f k w h d c l tb cl rw_ rh rc rd_ sm kp = some true := by
  obtain ⟨k, hk⟩ : ∃ k : Nat, k = 5000000 := ⟨_, rfl⟩
  refine ⟨k, ?_⟩
  unfold laws_FnExactTouchy.f
  obtain ⟨u, e, hu⟩ := laws_szPng_eq w h d c l tb cl rw_ rh rc rd_ sm kp h1 h2 h3 h4 hc k (by omega)
  rw [e]; simp only [Option.bind_some]
  by_cases h0 : u < 0
  · rw [if_pos h0]
  rw [if_neg h0]
  obtain ⟨b1, b2, b3, b4, b5⟩ := hu (by omega)
  rw [laws_toPng_eq w h d c l tb cl rw_ rh rc rd_ sm kp b1 b2 b3 b4 k (by omega)]
  simp only [Option.bind_some]
  have m1 : (tb.map toRgb).length = tb.length := by simp
  have m2 : (kp.map toChunk).length = kp.length := by simp
  rw [spec_Touchy_eq _ _ _ _ _ _ _ _ _ _ _ _ _ (by omega) k (by omega), impl_Touchy_eq _ _ _ _ _ _ _ _ _ _ _ _ _ (by omega) (fun x hx => by
    obtain ⟨y, hy, rfl⟩ := List.mem_map.1 hx
    exact (b5 y hy).1) k (by omega)]
  simp only [Option.bind_some]
  rw [laws_eqPng_refl _ _ _ _ _ _ _ _ _ _ _ _ _ (by omega) b2 b3 (by omega) k (by omega)]
  simp

end Go.Proofs.Ytefoebmcimnapaa.Pure
