/- The program's TableText returns what the reference's returns, for all arguments. -/
import Derived.Test.YtcdpnaaeokjdaaaPFnExactTableTextx2
set_option linter.unusedVariables false
set_option linter.unusedSimpArgs false
namespace Go.Proofs.Ytcdpnaaeokjdaaa.Pure
open Go.RowKit Go.Proofs.Ytcdpnaaeokjdaaa.PFnExactTableText Go.Proofs.YtcdpnaaeokjdaaaW.PrintWords Go.Proofs.YtcdpnaaeokjdaaaW.PrintLast

theorem w64 {x : Int} (h : -9223372036854775808 ≤ x) (h' : x ≤ 9223372036854775807) : wrap64 x = x := by unfold wrap64; omega
theorem wf_i64 {a : Int} (h : (Lit.int .i64 a).wf = true) : -9223372036854775808 ≤ a ∧ a ≤ 9223372036854775807 := by
  simpa [Lit.wf, IntKind.min, IntKind.max, IntKind.signed, IntKind.bits] using h
theorem wbt (s : ByteArray) (i : Int) : wrap64 (bt s i) = bt s i := w64 (by have := bt_range s i; omega) (by have := bt_range s i; omega)

theorem rd_Rgb (xs : List S84) (i : Nat) (h : i < xs.length) : rd_T84 xs i = xs[i] := by
  simp [rd_T84, List.getD, h]
theorem laws_eqRgbS_l0 (xs : List S84) (hx : xs.length ≤ 9223372036854775807) (d : Nat) : ∀ (k i : Nat), i ≤ xs.length → xs.length - i = d → d < k → laws_eqRgbS.l0 k xs xs i = some true := by
  induction d with
  | zero =>
    intro k i hi hd hk
    obtain ⟨k, rfl⟩ : ∃ m, k = m + 1 := ⟨k - 1, by omega⟩
    simp only [laws_eqRgbS.l0]
    rw [if_neg (by omega)]
  | succ d ih =>
    intro k i hi hd hk
    obtain ⟨k, rfl⟩ : ∃ m, k = m + 1 := ⟨k - 1, by omega⟩
    simp only [laws_eqRgbS.l0]
    rw [if_pos (by omega), if_pos (by omega), if_pos (by omega)]
    simp only [laws_eqRgb.f, if_true, Option.bind_some]
    rw [w64 (by omega) (by omega)]
    exact ih k (i + 1) (by omega) (by omega) (by omega)
theorem laws_eqRgbS_refl (xs : List S84) (hx : xs.length ≤ 9223372036854775807) (k : Nat) (hk : xs.length < k) : laws_eqRgbS.f k xs xs = some true := by
  unfold laws_eqRgbS.f
  rw [if_pos rfl]
  exact laws_eqRgbS_l0 xs hx xs.length k 0 (by omega) (by omega) hk

def byteB (x : Int) : Bool := decide (0 ≤ x) && decide (x ≤ 255)
def rgbB (c : S84) : Bool := byteB c.f0 && byteB c.f1 && byteB c.f2
def rgbBytes (xs : List S84) : List Int := xs.flatMap fun c => [c.f0 % 256, c.f1 % 256, c.f2 % 256]
theorem rgbBytes_len (xs : List S84) : (rgbBytes xs).length = 3 * xs.length := by
  induction xs with
  | nil => rfl
  | cons c xs ih => simp only [rgbBytes, List.flatMap_cons, List.length_append, List.length_cons, List.length_nil] at ih ⊢; omega
theorem rgbBytes_take (xs : List S84) (i : Nat) (h : i < xs.length) : rgbBytes (xs.take (i + 1)) = rgbBytes (xs.take i) ++ [xs[i].f0 % 256, xs[i].f1 % 256, xs[i].f2 % 256] := by
  unfold rgbBytes
  rw [List.take_succ_eq_append_getElem h, List.flatMap_append]; rfl
def tableOk (xs : List S84) : Bool := decide (1 ≤ xs.length) && decide (xs.length ≤ 256) && xs.all rgbB
def tableText (xs : List S84) : ByteArray × Bool := if tableOk xs then (strOfNums (rgbBytes xs), true) else (⟨#[]⟩, false)
theorem rgb_drop_all (xs : List S84) (i : Nat) (h : i < xs.length) : (xs.drop i).all rgbB = (rgbB xs[i] && (xs.drop (i + 1)).all rgbB) := by
  rw [List.drop_eq_getElem_cons h]; rfl

theorem spec_l01In_eq (a b c : Int) : spec_l01In.f a b c = some (decide (b ≤ a) && decide (a ≤ c)) := by
  unfold spec_l01In.f
  by_cases h : b ≤ a <;> simp [h]

theorem spec_l17Byte_eq (x : Int) : spec_l17Byte.f x = some (byteB x) := by simp [spec_l17Byte.f, spec_l01In_eq, byteB]
theorem spec_TableText_l0 (xs : List S84) (hx : xs.length ≤ 256) (d : Nat) : ∀ (k i : Nat), i ≤ xs.length → xs.length - i = d → d < k → spec_TableText.l0 k xs (rgbBytes (xs.take i)) i = some (if (xs.drop i).all rgbB then (strOfNums (rgbBytes xs), true) else (⟨#[]⟩, false)) := by
  induction d with
  | zero =>
    intro k i hi hd hk
    obtain ⟨k, rfl⟩ : ∃ m, k = m + 1 := ⟨k - 1, by omega⟩
    obtain rfl : i = xs.length := by omega
    simp only [spec_TableText.l0]
    rw [if_neg (by omega)]
    simp
  | succ d ih =>
    intro k i hi hd hk
    obtain ⟨k, rfl⟩ : ∃ m, k = m + 1 := ⟨k - 1, by omega⟩
    have lt : i < xs.length := by omega
    have l3 := rgbBytes_len (xs.take i)
    rw [List.length_take] at l3
    simp only [spec_TableText.l0, spec_l17Byte_eq, Option.bind_some]
    rw [if_pos (by omega), if_pos (by omega), rd_Rgb xs i lt, rgb_drop_all xs i lt, w64 (by omega) (by omega)]
    have step := ih k (i + 1) (by omega) (by omega) (by omega)
    push_cast at step
    rw [rgbBytes_take xs i lt] at step
    unfold rgbB
    cases byteB xs[i].f0 with
    | false => simp
    | true =>
      cases byteB xs[i].f1 with
      | false => simp
      | true =>
        cases byteB xs[i].f2 with
        | false => simp
        | true =>
          simp only [if_true, List.length_cons, List.length_nil, Bool.and_self, Bool.true_and]
          rw [if_pos (by omega)]
          exact step
theorem spec_TableText_eq (xs : List S84) (k : Nat) (hk : 300 ≤ k) (hx : xs.length ≤ 9223372036854775807) : spec_TableText.f k xs = some (tableText xs) := by
  unfold spec_TableText.f tableText tableOk
  rw [spec_l01In_eq]
  simp only [Option.bind_some]
  by_cases h1 : 1 ≤ xs.length
  · by_cases h2 : xs.length ≤ 256
    · have R := spec_TableText_l0 xs h2 xs.length k 0 (by omega) (by omega) (by omega)
      have e : (decide ((1 : Int) ≤ xs.length) && decide ((xs.length : Int) ≤ 256)) = true := by simp; omega
      rw [if_pos e]
      simp only [h1, h2, decide_true, Bool.true_and]
      simpa [rgbBytes] using R
    · have e : (decide ((1 : Int) ≤ xs.length) && decide ((xs.length : Int) ≤ 256)) = false := by simp; omega
      rw [e]; simp [h2]
  · have e : (decide ((1 : Int) ≤ xs.length) && decide ((xs.length : Int) ≤ 256)) = false := by simp; omega
    rw [e]; simp [h1]

theorem impl_within_eq (a b c : Int) : impl_within.f a b c = some (decide (b ≤ a) && decide (a ≤ c)) := by
  unfold impl_within.f
  by_cases h : b ≤ a <;> simp [h]

theorem impl_colorOk_eq (a b c : Int) : impl_colorOk.f a b c = some (byteB a && byteB b && byteB c) := by
  simp only [impl_colorOk.f, impl_within_eq, Option.bind_some]
  change (if byteB a = true then (if byteB b = true then some (byteB c) else some false) else some false) = _
  cases byteB a <;> cases byteB b <;> simp
theorem impl_TableText_l0 (xs : List S84) (hx : xs.length ≤ 1048576) (d : Nat) : ∀ (k i : Nat), i ≤ xs.length → xs.length - i = d → d < k → impl_TableText.l0 k xs (rgbBytes (xs.take i)) xs xs.length i = some (if (xs.drop i).all rgbB && (decide (1 ≤ xs.length) && decide (xs.length ≤ 256)) then (strOfNums (rgbBytes xs), true) else (⟨#[]⟩, false)) := by
  induction d with
  | zero =>
    intro k i hi hd hk
    obtain ⟨k, rfl⟩ : ∃ m, k = m + 1 := ⟨k - 1, by omega⟩
    obtain rfl : i = xs.length := by omega
    simp only [impl_TableText.l0, impl_within_eq, Option.bind_some]
    rw [if_neg (by omega)]
    have e : (decide ((1 : Int) ≤ xs.length) && decide ((xs.length : Int) ≤ 256)) = (decide (1 ≤ xs.length) && decide (xs.length ≤ 256)) := by rw [Bool.eq_iff_iff]; simp; omega
    rw [e]
    cases (decide (1 ≤ xs.length) && decide (xs.length ≤ 256)) <;> simp
  | succ d ih =>
    intro k i hi hd hk
    obtain ⟨k, rfl⟩ : ∃ m, k = m + 1 := ⟨k - 1, by omega⟩
    have lt : i < xs.length := by omega
    have l3 := rgbBytes_len (xs.take i)
    rw [List.length_take] at l3
    simp only [impl_TableText.l0, impl_colorOk_eq, Option.bind_some]
    rw [if_pos (by omega), if_pos (by omega), if_pos (by omega), rd_Rgb xs i lt, rgb_drop_all xs i lt, w64 (by omega) (by omega)]
    have step := ih k (i + 1) (by omega) (by omega) (by omega)
    push_cast at step
    rw [rgbBytes_take xs i lt] at step
    change (if rgbB xs[i] = true then _ else _) = _
    cases rgbB xs[i] with
    | false => simp
    | true =>
      simp only [if_true, List.length_cons, List.length_nil, Bool.true_and]
      rw [if_pos (by omega)]
      exact step
theorem impl_TableText_eq (xs : List S84) (k : Nat) (hk : xs.length < k) (hx : xs.length ≤ 1048576) : impl_TableText.f k xs = some (tableText xs) := by
  unfold impl_TableText.f tableText tableOk
  have R := impl_TableText_l0 xs hx xs.length k 0 (by omega) (by omega) hk
  rw [show rgbBytes (xs.take 0) = [] by simp [rgbBytes]] at R
  rw [Bool.and_comm]
  simpa using R

theorem rd_LRgb (xs : List S86) (i : Nat) (h : i < xs.length) : rd_T86 xs i = xs[i] := by
  simp [rd_T86, List.getD, h]
def toRgb (x : S86) : S84 := ⟨x.f0, x.f1, x.f2⟩
theorem laws_toRgbS_l0 (xs : List S86) (hx : xs.length ≤ 9223372036854775807) (d : Nat) : ∀ (k i : Nat) (ys : List S84), i ≤ xs.length → xs.length - i = d → d < k → ys.length = xs.length → (∀ j : Nat, j < i → ys[j]? = (xs.map toRgb)[j]?) → laws_toRgbS.l0 k xs ys i = some (xs.map toRgb) := by
  induction d with
  | zero =>
    intro k i ys hi hd hk hl hy
    obtain ⟨k, rfl⟩ : ∃ m, k = m + 1 := ⟨k - 1, by omega⟩
    simp only [laws_toRgbS.l0]
    rw [if_neg (by omega)]
    congr 1
    apply List.ext_getElem?
    intro j
    by_cases hj : j < i
    · exact hy j hj
    · rw [List.getElem?_eq_none (by omega), List.getElem?_eq_none (by simp; omega)]
  | succ d ih =>
    intro k i ys hi hd hk hl hy
    obtain ⟨k, rfl⟩ : ∃ m, k = m + 1 := ⟨k - 1, by omega⟩
    have lt : i < xs.length := by omega
    simp only [laws_toRgbS.l0, laws_toRgb.f, Option.bind_some]
    rw [if_pos (by omega), if_pos (by omega), if_pos (by omega), rd_LRgb xs i lt, w64 (by omega) (by omega), Int.toNat_natCast]
    refine ih k (i + 1) _ (by omega) (by omega) (by omega) (by simpa using hl) (fun j hj => ?_)
    by_cases e : j = i
    · subst e
      rw [List.getElem?_set_self (by omega), List.getElem?_map, List.getElem?_eq_getElem lt]
      rfl
    · rw [List.getElem?_set_ne (by omega), hy j (by omega)]
theorem laws_toRgbS_eq (xs : List S86) (hx : xs.length ≤ 1048576) (k : Nat) (hk : xs.length < k) : laws_toRgbS.f k xs = some (xs.map toRgb) := by
  unfold laws_toRgbS.f
  rw [if_pos (by omega), if_pos (by omega), Int.toNat_natCast]
  exact laws_toRgbS_l0 xs (by omega) xs.length k 0 _ (by omega) (by omega) hk (by simp) (fun j hj => absurd hj (by omega))

theorem laws_szRgbS_eq (xs : List S86) (hx : xs.length ≤ 9223372036854775807) : laws_szRgbS.f xs 1048576 = some (if (1048576 : Int) < xs.length then (-1 : Int) else 1048576 - (xs.length : Int)) := by
  unfold laws_szRgbS.f
  rw [w64 (by omega) (by omega)]
  split
  · rw [if_pos (by omega)]
  · rw [if_neg (by omega)]
theorem FnExactTableText (xs : List S86) (hx : xs.length ≤ 9223372036854775807) (_ : ∀ x ∈ xs, ((Lit.int .i64 x.f0).wf = true) ∧ ((Lit.int .i64 x.f1).wf = true) ∧ ((Lit.int .i64 x.f2).wf = true)) : ∃ k, laws_FnExactTableText.f k xs = some true := by
  refine ⟨xs.length + 300, ?_⟩
  unfold laws_FnExactTableText.f
  rw [laws_szRgbS_eq xs hx]
  simp only [Option.bind_some]
  by_cases hl : (1048576 : Int) < xs.length
  · simp [hl]
  · rw [if_neg hl, if_neg (by omega), laws_toRgbS_eq xs (by omega) _ (by omega)]
    have ml : (xs.map toRgb).length = xs.length := by simp
    simp only [Option.bind_some]
    rw [spec_TableText_eq _ _ (by omega) (by omega), impl_TableText_eq _ _ (by omega) (by omega)]
    simp only [Option.bind_some, if_true]
    obtain ⟨q, hq⟩ : ∃ q, xs.length + 300 = q + 1 := ⟨xs.length + 299, by omega⟩
    rw [hq]
    simp only [laws_FnExactTableText.j0]
    rw [if_neg (by simp), laws_toRgbS_eq xs (by omega) _ (by omega)]
    simp only [Option.bind_some]
    rw [laws_eqRgbS_refl _ (by omega) _ (by omega)]
    simp

end Go.Proofs.Ytcdpnaaeokjdaaa.Pure
