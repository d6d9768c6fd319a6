/- The program's ReadTable returns what the reference's returns, for all arguments. -/
import Derived.Test.YtllibbjcklmhnaaPFnExactReadTablex3
set_option linter.unusedVariables false
set_option linter.unusedSimpArgs false
namespace Go.Proofs.Ytllibbjcklmhnaa.Pure
open Go.RowKit Go.Proofs.Ytllibbjcklmhnaa.PFnExactReadTable Go.Proofs.YtllibbjcklmhnaaW.PrintWords Go.Proofs.YtllibbjcklmhnaaW.PrintLast

theorem w64 {x : Int} (h : -9223372036854775808 ≤ x) (h' : x ≤ 9223372036854775807) : wrap64 x = x := by unfold wrap64; omega
theorem wf_i64 {a : Int} (h : (Lit.int .i64 a).wf = true) : -9223372036854775808 ≤ a ∧ a ≤ 9223372036854775807 := by
  simpa [Lit.wf, IntKind.min, IntKind.max, IntKind.signed, IntKind.bits] using h
theorem wbt (s : ByteArray) (i : Int) : wrap64 (bt s i) = bt s i := w64 (by have := bt_range s i; omega) (by have := bt_range s i; omega)

theorem spec_l01In_eq (a b c : Int) : spec_l01In.f a b c = some (decide (b ≤ a) && decide (a ≤ c)) := by
  unfold spec_l01In.f
  by_cases h : b ≤ a <;> simp [h]

theorem impl_within_eq (a b c : Int) : impl_within.f a b c = some (decide (b ≤ a) && decide (a ≤ c)) := by
  unfold impl_within.f
  by_cases h : b ≤ a <;> simp [h]

theorem rd_Rgb (xs : List S48) (i : Nat) (h : i < xs.length) : rd_T48 xs i = xs[i] := by
  simp [rd_T48, List.getD, h]
theorem laws_eqRgbS_l0 (xs : List S48) (hx : xs.length ≤ 9223372036854775807) (d : Nat) : ∀ (k i : Nat), i ≤ xs.length → xs.length - i = d → d < k → laws_eqRgbS.l0 k xs xs i = some true := by
  induction d with
  | zero =>
    intro k i hi hd hk
    obtain ⟨k, rfl⟩ : ∃ m, k = m + 1 := ⟨k - 1, by omega⟩
    simp only [laws_eqRgbS.l0]
    rw [if_neg (by omega)]
  | succ d ih =>
    intro k i hi hd hk
    obtain ⟨k, rfl⟩ : ∃ m, k = m + 1 := ⟨k - 1, by omega⟩
    simp only [laws_eqRgbS.l0]
    rw [if_pos (by omega), if_pos (by omega), if_pos (by omega)]
    simp only [laws_eqRgb.f, if_true, Option.bind_some]
    rw [w64 (by omega) (by omega)]
    exact ih k (i + 1) (by omega) (by omega) (by omega)
theorem laws_eqRgbS_refl (xs : List S48) (hx : xs.length ≤ 9223372036854775807) (k : Nat) (hk : xs.length < k) : laws_eqRgbS.f k xs xs = some true := by
  unfold laws_eqRgbS.f
  rw [if_pos rfl]
  exact laws_eqRgbS_l0 xs hx xs.length k 0 (by omega) (by omega) hk
/-- What was marked from place i on is held from there on; what stands ahead stays. -/
theorem laws_markRgbS_l0 (d : Nat) : ∀ (k i : Nat) (xs : List S48) (m : Int), i ≤ xs.length → xs.length - i = d → d < k → xs.length ≤ 1000000000 → 0 ≤ m → m ≤ 3 * i + 1 →
    ∃ ys : List S48, laws_markRgbS.l0 k xs m i = some (m + 3 * d, ys) ∧ ys.length = xs.length ∧ (∀ j : Nat, j < i → ys[j]? = xs[j]?) ∧ ∀ q, d < q → laws_heldRgbS.l0 q ys m i = some (m + 3 * d) := by
  induction d with
  | zero =>
    intro k i xs m hi hd hk hx h0 hm
    obtain ⟨k, rfl⟩ : ∃ m, k = m + 1 := ⟨k - 1, by omega⟩
    refine ⟨xs, ?_, rfl, fun _ _ => rfl, fun q hq => ?_⟩
    · simp only [laws_markRgbS.l0]
      rw [if_neg (by omega)]
      simp
    · obtain ⟨q, rfl⟩ : ∃ m, q = m + 1 := ⟨q - 1, by omega⟩
      simp only [laws_heldRgbS.l0]
      rw [if_neg (by omega)]
      simp
  | succ d ih =>
    intro k i xs m hi hd hk hx h0 hm
    obtain ⟨k, rfl⟩ : ∃ m, k = m + 1 := ⟨k - 1, by omega⟩
    have g : ∀ (zs : List S48) (v : S48), i < zs.length → rd_T48 (zs.set i v) i = v := by
      intro zs v h
      rw [rd_Rgb _ i (by simpa using h)]
      simp
    obtain ⟨ys, e1, e2, e3, e4⟩ := ih k (i + 1) (xs.set i ⟨m, m + 1, m + 1 + 1⟩) (m + 1 + 1 + 1) (by simp; omega) (by simp; omega) (by omega) (by simpa using hx) (by omega) (by omega)
    have lt : i < xs.length := by omega
    refine ⟨ys, ?_, by simpa using e2, ?_, ?_⟩
    · simp only [laws_markRgbS.l0]
      rw [if_pos (by omega), if_pos (by omega), w64 (x := m + 1) (by omega) (by omega), w64 (x := m + 1 + 1) (by omega) (by omega), w64 (x := m + 1 + 1 + 1) (by omega) (by omega), w64 (x := (i : Int) + 1) (by omega) (by omega)]
      simp only [Option.bind_some, Int.toNat_natCast]
      rw [g _ _ lt, g _ _ (by simpa using lt)]
      simp only [List.set_set]
      have e1' := e1
      push_cast at e1'
      rw [e1']
      congr 2; omega
    · intro j hj
      rw [e3 j (by omega), List.getElem?_set_ne (by omega)]
    · intro q hq
      obtain ⟨q, rfl⟩ : ∃ m, q = m + 1 := ⟨q - 1, by omega⟩
      have hl : i < ys.length := by rw [e2]; simpa using lt
      have hv : rd_T48 ys i = ⟨m, m + 1, m + 1 + 1⟩ := by
        rw [rd_Rgb _ i hl]
        have := e3 i (by omega)
        rw [List.getElem?_set_self lt, List.getElem?_eq_getElem hl] at this
        exact Option.some.inj this
      simp only [laws_heldRgbS.l0]
      rw [if_pos (by omega), if_pos (by omega), hv, w64 (x := m + 1) (by omega) (by omega), w64 (x := m + 1 + 1) (by omega) (by omega), w64 (x := m + 1 + 1 + 1) (by omega) (by omega), w64 (x := (i : Int) + 1) (by omega) (by omega)]
      simp only [if_true]
      have := e4 q (by omega)
      push_cast at this
      rw [this]
      congr 1; omega
theorem laws_mark_held_Rgb (xs : List S48) (hx : xs.length ≤ 1000000000) (k q : Nat) (hk : xs.length < k) (hq : xs.length < q) :
    ∃ ys, laws_markRgbS.f k xs 1 = some (1 + 3 * (xs.length : Int), ys) ∧ laws_heldRgbS.f q ys 1 = some (1 + 3 * (xs.length : Int)) := by
  obtain ⟨ys, h1, _, _, h2⟩ := laws_markRgbS_l0 xs.length k 0 xs 1 (by omega) (by omega) hk hx (by omega) (by omega)
  exact ⟨ys, h1, h2 q hq⟩

def tri (s : ByteArray) (n : Nat) : List S48 := (List.range n).map fun (j : Nat) => ⟨bt s (3 * (j : Int)), bt s (3 * (j : Int) + 1), bt s (3 * (j : Int) + 2)⟩
theorem tri_succ (s : ByteArray) (n : Nat) : tri s (n + 1) = tri s n ++ [⟨bt s (3 * n), bt s (3 * n + 1), bt s (3 * n + 2)⟩] := by simp [tri, List.range_succ]
theorem tri_length (s : ByteArray) (n : Nat) : (tri s n).length = n := by simp [tri]
def tableLen (n : Nat) : Bool := decide (n % 3 = 0) && decide (1 ≤ n / 3) && decide (n / 3 ≤ 256)
theorem tableLen_iff (n : Nat) : tableLen n = true ↔ n % 3 = 0 ∧ 1 ≤ n / 3 ∧ n / 3 ≤ 256 := by simp [tableLen, and_assoc]
theorem spec_ReadTable_l0 (s : ByteArray) (N : Nat) (hs : s.size = 3 * N) (hN : N ≤ 256) (d : Nat) : ∀ (k n : Nat), n ≤ N → N - n = d → d < k → spec_ReadTable.l0 k s (tri s n) (3 * n) = some (tri s N, true) := by
  induction d with
  | zero =>
    intro k n hn hd hk
    obtain ⟨k, rfl⟩ : ∃ m, k = m + 1 := ⟨k - 1, by omega⟩
    obtain rfl : n = N := by omega
    simp only [spec_ReadTable.l0]
    rw [if_neg (by omega)]
  | succ d ih =>
    intro k n hn hd hk
    obtain ⟨k, rfl⟩ : ∃ m, k = m + 1 := ⟨k - 1, by omega⟩
    simp only [spec_ReadTable.l0]
    rw [w64 (x := 3 * (n : Int) + 1) (by omega) (by omega), w64 (x := 3 * (n : Int) + 2) (by omega) (by omega), w64 (x := 3 * (n : Int) + 3) (by omega) (by omega)]
    rw [if_pos (by omega), if_pos (by omega), if_pos (by omega), if_pos (by omega), if_pos (by omega), if_pos (by omega), if_pos (by rw [tri_length]; omega)]
    rw [wbt, wbt, wbt, ← tri_succ]
    have := ih k (n + 1) (by omega) (by omega) (by omega)
    rw [show 3 * ((n + 1 : Nat) : Int) = 3 * (n : Int) + 3 by omega] at this
    exact this
theorem spec_ReadTable_j0 (s : ByteArray) (k : Nat) (b : Bool) : spec_ReadTable.j0 (k + 1) s [] b = if b = true then some ([], false) else spec_ReadTable.l0 k s [] 0 := by simp only [spec_ReadTable.j0]
theorem tableLen_int (n : Nat) (h : ((n : Int) % 3) = 0) : (decide (1 ≤ (n : Int) / 3) && decide ((n : Int) / 3 ≤ 256)) = tableLen n := by
  rw [Bool.eq_iff_iff, tableLen_iff]; simp; omega
theorem tableLen_no (n : Nat) (h : ¬ ((n : Int) % 3) = 0) : tableLen n = false := by
  rw [Bool.eq_false_iff, ne_eq, tableLen_iff]; omega
theorem spec_ReadTable_eq (s : ByteArray) (hs : s.size ≤ 140737488351232) (k : Nat) (hk : 300 ≤ k) : spec_ReadTable.f k s = some (if tableLen s.size then (tri s (s.size / 3), true) else ([], false)) := by
  obtain ⟨k, rfl⟩ : ∃ m, k = m + 1 := ⟨k - 1, by omega⟩
  unfold spec_ReadTable.f
  rw [Option.bind_some, spec_l01In_eq, w64 (x := (s.size : Int) / 3) (by omega) (by omega), Option.bind_some, spec_ReadTable_j0, spec_ReadTable_j0]
  by_cases h3 : ((s.size : Int) % 3) = 0
  · rw [if_pos h3, tableLen_int _ h3]
    cases h : tableLen s.size with
    | true =>
      have h' := (tableLen_iff _).1 h
      rw [if_neg (by decide), if_pos rfl]
      have R := spec_ReadTable_l0 s (s.size / 3) (by omega) (by omega) (s.size / 3) k 0 (by omega) (by omega) (by omega)
      exact R
    | false => rfl
  · rw [if_neg h3, tableLen_no _ h3]; rfl
theorem impl_ReadTable_l0 (s : ByteArray) (N : Nat) (hs : s.size = 3 * N) (hN : N ≤ 256) (d : Nat) : ∀ (k n : Nat), n ≤ N → N - n = d → d < k → impl_ReadTable.l0 k s (tri s n) (3 * n) = some (tri s N, true) := by
  induction d with
  | zero =>
    intro k n hn hd hk
    obtain ⟨k, rfl⟩ : ∃ m, k = m + 1 := ⟨k - 1, by omega⟩
    obtain rfl : n = N := by omega
    simp only [impl_ReadTable.l0]
    rw [if_neg (by omega)]
  | succ d ih =>
    intro k n hn hd hk
    obtain ⟨k, rfl⟩ : ∃ m, k = m + 1 := ⟨k - 1, by omega⟩
    simp only [impl_ReadTable.l0]
    rw [w64 (x := 3 * (n : Int) + 1) (by omega) (by omega), w64 (x := 3 * (n : Int) + 2) (by omega) (by omega), w64 (x := 3 * (n : Int) + 3) (by omega) (by omega)]
    rw [if_pos (by omega), if_pos (by omega), if_pos (by omega), if_pos (by omega), if_pos (by omega), if_pos (by omega), if_pos (by rw [tri_length]; omega)]
    rw [wbt, wbt, wbt, ← tri_succ]
    have := ih k (n + 1) (by omega) (by omega) (by omega)
    rw [show 3 * ((n + 1 : Nat) : Int) = 3 * (n : Int) + 3 by omega] at this
    exact this
theorem impl_ReadTable_j0 (s : ByteArray) (k : Nat) (b : Bool) : impl_ReadTable.j0 (k + 1) s b = if b = true then some ([], false) else impl_ReadTable.l0 k s [] 0 := by simp only [impl_ReadTable.j0]
theorem impl_ReadTable_eq (s : ByteArray) (hs : s.size ≤ 140737488351232) (k : Nat) (hk : 300 ≤ k) : impl_ReadTable.f k s = some (if tableLen s.size then (tri s (s.size / 3), true) else ([], false)) := by
  obtain ⟨k, rfl⟩ : ∃ m, k = m + 1 := ⟨k - 1, by omega⟩
  unfold impl_ReadTable.f
  rw [impl_within_eq, w64 (x := (s.size : Int) / 3) (by omega) (by omega), Option.bind_some, impl_ReadTable_j0, impl_ReadTable_j0]
  by_cases h3 : ((s.size : Int) % 3) = 0
  · rw [if_pos h3, tableLen_int _ h3]
    cases h : tableLen s.size with
    | true =>
      have h' := (tableLen_iff _).1 h
      rw [if_neg (by decide), if_pos rfl]
      have R := impl_ReadTable_l0 s (s.size / 3) (by omega) (by omega) (s.size / 3) k 0 (by omega) (by omega) (by omega)
      exact R
    | false => rfl
  · rw [if_neg h3, tableLen_no _ h3]; rfl

theorem FnExactReadTable : laws_FnExactReadTable.Pure := by
  intro s hs
  refine ⟨302, ?_⟩
  unfold laws_FnExactReadTable.f
  split
  · rfl
  rw [spec_ReadTable_eq s hs 302 (by omega), impl_ReadTable_eq s hs 302 (by omega)]
  simp only [Option.bind_some]
  obtain ⟨r, hr⟩ : ∃ r, r = (if tableLen s.size then (tri s (s.size / 3), true) else ([], false)) := ⟨_, rfl⟩
  have hl : r.1.length ≤ 256 := by
    rw [hr]; split
    · rename_i h; have := (tableLen_iff _).1 h; simp only [tri_length]; omega
    · simp
  rw [← hr, laws_eqRgbS_refl _ (by omega) _ (by omega)]
  simp only [Option.bind_some, if_true, laws_FnExactReadTable.j0]
  obtain ⟨ys, m1, m2⟩ := laws_mark_held_Rgb r.1 (by omega) 301 301 (by omega) (by omega)
  rw [if_neg (by simp), m1]
  simp only [Option.bind_some]
  rw [m2]
  simp only [Option.bind_some]
  rw [if_neg (by omega)]
  simp only [if_true]
  rw [impl_ReadTable_eq s hs 301 (by omega), ← hr]
  simp only [Option.bind_some]
  rw [laws_eqRgbS_refl _ (by omega) _ (by omega)]
  simp only [Option.bind_some, if_true, laws_FnExactReadTable.j1]
  obtain ⟨zs, n1, n2⟩ := laws_mark_held_Rgb r.1 (by omega) 301 300 (by omega) (by omega)
  obtain rfl : ys = zs := by rw [m1] at n1; simpa using n1
  rw [if_neg (by simp), n2]
  simp only [Option.bind_some]
  rw [if_neg (by omega)]
  simp

end Go.Proofs.Ytllibbjcklmhnaa.Pure
