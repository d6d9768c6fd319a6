/- The program's RowWeight returns what the reference's returns, for all arguments. -/
import Derived.Test.YtllibbjcklmhnaaPFnExactRowWeightx1
set_option linter.unusedVariables false
set_option linter.unusedSimpArgs false
namespace Go.Proofs.Ytllibbjcklmhnaa.Pure
open Go.RowKit Go.Proofs.Ytllibbjcklmhnaa.PFnExactRowWeight Go.Proofs.YtllibbjcklmhnaaW.PrintWords Go.Proofs.YtllibbjcklmhnaaW.PrintLast

theorem w64 {x : Int} (h : -9223372036854775808 ≤ x) (h' : x ≤ 9223372036854775807) : wrap64 x = x := by unfold wrap64; omega
theorem wf_i64 {a : Int} (h : (Lit.int .i64 a).wf = true) : -9223372036854775808 ≤ a ∧ a ≤ 9223372036854775807 := by
  simpa [Lit.wf, IntKind.min, IntKind.max, IntKind.signed, IntKind.bits] using h
theorem wbt (s : ByteArray) (i : Int) : wrap64 (bt s i) = bt s i := w64 (by have := bt_range s i; omega) (by have := bt_range s i; omega)

def lightOf (c : Int) : Int := if c > 127 then 256 - c else c
theorem mn_light (c : Int) (h : 0 ≤ c) (h' : c ≤ 255) : mn c (256 - c) = lightOf c := by unfold mn lightOf; split <;> split <;> omega
/-- What the first n bytes weigh. -/
def weigh (s : ByteArray) : Nat → Int
  | 0 => 0
  | n + 1 => weigh s n + lightOf (bt s n)
theorem weigh_bd (s : ByteArray) (n : Nat) : 0 ≤ weigh s n ∧ weigh s n ≤ 128 * n := by
  induction n with
  | zero => simp [weigh]
  | succ n ih => have := bt_range s n; simp only [weigh, lightOf]; split <;> omega

theorem spec_RowWeight_l0 (s : ByteArray) (hs : s.size ≤ 200) (d : Nat) : ∀ (k n : Nat), n ≤ s.size → s.size - n = d → d < k → spec_RowWeight.l0 k s (weigh s n) n = some (weigh s s.size) := by
  induction d with
  | zero =>
    intro k n hn hd hk
    obtain ⟨k, rfl⟩ : ∃ m, k = m + 1 := ⟨k - 1, by omega⟩
    obtain rfl : n = s.size := by omega
    simp only [spec_RowWeight.l0]
    rw [if_neg (by omega)]
  | succ d ih =>
    intro k n hn hd hk
    obtain ⟨k, rfl⟩ : ∃ m, k = m + 1 := ⟨k - 1, by omega⟩
    have hb := bt_range s n
    have hw := weigh_bd s n
    have step := ih k (n + 1) (by omega) (by omega) (by omega)
    simp only [weigh, lightOf] at step
    simp only [spec_RowWeight.l0]
    rw [if_pos (by omega), if_pos (by omega), wbt, w64 (x := 256 - bt s n) (by omega) (by omega), w64 (x := weigh s n + (256 - bt s n)) (by omega) (by omega), w64 (x := weigh s n + bt s n) (by omega) (by omega), w64 (x := (n : Int) + 1) (by omega) (by omega)]
    split
    · rename_i h; rw [if_pos h] at step; exact step
    · rename_i h; rw [if_neg h] at step; exact step
theorem spec_RowWeight_eq (s : ByteArray) (k : Nat) (hk : 201 ≤ k) : spec_RowWeight.f k s = some (if s.size ≤ 200 then weigh s s.size else -1) := by
  unfold spec_RowWeight.f
  by_cases h : s.size ≤ 200
  · rw [if_neg (by omega), if_pos h]
    exact spec_RowWeight_l0 s h s.size k 0 (by omega) (by omega) (by omega)
  · rw [if_pos (by omega), if_neg h]

theorem impl_RowWeight_l0 (s : ByteArray) (hs : s.size ≤ 200) (d : Nat) : ∀ (k n : Nat), n ≤ s.size → s.size - n = d → d < k → impl_RowWeight.l0 k s (weigh s n) s.size n = some (weigh s s.size) := by
  induction d with
  | zero =>
    intro k n hn hd hk
    obtain ⟨k, rfl⟩ : ∃ m, k = m + 1 := ⟨k - 1, by omega⟩
    obtain rfl : n = s.size := by omega
    simp only [impl_RowWeight.l0]
    rw [if_neg (by omega)]
  | succ d ih =>
    intro k n hn hd hk
    obtain ⟨k, rfl⟩ : ∃ m, k = m + 1 := ⟨k - 1, by omega⟩
    have hb := bt_range s n
    have hw := weigh_bd s (n + 1)
    have step := ih k (n + 1) (by omega) (by omega) (by omega)
    have hl := mn_light (bt s n) hb.1 hb.2
    simp only [weigh] at step hw
    simp only [impl_RowWeight.l0]
    rw [if_pos (by omega), if_pos (by omega), if_pos (by omega), wbt, w64 (x := 256 - bt s n) (by omega) (by omega), hl, w64 (x := weigh s n + lightOf (bt s n)) (by omega) (by omega), w64 (x := (n : Int) + 1) (by omega) (by omega)]
    exact step
theorem impl_RowWeight_eq (s : ByteArray) (k : Nat) (hk : 201 ≤ k) : impl_RowWeight.f k s = some (if s.size ≤ 200 then weigh s s.size else -1) := by
  unfold impl_RowWeight.f
  by_cases h : s.size ≤ 200
  · rw [if_neg (by omega), if_pos h]
    exact impl_RowWeight_l0 s h s.size k 0 (by omega) (by omega) (by omega)
  · rw [if_pos (by omega), if_neg h]

theorem FnExactRowWeight : laws_FnExactRowWeight.Pure := by
  intro s hs
  refine ⟨201, ?_⟩
  unfold laws_FnExactRowWeight.f
  rw [spec_RowWeight_eq s 201 (by omega), impl_RowWeight_eq s 201 (by omega)]
  simp

end Go.Proofs.Ytllibbjcklmhnaa.Pure
