/- The program's PassSize returns what the reference's returns, for all arguments. -/
import Derived.Test.YtllibbjcklmhnaaPFnExactPassSizex1
set_option linter.unusedVariables false
set_option linter.unusedSimpArgs false
namespace Go.Proofs.Ytllibbjcklmhnaa.Pure
open Go.RowKit Go.Proofs.Ytllibbjcklmhnaa.PFnExactPassSize Go.Proofs.YtllibbjcklmhnaaW.PrintWords Go.Proofs.YtllibbjcklmhnaaW.PrintLast

theorem w64 {x : Int} (h : -9223372036854775808 ≤ x) (h' : x ≤ 9223372036854775807) : wrap64 x = x := by unfold wrap64; omega
theorem wf_i64 {a : Int} (h : (Lit.int .i64 a).wf = true) : -9223372036854775808 ≤ a ∧ a ≤ 9223372036854775807 := by
  simpa [Lit.wf, IntKind.min, IntKind.max, IntKind.signed, IntKind.bits] using h
theorem wbt (s : ByteArray) (i : Int) : wrap64 (bt s i) = bt s i := w64 (by have := bt_range s i; omega) (by have := bt_range s i; omega)

def pstep (p : Int) : Int × Int × Int × Int := if p = 0 then (0, 0, 8, 8) else if p = 1 then (4, 0, 8, 8) else if p = 2 then (0, 4, 4, 8) else if p = 3 then (2, 0, 4, 4) else if p = 4 then (0, 2, 2, 4) else if p = 5 then (1, 0, 2, 2) else if p = 6 then (0, 1, 1, 2) else (0, 0, 0, 0)
def passB (p : Int) : Bool := decide (0 ≤ p) && decide (p ≤ 6)
theorem passB_iff (p : Int) : passB p = true ↔ 0 ≤ p ∧ p ≤ 6 := by simp [passB]
/-- How many of the places x, x + d, .. are below n. -/
def cnt (n x d : Int) : Int := if x < n then (n - x + d - 1) / d else 0
def power2 (d : Int) : Prop := d = 1 ∨ d = 2 ∨ d = 4 ∨ d = 8
theorem cnt_step {n x d : Int} (hd : power2 d) (h : x < n) : cnt n x d = 1 + cnt n (x + d) d := by
  unfold cnt
  rw [if_pos h]
  rcases hd with rfl | rfl | rfl | rfl <;> split <;> omega
theorem cnt_done {n x d : Int} (h : ¬ x < n) : cnt n x d = 0 := if_neg h
theorem cnt_bd {n x d : Int} (hd : power2 d) (h0 : 0 ≤ x) (hn : n ≤ 24) : 0 ≤ cnt n x d ∧ cnt n x d ≤ 24 := by
  unfold cnt
  rcases hd with rfl | rfl | rfl | rfl <;> split <;> omega
theorem pstep_bd {p : Int} (h : passB p = true) : 0 ≤ (pstep p).1 ∧ (pstep p).1 ≤ 4 ∧ 0 ≤ (pstep p).2.1 ∧ (pstep p).2.1 ≤ 4 ∧ power2 (pstep p).2.2.1 ∧ power2 (pstep p).2.2.2 ∧ (pstep p).1 ≤ (pstep p).2.2.1 ∧ (pstep p).2.1 ≤ (pstep p).2.2.2 := by
  rw [passB_iff] at h
  have : p = 0 ∨ p = 1 ∨ p = 2 ∨ p = 3 ∨ p = 4 ∨ p = 5 ∨ p = 6 := by omega
  unfold power2
  rcases this with rfl | rfl | rfl | rfl | rfl | rfl | rfl <;> decide

def sideB (n : Int) : Bool := decide (1 ≤ n) && decide (n ≤ 24)
theorem sideB_iff (n : Int) : sideB n = true ↔ 1 ≤ n ∧ n ≤ 24 := by simp [sideB]

def psize (w h p : Int) : Int × Int :=
  if sideB w && sideB h && passB p then
    if cnt w (pstep p).1 (pstep p).2.2.1 = 0 ∨ cnt h (pstep p).2.1 (pstep p).2.2.2 = 0 then (0, 0) else (cnt w (pstep p).1 (pstep p).2.2.1, cnt h (pstep p).2.1 (pstep p).2.2.2)
  else (0, 0)

theorem spec_l01In_eq (a b c : Int) : spec_l01In.f a b c = some (decide (b ≤ a) && decide (a ≤ c)) := by
  unfold spec_l01In.f
  by_cases h : b ≤ a <;> simp [h]

theorem spec_l12Side_eq (n : Int) : spec_l12Side.f n = some (sideB n) := by simp [spec_l12Side.f, spec_l01In_eq, sideB]

theorem spec_PassStep_eq (p : Int) : spec_PassStep.f p = some (pstep p) := by unfold spec_PassStep.f pstep; repeat (first | rfl | split)
theorem spec_l14Count_l0 {n d : Int} (hd : power2 d) (hn : n ≤ 24) (j : Nat) : ∀ (k : Nat) (m x : Int), 0 ≤ m → m ≤ x → x ≤ 100 → n - x ≤ j → j < k → spec_l14Count.l0 k n d m x = some (m + cnt n x d) := by
  induction j with
  | zero =>
    intro k m x h0 h1 h2 h3 h4
    obtain ⟨k, rfl⟩ : ∃ m, k = m + 1 := ⟨k - 1, by omega⟩
    simp only [spec_l14Count.l0]
    rw [if_neg (by omega), cnt_done (by omega), Int.add_zero]
  | succ j ih =>
    intro k m x h0 h1 h2 h3 h4
    obtain ⟨k, rfl⟩ : ∃ m, k = m + 1 := ⟨k - 1, by omega⟩
    have hd2 : 1 ≤ d ∧ d ≤ 8 := by unfold power2 at hd; omega
    simp only [spec_l14Count.l0]
    by_cases h : x < n
    · rw [if_pos h, w64 (x := m + 1) (by omega) (by omega), w64 (x := x + d) (by omega) (by omega), ih k (m + 1) (x + d) (by omega) (by omega) (by omega) (by omega) (by omega), cnt_step hd h]
      congr 1; omega
    · rw [if_neg h, cnt_done h, Int.add_zero]
theorem spec_l14Count_eq {n x d : Int} (hd : power2 d) (hn : n ≤ 24) (h0 : 0 ≤ x) (h1 : x ≤ 4) (k : Nat) (hk : 26 ≤ k) : spec_l14Count.f k n x d = some (cnt n x d) := by
  unfold spec_l14Count.f
  rw [spec_l14Count_l0 hd hn 25 k 0 x (by omega) h0 (by omega) (by omega) (by omega), Int.zero_add]
theorem spec_PassSize_eq (k : Nat) (hk : 27 ≤ k) (w h p : Int) : spec_PassSize.f k w h p = some (psize w h p) := by
  obtain ⟨k, rfl⟩ : ∃ m, k = m + 1 := ⟨k - 1, by omega⟩
  unfold spec_PassSize.f psize
  simp only [spec_l12Side_eq, spec_l01In_eq, Option.bind_some]
  change (if sideB w = true then (if sideB h = true then spec_PassSize.j0 (k + 1) w h p (!(passB p)) else spec_PassSize.j0 (k + 1) w h p true) else spec_PassSize.j0 (k + 1) w h p true) = _
  have yes : spec_PassSize.j0 (k + 1) w h p true = some (0, 0) := by simp [spec_PassSize.j0]
  rw [yes]
  by_cases hw : sideB w = true
  · by_cases hh : sideB h = true
    · by_cases hp : passB p = true
      · have b := pstep_bd hp
        have bw := (sideB_iff w).1 hw
        have bh := (sideB_iff h).1 hh
        simp only [hw, hh, hp, if_true, Bool.not_true, Bool.and_self, spec_PassSize.j0, spec_PassStep_eq, Option.bind_some]
        rw [if_neg (by decide), spec_l14Count_eq b.2.2.2.2.1 (by omega) b.1 b.2.1 k (by omega), spec_l14Count_eq b.2.2.2.2.2.1 (by omega) b.2.2.1 b.2.2.2.1 k (by omega)]
        simp only [Option.bind_some]
        by_cases h1 : cnt w (pstep p).1 (pstep p).2.2.1 = 0
        · simp [h1]
        · by_cases h2 : cnt h (pstep p).2.1 (pstep p).2.2.2 = 0
          · simp [h1, h2]
          · simp [h1, h2]
      · simp [hw, hh, hp, yes]
    · simp [hw, hh]
  · simp [hw]

theorem impl_within_eq (a b c : Int) : impl_within.f a b c = some (decide (b ≤ a) && decide (a ≤ c)) := by
  unfold impl_within.f
  by_cases h : b ≤ a <;> simp [h]

theorem impl_isSide_eq (n : Int) : impl_isSide.f n = some (sideB n) := by simp [impl_isSide.f, impl_within_eq, sideB]

theorem impl_PassStep_eq (p : Int) : impl_PassStep.f p = some (pstep p) := by unfold impl_PassStep.f pstep; repeat (first | rfl | split)
theorem cnt_quot {n x d : Int} (hd : power2 d) (h0 : 0 ≤ x) (h1 : x ≤ 4) (h2 : x ≤ d) (hn : 1 ≤ n) (hn' : n ≤ 24) : wrap64 (Int.tdiv (wrap64 (wrap64 (wrap64 (n - x) + d) - 1)) d) = (n - x + d - 1) / d ∧ (cnt n x d = 0 ↔ (n - x + d - 1) / d < 1) ∧ (cnt n x d ≠ 0 → cnt n x d = (n - x + d - 1) / d) := by
  have hd2 : 1 ≤ d ∧ d ≤ 8 := by unfold power2 at hd; omega
  rw [w64 (x := n - x) (by omega) (by omega), w64 (x := n - x + d) (by omega) (by omega), w64 (x := n - x + d - 1) (by omega) (by omega), Int.tdiv_eq_ediv_of_nonneg (by omega)]
  have q : 0 ≤ (n - x + d - 1) / d ∧ (n - x + d - 1) / d ≤ 40 := by rcases hd with rfl | rfl | rfl | rfl <;> omega
  refine ⟨w64 (by omega) (by omega), ?_, ?_⟩
  · unfold cnt
    rcases hd with rfl | rfl | rfl | rfl <;> split <;> omega
  · unfold cnt
    split
    · intro _; rfl
    · intro h; exact absurd rfl h
theorem impl_PassSize_eq (k : Nat) (hk : 1 ≤ k) (w h p : Int) : impl_PassSize.f k w h p = some (psize w h p) := by
  obtain ⟨k, rfl⟩ : ∃ m, k = m + 1 := ⟨k - 1, by omega⟩
  unfold impl_PassSize.f psize
  simp only [impl_isSide_eq, impl_within_eq, Option.bind_some]
  change (if sideB w = true then (if sideB h = true then impl_PassSize.j0 (k + 1) w h p (!(passB p)) else impl_PassSize.j0 (k + 1) w h p true) else impl_PassSize.j0 (k + 1) w h p true) = _
  have yes : impl_PassSize.j0 (k + 1) w h p true = some (0, 0) := by simp [impl_PassSize.j0]
  rw [yes]
  by_cases hw : sideB w = true
  · by_cases hh : sideB h = true
    · by_cases hp : passB p = true
      · have b := pstep_bd hp
        have bw := (sideB_iff w).1 hw
        have bh := (sideB_iff h).1 hh
        have q1 := cnt_quot (n := w) b.2.2.2.2.1 b.1 b.2.1 b.2.2.2.2.2.2.1 bw.1 bw.2
        have q2 := cnt_quot (n := h) b.2.2.2.2.2.1 b.2.2.1 b.2.2.2.1 b.2.2.2.2.2.2.2 bh.1 bh.2
        have n1 : (pstep p).2.2.1 ≠ 0 := by have := b.2.2.2.2.1; unfold power2 at this; omega
        have n2 : (pstep p).2.2.2 ≠ 0 := by have := b.2.2.2.2.2.1; unfold power2 at this; omega
        simp only [hw, hh, hp, if_true, Bool.not_true, Bool.and_self, impl_PassSize.j0, impl_PassStep_eq, Option.bind_some]
        rw [if_neg (by decide), if_neg n1, if_neg n2, q1.1, q2.1]
        by_cases h1 : cnt w (pstep p).1 (pstep p).2.2.1 = 0
        · rw [if_pos (q1.2.1.1 h1), if_pos (.inl h1)]
        · rw [if_neg (fun c => h1 (q1.2.1.2 c))]
          by_cases h2 : cnt h (pstep p).2.1 (pstep p).2.2.2 = 0
          · rw [if_pos (q2.2.1.1 h2), if_pos (.inr h2)]
          · rw [if_neg (fun c => h2 (q2.2.1.2 c)), if_neg (by omega), q1.2.2 h1, q2.2.2 h2]
      · simp [hw, hh, hp, yes]
    · simp [hw, hh]
  · simp [hw]

theorem FnExactPassSize : laws_FnExactPassSize.Pure := by
  intro w h p _ _ _
  refine ⟨27, ?_⟩
  unfold laws_FnExactPassSize.f
  rw [spec_PassSize_eq 27 (by omega), impl_PassSize_eq 27 (by omega)]
  simp

end Go.Proofs.Ytllibbjcklmhnaa.Pure
