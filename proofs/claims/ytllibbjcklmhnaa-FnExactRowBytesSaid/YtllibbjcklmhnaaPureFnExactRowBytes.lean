/- The program's RowBytes returns what the reference's returns, for all arguments. -/
import Derived.Test.YtllibbjcklmhnaaPFnExactRowBytesx2
set_option linter.unusedVariables false
set_option linter.unusedSimpArgs false
namespace Go.Proofs.Ytllibbjcklmhnaa.Pure
open Go.RowKit Go.Proofs.Ytllibbjcklmhnaa.PFnExactRowBytes Go.Proofs.YtllibbjcklmhnaaW.PrintWords Go.Proofs.YtllibbjcklmhnaaW.PrintLast

theorem w64 {x : Int} (h : -9223372036854775808 ≤ x) (h' : x ≤ 9223372036854775807) : wrap64 x = x := by unfold wrap64; omega
theorem wf_i64 {a : Int} (h : (Lit.int .i64 a).wf = true) : -9223372036854775808 ≤ a ∧ a ≤ 9223372036854775807 := by
  simpa [Lit.wf, IntKind.min, IntKind.max, IntKind.signed, IntKind.bits] using h
theorem wbt (s : ByteArray) (i : Int) : wrap64 (bt s i) = bt s i := w64 (by have := bt_range s i; omega) (by have := bt_range s i; omega)

def sideB (n : Int) : Bool := decide (1 ≤ n) && decide (n ≤ 24)
theorem sideB_iff (n : Int) : sideB n = true ↔ 1 ≤ n ∧ n ≤ 24 := by simp [sideB]

def chan (c : Int) : Int := if c = 0 then 1 else if c = 3 then 1 else if c = 2 then 3 else if c = 4 then 2 else if c = 6 then 4 else 0

def smallD (d : Int) : Bool := d == 1 || d == 2 || d == 4
def bigD (d : Int) : Bool := d == 8 || d == 16
def dok (c d : Int) : Bool := if c = 0 then smallD d || bigD d else if c = 3 then smallD d || d == 8 else if c = 2 then bigD d else if c = 4 then bigD d else if c = 6 then bigD d else false
theorem some_or (a b : Bool) : (if a = true then some true else some b) = some (a || b) := by cases a <;> rfl
theorem spec_DepthOk_eq (k : Nat) (hk : 1 ≤ k) (c d : Int) : spec_DepthOk.f k c d = some (dok c d) := by
  obtain ⟨k, rfl⟩ : ∃ m, k = m + 1 := ⟨k - 1, by omega⟩
  have e : ∀ x : Bool, spec_DepthOk.j0 (k + 1) c d x = some (if c = 0 then x || bigD d else if c = 3 then x || d == 8 else if c = 2 then bigD d else if c = 4 then bigD d else if c = 6 then bigD d else false) := by
    intro x
    have h8 : (if d = 8 then some true else some (d == 16)) = some (bigD d) := by unfold bigD; by_cases h : d = 8 <;> simp [h]
    simp only [spec_DepthOk.j0, h8, some_or]
    repeat (first | rfl | split)
  simp only [spec_DepthOk.f, e, dok, smallD]
  by_cases h1 : d = 1
  · simp [h1]
  by_cases h2 : d = 2
  · simp [h2]
  · have e1 : (d == 1) = false := by simpa using h1
    have e2 : (d == 2) = false := by simpa using h2
    simp only [h1, h2, e1, e2, if_false, Bool.false_or]

def upB (n : Int) : Int := (n + 7) / 8
theorem upB_w (n : Int) (h : 0 ≤ n) (h' : n ≤ 9223372036854775800) : wrap64 (Int.tdiv (wrap64 (n + 7)) 8) = upB n := by
  unfold upB
  rw [w64 (x := n + 7) (by omega) (by omega), Int.tdiv_eq_ediv_of_nonneg (by omega), w64 (by omega) (by omega)]
theorem chan_bd (c : Int) : 0 ≤ chan c ∧ chan c ≤ 4 := by unfold chan; repeat (first | omega | split)
theorem dok_bd {c d : Int} (h : dok c d = true) : 1 ≤ d ∧ d ≤ 16 ∧ 1 ≤ chan c := by
  have hs : ∀ d : Int, smallD d = true → 1 ≤ d ∧ d ≤ 4 := by intro d h; simp [smallD] at h; omega
  have hb : ∀ d : Int, bigD d = true → 8 ≤ d ∧ d ≤ 16 := by intro d h; simp [bigD] at h; omega
  unfold dok at h
  unfold chan
  split at h
  · rename_i e; simp only [e, if_true, Bool.or_eq_true] at h ⊢
    rcases h with h | h
    · have := hs d h; omega
    · have := hb d h; omega
  · rename_i e0
    simp only [e0, if_false]
    split at h
    · rename_i e; simp only [e, if_true, Bool.or_eq_true, beq_iff_eq] at h ⊢
      rcases h with h | h
      · have := hs d h; omega
      · omega
    · rename_i e3
      simp only [e3, if_false]
      split at h
      · rename_i e; simp only [e, if_true]; have := hb d h; omega
      · rename_i e2
        simp only [e2, if_false]
        split at h
        · rename_i e; simp only [e, if_true]; have := hb d h; omega
        · rename_i e4
          simp only [e4, if_false]
          split at h
          · rename_i e; simp only [e, if_true]; have := hb d h; omega
          · cases h
theorem mul_bd {a b : Int} {m n : Int} (ha : 0 ≤ a) (ha' : a ≤ m) (hb : 0 ≤ b) (hb' : b ≤ n) : 0 ≤ a * b ∧ a * b ≤ m * n :=
  ⟨Int.mul_nonneg ha hb, Int.mul_le_mul ha' hb' hb (by omega)⟩
/-- How many bytes a row has. -/
def rowBytes (w c d : Int) : Int := if sideB w && dok c d then upB (w * chan c * d) else 0
theorem row_bd {w c d : Int} (h : sideB w = true) (h' : dok c d = true) : 0 ≤ w * chan c ∧ w * chan c ≤ 96 ∧ 0 ≤ w * chan c * d ∧ w * chan c * d ≤ 1536 := by
  rw [sideB_iff] at h
  have h2 := dok_bd h'
  have h3 := chan_bd c
  have h4 := mul_bd (a := w) (b := chan c) (m := 24) (n := 4) (by omega) (by omega) (by omega) (by omega)
  have h5 := mul_bd (a := w * chan c) (b := d) (m := 96) (n := 16) (by omega) (by omega) (by omega) (by omega)
  omega

theorem spec_l01In_eq (a b c : Int) : spec_l01In.f a b c = some (decide (b ≤ a) && decide (a ≤ c)) := by
  unfold spec_l01In.f
  by_cases h : b ≤ a <;> simp [h]

theorem spec_l12Side_eq (n : Int) : spec_l12Side.f n = some (sideB n) := by simp [spec_l12Side.f, spec_l01In_eq, sideB]

theorem spec_ChannelsOf_eq (k : Nat) (hk : 1 ≤ k) (c : Int) : spec_ChannelsOf.f k c = some (chan c) := by
  obtain ⟨k, rfl⟩ : ∃ m, k = m + 1 := ⟨k - 1, by omega⟩
  simp only [spec_ChannelsOf.f, spec_ChannelsOf.j0, chan]
  by_cases h0 : c = 0
  · simp [h0]
  · by_cases h3 : c = 3
    · simp [h3]
    · simp [h0, h3]; repeat (first | split | rfl)

theorem spec_RowBytes_eq (k : Nat) (hk : 1 ≤ k) (w c d : Int) : spec_RowBytes.f k w c d = some (rowBytes w c d) := by
  unfold spec_RowBytes.f rowBytes
  simp only [spec_l12Side_eq, spec_DepthOk_eq k hk, spec_ChannelsOf_eq k hk, Option.bind_some]
  by_cases h : sideB w = true
  · by_cases h' : dok c d = true
    · have b := row_bd h h'
      rw [if_pos h, if_pos h', w64 (x := w * chan c) (by omega) (by omega), w64 (x := w * chan c * d) (by omega) (by omega), upB_w _ (by omega) (by omega)]
      simp [h, h']
    · simp [h, h']
  · simp [h]

theorem impl_within_eq (a b c : Int) : impl_within.f a b c = some (decide (b ≤ a) && decide (a ≤ c)) := by
  unfold impl_within.f
  by_cases h : b ≤ a <;> simp [h]

theorem impl_isSide_eq (n : Int) : impl_isSide.f n = some (sideB n) := by simp [impl_isSide.f, impl_within_eq, sideB]

theorem impl_ChannelsOf_eq (k : Nat) (hk : 1 ≤ k) (c : Int) : impl_ChannelsOf.f k c = some (chan c) := by
  obtain ⟨k, rfl⟩ : ∃ m, k = m + 1 := ⟨k - 1, by omega⟩
  simp only [impl_ChannelsOf.f, impl_ChannelsOf.j0, chan]
  by_cases h0 : c = 0
  · simp [h0]
  · by_cases h3 : c = 3
    · simp [h3]
    · by_cases h2 : c = 2
      · simp [h2]
      · by_cases h4 : c = 4
        · simp [h4]
        · simp [h0, h3, h2, h4]; repeat (first | split | rfl)

theorem impl_isDepth_eq (d : Int) : impl_isDepth.f d = some (smallD d || bigD d) := by
  simp only [impl_isDepth.f, smallD, bigD]
  by_cases h1 : d = 1
  · simp [h1]
  by_cases h2 : d = 2
  · simp [h2]
  by_cases h4 : d = 4
  · simp [h4]
  by_cases h8 : d = 8
  · simp [h8]
  · have e1 : (d == 1) = false := by simpa using h1
    have e2 : (d == 2) = false := by simpa using h2
    have e4 : (d == 4) = false := by simpa using h4
    have e8 : (d == 8) = false := by simpa using h8
    simp only [h1, h2, h4, h8, e1, e2, e4, e8, if_false, Bool.false_or]
theorem impl_DepthOk_eq (k : Nat) (hk : 1 ≤ k) (c d : Int) : impl_DepthOk.f k c d = some (dok c d) := by
  have h8 : (if d = 8 then some true else some (d == 16)) = some (bigD d) := by unfold bigD; by_cases h : d = 8 <;> simp [h]
  simp only [impl_DepthOk.f, impl_isDepth_eq, impl_ChannelsOf_eq k hk, Option.bind_some, dok, h8]
  by_cases h0 : c = 0
  · simp [h0]
  by_cases h3 : c = 3
  · subst h3
    simp only [show ¬ ((3 : Int) = 0) by decide, if_true, if_false]
    unfold smallD bigD
    by_cases h1 : d = 1
    · simp [h1]
    by_cases h2 : d = 2
    · simp [h2]
    by_cases h4 : d = 4
    · simp [h4]
    by_cases h8 : d = 8
    · simp [h8]
    by_cases h16 : d = 16
    · simp [h16]
    · simp [h1, h2, h4, h8, h16]
  · simp only [h0, h3, chan, if_false]
    by_cases h2 : c = 2
    · simp [h2]
    by_cases h4 : c = 4
    · simp [h4]
    by_cases h6 : c = 6
    · simp [h6]
    · simp [h2, h4, h6]

theorem impl_up_eq (n : Int) (h : 0 ≤ n) (h' : n ≤ 9223372036854775800) : impl_up.f n = some (upB n) := by unfold impl_up.f; rw [upB_w n h h']
theorem impl_RowBytes_eq (k : Nat) (hk : 2 ≤ k) (w c d : Int) : impl_RowBytes.f k w c d = some (rowBytes w c d) := by
  obtain ⟨k, rfl⟩ : ∃ m, k = m + 2 := ⟨k - 2, by omega⟩
  unfold impl_RowBytes.f rowBytes
  simp only [impl_isSide_eq, impl_DepthOk_eq (k + 2) (by omega), Option.bind_some]
  by_cases h : sideB w = true
  · by_cases h' : dok c d = true
    · have b := row_bd h h'
      simp only [h, h', if_true, Bool.not_true, Bool.and_self, impl_RowBytes.j0]
      rw [if_neg (by decide), impl_ChannelsOf_eq (k + 1) (by omega)]
      simp only [Option.bind_some]
      rw [w64 (x := w * chan c) (by omega) (by omega), w64 (x := w * chan c * d) (by omega) (by omega), impl_up_eq _ (by omega) (by omega)]
      rfl
    · simp [h, h', impl_RowBytes.j0]
  · simp [h, impl_RowBytes.j0]

theorem FnExactRowBytes : laws_FnExactRowBytes.Pure := by
  intro w c d _ _ _
  refine ⟨2, ?_⟩
  unfold laws_FnExactRowBytes.f
  rw [spec_RowBytes_eq 2 (by omega), impl_RowBytes_eq 2 (by omega)]
  simp

end Go.Proofs.Ytllibbjcklmhnaa.Pure
