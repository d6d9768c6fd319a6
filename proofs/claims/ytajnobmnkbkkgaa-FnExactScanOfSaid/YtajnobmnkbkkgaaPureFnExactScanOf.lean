/- FnExactScanOf: both scans are one list of bytes -/
import Derived.Test.YtajnobmnkbkkgaaPFnExactScanOfx16
set_option linter.unusedVariables false
set_option linter.unusedSimpArgs false
namespace Go.Proofs.Ytajnobmnkbkkgaa.Pure
open Go.RowKit Go.Proofs.Ytajnobmnkbkkgaa.PFnExactScanOf Go.Proofs.YtajnobmnkbkkgaaW.PrintWords Go.Proofs.YtajnobmnkbkkgaaW.PrintLast

theorem w64 {x : Int} (h : -9223372036854775808 ≤ x) (h' : x ≤ 9223372036854775807) : wrap64 x = x := by unfold wrap64; omega
theorem wf_i64 {a : Int} (h : (Lit.int .i64 a).wf = true) : -9223372036854775808 ≤ a ∧ a ≤ 9223372036854775807 := by
  simpa [Lit.wf, IntKind.min, IntKind.max, IntKind.signed, IntKind.bits] using h
theorem wbt (s : ByteArray) (i : Int) : wrap64 (bt s i) = bt s i := w64 (by have := bt_range s i; omega) (by have := bt_range s i; omega)

def pstep (p : Int) : Int × Int × Int × Int := if p = 0 then (0, 0, 8, 8) else if p = 1 then (4, 0, 8, 8) else if p = 2 then (0, 4, 4, 8) else if p = 3 then (2, 0, 4, 4) else if p = 4 then (0, 2, 2, 4) else if p = 5 then (1, 0, 2, 2) else if p = 6 then (0, 1, 1, 2) else (0, 0, 0, 0)
def passB (p : Int) : Bool := decide (0 ≤ p) && decide (p ≤ 6)
theorem passB_iff (p : Int) : passB p = true ↔ 0 ≤ p ∧ p ≤ 6 := by simp [passB]
/-- How many of the places x, x + d, .. are below n. -/
def cnt (n x d : Int) : Int := if x < n then (n - x + d - 1) / d else 0
def power2 (d : Int) : Prop := d = 1 ∨ d = 2 ∨ d = 4 ∨ d = 8
theorem cnt_step {n x d : Int} (hd : power2 d) (h : x < n) : cnt n x d = 1 + cnt n (x + d) d := by
  unfold cnt
  rw [if_pos h]
  rcases hd with rfl | rfl | rfl | rfl <;> split <;> omega
theorem cnt_done {n x d : Int} (h : ¬ x < n) : cnt n x d = 0 := if_neg h
theorem cnt_bd {n x d : Int} (hd : power2 d) (h0 : 0 ≤ x) (hn : n ≤ 24) : 0 ≤ cnt n x d ∧ cnt n x d ≤ 24 := by
  unfold cnt
  rcases hd with rfl | rfl | rfl | rfl <;> split <;> omega
theorem pstep_bd {p : Int} (h : passB p = true) : 0 ≤ (pstep p).1 ∧ (pstep p).1 ≤ 4 ∧ 0 ≤ (pstep p).2.1 ∧ (pstep p).2.1 ≤ 4 ∧ power2 (pstep p).2.2.1 ∧ power2 (pstep p).2.2.2 ∧ (pstep p).1 ≤ (pstep p).2.2.1 ∧ (pstep p).2.1 ≤ (pstep p).2.2.2 := by
  rw [passB_iff] at h
  have : p = 0 ∨ p = 1 ∨ p = 2 ∨ p = 3 ∨ p = 4 ∨ p = 5 ∨ p = 6 := by omega
  unfold power2
  rcases this with rfl | rfl | rfl | rfl | rfl | rfl | rfl <;> decide

def sideB (n : Int) : Bool := decide (1 ≤ n) && decide (n ≤ 24)
theorem sideB_iff (n : Int) : sideB n = true ↔ 1 ≤ n ∧ n ≤ 24 := by simp [sideB]

def psize (w h p : Int) : Int × Int :=
  if sideB w && sideB h && passB p then
    if cnt w (pstep p).1 (pstep p).2.2.1 = 0 ∨ cnt h (pstep p).2.1 (pstep p).2.2.2 = 0 then (0, 0) else (cnt w (pstep p).1 (pstep p).2.2.1, cnt h (pstep p).2.1 (pstep p).2.2.2)
  else (0, 0)

theorem spec_l01In_eq (a b c : Int) : spec_l01In.f a b c = some (decide (b ≤ a) && decide (a ≤ c)) := by
  unfold spec_l01In.f
  by_cases h : b ≤ a <;> simp [h]

theorem spec_l12Side_eq (n : Int) : spec_l12Side.f n = some (sideB n) := by simp [spec_l12Side.f, spec_l01In_eq, sideB]

theorem spec_PassStep_eq (p : Int) : spec_PassStep.f p = some (pstep p) := by unfold spec_PassStep.f pstep; repeat (first | rfl | split)
theorem spec_l14Count_l0 {n d : Int} (hd : power2 d) (hn : n ≤ 24) (j : Nat) : ∀ (k : Nat) (m x : Int), 0 ≤ m → m ≤ x → x ≤ 100 → n - x ≤ j → j < k → spec_l14Count.l0 k n d m x = some (m + cnt n x d) := by
  induction j with
  | zero =>
    intro k m x h0 h1 h2 h3 h4
    obtain ⟨k, rfl⟩ : ∃ m, k = m + 1 := ⟨k - 1, by omega⟩
    simp only [spec_l14Count.l0]
    rw [if_neg (by omega), cnt_done (by omega), Int.add_zero]
  | succ j ih =>
    intro k m x h0 h1 h2 h3 h4
    obtain ⟨k, rfl⟩ : ∃ m, k = m + 1 := ⟨k - 1, by omega⟩
    have hd2 : 1 ≤ d ∧ d ≤ 8 := by unfold power2 at hd; omega
    simp only [spec_l14Count.l0]
    by_cases h : x < n
    · rw [if_pos h, w64 (x := m + 1) (by omega) (by omega), w64 (x := x + d) (by omega) (by omega), ih k (m + 1) (x + d) (by omega) (by omega) (by omega) (by omega) (by omega), cnt_step hd h]
      congr 1; omega
    · rw [if_neg h, cnt_done h, Int.add_zero]
theorem spec_l14Count_eq {n x d : Int} (hd : power2 d) (hn : n ≤ 24) (h0 : 0 ≤ x) (h1 : x ≤ 4) (k : Nat) (hk : 26 ≤ k) : spec_l14Count.f k n x d = some (cnt n x d) := by
  unfold spec_l14Count.f
  rw [spec_l14Count_l0 hd hn 25 k 0 x (by omega) h0 (by omega) (by omega) (by omega), Int.zero_add]
theorem spec_PassSize_eq (k : Nat) (hk : 27 ≤ k) (w h p : Int) : spec_PassSize.f k w h p = some (psize w h p) := by
  obtain ⟨k, rfl⟩ : ∃ m, k = m + 1 := ⟨k - 1, by omega⟩
  unfold spec_PassSize.f psize
  simp only [spec_l12Side_eq, spec_l01In_eq, Option.bind_some]
  change (if sideB w = true then (if sideB h = true then spec_PassSize.j0 (k + 1) w h p (!(passB p)) else spec_PassSize.j0 (k + 1) w h p true) else spec_PassSize.j0 (k + 1) w h p true) = _
  have yes : spec_PassSize.j0 (k + 1) w h p true = some (0, 0) := by simp [spec_PassSize.j0]
  rw [yes]
  by_cases hw : sideB w = true
  · by_cases hh : sideB h = true
    · by_cases hp : passB p = true
      · have b := pstep_bd hp
        have bw := (sideB_iff w).1 hw
        have bh := (sideB_iff h).1 hh
        simp only [hw, hh, hp, if_true, Bool.not_true, Bool.and_self, spec_PassSize.j0, spec_PassStep_eq, Option.bind_some]
        rw [if_neg (by decide), spec_l14Count_eq b.2.2.2.2.1 (by omega) b.1 b.2.1 k (by omega), spec_l14Count_eq b.2.2.2.2.2.1 (by omega) b.2.2.1 b.2.2.2.1 k (by omega)]
        simp only [Option.bind_some]
        by_cases h1 : cnt w (pstep p).1 (pstep p).2.2.1 = 0
        · simp [h1]
        · by_cases h2 : cnt h (pstep p).2.1 (pstep p).2.2.2 = 0
          · simp [h1, h2]
          · simp [h1, h2]
      · simp [hw, hh, hp, yes]
    · simp [hw, hh]
  · simp [hw]

theorem impl_within_eq (a b c : Int) : impl_within.f a b c = some (decide (b ≤ a) && decide (a ≤ c)) := by
  unfold impl_within.f
  by_cases h : b ≤ a <;> simp [h]

theorem impl_isSide_eq (n : Int) : impl_isSide.f n = some (sideB n) := by simp [impl_isSide.f, impl_within_eq, sideB]

theorem impl_PassStep_eq (p : Int) : impl_PassStep.f p = some (pstep p) := by unfold impl_PassStep.f pstep; repeat (first | rfl | split)
theorem cnt_quot {n x d : Int} (hd : power2 d) (h0 : 0 ≤ x) (h1 : x ≤ 4) (h2 : x ≤ d) (hn : 1 ≤ n) (hn' : n ≤ 24) : wrap64 (Int.tdiv (wrap64 (wrap64 (wrap64 (n - x) + d) - 1)) d) = (n - x + d - 1) / d ∧ (cnt n x d = 0 ↔ (n - x + d - 1) / d < 1) ∧ (cnt n x d ≠ 0 → cnt n x d = (n - x + d - 1) / d) := by
  have hd2 : 1 ≤ d ∧ d ≤ 8 := by unfold power2 at hd; omega
  rw [w64 (x := n - x) (by omega) (by omega), w64 (x := n - x + d) (by omega) (by omega), w64 (x := n - x + d - 1) (by omega) (by omega), Int.tdiv_eq_ediv_of_nonneg (by omega)]
  have q : 0 ≤ (n - x + d - 1) / d ∧ (n - x + d - 1) / d ≤ 40 := by rcases hd with rfl | rfl | rfl | rfl <;> omega
  refine ⟨w64 (by omega) (by omega), ?_, ?_⟩
  · unfold cnt
    rcases hd with rfl | rfl | rfl | rfl <;> split <;> omega
  · unfold cnt
    split
    · intro _; rfl
    · intro h; exact absurd rfl h
theorem impl_PassSize_eq (k : Nat) (hk : 1 ≤ k) (w h p : Int) : impl_PassSize.f k w h p = some (psize w h p) := by
  obtain ⟨k, rfl⟩ : ∃ m, k = m + 1 := ⟨k - 1, by omega⟩
  unfold impl_PassSize.f psize
  simp only [impl_isSide_eq, impl_within_eq, Option.bind_some]
  change (if sideB w = true then (if sideB h = true then impl_PassSize.j0 (k + 1) w h p (!(passB p)) else impl_PassSize.j0 (k + 1) w h p true) else impl_PassSize.j0 (k + 1) w h p true) = _
  have yes : impl_PassSize.j0 (k + 1) w h p true = some (0, 0) := by simp [impl_PassSize.j0]
  rw [yes]
  by_cases hw : sideB w = true
  · by_cases hh : sideB h = true
    · by_cases hp : passB p = true
      · have b := pstep_bd hp
        have bw := (sideB_iff w).1 hw
        have bh := (sideB_iff h).1 hh
        have q1 := cnt_quot (n := w) b.2.2.2.2.1 b.1 b.2.1 b.2.2.2.2.2.2.1 bw.1 bw.2
        have q2 := cnt_quot (n := h) b.2.2.2.2.2.1 b.2.2.1 b.2.2.2.1 b.2.2.2.2.2.2.2 bh.1 bh.2
        have n1 : (pstep p).2.2.1 ≠ 0 := by have := b.2.2.2.2.1; unfold power2 at this; omega
        have n2 : (pstep p).2.2.2 ≠ 0 := by have := b.2.2.2.2.2.1; unfold power2 at this; omega
        simp only [hw, hh, hp, if_true, Bool.not_true, Bool.and_self, impl_PassSize.j0, impl_PassStep_eq, Option.bind_some]
        rw [if_neg (by decide), if_neg n1, if_neg n2, q1.1, q2.1]
        by_cases h1 : cnt w (pstep p).1 (pstep p).2.2.1 = 0
        · rw [if_pos (q1.2.1.1 h1), if_pos (.inl h1)]
        · rw [if_neg (fun c => h1 (q1.2.1.2 c))]
          by_cases h2 : cnt h (pstep p).2.1 (pstep p).2.2.2 = 0
          · rw [if_pos (q2.2.1.1 h2), if_pos (.inr h2)]
          · rw [if_neg (fun c => h2 (q2.2.1.2 c)), if_neg (by omega), q1.2.2 h1, q2.2.2 h2]
      · simp [hw, hh, hp, yes]
    · simp [hw, hh]
  · simp [hw]

def smallD (d : Int) : Bool := d == 1 || d == 2 || d == 4
def bigD (d : Int) : Bool := d == 8 || d == 16
def dok (c d : Int) : Bool := if c = 0 then smallD d || bigD d else if c = 3 then smallD d || d == 8 else if c = 2 then bigD d else if c = 4 then bigD d else if c = 6 then bigD d else false
theorem some_or (a b : Bool) : (if a = true then some true else some b) = some (a || b) := by cases a <;> rfl
theorem spec_DepthOk_eq (k : Nat) (hk : 1 ≤ k) (c d : Int) : spec_DepthOk.f k c d = some (dok c d) := by
  obtain ⟨k, rfl⟩ : ∃ m, k = m + 1 := ⟨k - 1, by omega⟩
  have e : ∀ x : Bool, spec_DepthOk.j0 (k + 1) c d x = some (if c = 0 then x || bigD d else if c = 3 then x || d == 8 else if c = 2 then bigD d else if c = 4 then bigD d else if c = 6 then bigD d else false) := by
    intro x
    have h8 : (if d = 8 then some true else some (d == 16)) = some (bigD d) := by unfold bigD; by_cases h : d = 8 <;> simp [h]
    simp only [spec_DepthOk.j0, h8, some_or]
    repeat (first | rfl | split)
  simp only [spec_DepthOk.f, e, dok, smallD]
  by_cases h1 : d = 1
  · simp [h1]
  by_cases h2 : d = 2
  · simp [h2]
  · have e1 : (d == 1) = false := by simpa using h1
    have e2 : (d == 2) = false := by simpa using h2
    simp only [h1, h2, e1, e2, if_false, Bool.false_or]

def chan (c : Int) : Int := if c = 0 then 1 else if c = 3 then 1 else if c = 2 then 3 else if c = 4 then 2 else if c = 6 then 4 else 0

def p2 (n : Int) : Int := 2 ^ n.toNat
theorem p2_nat (n : Nat) : p2 n = ((2 ^ n : Nat) : Int) := by simp [p2]
theorem p2_succ (n : Int) (h : 0 ≤ n) : p2 (n + 1) = 2 * p2 n := by
  obtain ⟨m, rfl⟩ := Int.eq_ofNat_of_zero_le h
  have : ((m : Int) + 1) = ((m + 1 : Nat) : Int) := by omega
  rw [this, p2_nat, p2_nat, Nat.pow_succ]; push_cast; omega
theorem p2_zero : p2 0 = 1 := rfl
theorem p2_pos (n : Int) : 1 ≤ p2 n := by
  unfold p2
  have h := Nat.one_le_two_pow (n := n.toNat)
  exact_mod_cast h
theorem p2_le {m n : Int} (h : m ≤ n) : p2 m ≤ p2 n := by
  unfold p2
  have h := Nat.pow_le_pow_right (n := 2) (by decide) (show m.toNat ≤ n.toNat by omega)
  exact_mod_cast h
theorem p2_62 {n : Int} (h : n ≤ 62) : p2 n ≤ 4611686018427387904 := p2_le (n := 62) h
theorem p2_16 {n : Int} (h : n ≤ 16) : p2 n ≤ 65536 := p2_le (n := 16) h

theorem rd_at (xs : List Int) (i : Nat) (h : i < xs.length) : rd xs i = xs[i] := by simp [rd, List.getD, h]
def inB (m x : Int) : Bool := decide (0 ≤ x) && decide (x ≤ m)
theorem drop_all (p : Int → Bool) (xs : List Int) (i : Nat) (h : i < xs.length) : (xs.drop i).all p = (p xs[i] && (xs.drop (i + 1)).all p) := by
  rw [List.drop_eq_getElem_cons h]; rfl
theorem drop_all_end (p : Int → Bool) (xs : List Int) (i : Nat) (h : xs.length ≤ i) : (xs.drop i).all p = true := by
  rw [List.drop_eq_nil_of_le h]; rfl

def upB (n : Int) : Int := (n + 7) / 8
theorem upB_w (n : Int) (h : 0 ≤ n) (h' : n ≤ 9223372036854775800) : wrap64 (Int.tdiv (wrap64 (n + 7)) 8) = upB n := by
  unfold upB
  rw [w64 (x := n + 7) (by omega) (by omega), Int.tdiv_eq_ediv_of_nonneg (by omega), w64 (by omega) (by omega)]
theorem chan_bd (c : Int) : 0 ≤ chan c ∧ chan c ≤ 4 := by unfold chan; repeat (first | omega | split)
theorem dok_bd {c d : Int} (h : dok c d = true) : 1 ≤ d ∧ d ≤ 16 ∧ 1 ≤ chan c := by
  have hs : ∀ d : Int, smallD d = true → 1 ≤ d ∧ d ≤ 4 := by intro d h; simp [smallD] at h; omega
  have hb : ∀ d : Int, bigD d = true → 8 ≤ d ∧ d ≤ 16 := by intro d h; simp [bigD] at h; omega
  unfold dok at h
  unfold chan
  split at h
  · rename_i e; simp only [e, if_true, Bool.or_eq_true] at h ⊢
    rcases h with h | h
    · have := hs d h; omega
    · have := hb d h; omega
  · rename_i e0
    simp only [e0, if_false]
    split at h
    · rename_i e; simp only [e, if_true, Bool.or_eq_true, beq_iff_eq] at h ⊢
      rcases h with h | h
      · have := hs d h; omega
      · omega
    · rename_i e3
      simp only [e3, if_false]
      split at h
      · rename_i e; simp only [e, if_true]; have := hb d h; omega
      · rename_i e2
        simp only [e2, if_false]
        split at h
        · rename_i e; simp only [e, if_true]; have := hb d h; omega
        · rename_i e4
          simp only [e4, if_false]
          split at h
          · rename_i e; simp only [e, if_true]; have := hb d h; omega
          · cases h
theorem mul_bd {a b : Int} {m n : Int} (ha : 0 ≤ a) (ha' : a ≤ m) (hb : 0 ≤ b) (hb' : b ≤ n) : 0 ≤ a * b ∧ a * b ≤ m * n :=
  ⟨Int.mul_nonneg ha hb, Int.mul_le_mul ha' hb' hb (by omega)⟩
/-- How many bytes a row has. -/
def rowBytes (w c d : Int) : Int := if sideB w && dok c d then upB (w * chan c * d) else 0
theorem row_bd {w c d : Int} (h : sideB w = true) (h' : dok c d = true) : 0 ≤ w * chan c ∧ w * chan c ≤ 96 ∧ 0 ≤ w * chan c * d ∧ w * chan c * d ≤ 1536 := by
  rw [sideB_iff] at h
  have h2 := dok_bd h'
  have h3 := chan_bd c
  have h4 := mul_bd (a := w) (b := chan c) (m := 24) (n := 4) (by omega) (by omega) (by omega) (by omega)
  have h5 := mul_bd (a := w * chan c) (b := d) (m := 96) (n := 16) (by omega) (by omega) (by omega) (by omega)
  omega

def rasterOk (w h c d : Int) (xs : List Int) : Bool := sideB w && sideB h && dok c d && decide ((xs.length : Int) = w * h * chan c) && xs.all (inB (p2 d - 1))
theorem wh_bd {w h c : Int} (hw : sideB w = true) (hh : sideB h = true) : 0 ≤ w * h ∧ w * h ≤ 576 ∧ 0 ≤ w * h * chan c ∧ w * h * chan c ≤ 2304 := by
  rw [sideB_iff] at hw hh
  have h3 := chan_bd c
  have h4 := mul_bd (a := w) (b := h) (m := 24) (n := 24) (by omega) (by omega) (by omega) (by omega)
  have h5 := mul_bd (a := w * h) (b := chan c) (m := 576) (n := 4) (by omega) (by omega) (by omega) (by omega)
  omega

theorem spec_ChannelsOf_eq (k : Nat) (hk : 1 ≤ k) (c : Int) : spec_ChannelsOf.f k c = some (chan c) := by
  obtain ⟨k, rfl⟩ : ∃ m, k = m + 1 := ⟨k - 1, by omega⟩
  simp only [spec_ChannelsOf.f, spec_ChannelsOf.j0, chan]
  by_cases h0 : c = 0
  · simp [h0]
  · by_cases h3 : c = 3
    · simp [h3]
    · simp [h0, h3]; repeat (first | split | rfl)

theorem impl_ChannelsOf_eq (k : Nat) (hk : 1 ≤ k) (c : Int) : impl_ChannelsOf.f k c = some (chan c) := by
  obtain ⟨k, rfl⟩ : ∃ m, k = m + 1 := ⟨k - 1, by omega⟩
  simp only [impl_ChannelsOf.f, impl_ChannelsOf.j0, chan]
  by_cases h0 : c = 0
  · simp [h0]
  · by_cases h3 : c = 3
    · simp [h3]
    · by_cases h2 : c = 2
      · simp [h2]
      · by_cases h4 : c = 4
        · simp [h4]
        · simp [h0, h3, h2, h4]; repeat (first | split | rfl)

/-- The samples of one place: n of them from place a * n on. -/
def smp (xs : List Int) (n a : Int) : List Int := (xs.take (a * n + n).toNat).drop (a * n).toNat
def rowPl (b dx : Int) : Nat → List Int
  | 0 => []
  | n + 1 => b :: rowPl (b + dx) dx n
def gridPl (W dx dy x : Int) (w : Nat) : Nat → Int → List Int
  | 0, _ => []
  | n + 1, r => rowPl (r * W + x) dx w ++ gridPl W dx dy x w n (r + dy)
theorem rowPl_len (b dx : Int) (n : Nat) : (rowPl b dx n).length = n := by
  induction n generalizing b with
  | zero => rfl
  | succ n ih => simp [rowPl, ih]
theorem gridPl_len (W dx dy x : Int) (w n : Nat) (r : Int) : (gridPl W dx dy x w n r).length = w * n := by
  induction n generalizing r with
  | zero => simp [gridPl]
  | succ n ih => simp [gridPl, ih, rowPl_len, Nat.mul_succ]; omega
theorem gridPl_zero (W dx dy x : Int) (n : Nat) (r : Int) : gridPl W dx dy x 0 n r = [] := by
  induction n generalizing r with
  | zero => rfl
  | succ n ih => simp [gridPl, ih, rowPl]
theorem rowPl_bd {dx : Int} (hd : power2 dx) (W : Int) (hW : W ≤ 24) (n : Nat) : ∀ (c R : Int), 0 ≤ c → (n : Int) = cnt W c dx → ∀ a ∈ rowPl (R + c) dx n, R ≤ a ∧ a < R + W := by
  induction n with
  | zero => intro c R _ _ a ha; cases ha
  | succ n ih =>
    intro c R hc hn a ha
    have lt : c < W := by
      by_cases h : c < W
      · exact h
      · rw [cnt_done h] at hn; omega
    have st := cnt_step hd lt
    have hd0 : 0 ≤ dx := by rcases hd with rfl | rfl | rfl | rfl <;> omega
    rcases List.mem_cons.mp ha with rfl | ha
    · omega
    · rw [Int.add_assoc] at ha
      exact ih (c + dx) R (by omega) (by push_cast at hn; omega) a ha
theorem gridPl_bd {dx dy : Int} (hd : power2 dx) (he : power2 dy) (W H x : Int) (hx : 0 ≤ x) (hW0 : 0 ≤ W) (hW : W ≤ 24) (w : Nat) (hw : (w : Int) = cnt W x dx) (n : Nat) : ∀ (r : Int), 0 ≤ r → (n : Int) = cnt H r dy → ∀ a ∈ gridPl W dx dy x w n r, 0 ≤ a ∧ a < W * H := by
  induction n with
  | zero => intro r _ _ a ha; cases ha
  | succ n ih =>
    intro r hr hn a ha
    have lt : r < H := by
      by_cases h : r < H
      · exact h
      · rw [cnt_done h] at hn; omega
    have st := cnt_step he lt
    have hd0 : 0 ≤ dy := by rcases he with rfl | rfl | rfl | rfl <;> omega
    rcases List.mem_append.mp ha with ha | ha
    · have q := rowPl_bd hd W hW w x (r * W) hx hw a ha
      have p := Int.mul_le_mul_of_nonneg_right (show r + 1 ≤ H by omega) hW0
      have p2 := Int.mul_nonneg hr hW0
      rw [Int.add_mul, Int.mul_comm H W] at p
      omega
    · exact ih (r + dy) (by omega) (by push_cast at hn; omega) a ha
theorem smp_len (xs : List Int) (n a : Int) (hn : 0 ≤ n) (ha : 0 ≤ a) (h : a * n + n ≤ xs.length) : (smp xs n a).length = n.toNat := by
  have := Int.mul_nonneg ha hn
  simp only [smp, List.length_drop, List.length_take]; omega
theorem plc_bd {a WH n L : Int} (ha : 0 ≤ a ∧ a < WH) (hn : 0 ≤ n) (hL : L = WH * n) : 0 ≤ a * n ∧ a * n + n ≤ L := by
  have p := Int.mul_le_mul_of_nonneg_right (show a + 1 ≤ WH by omega) hn
  have p2 := Int.mul_nonneg ha.1 hn
  rw [Int.add_mul] at p
  omega
/-- The p-th pass of a raster. -/
def passL (w h c d : Int) (xs : List Int) (p : Int) : S29 :=
  ⟨(psize w h p).1, (psize w h p).2, c, d, (gridPl w (pstep p).2.2.1 (pstep p).2.2.2 (pstep p).1 (psize w h p).1.toNat (psize w h p).2.toNat (pstep p).2.1).flatMap (smp xs (chan c))⟩
def passesL (w h c d : Int) (xs : List Int) : List S29 := (List.range' 0 7).map fun p : Nat => passL w h c d xs p
theorem psize_eq {w h p : Int} (hw : sideB w = true) (hh : sideB h = true) (hp : passB p = true) :
    (psize w h p = (cnt w (pstep p).1 (pstep p).2.2.1, cnt h (pstep p).2.1 (pstep p).2.2.2)) ∨ (psize w h p = (0, 0) ∧ (cnt w (pstep p).1 (pstep p).2.2.1 = 0 ∨ cnt h (pstep p).2.1 (pstep p).2.2.2 = 0)) := by
  unfold psize
  rw [if_pos (by rw [hw, hh, hp]; rfl)]
  split
  · right; exact ⟨rfl, by assumption⟩
  · left; rfl
theorem psize_bd {w h p : Int} (hw : sideB w = true) (hh : sideB h = true) (hp : passB p = true) : 0 ≤ (psize w h p).1 ∧ (psize w h p).1 ≤ 24 ∧ 0 ≤ (psize w h p).2 ∧ (psize w h p).2 ≤ 24 := by
  have b := pstep_bd hp
  rw [sideB_iff] at hw hh
  have b1 := cnt_bd (n := w) b.2.2.2.2.1 b.1 hw.2
  have b2 := cnt_bd (n := h) b.2.2.2.2.2.1 b.2.2.1 hh.2
  rcases psize_eq ((sideB_iff w).mpr hw) ((sideB_iff h).mpr hh) hp with e | e
  · rw [e]; simp only; omega
  · rw [e.1]; simp only; omega
/-- The places of a pass, told by counts alone. -/
theorem grid_eq {w h p : Int} (hw : sideB w = true) (hh : sideB h = true) (hp : passB p = true) (W dx dy x r : Int) :
    gridPl W dx dy x (cnt w (pstep p).1 (pstep p).2.2.1).toNat (cnt h (pstep p).2.1 (pstep p).2.2.2).toNat r = gridPl W dx dy x (psize w h p).1.toNat (psize w h p).2.toNat r := by
  rcases psize_eq hw hh hp with e | ⟨e, z | z⟩
  · rw [e]
  · rw [e, z]; exact (gridPl_zero ..).trans rfl
  · rw [e, z]; rfl
theorem grid_bd {w h p : Int} (hw : sideB w = true) (hh : sideB h = true) (hp : passB p = true) :
    ∀ a ∈ gridPl w (pstep p).2.2.1 (pstep p).2.2.2 (pstep p).1 (psize w h p).1.toNat (psize w h p).2.toNat (pstep p).2.1, 0 ≤ a ∧ a < w * h := by
  have b := pstep_bd hp
  have hw' := (sideB_iff w).mp hw
  have hh' := (sideB_iff h).mp hh
  have b1 := cnt_bd (n := w) b.2.2.2.2.1 b.1 hw'.2
  have b2 := cnt_bd (n := h) b.2.2.2.2.2.1 b.2.2.1 hh'.2
  rw [← grid_eq hw hh hp]
  exact gridPl_bd b.2.2.2.2.1 b.2.2.2.2.2.1 w h _ b.1 (by omega) hw'.2 _ (by omega) _ _ b.2.2.1 (by omega)
theorem passB_nat {p : Nat} (h : p < 7) : passB (p : Int) = true := by rw [passB_iff]; omega

theorem str_append (xs ys : List Int) : strOfNums xs ++ strOfNums ys = strOfNums (xs ++ ys) := by
  apply ByteArray.ext
  apply Array.ext'
  rw [ByteArray.data_append, Array.toList_append, strOfNums_data, strOfNums_data, strOfNums_data, List.map_append]
theorem str_nil : (⟨#[]⟩ : ByteArray) = strOfNums [] := rfl
theorem str_size (xs : List Int) : (strOfNums xs).size = xs.length := strOfNums_size xs

def depthB (d : Int) : Bool := smallD d || bigD d
theorem depthB_nat {d : Int} (h : depthB d = true) : ∃ D : Nat, d = D ∧ (D = 1 ∨ D = 2 ∨ D = 4 ∨ D = 8 ∨ D = 16) := by
  simp [depthB, smallD, bigD] at h
  rcases h with h | h
  · rcases h with (h | h) | h <;> subst h
    · exact ⟨1, rfl, by omega⟩
    · exact ⟨2, rfl, by omega⟩
    · exact ⟨4, rfl, by omega⟩
  · rcases h with h | h <;> subst h
    · exact ⟨8, rfl, by omega⟩
    · exact ⟨16, rfl, by omega⟩
/-- Bit t of the samples, the highest of each first. -/
def bitF (xs : List Int) (D t : Nat) : Int := if t < xs.length * D then xs.getD (t / D) 0 / 2 ^ (D - 1 - t % D) % 2 else 0
theorem bitF_bd (xs : List Int) (D t : Nat) : 0 ≤ bitF xs D t ∧ bitF xs D t ≤ 1 := by unfold bitF; split <;> omega
theorem bitF_at (xs : List Int) (D i k : Nat) (hi : i < xs.length) (hk : k < D) : bitF xs D (i * D + k) = xs[i] / 2 ^ (D - 1 - k) % 2 := by
  have h1 : (i * D + k) / D = i := by
    rw [Nat.mul_comm, Nat.mul_add_div (by omega), Nat.div_eq_of_lt hk, Nat.add_zero]
  have h2 : (i * D + k) % D = k := by
    rw [Nat.mul_comm, Nat.mul_add_mod, Nat.mod_eq_of_lt hk]
  have h3 : i * D + k < xs.length * D := by
    have : (i + 1) * D ≤ xs.length * D := Nat.mul_le_mul_right _ hi
    rw [Nat.succ_mul] at this; omega
  unfold bitF
  rw [if_pos h3, h1, h2]
  simp [List.getD, hi]
theorem bitF_past (xs : List Int) (D t : Nat) (h : xs.length * D ≤ t) : bitF xs D t = 0 := by
  unfold bitF; rw [if_neg (by omega)]
/-- Eight bits as a byte. -/
def byteV (f : Nat → Int) (j : Nat) : Int := f (8 * j) * 128 + f (8 * j + 1) * 64 + f (8 * j + 2) * 32 + f (8 * j + 3) * 16 + f (8 * j + 4) * 8 + f (8 * j + 5) * 4 + f (8 * j + 6) * 2 + f (8 * j + 7)
def isBits (f : Nat → Int) : Prop := ∀ t, 0 ≤ f t ∧ f t ≤ 1
theorem byteV_bd {f : Nat → Int} (h : isBits f) (j : Nat) : 0 ≤ byteV f j ∧ byteV f j ≤ 255 := by
  have := h (8 * j); have := h (8 * j + 1); have := h (8 * j + 2); have := h (8 * j + 3); have := h (8 * j + 4); have := h (8 * j + 5); have := h (8 * j + 6); have := h (8 * j + 7)
  unfold byteV; omega
def bytesV (f : Nat → Int) (N : Nat) : List Int := (List.range N).map (byteV f)
theorem bytesV_len (f : Nat → Int) (N : Nat) : (bytesV f N).length = N := by simp [bytesV]
theorem bytesV_get (f : Nat → Int) (N j : Nat) (h : j < N) : rd (bytesV f N) j = byteV f j := by
  rw [rd_at _ _ (by rw [bytesV_len]; exact h)]; simp [bytesV]
theorem bytesV_succ (f : Nat → Int) (N : Nat) : bytesV f (N + 1) = bytesV f N ++ [byteV f N] := by simp [bytesV, List.range_succ]
/-- How many bytes so many bits need. -/
def upN (n : Nat) : Nat := (n + 7) / 8
def packRow (xs : List Int) (d : Int) : ByteArray × Bool :=
  if depthB d && decide (xs.length ≤ 96) && xs.all (inB (p2 d - 1)) then (strOfNums (bytesV (bitF xs d.toNat) (upN (xs.length * d.toNat))), true) else (⟨#[]⟩, false)

def absD (x : Int) : Int := if x < 0 then -x else x
def inR (x : Int) : Bool := decide (-1000 ≤ x) && decide (x ≤ 1000)
/-- Paeth of numbers that are not too great. -/
def paeth (a b c : Int) : Int := if absD (b + a - c - a) ≤ absD (a + b - c - b) ∧ absD (b + a - c - a) ≤ absD (a + b - c - c) then a else if absD (a + b - c - b) ≤ absD (a + b - c - c) then b else c
def paethAll (a b c : Int) : Int := if inR a && inR b && inR c then paeth a b c else 0
theorem inR_iff (x : Int) : inR x = true ↔ -1000 ≤ x ∧ x ≤ 1000 := by simp [inR]

def filterB (d : Int) (s t : ByteArray) (u : Int) : Bool := decide (0 ≤ d) && decide (d ≤ 4) && decide (1 ≤ u) && decide (u ≤ 8) && decide (s.size = t.size) && decide (s.size ≤ 200)
theorem filterB_iff (d : Int) (s t : ByteArray) (u : Int) : filterB d s t u = true ↔ ((((0 ≤ d ∧ d ≤ 4) ∧ 1 ≤ u) ∧ u ≤ 8) ∧ s.size = t.size) ∧ s.size ≤ 200 := by simp [filterB, and_assoc]
def guess (d a b c : Int) : Int := if d = 1 then a else if d = 2 then b else if d = 3 then (a + b) / 2 else if d = 4 then paethAll a b c else 0
/-- What is foretold at place i. -/
def says (d : Int) (xs : List Int) (t : ByteArray) (u i : Nat) : Int := guess d (if u ≤ i then rd xs ((i - u : Nat) : Int) else 0) (bt t i) (if u ≤ i then bt t ((i - u : Nat) : Int) else 0)
theorem paethAll_bd {a b c : Int} (ha : 0 ≤ a ∧ a ≤ 255) (hb : 0 ≤ b ∧ b ≤ 255) (hc : 0 ≤ c ∧ c ≤ 255) : 0 ≤ paethAll a b c ∧ paethAll a b c ≤ 255 := by
  unfold paethAll paeth
  split
  · split
    · exact ha
    · split
      · exact hb
      · exact hc
  · omega
theorem guess_bd {d a b c : Int} (ha : 0 ≤ a ∧ a ≤ 255) (hb : 0 ≤ b ∧ b ≤ 255) (hc : 0 ≤ c ∧ c ≤ 255) : 0 ≤ guess d a b c ∧ guess d a b c ≤ 255 := by
  have := paethAll_bd ha hb hc
  unfold guess
  split
  · exact ha
  · split
    · exact hb
    · split
      · omega
      · split
        · exact this
        · omega
def Bytes (xs : List Int) : Prop := ∀ x ∈ xs, 0 ≤ x ∧ x ≤ 255
theorem rd_bd {xs : List Int} (h : Bytes xs) (i : Int) : 0 ≤ rd xs i ∧ rd xs i ≤ 255 := by
  unfold rd
  rw [List.getD_eq_getElem?_getD]
  cases e : xs[i.toNat]? with
  | none => simp
  | some x => simpa using h x (List.mem_of_getElem? e)
theorem bytesOf_Bytes (s : ByteArray) : Bytes (bytesOf s) := by
  intro x hx
  unfold bytesOf at hx
  obtain ⟨b, _, rfl⟩ := List.mem_map.mp hx
  have := b.toNat_lt
  omega
theorem says_bd {d : Int} {xs : List Int} (h : Bytes xs) (t : ByteArray) (u i : Nat) : 0 ≤ says d xs t u i ∧ says d xs t u i ≤ 255 := by
  unfold says
  refine guess_bd ?_ (bt_range t i) ?_
  · split
    · exact rd_bd h _
    · omega
  · split
    · exact bt_range _ _
    · omega
def filtL (d : Int) (s t : ByteArray) (u n : Nat) : List Int := (List.range n).map fun (j : Nat) => (bt s j - says d (bytesOf s) t u j) % 256
theorem filtL_len (d : Int) (s t : ByteArray) (u n : Nat) : (filtL d s t u n).length = n := by simp [filtL]
theorem filtL_succ (d : Int) (s t : ByteArray) (u n : Nat) : filtL d s t u (n + 1) = filtL d s t u n ++ [(bt s n - says d (bytesOf s) t u n) % 256] := by simp [filtL, List.range_succ]
def filterRow (d : Int) (s t : ByteArray) (u : Int) : ByteArray × Bool := if filterB d s t u then (strOfNums (filtL d s t u.toNat s.size), true) else (⟨#[]⟩, false)
theorem bytesOf_len (s : ByteArray) : (bytesOf s).length = s.size := by
  unfold bytesOf; rw [List.length_map, Array.length_toList]; rfl

theorem spec_l13Size_eq (a : Int) (h : -10000 ≤ a) (h' : a ≤ 10000) : spec_l13Size.f a = some (absD a) := by
  unfold spec_l13Size.f absD
  rw [w64 (by omega) (by omega)]
  split <;> rfl
theorem spec_Paeth_eq (k : Nat) (hk : 2 ≤ k) (a b c : Int) : spec_Paeth.f k a b c = some (paethAll a b c) := by
  obtain ⟨k, rfl⟩ : ∃ m, k = m + 2 := ⟨k - 2, by omega⟩
  unfold spec_Paeth.f paethAll
  simp only [spec_l01In_eq, Option.bind_some]
  change (if inR a = true then (if inR b = true then spec_Paeth.j0 (k + 2) a b c (!(inR c)) else spec_Paeth.j0 (k + 2) a b c true) else spec_Paeth.j0 (k + 2) a b c true) = _
  have yes : spec_Paeth.j0 (k + 2) a b c true = some 0 := by simp [spec_Paeth.j0]
  rw [yes]
  by_cases ha : inR a = true
  · by_cases hb : inR b = true
    · by_cases hc : inR c = true
      · simp only [ha, hb, hc, if_true, Bool.not_true, Bool.and_self]
        rw [inR_iff] at ha hb hc
        simp only [spec_Paeth.j0, spec_Paeth.j1]
        rw [w64 (x := a + b) (by omega) (by omega), w64 (x := a + b - c) (by omega) (by omega), w64 (x := a + b - c - a) (by omega) (by omega), w64 (x := a + b - c - b) (by omega) (by omega), w64 (x := a + b - c - c) (by omega) (by omega)]
        rw [spec_l13Size_eq _ (by omega) (by omega), spec_l13Size_eq _ (by omega) (by omega), spec_l13Size_eq _ (by omega) (by omega)]
        simp only [Option.bind_some, paeth, show b + a - c - a = a + b - c - a by omega]
        by_cases h1 : absD (a + b - c - a) ≤ absD (a + b - c - b)
        · by_cases h2 : absD (a + b - c - a) ≤ absD (a + b - c - c)
          · simp [h1, h2]
          · simp [h1, h2]; split <;> rfl
        · simp [h1]; split <;> rfl
      · simp [ha, hb, hc, yes]
    · simp [ha, hb]
  · simp [ha]

theorem spec_l13Ok_eq (d : Int) (s t : ByteArray) (u : Int) : spec_l13Ok.f d s t u = some (filterB d s t u) := by
  unfold spec_l13Ok.f
  rw [spec_l01In_eq]
  simp only [Option.bind_some]
  split
  · rename_i h1
    rw [spec_l01In_eq]
    simp only [Option.bind_some]
    split
    · rename_i h2
      split
      · rename_i h3
        congr 1
        rw [Bool.eq_iff_iff, filterB_iff]
        simp at h1 h2 ⊢; omega
      · rename_i h3
        congr 1
        symm
        rw [Bool.eq_false_iff, ne_eq, filterB_iff]
        omega
    · rename_i h2
      congr 1
      symm
      rw [Bool.eq_false_iff, ne_eq, filterB_iff]
      simp at h2; omega
  · rename_i h1
    congr 1
    symm
    rw [Bool.eq_false_iff, ne_eq, filterB_iff]
    simp at h1; omega
theorem spec_l13Says_j0_eq {d a b c : Int} (ha : 0 ≤ a ∧ a ≤ 255) (hb : 0 ≤ b ∧ b ≤ 255) (k : Nat) (hk : 3 ≤ k) : spec_l13Says.j0 k d a c b = some (guess d a b c) := by
  obtain ⟨k, rfl⟩ : ∃ m, k = m + 1 := ⟨k - 1, by omega⟩
  simp only [spec_l13Says.j0]
  unfold guess
  split
  · rfl
  · split
    · rfl
    · split
      · rw [w64 (x := a + b) (by omega) (by omega), Int.tdiv_eq_ediv_of_nonneg (by omega), w64 (by omega) (by omega)]
      · split
        · rw [spec_Paeth_eq k (by omega)]; rfl
        · rfl
theorem spec_l13Says_eq (d : Int) (xs : List Int) (hx : Bytes xs) (t : ByteArray) (ht : t.size ≤ 1000000) (u i : Nat) (hu : 1 ≤ u ∧ u ≤ 8) (hi : i < t.size) (hl : u ≤ i → i - u < xs.length) (k : Nat) (hk : 3 ≤ k) : spec_l13Says.f k d xs t u i = some (says d xs t u i) := by
  unfold spec_l13Says.f says
  have bb := bt_range t i
  rw [if_pos (by omega), if_pos (by omega), w64 (x := bt t i) (by omega) (by omega)]
  by_cases h : u ≤ i
  · have e : ((i : Int) - (u : Int)) = ((i - u : Nat) : Int) := by omega
    have hl' := hl h
    have ba := rd_bd hx ((i - u : Nat) : Int)
    have bc := bt_range t ((i - u : Nat) : Int)
    rw [if_pos (show (i : Int) ≥ u by omega), w64 (x := (i : Int) - u) (by omega) (by omega), e, if_pos (by omega), if_pos (by omega), if_pos (by omega), w64 (x := rd xs ((i - u : Nat) : Int)) (by omega) (by omega), w64 (x := bt t ((i - u : Nat) : Int)) (by omega) (by omega), if_pos h, if_pos h]
    exact spec_l13Says_j0_eq ba bb k hk
  · rw [if_neg (show ¬ (i : Int) ≥ u by omega), if_neg h, if_neg h]
    exact spec_l13Says_j0_eq (by omega) bb k hk

theorem spec_FilterRow_l0 (d : Int) (s t : ByteArray) (u : Nat) (hu : 1 ≤ u ∧ u ≤ 8) (hs : s.size = t.size) (hs2 : s.size ≤ 200) (n : Nat) : ∀ (k i : Nat), i ≤ s.size → s.size - i = n → n + 5 < k → spec_FilterRow.l0 k d s t u (filtL d s t u i) i = some (strOfNums (filtL d s t u s.size), true) := by
  induction n with
  | zero =>
    intro k i hi hn hk
    obtain ⟨k, rfl⟩ : ∃ m, k = m + 1 := ⟨k - 1, by omega⟩
    obtain rfl : i = s.size := by omega
    simp only [spec_FilterRow.l0]
    rw [if_neg (by omega)]
  | succ n ih =>
    intro k i hi hn hk
    obtain ⟨k, rfl⟩ : ∃ m, k = m + 1 := ⟨k - 1, by omega⟩
    have lt : i < s.size := by omega
    have b := bt_range s i
    have y := says_bd (d := d) (bytesOf_Bytes s) t u i
    have hl := bytesOf_len s
    have st := ih k (i + 1) (by omega) (by omega) (by omega)
    push_cast at st
    simp only [spec_FilterRow.l0]
    rw [if_pos (by omega), if_pos (by omega), if_pos (by omega), spec_l13Says_eq d _ (bytesOf_Bytes s) t (by omega) u i hu (by omega) (by omega) k (by omega)]
    simp only [Option.bind_some]
    rw [if_pos (by rw [filtL_len]; omega), w64 (x := bt s i) (by omega) (by omega), w64 (x := bt s i + 256) (by omega) (by omega), w64 (x := bt s i + 256 - says d (bytesOf s) t u i) (by omega) (by omega), w64 (x := (i : Int) + 1) (by omega) (by omega), show (bt s i + 256 - says d (bytesOf s) t u i) % 256 = (bt s i - says d (bytesOf s) t u i) % 256 by omega, ← filtL_succ]
    exact st
theorem spec_FilterRow_eq (d : Int) (s t : ByteArray) (u : Int) (k : Nat) (hk : 300 ≤ k) : spec_FilterRow.f k d s t u = some (filterRow d s t u) := by
  unfold spec_FilterRow.f filterRow
  rw [spec_l13Ok_eq]
  simp only [Option.bind_some]
  by_cases h : filterB d s t u = true
  · rw [if_pos h, if_pos h]
    have q := (filterB_iff d s t u).mp h
    obtain ⟨n, rfl⟩ := Int.eq_ofNat_of_zero_le (show 0 ≤ u by omega)
    have := spec_FilterRow_l0 d s t n (by omega) (by omega) (by omega) s.size k 0 (by omega) (by omega) (by omega)
    rw [Int.toNat_natCast]
    exact this
  · rw [if_neg h, if_neg h]

theorem impl_distance_eq (a b : Int) (ha : -10000 ≤ a) (ha' : a ≤ 10000) (hb : -10000 ≤ b) (hb' : b ≤ 10000) : impl_distance.f a b = some (absD (b - a)) := by
  unfold impl_distance.f absD
  rw [w64 (x := a - b) (by omega) (by omega), w64 (x := b - a) (by omega) (by omega)]
  unfold mx
  split <;> split <;> congr 1 <;> omega
theorem impl_Paeth_l1 (k : Nat) (p x b c : Int) (hp : -10000 ≤ p) (hp' : p ≤ 10000) (hx : -10000 ≤ x) (hx' : x ≤ 10000) (hb : -10000 ≤ b) (hb' : b ≤ 10000) (hc : -10000 ≤ c) (hc' : c ≤ 10000) :
    impl_Paeth.l1 (k + 3) p x [b, c] 2 0 = some (if absD (p - c) < absD (p - (if absD (p - b) < absD (p - x) then b else x)) then c else if absD (p - b) < absD (p - x) then b else x) := by
  have r : ∀ (k : Nat) (y : Int) (i : Int) (z : Int), -10000 ≤ y → y ≤ 10000 → (i = 0 ∧ z = b ∨ i = 1 ∧ z = c) → impl_Paeth.l1 (k + 1) p y [b, c] 2 i = impl_Paeth.l1 k p (if absD (p - z) < absD (p - y) then z else y) [b, c] 2 (i + 1) := by
    intro k y i z hy hy' h
    have hi : 0 ≤ i ∧ i < 2 := by omega
    have hz : rd [b, c] i = z := by rcases h with ⟨rfl, rfl⟩ | ⟨rfl, rfl⟩ <;> rfl
    have hzb : -10000 ≤ z ∧ z ≤ 10000 := by rcases h with ⟨_, rfl⟩ | ⟨_, rfl⟩ <;> omega
    simp only [impl_Paeth.l1]
    rw [if_pos hi.2, if_pos hi.1, if_pos (by simpa using hi.2), hz, impl_distance_eq z p (by omega) (by omega) hp hp', impl_distance_eq y p hy hy' hp hp', w64 (by omega) (by omega)]
    simp only [Option.bind_some]
    split <;> rfl
  rw [r (k + 2) x 0 b hx hx' (.inl ⟨rfl, rfl⟩), r (k + 1) _ (0 + 1) c (by split <;> omega) (by split <;> omega) (.inr ⟨rfl, rfl⟩)]
  simp only [impl_Paeth.l1]
  rw [if_neg (by decide)]
theorem impl_Paeth_eq (k : Nat) (hk : 8 ≤ k) (a b c : Int) : impl_Paeth.f k a b c = some (paethAll a b c) := by
  obtain ⟨k, rfl⟩ : ∃ m, k = m + 8 := ⟨k - 8, by omega⟩
  unfold impl_Paeth.f paethAll
  simp only [Option.bind_some]
  have r : ∀ (k : Nat) (i z : Int), (i = 0 ∧ z = a ∨ i = 1 ∧ z = b ∨ i = 2 ∧ z = c) → impl_Paeth.l0 (k + 1) a b c [a, b, c] 3 i = if inR z = true then impl_Paeth.l0 k a b c [a, b, c] 3 (i + 1) else some 0 := by
    intro k i z h
    have hi : 0 ≤ i ∧ i < 3 := by omega
    have hz : rd [a, b, c] i = z := by rcases h with ⟨rfl, rfl⟩ | ⟨rfl, rfl⟩ | ⟨rfl, rfl⟩ <;> rfl
    simp only [impl_Paeth.l0]
    rw [if_pos hi.2, if_pos hi.1, if_pos (by simpa using hi.2), hz, impl_within_eq, w64 (by omega) (by omega)]
    rfl
  change impl_Paeth.l0 (k + 8) a b c [a, b, c] 3 0 = _
  rw [r (k + 7) 0 a (.inl ⟨rfl, rfl⟩), r (k + 6) (0 + 1) b (.inr (.inl ⟨rfl, rfl⟩)), r (k + 5) (0 + 1 + 1) c (.inr (.inr ⟨rfl, rfl⟩))]
  by_cases ha : inR a = true
  · by_cases hb : inR b = true
    · by_cases hc : inR c = true
      · simp only [ha, hb, hc, if_true, Bool.and_self]
        rw [inR_iff] at ha hb hc
        simp only [impl_Paeth.l0]
        rw [if_neg (by decide)]
        simp only [Option.bind_some]
        rw [w64 (x := a + b) (by omega) (by omega), w64 (x := a + b - c) (by omega) (by omega)]
        have := impl_Paeth_l1 (k + 1) (a + b - c) a b c (by omega) (by omega) (by omega) (by omega) (by omega) (by omega) (by omega) (by omega)
        change impl_Paeth.l1 (k + 4) (a + b - c) a [b, c] 2 0 = _
        rw [this]
        unfold paeth
        rw [show b + a - c - a = a + b - c - a by omega]
        congr 1
        by_cases h1 : absD (a + b - c - b) < absD (a + b - c - a)
        · rw [if_pos h1, if_neg (show ¬ (absD (a + b - c - a) ≤ absD (a + b - c - b) ∧ absD (a + b - c - a) ≤ absD (a + b - c - c)) by omega)]
          by_cases h2 : absD (a + b - c - c) < absD (a + b - c - b)
          · rw [if_pos h2, if_neg (by omega)]
          · rw [if_neg h2, if_pos (by omega)]
        · rw [if_neg h1]
          by_cases h2 : absD (a + b - c - c) < absD (a + b - c - a)
          · rw [if_pos h2, if_neg (by omega), if_neg (by omega)]
          · rw [if_neg h2, if_pos (by omega)]
      · simp [ha, hb, hc]
    · simp [ha, hb]
  · simp [ha]

theorem impl_filterOk_eq (d : Int) (s t : ByteArray) (u : Int) : impl_filterOk.f d s t u = some (filterB d s t u) := by
  unfold impl_filterOk.f
  rw [impl_within_eq]
  simp only [Option.bind_some]
  split
  · rename_i h1
    rw [impl_within_eq]
    simp only [Option.bind_some]
    split
    · rename_i h2
      split
      · rename_i h3
        congr 1
        rw [Bool.eq_iff_iff, filterB_iff]
        simp at h1 h2 ⊢; omega
      · rename_i h3
        congr 1
        symm
        rw [Bool.eq_false_iff, ne_eq, filterB_iff]
        omega
    · rename_i h2
      congr 1
      symm
      rw [Bool.eq_false_iff, ne_eq, filterB_iff]
      simp at h2; omega
  · rename_i h1
    congr 1
    symm
    rw [Bool.eq_false_iff, ne_eq, filterB_iff]
    simp at h1; omega
theorem impl_byteAt_eq (xs : List Int) (hx : Bytes xs) (i : Int) (h : i < xs.length) : impl_byteAt.f xs i = some (if i < 0 then 0 else rd xs i) := by
  unfold impl_byteAt.f
  have b := rd_bd hx i
  by_cases h0 : i < 0
  · rw [if_pos h0, if_pos h0]
  · rw [if_neg h0, if_neg h0, if_pos (by omega), if_pos h, w64 (by omega) (by omega)]
theorem impl_foretold_eq (d : Int) (xs : List Int) (hx : Bytes xs) (t : ByteArray) (ht : t.size ≤ 1000000) (u i : Nat) (hu : 1 ≤ u ∧ u ≤ 8) (hi : i < t.size) (hl : i < xs.length) (k : Nat) (hk : 9 ≤ k) : impl_foretold.f k d xs (bytesOf t) i u = some (says d xs t u i) := by
  unfold impl_foretold.f says
  have bb := bt_range t i
  have tl := bytesOf_len t
  rw [w64 (x := (i : Int) - u) (by omega) (by omega), impl_byteAt_eq xs hx _ (by omega)]
  simp only [Option.bind_some]
  rw [impl_byteAt_eq (bytesOf t) (bytesOf_Bytes t) (i : Int) (by omega), if_neg (show ¬ (i : Int) < 0 by omega), rd_bytesOf]
  simp only [Option.bind_some]
  rw [impl_byteAt_eq (bytesOf t) (bytesOf_Bytes t) ((i : Int) - u) (by omega)]
  simp only [Option.bind_some]
  have ea : (if (i : Int) - u < 0 then 0 else rd xs ((i : Int) - u)) = (if u ≤ i then rd xs ((i - u : Nat) : Int) else 0) := by
    by_cases h : u ≤ i
    · rw [if_neg (by omega), if_pos h, show (i : Int) - u = ((i - u : Nat) : Int) by omega]
    · rw [if_pos (by omega), if_neg h]
  have ec : (if (i : Int) - u < 0 then 0 else rd (bytesOf t) ((i : Int) - u)) = (if u ≤ i then bt t ((i - u : Nat) : Int) else 0) := by
    by_cases h : u ≤ i
    · rw [if_neg (by omega), if_pos h, show (i : Int) - u = ((i - u : Nat) : Int) by omega, rd_bytesOf]
    · rw [if_pos (by omega), if_neg h]
  have ba : 0 ≤ (if u ≤ i then rd xs ((i - u : Nat) : Int) else 0) ∧ (if u ≤ i then rd xs ((i - u : Nat) : Int) else 0) ≤ 255 := by
    split
    · exact rd_bd hx _
    · omega
  rw [ea, ec]
  generalize (if u ≤ i then rd xs ((i - u : Nat) : Int) else 0) = a at ba ⊢
  generalize (if u ≤ i then bt t ((i - u : Nat) : Int) else 0) = c
  unfold guess
  split
  · rfl
  · split
    · rfl
    · split
      · rw [w64 (x := a + bt t i) (by omega) (by omega), Int.tdiv_eq_ediv_of_nonneg (by omega), w64 (by omega) (by omega)]
      · split
        · rw [impl_Paeth_eq k (by omega)]; rfl
        · rfl

theorem impl_FilterRow_l0 (d : Int) (s t : ByteArray) (u : Nat) (hu : 1 ≤ u ∧ u ≤ 8) (hs : s.size = t.size) (hs2 : s.size ≤ 200) (n : Nat) : ∀ (k i : Nat), i ≤ s.size → s.size - i = n → n + 15 < k → impl_FilterRow.l0 k d u (bytesOf s) (bytesOf t) (filtL d s t u i) s.size i = some (strOfNums (filtL d s t u s.size), true) := by
  have hl := bytesOf_len s
  induction n with
  | zero =>
    intro k i hi hn hk
    obtain ⟨k, rfl⟩ : ∃ m, k = m + 1 := ⟨k - 1, by omega⟩
    obtain rfl : i = s.size := by omega
    simp only [impl_FilterRow.l0]
    rw [if_neg (by omega)]
  | succ n ih =>
    intro k i hi hn hk
    obtain ⟨k, rfl⟩ : ∃ m, k = m + 1 := ⟨k - 1, by omega⟩
    have lt : i < s.size := by omega
    have b := bt_range s i
    have y := says_bd (d := d) (bytesOf_Bytes s) t u i
    have st := ih k (i + 1) (by omega) (by omega) (by omega)
    push_cast at st
    simp only [impl_FilterRow.l0]
    rw [if_pos (by omega), if_pos (by omega), if_pos (by omega), impl_foretold_eq d _ (bytesOf_Bytes s) t (by omega) u i hu (by omega) (by omega) k (by omega)]
    simp only [Option.bind_some]
    rw [if_pos (by rw [filtL_len]; omega), rd_bytesOf, w64 (x := (i : Int) + 1) (by omega) (by omega), show (bt s i - says d (bytesOf s) t u i % 256) % 256 = (bt s i - says d (bytesOf s) t u i) % 256 by omega, ← filtL_succ]
    exact st
theorem impl_FilterRow_eq (d : Int) (s t : ByteArray) (u : Int) (k : Nat) (hk : 300 ≤ k) : impl_FilterRow.f k d s t u = some (filterRow d s t u) := by
  unfold impl_FilterRow.f filterRow
  rw [impl_filterOk_eq]
  simp only [Option.bind_some]
  by_cases h : filterB d s t u = true
  · rw [if_pos h, if_pos h]
    have q := (filterB_iff d s t u).mp h
    obtain ⟨n, rfl⟩ := Int.eq_ofNat_of_zero_le (show 0 ≤ u by omega)
    have := impl_FilterRow_l0 d s t n (by omega) (by omega) (by omega) s.size k 0 (by omega) (by omega) (by omega)
    rw [if_pos (by omega), if_pos (by omega), Int.toNat_natCast, bytesOf_len]
    exact this
  · rw [if_neg h, if_neg h]

def lightOf (c : Int) : Int := if c > 127 then 256 - c else c
theorem mn_light (c : Int) (h : 0 ≤ c) (h' : c ≤ 255) : mn c (256 - c) = lightOf c := by unfold mn lightOf; split <;> split <;> omega
/-- What the first n bytes weigh. -/
def weigh (s : ByteArray) : Nat → Int
  | 0 => 0
  | n + 1 => weigh s n + lightOf (bt s n)
theorem weigh_bd (s : ByteArray) (n : Nat) : 0 ≤ weigh s n ∧ weigh s n ≤ 128 * n := by
  induction n with
  | zero => simp [weigh]
  | succ n ih => have := bt_range s n; simp only [weigh, lightOf]; split <;> omega

theorem spec_RowWeight_l0 (s : ByteArray) (hs : s.size ≤ 200) (d : Nat) : ∀ (k n : Nat), n ≤ s.size → s.size - n = d → d < k → spec_RowWeight.l0 k s (weigh s n) n = some (weigh s s.size) := by
  induction d with
  | zero =>
    intro k n hn hd hk
    obtain ⟨k, rfl⟩ : ∃ m, k = m + 1 := ⟨k - 1, by omega⟩
    obtain rfl : n = s.size := by omega
    simp only [spec_RowWeight.l0]
    rw [if_neg (by omega)]
  | succ d ih =>
    intro k n hn hd hk
    obtain ⟨k, rfl⟩ : ∃ m, k = m + 1 := ⟨k - 1, by omega⟩
    have hb := bt_range s n
    have hw := weigh_bd s n
    have step := ih k (n + 1) (by omega) (by omega) (by omega)
    simp only [weigh, lightOf] at step
    simp only [spec_RowWeight.l0]
    rw [if_pos (by omega), if_pos (by omega), wbt, w64 (x := 256 - bt s n) (by omega) (by omega), w64 (x := weigh s n + (256 - bt s n)) (by omega) (by omega), w64 (x := weigh s n + bt s n) (by omega) (by omega), w64 (x := (n : Int) + 1) (by omega) (by omega)]
    split
    · rename_i h; rw [if_pos h] at step; exact step
    · rename_i h; rw [if_neg h] at step; exact step
theorem spec_RowWeight_eq (s : ByteArray) (k : Nat) (hk : 201 ≤ k) : spec_RowWeight.f k s = some (if s.size ≤ 200 then weigh s s.size else -1) := by
  unfold spec_RowWeight.f
  by_cases h : s.size ≤ 200
  · rw [if_neg (by omega), if_pos h]
    exact spec_RowWeight_l0 s h s.size k 0 (by omega) (by omega) (by omega)
  · rw [if_pos (by omega), if_neg h]

theorem impl_RowWeight_l0 (s : ByteArray) (hs : s.size ≤ 200) (d : Nat) : ∀ (k n : Nat), n ≤ s.size → s.size - n = d → d < k → impl_RowWeight.l0 k s (weigh s n) s.size n = some (weigh s s.size) := by
  induction d with
  | zero =>
    intro k n hn hd hk
    obtain ⟨k, rfl⟩ : ∃ m, k = m + 1 := ⟨k - 1, by omega⟩
    obtain rfl : n = s.size := by omega
    simp only [impl_RowWeight.l0]
    rw [if_neg (by omega)]
  | succ d ih =>
    intro k n hn hd hk
    obtain ⟨k, rfl⟩ : ∃ m, k = m + 1 := ⟨k - 1, by omega⟩
    have hb := bt_range s n
    have hw := weigh_bd s (n + 1)
    have step := ih k (n + 1) (by omega) (by omega) (by omega)
    have hl := mn_light (bt s n) hb.1 hb.2
    simp only [weigh] at step hw
    simp only [impl_RowWeight.l0]
    rw [if_pos (by omega), if_pos (by omega), if_pos (by omega), wbt, w64 (x := 256 - bt s n) (by omega) (by omega), hl, w64 (x := weigh s n + lightOf (bt s n)) (by omega) (by omega), w64 (x := (n : Int) + 1) (by omega) (by omega)]
    exact step
theorem impl_RowWeight_eq (s : ByteArray) (k : Nat) (hk : 201 ≤ k) : impl_RowWeight.f k s = some (if s.size ≤ 200 then weigh s s.size else -1) := by
  unfold impl_RowWeight.f
  by_cases h : s.size ≤ 200
  · rw [if_neg (by omega), if_pos h]
    exact impl_RowWeight_l0 s h s.size k 0 (by omega) (by omega) (by omega)
  · rw [if_pos (by omega), if_neg h]

theorem filterRow_size (d : Int) (s t : ByteArray) (u : Int) : (filterRow d s t u).1.size ≤ 200 := by
  unfold filterRow
  split
  · rename_i h
    have q := (filterB_iff d s t u).mp h
    simp only
    rw [strOfNums_size, filtL_len]; omega
  · simp only; decide
theorem best_l0 (s t : ByteArray) (u : Int) (r : Nat) : ∀ (k i : Nat) (b w : Int), i + r = 5 → r + 400 < k → ∃ v, spec_BestFilter.l0 k s t u b w i = some v ∧ impl_BestFilter.l0 k s t u b w i = some v := by
  induction r with
  | zero =>
    intro k i b w hi hk
    obtain ⟨k, rfl⟩ : ∃ m, k = m + 1 := ⟨k - 1, by omega⟩
    refine ⟨(b, true), ?_, ?_⟩
    · simp only [spec_BestFilter.l0]; rw [if_neg (by omega)]
    · simp only [impl_BestFilter.l0]; rw [if_neg (by omega)]
  | succ r ih =>
    intro k i b w hi hk
    obtain ⟨k, rfl⟩ : ∃ m, k = m + 1 := ⟨k - 1, by omega⟩
    simp only [spec_BestFilter.l0, impl_BestFilter.l0]
    rw [if_pos (by omega), if_pos (by omega), spec_FilterRow_eq _ s t u k (by omega), impl_FilterRow_eq _ s t u k (by omega), w64 (x := (i : Int) + 1) (by omega) (by omega)]
    simp only [Option.bind_some]
    have sz := filterRow_size i s t u
    by_cases h : (filterRow i s t u).2 = true
    · rw [if_pos h, if_pos h]
      generalize (filterRow i s t u).1 = z at sz ⊢
      rw [spec_RowWeight_eq z k (by omega), impl_RowWeight_eq z k (by omega)]
      simp only [Option.bind_some]
      have st := fun b w => ih k (i + 1) b w (by omega) (by omega)
      push_cast at st
      by_cases h2 : w < 0
      · rw [if_pos h2, if_pos h2]; exact st _ _
      · rw [if_neg h2, if_neg h2]
        generalize (if z.size ≤ 200 then weigh z z.size else -1) = y
        by_cases h3 : y < w
        · rw [if_pos h3, if_pos h3]; exact st _ _
        · rw [if_neg h3, if_neg h3]; exact st _ _
    · rw [if_neg h, if_neg h]; exact ⟨_, rfl, rfl⟩

def wtR (z : ByteArray) : Int := if z.size ≤ 200 then weigh z z.size else -1
def bestV (s t : ByteArray) (u : Int) : Nat → Nat → Int → Int → Int × Bool
  | 0, _, b, _ => (b, true)
  | r + 1, i, b, w => if (filterRow i s t u).2 = true then (if w < 0 then bestV s t u r (i + 1) i (wtR (filterRow i s t u).1) else if wtR (filterRow i s t u).1 < w then bestV s t u r (i + 1) i (wtR (filterRow i s t u).1) else bestV s t u r (i + 1) b w) else (0, false)
def bestF (s t : ByteArray) (u : Int) : Int := (bestV s t u 5 0 0 (-1)).1
theorem best_l0v (s t : ByteArray) (u : Int) (r : Nat) : ∀ (k i : Nat) (b w : Int), i + r = 5 → r + 400 < k → spec_BestFilter.l0 k s t u b w i = some (bestV s t u r i b w) ∧ impl_BestFilter.l0 k s t u b w i = some (bestV s t u r i b w) := by
  induction r with
  | zero =>
    intro k i b w hi hk
    obtain ⟨k, rfl⟩ : ∃ m, k = m + 1 := ⟨k - 1, by omega⟩
    refine ⟨?_, ?_⟩
    · simp only [spec_BestFilter.l0]; rw [if_neg (by omega)]; rfl
    · simp only [impl_BestFilter.l0]; rw [if_neg (by omega)]; rfl
  | succ r ih =>
    intro k i b w hi hk
    obtain ⟨k, rfl⟩ : ∃ m, k = m + 1 := ⟨k - 1, by omega⟩
    have sz := filterRow_size i s t u
    have st := fun b w => ih k (i + 1) b w (by omega) (by omega)
    push_cast at st
    refine ⟨?_, ?_⟩
    · simp only [spec_BestFilter.l0, bestV]
      rw [if_pos (by omega), spec_FilterRow_eq _ s t u k (by omega), w64 (x := (i : Int) + 1) (by omega) (by omega), Option.bind_some]
      by_cases h : (filterRow i s t u).2 = true
      · rw [if_pos h, if_pos h]
        generalize (filterRow i s t u).1 = z at sz ⊢
        rw [spec_RowWeight_eq z k (by omega)]
        simp only [Option.bind_some]
        rw [show (if z.size ≤ 200 then weigh z z.size else -1) = wtR z from rfl]
        by_cases h2 : w < 0
        · rw [if_pos h2, if_pos h2]; exact (st _ _).1
        · rw [if_neg h2, if_neg h2]
          by_cases h3 : wtR z < w
          · rw [if_pos h3, if_pos h3]; exact (st _ _).1
          · rw [if_neg h3, if_neg h3]; exact (st _ _).1
      · rw [if_neg h, if_neg h]
    · simp only [impl_BestFilter.l0, bestV]
      rw [if_pos (by omega), impl_FilterRow_eq _ s t u k (by omega), w64 (x := (i : Int) + 1) (by omega) (by omega), Option.bind_some]
      by_cases h : (filterRow i s t u).2 = true
      · rw [if_pos h, if_pos h]
        generalize (filterRow i s t u).1 = z at sz ⊢
        rw [impl_RowWeight_eq z k (by omega)]
        simp only [Option.bind_some]
        rw [show (if z.size ≤ 200 then weigh z z.size else -1) = wtR z from rfl]
        by_cases h2 : w < 0
        · rw [if_pos h2, if_pos h2]; exact (st _ _).2
        · rw [if_neg h2, if_neg h2]
          by_cases h3 : wtR z < w
          · rw [if_pos h3, if_pos h3]; exact (st _ _).2
          · rw [if_neg h3, if_neg h3]; exact (st _ _).2
      · rw [if_neg h, if_neg h]
theorem spec_BestFilter_val (s t : ByteArray) (u : Int) (k : Nat) (hk : 500 ≤ k) : spec_BestFilter.f k s t u = some (bestV s t u 5 0 0 (-1)) := by
  have := (best_l0v s t u 5 k 0 0 (-1) (by omega) (by omega)).1
  rw [show ((0 : Nat) : Int) = 0 from rfl] at this
  exact this
theorem impl_BestFilter_val (s t : ByteArray) (u : Int) (k : Nat) (hk : 500 ≤ k) : impl_BestFilter.f k s t u = some (bestV s t u 5 0 0 (-1)) := by
  have := (best_l0v s t u 5 k 0 0 (-1) (by omega) (by omega)).2
  rw [show ((0 : Nat) : Int) = 0 from rfl] at this
  exact this

theorem bytesOf_str' (xs : List Int) (hx : Bytes xs) : bytesOf (strOfNums xs) = xs := by
  unfold bytesOf
  rw [strOfNums_data, List.map_map]
  refine (List.map_congr_left (g := id) ?_).trans (List.map_id _)
  intro x hm
  have := hx x hm
  simp only [Function.comp, UInt8.toNat_ofNat', id]
  omega
theorem str_bytesOf' (s : ByteArray) : strOfNums (bytesOf s) = s := by
  apply ByteArray.ext
  apply Array.ext'
  rw [strOfNums_data]
  unfold bytesOf
  rw [List.map_map]
  have : (fun n : Int => UInt8.ofNat n.toNat) ∘ (fun b : UInt8 => (b.toNat : Int)) = id := by
    funext b; simp
  rw [this, List.map_id]

structure PieceOk (w h c d : Int) (xs : List Int) : Prop where
  hw : 0 ≤ w ∧ w ≤ 24
  hh : 0 ≤ h ∧ h ≤ 24
  hd : depthB d = true
  hl : (xs.length : Int) = w * h * chan c
  ha : xs.all (inB (p2 d - 1)) = true
def rowS (xs : List Int) (m d : Int) (j : Nat) : ByteArray := (packRow (smp xs m j) d).1
def rowsL (xs : List Int) (m d : Int) (j n : Nat) : List ByteArray := (List.range' j n).map (rowS xs m d)
def zeroS (n : Nat) : ByteArray := strOfNums (List.replicate n 0)
def unitV (c d : Int) : Int := mx 1 (chan c * d / 8)
def scanL (m u : Int) : List ByteArray → ByteArray → List Int
  | [], _ => []
  | r :: rs, above =>
    let f := if m = 5 then bestF r above u else m
    f % 256 :: (bytesOf (filterRow f r above u).1 ++ scanL m u rs r)
def pieceL (w h c d : Int) (xs : List Int) (m : Int) : List Int := scanL m (unitV c d) (rowsL xs (w * chan c) d 0 h.toNat) (zeroS (upN ((w * chan c).toNat * d.toNat)))
theorem scanL_len (m u : Int) (rs : List ByteArray) : ∀ above, (scanL m u rs above).length ≤ 201 * rs.length := by
  induction rs with
  | nil => intro above; simp [scanL]
  | cons r rs ih =>
    intro above
    have a := ih r
    have b := filterRow_size (if m = 5 then bestF r above u else m) r above u
    simp only [scanL, List.length_cons, List.length_append, bytesOf_len]
    omega
theorem rowsL_len (xs : List Int) (m d : Int) (j n : Nat) : (rowsL xs m d j n).length = n := by simp [rowsL]
theorem piece_len {w h c d : Int} {xs : List Int} (ok : PieceOk w h c d xs) (m : Int) : (pieceL w h c d xs m).length ≤ 4824 := by
  have a := scanL_len m (unitV c d) (rowsL xs (w * chan c) d 0 h.toNat) (zeroS (upN ((w * chan c).toNat * d.toNat)))
  rw [rowsL_len] at a
  have := ok.hh
  unfold pieceL
  omega
theorem piece_bd {w h c d : Int} {xs : List Int} (ok : PieceOk w h c d xs) : 0 ≤ w * chan c ∧ w * chan c ≤ 96 ∧ xs.length ≤ 2304 := by
  have b := chan_bd c
  have b1 := mul_bd ok.hw.1 ok.hw.2 b.1 b.2
  have b2 := mul_bd ok.hw.1 ok.hw.2 ok.hh.1 ok.hh.2
  have b3 := mul_bd b2.1 b2.2 b.1 b.2
  have := ok.hl
  omega
theorem depth_bd {d : Int} (h : depthB d = true) : 1 ≤ d ∧ d ≤ 16 := by
  obtain ⟨D, rfl, h⟩ := depthB_nat h
  omega
theorem piece_at {w h c d : Int} {xs : List Int} (ok : PieceOk w h c d xs) (j : Nat) (hj : (j : Int) < h) : 0 ≤ (j : Int) * (w * chan c) ∧ (j : Int) * (w * chan c) + w * chan c ≤ xs.length := by
  have b := piece_bd ok
  exact plc_bd (WH := h) (a := j) ⟨by omega, hj⟩ b.1 (by rw [ok.hl, Int.mul_comm w h, Int.mul_assoc])
theorem rowS_size {w h c d : Int} {xs : List Int} (ok : PieceOk w h c d xs) (j : Nat) (hj : (j : Int) < h) : (rowS xs (w * chan c) d j).size = upN ((w * chan c).toNat * d.toNat) := by
  have b := piece_bd ok
  have p := piece_at ok j hj
  have sl := smp_len xs (w * chan c) j b.1 (by omega) p.2
  have al : (smp xs (w * chan c) j).all (inB (p2 d - 1)) = true := by
    have := ok.ha
    rw [List.all_eq_true] at this ⊢
    intro x hx
    exact this x (List.mem_of_mem_take (List.mem_of_mem_drop hx))
  unfold rowS packRow
  rw [if_pos (by rw [ok.hd, al, sl]; simp; omega)]
  simp only
  rw [strOfNums_size, bytesV_len, sl]
theorem unit_bd {c d : Int} (hd : depthB d = true) : 0 ≤ chan c * d ∧ chan c * d ≤ 64 := by
  have b := chan_bd c
  have e := depth_bd hd
  exact mul_bd b.1 b.2 (by omega) e.2
theorem strApp (xs ys : List Int) (s : ByteArray) : strOfNums xs ++ (strOfNums ys ++ s) = strOfNums (xs ++ (ys ++ bytesOf s)) := by
  conv => lhs; rw [← str_bytesOf' s]
  rw [str_append, str_append]

theorem piece_mem {w h c d : Int} {xs : List Int} (ok : PieceOk w h c d xs) : ∀ r ∈ rowsL xs (w * chan c) d 0 h.toNat, r.size = upN ((w * chan c).toNat * d.toNat) := by
  intro r hr
  simp only [rowsL, List.mem_map, List.mem_range'_1] at hr
  obtain ⟨j, hj, rfl⟩ := hr
  exact rowS_size ok j (by have := ok.hh; omega)
theorem piece_Z {w h c d : Int} {xs : List Int} (ok : PieceOk w h c d xs) : (w * chan c).toNat * d.toNat ≤ 1536 := by
  have b := piece_bd ok
  have e := depth_bd ok.hd
  exact Nat.mul_le_mul (show (w * chan c).toNat ≤ 96 by omega) (show d.toNat ≤ 16 by omega)

theorem dok_depth {c d : Int} (h : dok c d = true) : depthB d = true := by
  have e8 : (d == 8) = true → bigD d = true := by intro e; unfold bigD; rw [e]; rfl
  unfold dok at h
  unfold depthB
  by_cases h0 : c = 0
  · rw [if_pos h0] at h; exact h
  · rw [if_neg h0] at h
    by_cases h3 : c = 3
    · rw [if_pos h3] at h
      rw [Bool.or_eq_true] at h ⊢
      exact h.imp_right e8
    · rw [if_neg h3] at h
      have hb : bigD d = true := by
        by_cases h2 : c = 2
        · rw [if_pos h2] at h; exact h
        · rw [if_neg h2] at h
          by_cases h4 : c = 4
          · rw [if_pos h4] at h; exact h
          · rw [if_neg h4] at h
            by_cases h6 : c = 6
            · rw [if_pos h6] at h; exact h
            · rw [if_neg h6] at h; cases h
      rw [hb, Bool.or_true]
theorem raster_piece {w h c d : Int} {xs : List Int} (ok : rasterOk w h c d xs = true) : PieceOk w h c d xs := by
  simp only [rasterOk, Bool.and_eq_true, decide_eq_true_eq] at ok
  obtain ⟨⟨⟨⟨hw, hh⟩, hdk⟩, hl⟩, hall⟩ := ok
  rw [sideB_iff] at hw hh
  exact ⟨by omega, by omega, dok_depth hdk, hl, hall⟩
theorem flat_len (xs : List Int) (n : Int) (hn : 0 ≤ n) (P : List Int) (hb : ∀ a ∈ P, 0 ≤ a ∧ a * n + n ≤ xs.length) : (P.flatMap (smp xs n)).length = P.length * n.toNat := by
  induction P with
  | nil => simp
  | cons a P ih =>
    have q := hb a (List.mem_cons_self ..)
    rw [List.flatMap_cons, List.length_append, ih fun b hb' => hb b (List.mem_cons_of_mem _ hb'), smp_len xs n a hn q.1 q.2, List.length_cons, Nat.succ_mul]
    omega
theorem pass_piece {w h c d : Int} {xs : List Int} (ok : rasterOk w h c d xs = true) (p : Nat) (hp : p < 7) : PieceOk (passL w h c d xs p).f0 (passL w h c d xs p).f1 (passL w h c d xs p).f2 (passL w h c d xs p).f3 (passL w h c d xs p).f4 := by
  simp only [rasterOk, Bool.and_eq_true, decide_eq_true_eq] at ok
  obtain ⟨⟨⟨⟨hw, hh⟩, hdk⟩, hl⟩, hall⟩ := ok
  have pb := passB_nat hp
  have sb := psize_bd hw hh pb
  have gb := grid_bd hw hh pb
  have cb := chan_bd c
  have gl := gridPl_len w (pstep p).2.2.1 (pstep p).2.2.2 (pstep p).1 (psize w h p).1.toNat (psize w h p).2.toNat (pstep p).2.1
  refine ⟨⟨sb.1, sb.2.1⟩, ⟨sb.2.2.1, sb.2.2.2⟩, dok_depth hdk, ?_, ?_⟩
  · simp only [passL]
    rw [flat_len xs (chan c) cb.1 _ fun a ha => ⟨(gb a ha).1, (plc_bd (gb a ha) cb.1 hl).2⟩, gl, Int.natCast_mul, Int.natCast_mul, Int.toNat_of_nonneg cb.1, Int.toNat_of_nonneg sb.1, Int.toNat_of_nonneg sb.2.2.1]
  · simp only [passL]
    rw [List.all_eq_true] at hall ⊢
    intro x hx
    obtain ⟨a, _, ha⟩ := List.mem_flatMap.mp hx
    exact hall x (List.mem_of_mem_take (List.mem_of_mem_drop ha))
def partsL (w h c d : Int) (xs : List Int) (lace : Bool) : List S29 := if lace = true then passesL w h c d xs else [⟨w, h, c, d, xs⟩]
def pieceT (m : Int) (p : S29) : List Int := pieceL p.f0 p.f1 p.f2 p.f3 p.f4 m
def PartsOk (ps : List S29) : Prop := ps.length ≤ 7 ∧ ∀ p ∈ ps, PieceOk p.f0 p.f1 p.f2 p.f3 p.f4
theorem parts_ok {w h c d : Int} {xs : List Int} (ok : rasterOk w h c d xs = true) (lace : Bool) : PartsOk (partsL w h c d xs lace) := by
  unfold partsL
  split
  · refine ⟨by simp [passesL], fun p hp => ?_⟩
    simp only [passesL, List.mem_map, List.mem_range'_1] at hp
    obtain ⟨i, hi, rfl⟩ := hp
    exact pass_piece ok i (by omega)
  · refine ⟨by simp, fun p hp => ?_⟩
    rw [List.mem_singleton] at hp
    subst hp
    exact raster_piece ok
def scanV (w h c d : Int) (xs : List Int) (lace : Bool) (m : Int) : ByteArray × Bool := if (rasterOk w h c d xs && (decide (0 ≤ m) && decide (m ≤ 5))) = true then (strOfNums ((partsL w h c d xs lace).flatMap (pieceT m)), true) else (⟨#[]⟩, false)
theorem parts_ar {y p n : Nat} (hy : y + 5000 * (n + 1) ≤ 1000000) (hp : p ≤ 4824) : y + p ≤ 1000000 ∧ y + p + 5000 * n ≤ 1000000 := by
  rw [Nat.mul_succ] at hy
  generalize 5000 * n = z at hy ⊢
  omega

theorem spec_l01Pow_l0 (n : Int) (h62 : n ≤ 62) (d : Nat) : ∀ (k : Nat) (i : Int), 0 ≤ i → i ≤ n → n - i = d → d < k → spec_l01Pow.l0 k n (p2 i) i = some (p2 n) := by
  induction d with
  | zero =>
    intro k i h0 h1 hd hk
    obtain ⟨k, rfl⟩ : ∃ m, k = m + 1 := ⟨k - 1, by omega⟩
    obtain rfl : i = n := by omega
    simp only [spec_l01Pow.l0]
    rw [if_neg (by omega)]
  | succ d ih =>
    intro k i h0 h1 hd hk
    obtain ⟨k, rfl⟩ : ∃ m, k = m + 1 := ⟨k - 1, by omega⟩
    have b1 := p2_pos (i + 1)
    have b2 := p2_62 (n := i + 1) (by omega)
    have e := p2_succ i h0
    simp only [spec_l01Pow.l0]
    rw [if_pos (by omega), ← e, w64 (x := p2 (i + 1)) (by omega) (by omega), w64 (x := i + 1) (by omega) (by omega)]
    exact ih k (i + 1) (by omega) (by omega) (by omega) (by omega)
theorem spec_l01Pow_eq (k : Nat) (n : Int) (h62 : n ≤ 62) (hk : 64 ≤ k) : spec_l01Pow.f k n = some (p2 n) := by
  unfold spec_l01Pow.f
  by_cases h0 : 0 ≤ n
  · exact spec_l01Pow_l0 n h62 n.toNat k 0 (by omega) h0 (by omega) (by omega)
  · obtain ⟨k, rfl⟩ : ∃ m, k = m + 1 := ⟨k - 1, by omega⟩
    simp only [spec_l01Pow.l0]
    rw [if_neg (by omega)]
    have : n.toNat = 0 := by omega
    unfold p2; rw [this]; rfl

theorem spec_l12Depth_eq (k : Nat) (hk : 1 ≤ k) (d : Int) : spec_l12Depth.f k d = some (depthB d) := by
  unfold spec_l12Depth.f
  rw [spec_DepthOk_eq k hk]; simp [dok, depthB]

def bitL (xs : List Int) (D T : Nat) : List Int := (List.range T).map (bitF xs D)
theorem bitL_succ (xs : List Int) (D T : Nat) : bitL xs D (T + 1) = bitL xs D T ++ [bitF xs D T] := by simp [bitL, List.range_succ]
theorem bitL_len (xs : List Int) (D T : Nat) : (bitL xs D T).length = T := by simp [bitL]
theorem bitL_get (xs : List Int) (D T t : Nat) (h : t < T) : rd (bitL xs D T) t = bitF xs D t := by
  rw [rd_at _ _ (by rw [bitL_len]; exact h)]; simp [bitL]
/-- The bits of a sample. -/
theorem spec_PackRow_l1 (xs : List Int) (D : Nat) (hD : D ≤ 16) (i : Nat) (hi : i < xs.length) (hn : xs.length ≤ 96) (hx : 0 ≤ xs[i] ∧ xs[i] ≤ 1000000) (r : Nat) : ∀ (k : Nat), r ≤ D → r + 70 < k →
    spec_PackRow.l1 k xs D (bitL xs D (i * D + (D - r))) i ((r : Int) - 1) = spec_PackRow.l0 (k - r - 1) xs D (bitL xs D ((i + 1) * D)) (i + 1 : Nat) := by
  induction r with
  | zero =>
    intro k hr hk
    obtain ⟨k, rfl⟩ : ∃ m, k = m + 1 := ⟨k - 1, by omega⟩
    simp only [spec_PackRow.l1]
    rw [if_neg (by omega), w64 (by omega) (by omega)]
    rw [show i * D + (D - 0) = (i + 1) * D by rw [Nat.succ_mul]; omega]
    rfl
  | succ r ih =>
    intro k hr hk
    obtain ⟨k, rfl⟩ : ∃ m, k = m + 1 := ⟨k - 1, by omega⟩
    have e : (((r + 1 : Nat) : Int) - 1) = r := by omega
    have lim : i * D ≤ 96 * 16 := Nat.mul_le_mul (by omega) hD
    have b1 := p2_pos (r : Int)
    have b2 := p2_16 (n := (r : Int)) (by omega)
    have bq : 0 ≤ xs[i] / p2 r ∧ xs[i] / p2 r ≤ 1000000 := ⟨Int.ediv_nonneg hx.1 (by omega), Int.le_trans (Int.ediv_le_self _ hx.1) hx.2⟩
    rw [e]
    simp only [spec_PackRow.l1]
    rw [if_pos (by omega), if_pos (by omega), if_pos (by omega), spec_l01Pow_eq k r (by omega) (by omega)]
    simp only [Option.bind_some]
    rw [if_neg (by omega), if_pos (by rw [bitL_len]; omega), rd_at xs i hi, Int.tdiv_eq_ediv_of_nonneg hx.1, w64 (x := xs[i] / p2 r) (by omega) (by omega), Int.tmod_eq_emod_of_nonneg bq.1, w64 (x := (r : Int) - 1) (by omega) (by omega)]
    have q := bitF_at xs D i (D - (r + 1)) hi (by omega)
    rw [show D - 1 - (D - (r + 1)) = r by omega] at q
    have q2 : xs[i] / p2 (r : Int) % 2 = bitF xs D (i * D + (D - (r + 1))) := by rw [q]; rfl
    rw [q2, ← bitL_succ, show i * D + (D - (r + 1)) + 1 = i * D + (D - r) by omega, ih k (by omega) (by omega), show k - r - 1 = k + 1 - (r + 1) - 1 by omega]
theorem spec_PackRow_l0 (xs : List Int) (D : Nat) (hD : D ≤ 16) (hn : xs.length ≤ 96) (d : Nat) : ∀ (k i : Nat), i ≤ xs.length → xs.length - i = d → d * 20 + 2600 ≤ k →
    ∃ q, 2500 ≤ q ∧ spec_PackRow.l0 k xs D (bitL xs D (i * D)) i = if (xs.drop i).all (inB (p2 D - 1)) then spec_PackRow.l2 q (bitL xs D (xs.length * D)) else some (⟨#[]⟩, false) := by
  induction d with
  | zero =>
    intro k i hi hd hk
    obtain ⟨k, rfl⟩ : ∃ m, k = m + 1 := ⟨k - 1, by omega⟩
    obtain rfl : i = xs.length := by omega
    refine ⟨k, by omega, ?_⟩
    simp only [spec_PackRow.l0]
    rw [if_neg (by omega), drop_all_end _ _ _ (by omega), if_pos rfl]
  | succ d ih =>
    intro k i hi hd hk
    obtain ⟨k, rfl⟩ : ∃ m, k = m + 1 := ⟨k - 1, by omega⟩
    have lt : i < xs.length := by omega
    have b1 := p2_pos (D : Int)
    have b2 := p2_16 (n := (D : Int)) (by omega)
    simp only [spec_PackRow.l0]
    rw [if_pos (by omega), if_pos (by omega), spec_l01Pow_eq k D (by omega) (by omega)]
    simp only [Option.bind_some]
    rw [w64 (x := p2 D - 1) (by omega) (by omega), spec_l01In_eq, rd_at xs i lt, w64 (x := (D : Int) - 1) (by omega) (by omega), drop_all _ _ _ lt]
    simp only [Option.bind_some]
    by_cases hb : inB (p2 D - 1) xs[i] = true
    · have hb' := hb
      simp only [inB, Bool.and_eq_true, decide_eq_true_eq] at hb'
      have s1 := spec_PackRow_l1 xs D hD i lt hn (by omega) D k (by omega) (by omega)
      rw [Nat.sub_self, Nat.add_zero] at s1
      obtain ⟨q, hq, e⟩ := ih (k - D - 1) (i + 1) (by omega) (by omega) (by omega)
      refine ⟨q, hq, ?_⟩
      rw [hb, Bool.true_and, ← e, ← s1]
      unfold inB at hb
      rw [if_pos hb]
    · have hb' : inB (p2 D - 1) xs[i] = false := by simpa using hb
      refine ⟨k, by omega, ?_⟩
      rw [hb', Bool.false_and]
      unfold inB at hb'
      rw [hb']
      rfl
theorem spec_PackRow_l2 (xs : List Int) (D : Nat) (hD : D ≤ 16) (hn : xs.length ≤ 96) (r : Nat) : ∀ (k T : Nat), xs.length * D ≤ T → T + r = 8 * upN (xs.length * D) → r < 8 → r + 2100 ≤ k → ∃ q, 2090 ≤ q ∧ spec_PackRow.l2 k (bitL xs D T) = spec_PackRow.l3 q (bitL xs D (8 * upN (xs.length * D))) [] 0 := by
  have lim : xs.length * D ≤ 96 * 16 := Nat.mul_le_mul hn hD
  induction r with
  | zero =>
    intro k T h1 h2 h3 hk
    obtain ⟨k, rfl⟩ : ∃ m, k = m + 1 := ⟨k - 1, by omega⟩
    refine ⟨k, by omega, ?_⟩
    simp only [spec_PackRow.l2]
    rw [bitL_len, if_pos (by omega), ← h2]; rfl
  | succ r ih =>
    intro k T h1 h2 h3 hk
    obtain ⟨k, rfl⟩ : ∃ m, k = m + 1 := ⟨k - 1, by omega⟩
    obtain ⟨q, hq, e⟩ := ih k (T + 1) (by omega) (by omega) (by omega) (by omega)
    refine ⟨q, hq, ?_⟩
    simp only [spec_PackRow.l2]
    rw [bitL_len, if_neg (by omega), if_pos (by unfold upN at h2; omega), ← e, bitL_succ, bitF_past xs D T h1]
theorem spec_PackRow_l4 (xs : List Int) (D N j : Nat) (hN : N ≤ 192) (hj : j < N) (k : Nat) (ys : List Int) (hy : ys.length ≤ 1000) : spec_PackRow.l4 (k + 9) (bitL xs D (8 * N)) ys ((8 * j : Nat) : Int) 0 0 = spec_PackRow.l3 k (bitL xs D (8 * N)) (ys ++ [byteV (bitF xs D) j]) ((8 * (j + 1) : Nat) : Int) := by
  have step : ∀ (k m : Nat) (a : Int), m < 8 → 0 ≤ a → a ≤ 255 → spec_PackRow.l4 (k + 1) (bitL xs D (8 * N)) ys ((8 * j : Nat) : Int) a m = spec_PackRow.l4 k (bitL xs D (8 * N)) ys ((8 * j : Nat) : Int) (2 * a + bitF xs D (8 * j + m)) (m + 1 : Nat) := by
    intro k m a hm h0 h1
    have b := bitF_bd xs D (8 * j + m)
    have g := bitL_get xs D (8 * N) (8 * j + m) (by omega)
    simp only [spec_PackRow.l4]
    rw [if_pos (by omega), bitL_len, w64 (x := ((8 * j : Nat) : Int) + m) (by omega) (by omega), if_pos (by omega), if_pos (by omega), show ((8 * j : Nat) : Int) + m = ((8 * j + m : Nat) : Int) by omega, g, w64 (x := 2 * a) (by omega) (by omega), w64 (x := 2 * a + bitF xs D (8 * j + m)) (by omega) (by omega), w64 (x := (m : Int) + 1) (by omega) (by omega)]
    rfl
  have b0 := bitF_bd xs D (8 * j); have b1 := bitF_bd xs D (8 * j + 1); have b2 := bitF_bd xs D (8 * j + 2); have b3 := bitF_bd xs D (8 * j + 3); have b4 := bitF_bd xs D (8 * j + 4); have b5 := bitF_bd xs D (8 * j + 5); have b6 := bitF_bd xs D (8 * j + 6); have b7 := bitF_bd xs D (8 * j + 7)
  have s0 := step (k + 8) 0 0 (by omega) (by omega) (by omega)
  simp only [Nat.add_zero] at s0
  change spec_PackRow.l4 (k + 9) _ ys _ 0 0 = _ at s0
  rw [s0, step (k + 7) 1 _ (by omega) (by omega) (by omega), step (k + 6) 2 _ (by omega) (by omega) (by omega), step (k + 5) 3 _ (by omega) (by omega) (by omega), step (k + 4) 4 _ (by omega) (by omega) (by omega), step (k + 3) 5 _ (by omega) (by omega) (by omega), step (k + 2) 6 _ (by omega) (by omega) (by omega), step (k + 1) 7 _ (by omega) (by omega) (by omega)]
  simp only [spec_PackRow.l4]
  rw [if_neg (by omega), if_pos (by omega), w64 (x := ((8 * j : Nat) : Int) + 8) (by omega) (by omega)]
  have e : (2 * (2 * (2 * (2 * (2 * (2 * (2 * (2 * 0 + bitF xs D (8 * j)) + bitF xs D (8 * j + 1)) + bitF xs D (8 * j + 2)) + bitF xs D (8 * j + 3)) + bitF xs D (8 * j + 4)) + bitF xs D (8 * j + 5)) + bitF xs D (8 * j + 6)) + bitF xs D (8 * j + 7)) % 256 = byteV (bitF xs D) j := by unfold byteV; omega
  rw [e, show ((8 * j : Nat) : Int) + 8 = ((8 * (j + 1) : Nat) : Int) by omega]
theorem spec_PackRow_l3 (xs : List Int) (D N : Nat) (hN : N ≤ 192) (r : Nat) : ∀ (k j : Nat), j + r = N → r * 10 + 1 ≤ k → spec_PackRow.l3 k (bitL xs D (8 * N)) (bytesV (bitF xs D) j) ((8 * j : Nat) : Int) = some (strOfNums (bytesV (bitF xs D) N), true) := by
  induction r with
  | zero =>
    intro k j hj hk
    obtain ⟨k, rfl⟩ : ∃ m, k = m + 1 := ⟨k - 1, by omega⟩
    obtain rfl : j = N := by omega
    simp only [spec_PackRow.l3]
    rw [bitL_len, if_neg (by omega)]
  | succ r ih =>
    intro k j hj hk
    obtain ⟨k, rfl⟩ : ∃ m, k = m + 10 := ⟨k - 10, by omega⟩
    have e := ih k (j + 1) (by omega) (by omega)
    rw [bytesV_succ] at e
    simp only [spec_PackRow.l3]
    rw [bitL_len, if_pos (by omega), spec_PackRow_l4 xs D N j hN (by omega) k _ (by rw [bytesV_len]; omega), e]
theorem spec_PackRow_eq (xs : List Int) (hx : xs.length ≤ 9223372036854775807) (d : Int) (k : Nat) (hk : 5000 ≤ k) : spec_PackRow.f k xs d = some (packRow xs d) := by
  unfold spec_PackRow.f packRow
  rw [spec_l12Depth_eq k (by omega)]
  simp only [Option.bind_some]
  obtain ⟨k, rfl⟩ : ∃ m, k = m + 1 := ⟨k - 1, by omega⟩
  by_cases hd : depthB d = true
  · obtain ⟨D, rfl, hD⟩ := depthB_nat hd
    rw [if_pos hd]
    simp only [spec_PackRow.j0, hd, Bool.true_and, Int.toNat_natCast]
    by_cases hn : xs.length ≤ 96
    · have lim : xs.length * D ≤ 96 * 16 := Nat.mul_le_mul hn (by omega)
      obtain ⟨q, hq, e⟩ := spec_PackRow_l0 xs D (by omega) hn xs.length k 0 (by omega) (by omega) (by omega)
      rw [Nat.zero_mul] at e
      change spec_PackRow.l0 k xs D [] 0 = _ at e
      rw [if_neg (by simp; omega), e, List.drop_zero]
      simp only [hn, decide_true, Bool.true_and]
      by_cases ha : xs.all (inB (p2 D - 1)) = true
      · obtain ⟨q2, hq2, e2⟩ := spec_PackRow_l2 xs D (by omega) hn (8 * upN (xs.length * D) - xs.length * D) q (xs.length * D) (by omega) (by unfold upN; omega) (by unfold upN; omega) (by unfold upN; omega)
        have e3 := spec_PackRow_l3 xs D (upN (xs.length * D)) (by unfold upN; omega) (upN (xs.length * D)) q2 0 (by omega) (by unfold upN; omega)
        rw [if_pos ha, if_pos ha, e2]
        exact e3
      · rw [if_neg ha, if_neg ha]
    · rw [if_pos (by simp; omega)]
      simp [hn]
  · rw [if_neg hd]
    simp [spec_PackRow.j0, hd]

theorem spec_RasterOk_l0 (w h c d : Int) (hd2 : d ≤ 62) (xs : List Int) (hx : xs.length ≤ 9223372036854775807) (n : Nat) : ∀ (k i : Nat), i ≤ xs.length → xs.length - i = n → n + 64 < k → spec_RasterOk.l0 k i w h c d xs = some ((xs.drop i).all (inB (p2 d - 1))) := by
  induction n with
  | zero =>
    intro k i hi hd hk
    obtain ⟨k, rfl⟩ : ∃ m, k = m + 1 := ⟨k - 1, by omega⟩
    simp only [spec_RasterOk.l0]
    rw [if_neg (by omega), drop_all_end _ _ _ (by omega)]
  | succ n ih =>
    intro k i hi hd hk
    obtain ⟨k, rfl⟩ : ∃ m, k = m + 1 := ⟨k - 1, by omega⟩
    have lt : i < xs.length := by omega
    have b1 := p2_pos d
    have b2 := p2_62 hd2
    simp only [spec_RasterOk.l0]
    rw [if_pos (by omega), if_pos (by omega), spec_l01Pow_eq k d hd2 (by omega)]
    simp only [Option.bind_some]
    rw [w64 (x := p2 d - 1) (by omega) (by omega), spec_l01In_eq, rd_at xs i lt, w64 (by omega) (by omega), drop_all _ _ _ lt]
    simp only [Option.bind_some]
    have step := ih k (i + 1) (by omega) (by omega) (by omega)
    push_cast at step
    rw [step]
    unfold inB
    cases (decide (0 ≤ xs[i]) && decide (xs[i] ≤ p2 d - 1)) <;> simp
theorem spec_RasterOk_eq (w h c d : Int) (xs : List Int) (hx : xs.length ≤ 9223372036854775807) (k : Nat) (hk : xs.length + 70 ≤ k) : spec_RasterOk.f k w h c d xs = some (rasterOk w h c d xs) := by
  obtain ⟨k, rfl⟩ : ∃ m, k = m + 1 := ⟨k - 1, by omega⟩
  have no : spec_RasterOk.j0 (k + 1) true w h c d xs = some false := by simp [spec_RasterOk.j0]
  unfold spec_RasterOk.f rasterOk
  simp only [spec_l12Side_eq, spec_DepthOk_eq (k + 1) (by omega), spec_ChannelsOf_eq (k + 1) (by omega), Option.bind_some, no]
  by_cases hw : sideB w = true
  · by_cases hh : sideB h = true
    · by_cases hd : dok c d = true
      · have b := wh_bd (c := c) hw hh
        have bd := dok_bd hd
        simp only [hw, hh, hd, if_true, Bool.true_and]
        rw [w64 (x := w * h) (by omega) (by omega), w64 (x := w * h * chan c) (by omega) (by omega)]
        simp only [spec_RasterOk.j0]
        by_cases hl : (xs.length : Int) = w * h * chan c
        · have R := spec_RasterOk_l0 w h c d (by omega) xs hx xs.length k 0 (by omega) (by omega) (by omega)
          rw [if_neg (by simp [hl])]
          simpa [hl] using R
        · rw [if_pos (by simp [hl])]
          simp [hl]
      · simp [hw, hh, hd]
    · simp [hw, hh]
  · simp [hw]

theorem at_bd {r W c n H L : Int} (a : 0 ≤ r * W + c ∧ r * W + c < W * H) (hr : 0 ≤ r ∧ r ≤ 300) (hW : 0 ≤ W ∧ W ≤ 24) (hc : 0 ≤ c ∧ c ≤ 300) : 0 ≤ r * W ∧ r * W ≤ 7200 := by
  have := mul_bd hr.1 hr.2 hW.1 hW.2
  omega
theorem spec_passes_l2 (x3 : List S29) (n p : Int) (w h : Nat) (W H c d : Int) (xs : List Int) (x y dx dy j : Int) (z0 z1 z2 z3 : Int) (hx3 : x3.length ≤ 7) (hn : 0 ≤ n ∧ n ≤ 4) (hxs : xs.length ≤ 2304) (hw : w ≤ 24) (hW : 0 ≤ W ∧ W ≤ 24) (hx : 0 ≤ x ∧ x ≤ 4) (hy : 0 ≤ y ∧ y ≤ 4) (hdx : 0 ≤ dx ∧ dx ≤ 8) (hdy : 0 ≤ dy ∧ dy ≤ 8) (hj : 0 ≤ j ∧ j ≤ 23) (m : Nat) : ∀ (k i : Nat) (acc : List Int), i + m = w → acc.length + 4 * m ≤ 1000000 →
    (∀ a ∈ rowPl ((y + j * dy) * W + (x + i * dx)) dx m, 0 ≤ a ∧ 0 ≤ a * n ∧ a * n + n ≤ xs.length) →
    spec_l14Passes.l2 (k + m + 1) x3 n p w h x y dx dy j i W H c d xs z0 z1 z2 z3 acc = spec_l14Passes.l1 k x3 n p w h x y dx dy (j + 1) W H c d xs z0 z1 z2 z3 (acc ++ (rowPl ((y + j * dy) * W + (x + i * dx)) dx m).flatMap (smp xs n)) := by
  have b0 := mul_bd hj.1 hj.2 hdy.1 hdy.2
  have b1 := mul_bd (a := y + j * dy) (m := 300) (by omega) (by omega) hW.1 hW.2
  induction m with
  | zero =>
    intro k i acc hi ha hb
    simp only [Nat.add_zero, spec_l14Passes.l2]
    rw [if_neg (by omega), w64 (x := j + 1) (by omega) (by omega)]
    simp [rowPl]
  | succ m ih =>
    intro k i acc hi ha hb
    obtain ⟨K, hK⟩ : ∃ K, K = k + m + 1 := ⟨_, rfl⟩
    have b2 := mul_bd (a := (i : Int)) (m := 24) (by omega) (by omega) hdx.1 hdx.2
    obtain ⟨a0, a1, a2⟩ := hb _ (List.mem_cons_self ..)
    have rest := fun a ha => hb a (List.mem_cons_of_mem _ ha)
    have e1 : wrap64 (wrap64 (wrap64 (wrap64 (y + wrap64 (j * dy)) * W) + x) + wrap64 ((i : Int) * dx)) = (y + j * dy) * W + (x + i * dx) := by
      rw [w64 (x := j * dy) (by omega) (by omega), w64 (x := y + j * dy) (by omega) (by omega), w64 (x := (y + j * dy) * W) (by omega) (by omega), w64 (x := (y + j * dy) * W + x) (by omega) (by omega), w64 (x := (i : Int) * dx) (by omega) (by omega), w64 (by omega) (by omega), Int.add_assoc]
    rw [show k + (m + 1) + 1 = K + 1 from by omega]
    simp only [spec_l14Passes.l2]
    rw [if_pos (by omega), e1]
    have q := ih k (i + 1)
    rw [Int.add_assoc, show x + (i : Int) * dx + dx = x + ((i + 1 : Nat) : Int) * dx from by push_cast; rw [Int.add_mul]; omega] at rest
    simp only [rowPl]
    rw [Int.add_assoc, show x + (i : Int) * dx + dx = x + ((i + 1 : Nat) : Int) * dx from by push_cast; rw [Int.add_mul]; omega]
    generalize (y + j * dy) * W + (x + (i : Int) * dx) = A at a0 a1 a2 ⊢
    have ll : acc.length + ((xs.take (A * n + n).toNat).drop (A * n).toNat).length < 17592186044416 := by
      simp only [List.length_drop, List.length_take]; omega
    have sl : (smp xs n A).length = n.toNat := smp_len xs n _ hn.1 a0 a2
    rw [w64 (x := A * n) (by omega) (by omega), w64 (x := A * n + n) (by omega) (by omega), if_pos a1, if_pos (by omega), if_pos a2, if_pos ll, w64 (x := (i : Int) + 1) (by omega) (by omega)]
    rw [show ((xs.take (A * n + n).toNat).drop (A * n).toNat) = smp xs n A from rfl, hK]
    have q2 := q (acc ++ smp xs n A) (by omega) (by rw [List.length_append, sl]; omega) rest
    push_cast at q2
    rw [q2]
    simp
theorem spec_passes_l1 (x3 : List S29) (n p : Int) (w h : Nat) (W H c d : Int) (xs : List Int) (x y dx dy : Int) (z0 z1 z2 z3 : Int) (hx3 : x3.length ≤ 7) (hp : 0 ≤ p ∧ p ≤ 7) (hn : 0 ≤ n ∧ n ≤ 4) (hxs : xs.length ≤ 2304) (hw : w ≤ 24) (hh : h ≤ 24) (hW : 0 ≤ W ∧ W ≤ 24) (hx : 0 ≤ x ∧ x ≤ 4) (hy : 0 ≤ y ∧ y ≤ 4) (hdx : 0 ≤ dx ∧ dx ≤ 8) (hdy : 0 ≤ dy ∧ dy ≤ 8) (m : Nat) : ∀ (k j : Nat) (acc : List Int), j + m = h → acc.length + 100 * m ≤ 1000000 →
    (∀ a ∈ gridPl W dx dy x w m (y + j * dy), 0 ≤ a ∧ 0 ≤ a * n ∧ a * n + n ≤ xs.length) →
    spec_l14Passes.l1 (k + m * (w + 2) + 1) x3 n p w h x y dx dy j W H c d xs z0 z1 z2 z3 acc = spec_l14Passes.l0 k (x3 ++ [⟨z0, z1, z2, z3, acc ++ (gridPl W dx dy x w m (y + j * dy)).flatMap (smp xs n)⟩]) n (p + 1) W H c d xs := by
  induction m with
  | zero =>
    intro k j acc hj ha hb
    simp only [Nat.zero_mul, Nat.add_zero, spec_l14Passes.l1]
    rw [if_neg (by omega), if_pos (by omega), w64 (x := p + 1) (by omega) (by omega)]
    simp [gridPl]
  | succ m ih =>
    intro k j acc hj ha hb
    have b0 := mul_bd (a := (j : Int)) (m := 24) (by omega) (by omega) hdy.1 hdy.2
    rw [show k + (m + 1) * (w + 2) + 1 = (k + m * (w + 2) + 1 + w + 1) + 1 from by rw [Nat.succ_mul]; omega]
    simp only [spec_l14Passes.l1]
    rw [if_pos (by omega)]
    have s1 := spec_passes_l2 x3 n p w h W H c d xs x y dx dy j z0 z1 z2 z3 hx3 hn hxs hw hW hx hy hdx hdy (by omega) w (k + m * (w + 2) + 1) 0 acc (by omega) (by omega)
      (fun a ha => hb a (by simp only [gridPl]; exact List.mem_append.mpr (Or.inl (by simpa using ha))))
    rw [show ((0 : Nat) : Int) = 0 from rfl] at s1
    rw [s1]
    have rest := fun a ha => hb a (List.mem_append.mpr (Or.inr ha))
    rw [show y + (j : Int) * dy + dy = y + ((j + 1 : Nat) : Int) * dy from by push_cast; rw [Int.add_mul]; omega] at rest
    have fl : ∀ zs : List Int, (∀ a ∈ zs, 0 ≤ a ∧ 0 ≤ a * n ∧ a * n + n ≤ xs.length) → (zs.flatMap (smp xs n)).length ≤ 4 * zs.length := by
      intro zs
      induction zs with
      | nil => intro _; simp
      | cons z zs iz =>
        intro hz
        have q := iz fun a ha => hz a (List.mem_cons_of_mem _ ha)
        have q2 := hz z (List.mem_cons_self ..)
        rw [List.flatMap_cons, List.length_append, smp_len xs n z hn.1 q2.1 q2.2.2, List.length_cons]
        omega
    have f1 := fl (rowPl ((y + (j : Int) * dy) * W + (x + 0 * dx)) dx w) (fun a ha => hb a (List.mem_append.mpr (Or.inl (by simpa using ha))))
    rw [rowPl_len] at f1
    have s2 := ih k (j + 1) (acc ++ (rowPl ((y + (j : Int) * dy) * W + (x + 0 * dx)) dx w).flatMap (smp xs n)) (by omega) (by rw [List.length_append]; omega) rest
    push_cast at s2
    rw [s2]
    simp only [gridPl, List.flatMap_append, List.append_assoc]
    rw [show y + (j : Int) * dy + dy = y + ((j : Int) + 1) * dy from by rw [Int.add_mul]; omega]
    simp
theorem spec_passes_ar {q k w h : Nat} (hk : (q + 1) * 700 + 800 ≤ k + h * (w + 2) + 1 + 1) (hw : w ≤ 24) (hh : h ≤ 24) : q * 700 + 800 ≤ k := by
  have := Nat.mul_le_mul hh (show w + 2 ≤ 26 by omega)
  rw [Nat.succ_mul] at hk
  generalize q * 700 = z at hk ⊢
  omega
theorem spec_passes_l0 (w h c d : Int) (xs : List Int) (ok : rasterOk w h c d xs = true) (q : Nat) : ∀ (k p : Nat) (x3 : List S29), p + q = 7 → x3.length ≤ p → q * 700 + 800 ≤ k →
    spec_l14Passes.l0 k x3 (chan c) p w h c d xs = some (x3 ++ (List.range' p q).map fun p : Nat => passL w h c d xs p) := by
  have ok2 := ok
  simp only [rasterOk, Bool.and_eq_true, decide_eq_true_eq] at ok2
  obtain ⟨⟨⟨⟨hw, hh⟩, hdk⟩, hl⟩, hall⟩ := ok2
  have bd := wh_bd (c := c) hw hh
  have cb := chan_bd c
  have hw' := (sideB_iff w).mp hw
  induction q with
  | zero =>
    intro k p x3 hp hx hk
    obtain ⟨k, rfl⟩ : ∃ m, k = m + 1 := ⟨k - 1, by omega⟩
    simp only [spec_l14Passes.l0]
    rw [if_neg (by omega)]; simp
  | succ q ih =>
    intro k p x3 hp hx hk
    have hp7 : p < 7 := by omega
    have pb := passB_nat hp7
    have sb := psize_bd hw hh pb
    have gb := grid_bd hw hh pb
    have ps := pstep_bd pb
    have pdx : 0 ≤ (pstep p).2.2.1 ∧ (pstep p).2.2.1 ≤ 8 := by rcases ps.2.2.2.2.1 with e | e | e | e <;> rw [e] <;> omega
    have pdy : 0 ≤ (pstep p).2.2.2 ∧ (pstep p).2.2.2 ≤ 8 := by rcases ps.2.2.2.2.2.1 with e | e | e | e <;> rw [e] <;> omega
    obtain ⟨k, rfl⟩ : ∃ m, k = m + 1 := ⟨k - 1, by omega⟩
    simp only [spec_l14Passes.l0]
    rw [if_pos (by omega), spec_PassSize_eq k (by omega)]
    simp only [Option.bind_some]
    rw [spec_PassStep_eq]
    simp only [Option.bind_some]
    have pl : passL w h c d xs p = ⟨(psize w h p).1, (psize w h p).2, c, d, [] ++ (gridPl w (pstep p).2.2.1 (pstep p).2.2.2 (pstep p).1 (psize w h p).1.toNat (psize w h p).2.toNat ((pstep p).2.1 + ((0 : Nat) : Int) * (pstep p).2.2.2)).flatMap (smp xs (chan c))⟩ := by simp [passL]
    generalize hP1 : psize w h p = P1 at gb sb pl ⊢
    generalize hP2 : pstep p = P2 at gb pl ps pdx pdy ⊢
    obtain ⟨w1, h1⟩ := P1
    obtain ⟨x, y, dx, dy⟩ := P2
    simp only at gb sb pl ps pdx pdy ⊢
    obtain ⟨w2, rfl⟩ : ∃ n : Nat, w1 = n := ⟨w1.toNat, by omega⟩
    obtain ⟨h2, rfl⟩ : ∃ n : Nat, h1 = n := ⟨h1.toNat, by omega⟩
    simp only [Int.toNat_natCast] at gb pl
    have hm : h2 * (w2 + 2) ≤ 24 * 26 := Nat.mul_le_mul (by omega) (by omega)
    obtain ⟨k, rfl⟩ : ∃ m, k = m + h2 * (w2 + 2) + 1 := ⟨k - h2 * (w2 + 2) - 1, by omega⟩
    have s1 := spec_passes_l1 x3 (chan c) p w2 h2 w h c d xs x y dx dy w2 h2 c d (by omega) (by omega) (by omega) (by omega) (by omega) (by omega) (by omega) (by omega) (by omega) pdx pdy h2 k 0 [] (by omega) (by simp; omega)
      (fun a ha => by
        have g := gb a (by simpa using ha)
        exact ⟨g.1, plc_bd g (by omega) hl⟩)
    rw [← pl, show ((0 : Nat) : Int) = 0 from rfl] at s1
    rw [s1]
    have s2 := ih k (p + 1) (x3 ++ [passL w h c d xs p]) (by omega) (by rw [List.length_append]; exact Nat.add_le_add_right hx 1) (spec_passes_ar hk (by omega) (by omega))
    push_cast at s2
    rw [s2, List.range'_succ]
    simp
theorem spec_l14Passes_eq (w h c d : Int) (xs : List Int) (ok : rasterOk w h c d xs = true) (k : Nat) (hk : 6000 ≤ k) :
    spec_l14Passes.f k w h c d xs = some (passesL w h c d xs) := by
  unfold spec_l14Passes.f
  rw [spec_ChannelsOf_eq k (by omega)]
  simp only [Option.bind_some]
  have := spec_passes_l0 w h c d xs ok 7 k 0 [] (by omega) (by simp) (by omega)
  rw [show ((0 : Nat) : Int) = 0 from rfl] at this
  rw [this]; rfl

theorem spec_l15Unit_eq (c d : Int) (hd : depthB d = true) (k : Nat) (hk : 1 ≤ k) : spec_l15Unit.f k c d = some (unitV c d) := by
  have b := unit_bd (c := c) hd
  unfold spec_l15Unit.f
  rw [spec_ChannelsOf_eq k hk, Option.bind_some, w64 (x := chan c * d) (by omega) (by omega), Int.tdiv_eq_ediv_of_nonneg b.1, w64 (by omega) (by omega)]
  unfold unitV mx
  by_cases h : chan c * d / 8 < 1
  · rw [if_pos h, if_neg (by omega)]
  · rw [if_neg h]
    by_cases h2 : 1 < chan c * d / 8
    · rw [if_pos h2]
    · rw [if_neg h2]; congr 1; omega
theorem spec_Long_l0 (n : Nat) (hn : n ≤ 1000000) (r : Nat) : ∀ (k i : Nat), i + r = n → r < k → spec_l01Long.l0 k n 0 (List.replicate n 0) i = some (strOfNums (List.replicate n 0)) := by
  induction r with
  | zero =>
    intro k i hi hk
    obtain ⟨k, rfl⟩ : ∃ m, k = m + 1 := ⟨k - 1, by omega⟩
    simp only [spec_l01Long.l0]
    rw [if_neg (by omega)]
  | succ r ih =>
    intro k i hi hk
    obtain ⟨k, rfl⟩ : ∃ m, k = m + 1 := ⟨k - 1, by omega⟩
    have q := ih k (i + 1) (by omega) (by omega)
    push_cast at q
    rw [spec_l01Long.l0, if_pos (by omega), if_pos (by omega), if_pos (by simp; omega), w64 (x := (i : Int) + 1) (by omega) (by omega)]
    rw [show (List.replicate n (0 : Int)).set ((i : Int)).toNat 0 = List.replicate n 0 from by
      apply List.ext_getElem
      · simp
      · intro j h1 h2; simp [List.getElem_set]]
    exact q
theorem spec_l01Long_eq (n : Nat) (hn : n ≤ 1000000) (k : Nat) (hk : n < k) : spec_l01Long.f k (n : Int) 0 = some (zeroS n) := by
  unfold spec_l01Long.f
  have := spec_Long_l0 n hn n k 0 (by omega) hk
  rw [show ((0 : Nat) : Int) = 0 from rfl] at this
  rw [if_pos (by omega), if_pos (by omega), Int.toNat_natCast, this]; rfl
theorem spec_rows_l0 {w h c d : Int} {xs : List Int} (ok : PieceOk w h c d xs) (m : Int) (n : Nat) : ∀ (k j : Nat) (acc : List Int) (above : ByteArray), (j : Int) + n = h → acc.length + 201 * n ≤ 1000000 → n + 6000 ≤ k →
    spec_l15Rows.l0 k m acc (w * chan c) above j w h c d xs = some (strOfNums (acc ++ scanL m (unitV c d) (rowsL xs (w * chan c) d j n) above)) := by
  have b := piece_bd ok
  have hh := ok.hh
  induction n with
  | zero =>
    intro k j acc above hj ha hk
    obtain ⟨k, rfl⟩ : ∃ m, k = m + 1 := ⟨k - 1, by omega⟩
    simp only [spec_l15Rows.l0]
    rw [if_neg (by omega)]; simp [rowsL, scanL]
  | succ n ih =>
    intro k j acc above hj ha hk
    obtain ⟨k, rfl⟩ : ∃ m, k = m + 1 := ⟨k - 1, by omega⟩
    have p := piece_at ok j (by omega)
    have rl : rowsL xs (w * chan c) d j (n + 1) = rowS xs (w * chan c) d j :: rowsL xs (w * chan c) d (j + 1) n := by simp [rowsL, List.range'_succ]
    have q := fun ac => ih k (j + 1) ac (rowS xs (w * chan c) d j) (by omega)
    push_cast at q
    have slen : (smp xs (w * chan c) j).length ≤ 9223372036854775807 := by
      have := smp_len xs (w * chan c) j b.1 (by omega) p.2
      omega
    rw [spec_l15Rows.l0, if_pos (by omega), w64 (x := (j : Int) * (w * chan c)) (by omega) (by omega), w64 (x := (j : Int) * (w * chan c) + w * chan c) (by omega) (by omega), if_pos p.1, if_pos (by omega), if_pos p.2,
      show ((xs.take ((j : Int) * (w * chan c) + w * chan c).toNat).drop ((j : Int) * (w * chan c)).toNat) = smp xs (w * chan c) j from rfl,
      spec_PackRow_eq _ slen d k (by omega), Option.bind_some, show (packRow (smp xs (w * chan c) j) d).1 = rowS xs (w * chan c) d j from rfl, rl, scanL]
    generalize rowS xs (w * chan c) d j = row at q ⊢
    by_cases h5 : m = 5
    · rw [if_pos h5, if_pos h5, spec_l15Unit_eq c d ok.hd k (by omega), Option.bind_some, spec_BestFilter_val _ _ _ k (by omega), Option.bind_some, Option.bind_some,
        show (bestV row above (unitV c d) 5 0 0 (-1)).1 = bestF row above (unitV c d) from rfl, spec_FilterRow_eq _ _ _ _ k (by omega), Option.bind_some]
      generalize bestF row above (unitV c d) = f
      have sz := filterRow_size f row above (unitV c d)
      rw [if_pos (by omega), Option.bind_some, if_pos (by omega), Option.bind_some, if_pos (by rw [List.length_append, bytesOf_len]; simp only [List.length_cons, List.length_nil]; omega), w64 (x := (j : Int) + 1) (by omega) (by omega),
        q _ (by simp only [List.length_append, List.length_cons, List.length_nil, bytesOf_len]; omega) (by omega)]
      simp
    · rw [if_neg h5, if_neg h5, spec_l15Unit_eq c d ok.hd k (by omega), Option.bind_some, spec_FilterRow_eq _ _ _ _ k (by omega), Option.bind_some]
      have sz := filterRow_size m row above (unitV c d)
      rw [if_pos (by omega), Option.bind_some, if_pos (by omega), Option.bind_some, if_pos (by rw [List.length_append, bytesOf_len]; simp only [List.length_cons, List.length_nil]; omega), w64 (x := (j : Int) + 1) (by omega) (by omega),
        q _ (by simp only [List.length_append, List.length_cons, List.length_nil, bytesOf_len]; omega) (by omega)]
      simp
theorem spec_l15Rows_eq {w h c d : Int} {xs : List Int} (ok : PieceOk w h c d xs) (m : Int) (k : Nat) (hk : 7000 ≤ k) : spec_l15Rows.f k w h c d xs m = some (strOfNums (pieceL w h c d xs m)) := by
  have b := piece_bd ok
  have hh := ok.hh
  have z := piece_Z ok
  have e := depth_bd ok.hd
  have b3 := mul_bd b.1 b.2.1 (show 0 ≤ d by omega) e.2
  unfold spec_l15Rows.f
  rw [spec_ChannelsOf_eq k (by omega), Option.bind_some, w64 (x := w * chan c) (by omega) (by omega), w64 (x := w * chan c * d) (by omega) (by omega), w64 (x := w * chan c * d + 7) (by omega) (by omega),
    Int.tdiv_eq_ediv_of_nonneg (by omega), w64 (by omega) (by omega)]
  have up : (w * chan c * d + 7) / 8 = ((upN ((w * chan c).toNat * d.toNat) : Nat) : Int) := by
    unfold upN
    have e1 : (((w * chan c).toNat * d.toNat : Nat) : Int) = w * chan c * d := by
      rw [Int.natCast_mul, Int.toNat_of_nonneg b.1, Int.toNat_of_nonneg (by omega)]
    omega
  rw [up, spec_l01Long_eq _ (by unfold upN; omega) k (by unfold upN; omega), Option.bind_some]
  have q := spec_rows_l0 ok m h.toNat k 0 [] (zeroS (upN ((w * chan c).toNat * d.toNat))) (by omega) (by simp; omega) (by omega)
  rw [show ((0 : Nat) : Int) = 0 from rfl] at q
  exact q

theorem spec_ScanOf_l0 (m : Int) (ps : List S29) (ok : PartsOk ps) (n : Nat) : ∀ (k i : Nat) (ys : List Int), i ≤ ps.length → ps.length - i = n → ys.length + 5000 * n ≤ 1000000 → 7000 + n ≤ k →
    spec_ScanOf.l0 k m ps (strOfNums ys) i = some (strOfNums (ys ++ (ps.drop i).flatMap (pieceT m)), true) := by
  have pl := ok.1
  induction n with
  | zero =>
    intro k i ys hi hn hy hk
    obtain ⟨k, rfl⟩ : ∃ m, k = m + 1 := ⟨k - 1, by omega⟩
    simp only [spec_ScanOf.l0]
    rw [if_neg (by omega), List.drop_eq_nil_of_le (by omega)]; simp
  | succ n ih =>
    intro k i ys hi hn hy hk
    obtain ⟨k, rfl⟩ : ∃ m, k = m + 1 := ⟨k - 1, by omega⟩
    have hk7 : 7000 ≤ k ∧ 7000 + n ≤ k := by clear hy; omega
    have hi' : i < ps.length := by clear hy; omega
    have e : rd_T29 ps (i : Int) = ps[i] := by simp [rd_T29, List.getD, hi']
    have po := ok.2 _ (List.getElem_mem hi')
    have pn := parts_ar hy (piece_len po m)
    rw [spec_ScanOf.l0, if_pos (by omega), if_pos (by omega), e, spec_l15Rows_eq po m k hk7.1, Option.bind_some, if_pos (by rw [strOfNums_size, strOfNums_size]; exact Nat.le_trans pn.1 (by decide)), w64 (x := (i : Int) + 1) (by omega) (by omega), str_append]
    have q := ih k (i + 1) (ys ++ pieceT m ps[i]) (by omega) (by omega) (by rw [List.length_append]; exact pn.2) hk7.2
    push_cast at q
    rw [show pieceL ps[i].f0 ps[i].f1 ps[i].f2 ps[i].f3 ps[i].f4 m = pieceT m ps[i] from rfl, q, List.drop_eq_getElem_cons hi', List.flatMap_cons, List.append_assoc]
theorem spec_ScanOf_eq (w h c d : Int) (xs : List Int) (lace : Bool) (m : Int) (hx : xs.length ≤ 9223372036854775807) (k : Nat) (hk : 8000 ≤ k) (hk2 : xs.length + 70 ≤ k) : spec_ScanOf.f k w h c d xs lace m = some (scanV w h c d xs lace m) := by
  unfold spec_ScanOf.f scanV
  rw [spec_RasterOk_eq w h c d xs hx k hk2, Option.bind_some]
  have j1 : ∀ b : Bool, b = true → spec_ScanOf.j0 k lace m b w h c d xs = some (⟨#[]⟩, false) := by
    intro b hb
    obtain ⟨k, rfl⟩ : ∃ m, k = m + 1 := ⟨k - 1, by omega⟩
    simp only [spec_ScanOf.j0]
    rw [if_pos hb]
  by_cases ok : rasterOk w h c d xs = true
  · rw [if_pos ok, spec_l01In_eq, Option.bind_some, ok, Bool.true_and]
    by_cases hm : (decide (0 ≤ m) && decide (m ≤ 5)) = true
    · rw [hm, if_pos rfl]
      have po := parts_ok ok lace
      obtain ⟨k, rfl⟩ : ∃ m, k = m + 1 := ⟨k - 1, by omega⟩
      simp only [spec_ScanOf.j0]
      rw [if_neg (by decide)]
      have pe : spec_l15Parts.f k w h c d xs lace = some (partsL w h c d xs lace) := by
        unfold spec_l15Parts.f partsL
        by_cases hl : lace = true
        · rw [if_pos hl, if_pos hl, spec_l14Passes_eq w h c d xs ok k (by omega), Option.bind_some]
        · rw [if_neg hl, if_neg hl]
      rw [pe, Option.bind_some]
      have q := spec_ScanOf_l0 m _ po (partsL w h c d xs lace).length k 0 [] (by omega) (by omega) (by have := po.1; simp; omega) (by have := po.1; omega)
      rw [show ((0 : Nat) : Int) = 0 from rfl, ← str_nil] at q
      exact q
    · rw [if_neg hm, Bool.eq_false_iff.mpr hm]
      exact j1 _ rfl
  · rw [if_neg ok, j1 _ rfl, Bool.eq_false_iff.mpr ok]
    rfl

theorem shl_one (n : Int) (h0 : 0 ≤ n) (h62 : n ≤ 62) : shl .i64 1 n = p2 n := by
  have b1 := p2_pos n
  have b2 := p2_62 h62
  unfold shl
  rw [show min n.toNat IntKind.i64.bits = n.toNat by simp [IntKind.bits]; omega, Int.one_mul, IntKind.wrap_i64]
  show (p2 n + 9223372036854775808) % 18446744073709551616 - 9223372036854775808 = p2 n
  omega
theorem impl_powerOf_eq (n : Int) : impl_powerOf.f n = some (if 0 ≤ n ∧ n ≤ 62 then p2 n else 0) := by
  unfold impl_powerOf.f
  rw [impl_within_eq]
  simp only [Option.bind_some]
  by_cases h0 : 0 ≤ n
  · by_cases h1 : n ≤ 62
    · simp [h0, h1, shl_one n h0 h1]
    · simp [h0, h1]
  · simp [h0]

theorem impl_samplesOk_l0 (n : Int) (h0 : 0 ≤ n) (h1 : n ≤ 62) (xs : List Int) (hx : xs.length ≤ 9223372036854775807) (d : Nat) : ∀ (k i : Nat), i ≤ xs.length → xs.length - i = d → d < k → impl_samplesOk.l0 k n xs xs.length i = some ((xs.drop i).all (inB (p2 n - 1))) := by
  induction d with
  | zero =>
    intro k i hi hd hk
    obtain ⟨k, rfl⟩ : ∃ m, k = m + 1 := ⟨k - 1, by omega⟩
    simp only [impl_samplesOk.l0]
    rw [if_neg (by omega), drop_all_end _ _ _ (by omega)]
  | succ d ih =>
    intro k i hi hd hk
    obtain ⟨k, rfl⟩ : ∃ m, k = m + 1 := ⟨k - 1, by omega⟩
    have lt : i < xs.length := by omega
    have b1 := p2_pos n
    have b2 := p2_62 h1
    simp only [impl_samplesOk.l0, impl_powerOf_eq, Option.bind_some]
    rw [if_pos (by omega), if_pos (by omega), if_pos (by omega), if_pos ⟨h0, h1⟩, w64 (x := p2 n - 1) (by omega) (by omega), impl_within_eq, rd_at xs i lt, w64 (by omega) (by omega), drop_all _ _ _ lt]
    simp only [Option.bind_some]
    have step := ih k (i + 1) (by omega) (by omega) (by omega)
    push_cast at step
    rw [step]
    unfold inB
    cases (decide (0 ≤ xs[i]) && decide (xs[i] ≤ p2 n - 1)) <;> simp
theorem impl_samplesOk_eq (n : Int) (h0 : 0 ≤ n) (h1 : n ≤ 62) (xs : List Int) (hx : xs.length ≤ 9223372036854775807) (k : Nat) (hk : xs.length < k) : impl_samplesOk.f k xs n = some (xs.all (inB (p2 n - 1))) := by
  unfold impl_samplesOk.f
  have := impl_samplesOk_l0 n h0 h1 xs hx xs.length k 0 (by omega) (by omega) hk
  simpa using this

theorem impl_isDepth_eq (d : Int) : impl_isDepth.f d = some (smallD d || bigD d) := by
  simp only [impl_isDepth.f, smallD, bigD]
  by_cases h1 : d = 1
  · simp [h1]
  by_cases h2 : d = 2
  · simp [h2]
  by_cases h4 : d = 4
  · simp [h4]
  by_cases h8 : d = 8
  · simp [h8]
  · have e1 : (d == 1) = false := by simpa using h1
    have e2 : (d == 2) = false := by simpa using h2
    have e4 : (d == 4) = false := by simpa using h4
    have e8 : (d == 8) = false := by simpa using h8
    simp only [h1, h2, h4, h8, e1, e2, e4, e8, if_false, Bool.false_or]

theorem impl_up_eq' (n : Nat) (h : n ≤ 1000000) : impl_up.f n = some ((upN n : Nat) : Int) := by
  unfold impl_up.f
  rw [upB_w _ (by omega) (by omega)]
  unfold upB upN
  congr 1

/-- The first t bits alone. -/
def upto (f : Nat → Int) (t u : Nat) : Int := if u < t then f u else 0
theorem upto_bits {f : Nat → Int} (h : isBits f) (t : Nat) : isBits (upto f t) := fun u => by
  unfold upto; have := h u; split <;> omega
theorem upto_succ (f : Nat → Int) (t u : Nat) : upto f (t + 1) u = if u = t then f t else upto f t u := by
  unfold upto
  by_cases h : u = t
  · subst h; simp
  · rw [if_neg h]
    by_cases h2 : u < t
    · rw [if_pos (by omega), if_pos h2]
    · rw [if_neg (by omega), if_neg h2]
theorem byteV_other (f : Nat → Int) (t j : Nat) (h : j ≠ t / 8) : byteV (upto f (t + 1)) j = byteV (upto f t) j := by
  unfold byteV
  simp only [upto_succ]
  rw [if_neg (by omega), if_neg (by omega), if_neg (by omega), if_neg (by omega), if_neg (by omega), if_neg (by omega), if_neg (by omega), if_neg (by omega)]
/-- A bit put into its byte: there was none. -/
theorem byteV_or {f : Nat → Int} (hf : isBits f) (t : Nat) : Go.bits .or .u8 (byteV (upto f t) (t / 8)) (f t * 2 ^ (7 - t % 8)) = byteV (upto f (t + 1)) (t / 8) := by
  have hb := byteV_bd (upto_bits hf t) (t / 8)
  have ft := hf t
  have u8 : ∀ n : Int, 0 ≤ n → n < 2 ^ 8 → IntKind.u8.wrap n = n := wraps_u8
  obtain ⟨q, m, rfl, hm⟩ : ∃ q m, t = 8 * q + m ∧ m < 8 := ⟨t / 8, t % 8, by omega, by omega⟩
  have e1 : (8 * q + m) / 8 = q := by omega
  have e2 : (8 * q + m) % 8 = m := by omega
  rw [e1] at hb ⊢
  rw [e2]
  have past : ∀ u, 8 * q + m ≤ u → upto f (8 * q + m) u = 0 := fun u hu => by unfold upto; rw [if_neg (by omega)]
  have key : byteV (upto f (8 * q + m)) q % 2 ^ (8 - m) = 0 ∧ byteV (upto f (8 * q + m + 1)) q = byteV (upto f (8 * q + m)) q + f (8 * q + m) * 2 ^ (7 - m) := by
    unfold byteV
    simp only [upto_succ]
    have : m = 0 ∨ m = 1 ∨ m = 2 ∨ m = 3 ∨ m = 4 ∨ m = 5 ∨ m = 6 ∨ m = 7 := by omega
    rcases this with rfl | rfl | rfl | rfl | rfl | rfl | rfl | rfl
    all_goals
      try rw [past (8 * q) (by omega)]
      try rw [past (8 * q + 1) (by omega)]
      try rw [past (8 * q + 2) (by omega)]
      try rw [past (8 * q + 3) (by omega)]
      try rw [past (8 * q + 4) (by omega)]
      try rw [past (8 * q + 5) (by omega)]
      try rw [past (8 * q + 6) (by omega)]
      rw [past (8 * q + 7) (by omega)]
      simp
      try omega
  have hlt : f (8 * q + m) * 2 ^ (7 - m) < 2 ^ (8 - m) ∧ f (8 * q + m) * 2 ^ (7 - m) < 2 ^ 8 ∧ 0 ≤ f (8 * q + m) * 2 ^ (7 - m) := by
    have : m = 0 ∨ m = 1 ∨ m = 2 ∨ m = 3 ∨ m = 4 ∨ m = 5 ∨ m = 6 ∨ m = 7 := by omega
    rcases this with rfl | rfl | rfl | rfl | rfl | rfl | rfl | rfl <;> simp at ft ⊢ <;> omega
  rw [bits_join .u8 8 (by decide) u8 (8 - m) _ _ hb.1 key.1 (by omega) hlt.2.2 hlt.1 hlt.2.1, key.2]
theorem bytesV_set {f : Nat → Int} (hf : isBits f) (N t : Nat) (h : t / 8 < N) : (bytesV (upto f t) N).set (t / 8) (Go.bits .or .u8 (byteV (upto f t) (t / 8)) (f t * 2 ^ (7 - t % 8))) = bytesV (upto f (t + 1)) N := by
  rw [byteV_or hf]
  apply List.ext_getElem?
  intro j
  by_cases e : j = t / 8
  · subst e
    rw [List.getElem?_set_self (by rw [bytesV_len]; exact h)]
    simp [bytesV, h]
  · rw [List.getElem?_set_ne (by omega)]
    simp only [bytesV, List.getElem?_map]
    by_cases hj : j < N
    · rw [List.getElem?_range hj]
      simp only [Option.map_some]
      rw [byteV_other f t j e]
    · rw [List.getElem?_eq_none (by simp; omega)]; rfl
theorem bytesV_zero (f : Nat → Int) (N : Nat) : bytesV (upto f 0) N = List.replicate N 0 := by
  have e : ∀ u, upto f 0 u = 0 := fun u => by unfold upto; rw [if_neg (by omega)]
  apply List.ext_getElem (by simp [bytesV])
  intro j h1 h2
  simp [bytesV, byteV, e]
theorem bytesV_all (xs : List Int) (D N : Nat) : bytesV (upto (bitF xs D) (xs.length * D)) N = bytesV (bitF xs D) N := by
  have e : upto (bitF xs D) (xs.length * D) = bitF xs D := by
    funext u
    unfold upto
    split
    · rfl
    · rw [bitF_past xs D u (by omega)]
  rw [e]
theorem impl_bit (x : Int) (hx : 0 ≤ x ∧ x ≤ 1000000) (c m : Nat) (hc : c ≤ 15) (hm : m ≤ 7) : shl .u8 ((Go.bits .and .i64 (shr .i64 x (c : Int)) 1) % 256) (m : Int) = x / 2 ^ c % 2 * 2 ^ m := by
  have e1 : shr .i64 x (c : Int) = x / 2 ^ c := by
    unfold shr
    rw [show min (c : Int).toNat IntKind.i64.bits = c by simp [IntKind.bits]; omega]
  have b := p2_pos (c : Int)
  have q : 0 ≤ x / 2 ^ c ∧ x / 2 ^ c ≤ 1000000 := ⟨Int.ediv_nonneg hx.1 (by exact_mod_cast Nat.zero_le _), Int.le_trans (Int.ediv_le_self _ hx.1) hx.2⟩
  have e2 : Go.bits .and .i64 (x / 2 ^ c) 1 = x / 2 ^ c % 2 := by
    have := bits_mask .i64 62 (by decide) (fun n h0 h1 => by rw [IntKind.wrap_i64]; omega) 1 (by omega) (x / 2 ^ c) q.1 (by omega)
    simpa using this
  rw [e1, e2]
  unfold shl
  rw [show min (m : Int).toNat IntKind.u8.bits = m by simp [IntKind.bits]; omega, IntKind.wrap_u8, show x / 2 ^ c % 2 % 256 = x / 2 ^ c % 2 by omega]
  have hb : 0 ≤ x / 2 ^ c % 2 ∧ x / 2 ^ c % 2 ≤ 1 := by omega
  have : m = 0 ∨ m = 1 ∨ m = 2 ∨ m = 3 ∨ m = 4 ∨ m = 5 ∨ m = 6 ∨ m = 7 := by omega
  rcases this with rfl | rfl | rfl | rfl | rfl | rfl | rfl | rfl <;> simp <;> omega
theorem impl_PackRow_l1 (xs : List Int) (D : Nat) (hD : 1 ≤ D ∧ D ≤ 16) (i : Nat) (hi : i < xs.length) (hn : xs.length ≤ 96) (hx : 0 ≤ xs[i] ∧ xs[i] ≤ 1000000) (r : Nat) : ∀ (k : Nat), r ≤ D → r < k →
    impl_PackRow.l1 k D (bytesV (upto (bitF xs D) (i * D + (D - r))) (upN (xs.length * D))) i xs[i] xs xs.length i D ((D - r : Nat) : Int) = impl_PackRow.l0 (k - r - 1) D (bytesV (upto (bitF xs D) ((i + 1) * D)) (upN (xs.length * D))) xs xs.length (i + 1 : Nat) := by
  have top : (i + 1) * D ≤ xs.length * D := Nat.mul_le_mul_right _ hi
  have lim : xs.length * D ≤ 96 * 16 := Nat.mul_le_mul hn hD.2
  have topi : (i + 1) * D = i * D + D := Nat.succ_mul _ _
  induction r with
  | zero =>
    intro k hr hk
    obtain ⟨k, rfl⟩ : ∃ m, k = m + 1 := ⟨k - 1, by omega⟩
    simp only [impl_PackRow.l1]
    rw [if_neg (by omega), w64 (by omega) (by omega), Nat.sub_zero, ← topi]
    rfl
  | succ r ih =>
    intro k hr hk
    obtain ⟨k, rfl⟩ : ∃ m, k = m + 1 := ⟨k - 1, by omega⟩
    obtain ⟨c, hc⟩ : ∃ c, c = D - (r + 1) := ⟨_, rfl⟩
    rw [← hc]
    have q := bitF_at xs D i c hi (by omega)
    have t8 : (i * D + c) / 8 < upN (xs.length * D) := by unfold upN; omega
    have iD : (i : Int) * (D : Int) = ((i * D : Nat) : Int) := by push_cast; rfl
    have ix : Int.tdiv ((i * D : Nat) + (c : Int)) 8 = ((i * D + c) / 8 : Nat) := by rw [Int.tdiv_eq_ediv_of_nonneg (by omega)]; omega
    have rx : Int.tmod ((i * D : Nat) + (c : Int)) 8 = ((i * D + c) % 8 : Nat) := by rw [Int.tmod_eq_emod_of_nonneg (by omega)]; omega
    have bit := impl_bit xs[i] hx (D - 1 - c) (7 - (i * D + c) % 8) (by omega) (by omega)
    rw [← q] at bit
    simp only [impl_PackRow.l1]
    rw [iD, w64 (x := ((i * D : Nat) : Int)) (by omega) (by omega), w64 (x := ((i * D : Nat) : Int) + c) (by omega) (by omega), ix, rx, w64 (x := (((i * D + c) / 8 : Nat) : Int)) (by omega) (by omega), w64 (x := (D : Int) - 1) (by omega) (by omega), w64 (x := (D : Int) - 1 - c) (by omega) (by omega), w64 (x := 7 - (((i * D + c) % 8 : Nat) : Int)) (by omega) (by omega), w64 (x := (c : Int) + 1) (by omega) (by omega)]
    rw [if_pos (by omega), if_pos (by omega), bytesV_len, if_pos (by omega), if_pos (by omega), if_pos (by omega), show (D : Int) - 1 - (c : Int) = ((D - 1 - c : Nat) : Int) by omega, show (7 : Int) - (((i * D + c) % 8 : Nat) : Int) = ((7 - (i * D + c) % 8 : Nat) : Int) by omega, bit, bytesV_get _ _ _ t8, Int.toNat_natCast, bytesV_set (bitF_bd xs D) _ _ t8]
    have e := ih k (by omega) (by omega)
    rw [show D - r = c + 1 by omega, ← Nat.add_assoc] at e
    push_cast at e ⊢
    rw [e, show k - r - 1 = k + 1 - (r + 1) - 1 by omega]
theorem impl_PackRow_l0 (xs : List Int) (D : Nat) (hD : 1 ≤ D ∧ D ≤ 16) (hn : xs.length ≤ 96) (ha : ∀ x ∈ xs, 0 ≤ x ∧ x ≤ 1000000) (d : Nat) : ∀ (k i : Nat), i ≤ xs.length → xs.length - i = d → d * 20 + 1 ≤ k →
    impl_PackRow.l0 k D (bytesV (upto (bitF xs D) (i * D)) (upN (xs.length * D))) xs xs.length i = some (strOfNums (bytesV (bitF xs D) (upN (xs.length * D))), true) := by
  induction d with
  | zero =>
    intro k i hi hd hk
    obtain ⟨k, rfl⟩ : ∃ m, k = m + 1 := ⟨k - 1, by omega⟩
    obtain rfl : i = xs.length := by omega
    simp only [impl_PackRow.l0]
    rw [if_neg (by omega), bytesV_all]
  | succ d ih =>
    intro k i hi hd hk
    obtain ⟨k, rfl⟩ : ∃ m, k = m + 1 := ⟨k - 1, by omega⟩
    have lt : i < xs.length := by omega
    have s1 := impl_PackRow_l1 xs D hD i lt hn (ha _ (List.getElem_mem lt)) D k (by omega) (by omega)
    rw [Nat.sub_self, Nat.add_zero] at s1
    simp only [impl_PackRow.l0]
    rw [if_pos (by omega), if_pos (by omega), if_pos (by omega), rd_at xs i lt]
    exact s1.trans (ih (k - D - 1) (i + 1) (by omega) (by omega) (by omega))
theorem all_inB {m : Int} {xs : List Int} (h : xs.all (inB m) = true) : ∀ x ∈ xs, 0 ≤ x ∧ x ≤ m := by
  intro x hx
  have := List.all_eq_true.1 h x hx
  simpa [inB] using this
theorem impl_PackRow_eq (xs : List Int) (hx : xs.length ≤ 9223372036854775807) (d : Int) (k : Nat) (hk : 5000 ≤ k) : impl_PackRow.f k xs d = some (packRow xs d) := by
  unfold impl_PackRow.f packRow
  rw [impl_isDepth_eq]
  simp only [Option.bind_some]
  change (if depthB d = true then _ else _) = _
  obtain ⟨k, rfl⟩ : ∃ m, k = m + 1 := ⟨k - 1, by omega⟩
  have no : impl_PackRow.j0 (k + 1) xs d true = some (⟨#[]⟩, false) := by simp [impl_PackRow.j0]
  by_cases hd : depthB d = true
  · obtain ⟨D, rfl, hD⟩ := depthB_nat hd
    rw [if_pos hd, no]
    by_cases hn : xs.length ≤ 96
    · have lim : xs.length * D ≤ 96 * 16 := Nat.mul_le_mul hn (by omega)
      have b16 := p2_16 (n := (D : Int)) (by omega)
      rw [if_neg (by omega), impl_samplesOk_eq (D : Int) (by omega) (by omega) xs hx _ (by omega)]
      simp only [Option.bind_some, hd, hn, decide_true, Bool.true_and, Int.toNat_natCast]
      by_cases ha : xs.all (inB (p2 D - 1)) = true
      · have ha' := all_inB ha
        have iD : (xs.length : Int) * (D : Int) = ((xs.length * D : Nat) : Int) := by push_cast; rfl
        rw [ha]
        simp only [impl_PackRow.j0, Bool.not_true]
        rw [if_neg (by decide), if_pos trivial, iD, w64 (by omega) (by omega), impl_up_eq' _ (by omega)]
        simp only [Option.bind_some, Int.toNat_natCast]
        rw [if_pos (by omega), if_pos (by unfold upN; omega), ← bytesV_zero (bitF xs D)]
        have R := impl_PackRow_l0 xs D (by omega) hn (fun x hx => by have := ha' x hx; omega) xs.length k 0 (by omega) (by omega) (by omega)
        rw [Nat.zero_mul] at R
        exact R
      · have ha' : xs.all (inB (p2 D - 1)) = false := by simpa using ha
        rw [ha', Bool.not_false, no]; rfl
    · rw [if_pos (by omega)]
      simp [hn]
  · rw [if_neg hd, no]
    simp [hd]

theorem impl_DepthOk_eq (k : Nat) (hk : 1 ≤ k) (c d : Int) : impl_DepthOk.f k c d = some (dok c d) := by
  have h8 : (if d = 8 then some true else some (d == 16)) = some (bigD d) := by unfold bigD; by_cases h : d = 8 <;> simp [h]
  simp only [impl_DepthOk.f, impl_isDepth_eq, impl_ChannelsOf_eq k hk, Option.bind_some, dok, h8]
  by_cases h0 : c = 0
  · simp [h0]
  by_cases h3 : c = 3
  · subst h3
    simp only [show ¬ ((3 : Int) = 0) by decide, if_true, if_false]
    unfold smallD bigD
    by_cases h1 : d = 1
    · simp [h1]
    by_cases h2 : d = 2
    · simp [h2]
    by_cases h4 : d = 4
    · simp [h4]
    by_cases h8 : d = 8
    · simp [h8]
    by_cases h16 : d = 16
    · simp [h16]
    · simp [h1, h2, h4, h8, h16]
  · simp only [h0, h3, chan, if_false]
    by_cases h2 : c = 2
    · simp [h2]
    by_cases h4 : c = 4
    · simp [h4]
    by_cases h6 : c = 6
    · simp [h6]
    · simp [h2, h4, h6]

theorem impl_RasterOk_eq (w h c d : Int) (xs : List Int) (hx : xs.length ≤ 9223372036854775807) (k : Nat) (hk : xs.length + 3 ≤ k) : impl_RasterOk.f k w h c d xs = some (rasterOk w h c d xs) := by
  obtain ⟨k, rfl⟩ : ∃ m, k = m + 1 := ⟨k - 1, by omega⟩
  have no : impl_RasterOk.j0 (k + 1) true w h c d xs = some false := by simp [impl_RasterOk.j0]
  unfold impl_RasterOk.f rasterOk
  simp only [impl_isSide_eq, impl_DepthOk_eq (k + 1) (by omega), Option.bind_some, no]
  by_cases hw : sideB w = true
  · by_cases hh : sideB h = true
    · by_cases hd : dok c d = true
      · have b := wh_bd (c := c) hw hh
        have bd := dok_bd hd
        simp only [hw, hh, hd, if_true, Bool.true_and, Bool.not_true, impl_RasterOk.j0]
        rw [if_neg (by decide), impl_ChannelsOf_eq k (by omega)]
        simp only [Option.bind_some]
        rw [w64 (x := w * h) (by omega) (by omega), w64 (x := w * h * chan c) (by omega) (by omega), impl_samplesOk_eq d (by omega) (by omega) xs hx k (by omega)]
        by_cases hl : (xs.length : Int) = w * h * chan c
        · simp [hl]
        · simp [hl]
      · simp [hw, hh, hd, no]
    · simp [hw, hh]
  · simp [hw]

theorem impl_pixels_l1 {dx : Int} (hd : power2 dx) (w h x dy r : Int) (hw : 1 ≤ w ∧ w ≤ 24) (hr : 0 ≤ r ∧ r ≤ 24) (m : Nat) : ∀ (k : Nat) (acc : List Int) (c : Int), 0 ≤ c → (m : Int) = cnt w c dx → acc.length + m ≤ 1000000 → (hdy : 0 ≤ dy ∧ dy ≤ 8) →
    impl_pixelsOf.l1 (k + m + 1) w h x dx dy acc r c = impl_pixelsOf.l0 k w h x dx dy (acc ++ rowPl (r * w + c) dx m) (r + dy) := by
  induction m with
  | zero =>
    intro k acc c hc hm ha hdy
    have ge : ¬ c < w := by
      intro lt
      have := cnt_step hd lt
      have : 0 ≤ cnt w (c + dx) dx := by
        have h0 : 0 ≤ c + dx := by rcases hd with rfl | rfl | rfl | rfl <;> omega
        exact (cnt_bd hd h0 hw.2).1
      omega
    simp only [Nat.add_zero, impl_pixelsOf.l1]
    rw [if_neg ge, w64 (x := r + dy) (by omega) (by omega)]
    simp [rowPl]
  | succ m ih =>
    intro k acc c hc hm ha hdy
    have lt : c < w := by
      by_cases h : c < w
      · exact h
      · rw [cnt_done h] at hm; omega
    have st := cnt_step hd lt
    have hdx : 0 ≤ dx ∧ dx ≤ 8 := by rcases hd with rfl | rfl | rfl | rfl <;> omega
    have b := mul_bd hr.1 hr.2 (show 0 ≤ w by omega) hw.2
    obtain ⟨K, hK⟩ : ∃ K, K = k + m + 1 := ⟨_, rfl⟩
    rw [show k + (m + 1) + 1 = K + 1 from by omega]
    simp only [impl_pixelsOf.l1]
    rw [if_pos lt, if_pos (by omega), w64 (x := r * w) (by omega) (by omega), w64 (x := r * w + c) (by omega) (by omega), w64 (x := c + dx) (by omega) (by omega),
      hK, ih k _ (c + dx) (by omega) (by push_cast at hm; omega) (by simp; omega) hdy]
    simp [rowPl, Int.add_assoc]
theorem impl_pixels_l0 {dx dy : Int} (hd : power2 dx) (he : power2 dy) (w h x : Int) (hw : 1 ≤ w ∧ w ≤ 24) (hh : h ≤ 24) (hx : 0 ≤ x) (n : Nat) : ∀ (k : Nat) (acc : List Int) (r : Int), 0 ≤ r → (n : Int) = cnt h r dy → acc.length + 24 * n ≤ 1000000 → n * 26 + 1 ≤ k →
    impl_pixelsOf.l0 k w h x dx dy acc r = some (acc ++ gridPl w dx dy x (cnt w x dx).toNat n r) := by
  have hdy : 0 ≤ dy ∧ dy ≤ 8 := by rcases he with rfl | rfl | rfl | rfl <;> omega
  have cb := cnt_bd (n := w) hd hx hw.2
  induction n with
  | zero =>
    intro k acc r hr hn ha hk
    obtain ⟨k, rfl⟩ : ∃ m, k = m + 1 := ⟨k - 1, by omega⟩
    have ge : ¬ r < h := by
      intro lt
      have := cnt_step he lt
      have : 0 ≤ cnt h (r + dy) dy := (cnt_bd he (by omega) hh).1
      omega
    simp only [impl_pixelsOf.l0]
    rw [if_neg ge]; simp [gridPl]
  | succ n ih =>
    intro k acc r hr hn ha hk
    obtain ⟨k, rfl⟩ : ∃ m, k = m + (cnt w x dx).toNat + 1 + 1 := ⟨k - (cnt w x dx).toNat - 2, by omega⟩
    have lt : r < h := by
      by_cases h2 : r < h
      · exact h2
      · rw [cnt_done h2] at hn; omega
    have st := cnt_step he lt
    simp only [impl_pixelsOf.l0]
    rw [if_pos lt, impl_pixels_l1 hd w h x dy r hw (by omega) _ k acc x hx (by omega) (by omega) hdy,
      ih k _ (r + dy) (by omega) (by push_cast at hn; omega) (by rw [List.length_append, rowPl_len]; omega) (by omega)]
    simp [gridPl]
theorem impl_pixelsOf_eq {w h p : Int} (hw : sideB w = true) (hh : sideB h = true) (hp : passB p = true) (k : Nat) (hk : 700 ≤ k) :
    impl_pixelsOf.f k w h p = some (gridPl w (pstep p).2.2.1 (pstep p).2.2.2 (pstep p).1 (psize w h p).1.toNat (psize w h p).2.toNat (pstep p).2.1) := by
  unfold impl_pixelsOf.f
  rw [impl_PassStep_eq]
  simp only [Option.bind_some]
  have b := pstep_bd hp
  have hw' := (sideB_iff w).mp hw
  have hh' := (sideB_iff h).mp hh
  have b2 := cnt_bd (n := h) b.2.2.2.2.2.1 b.2.2.1 hh'.2
  rw [impl_pixels_l0 b.2.2.2.2.1 b.2.2.2.2.2.1 w h _ hw' hh'.2 b.1 (cnt h (pstep p).2.1 (pstep p).2.2.2).toNat k [] _ b.2.2.1 (by omega) (by simp; omega) (by omega), grid_eq hw hh hp]
  rfl
theorem impl_passes_l1 (x4 : List S29) (n p : Int) (P : List Int) (w h c d : Int) (xs : List Int) (z0 z1 z2 z3 : Int) (hx4 : x4.length ≤ 7) (hp : 0 ≤ p ∧ p ≤ 7) (hn : 0 ≤ n ∧ n ≤ 4) (hxs : xs.length ≤ 2304) (hP : P.length ≤ 576) (hb : ∀ a ∈ P, 0 ≤ a ∧ 0 ≤ a * n ∧ a * n + n ≤ xs.length) (m : Nat) : ∀ (k i : Nat) (acc : List Int), i ≤ P.length → P.length - i = m → acc.length + 4 * m ≤ 1000000 →
    impl_PassesOf.l1 (k + m + 1) x4 n p P P.length i w h c d xs z0 z1 z2 z3 acc = impl_PassesOf.l0 k (x4 ++ [⟨z0, z1, z2, z3, acc ++ (P.drop i).flatMap (smp xs n)⟩]) n (p + 1) w h c d xs := by
  induction m with
  | zero =>
    intro k i acc hi hm ha
    simp only [Nat.add_zero, impl_PassesOf.l1]
    rw [if_neg (by omega), if_pos (by omega), w64 (x := p + 1) (by omega) (by omega), List.drop_eq_nil_of_le (by omega)]
    simp
  | succ m ih =>
    intro k i acc hi hm ha
    have hi' : i < P.length := by omega
    have e : rd P i = P[i] := rd_at P i hi'
    obtain ⟨b1, b2, b3⟩ := hb P[i] (List.getElem_mem hi')
    have b4 : P[i] ≤ 1000000 ∨ n = 0 := by
      by_cases z : n = 0
      · exact Or.inr z
      · left
        have := Int.mul_le_mul_of_nonneg_left (show 1 ≤ n by omega) b1
        omega
    have b5 : P[i] * n + n = (P[i] + 1) * n := by rw [Int.add_mul, Int.one_mul]
    have wq : wrap64 (wrap64 (P[i] + 1) * n) = P[i] * n + n := by
      rcases b4 with b4 | z
      · rw [w64 (x := P[i] + 1) (by omega) (by omega), b5, w64 (by omega) (by omega)]
      · rw [z]; simp [wrap64]
    obtain ⟨K, hK⟩ : ∃ K, K = k + m + 1 := ⟨_, rfl⟩
    rw [show k + (m + 1) + 1 = K + 1 from by omega]
    simp only [impl_PassesOf.l1]
    have ll : acc.length + ((xs.take (P[i] * n + n).toNat).drop (P[i] * n).toNat).length < 17592186044416 := by
      simp only [List.length_drop, List.length_take]; omega
    have sl : (smp xs n P[i]).length = n.toNat := smp_len xs n _ hn.1 b1 b3
    rw [if_pos (by omega), if_pos (by omega), if_pos (by omega), e, w64 (x := P[i] * n) (by omega) (by omega), wq, if_pos b2, if_pos (by omega), if_pos b3, if_pos ll,
      w64 (x := (i : Int) + 1) (by omega) (by omega)]
    have q := ih k (i + 1) (acc ++ smp xs n P[i]) (by omega) (by omega) (by rw [List.length_append, sl]; omega)
    push_cast at q
    rw [show ((xs.take (P[i] * n + n).toNat).drop (P[i] * n).toNat) = smp xs n P[i] from rfl, hK, q, List.drop_eq_getElem_cons hi', List.flatMap_cons, List.append_assoc]
theorem passes_ar {q k P : Nat} (h : (q + 1) * 600 + 800 ≤ k + P + 1 + 1) (hP : P ≤ 576) : q * 600 + 800 ≤ k := by
  rw [Nat.succ_mul] at h
  generalize q * 600 = z at h ⊢
  omega
theorem impl_passes_l0 (w h c d : Int) (xs : List Int) (ok : rasterOk w h c d xs = true) (q : Nat) : ∀ (k p : Nat) (x4 : List S29), p + q = 7 → x4.length ≤ p → q * 600 + 800 ≤ k →
    impl_PassesOf.l0 k x4 (chan c) p w h c d xs = some (x4 ++ (List.range' p q).map (fun p : Nat => passL w h c d xs p), true) := by
  have ok2 := ok
  simp only [rasterOk, Bool.and_eq_true, decide_eq_true_eq] at ok2
  obtain ⟨⟨⟨⟨hw, hh⟩, hdk⟩, hl⟩, hall⟩ := ok2
  have bd := wh_bd (c := c) hw hh
  have cb := chan_bd c
  induction q with
  | zero =>
    intro k p x4 hp hx hk
    obtain ⟨k, rfl⟩ : ∃ m, k = m + 1 := ⟨k - 1, by omega⟩
    simp only [impl_PassesOf.l0]
    rw [if_neg (by omega)]; simp
  | succ q ih =>
    intro k p x4 hp hx hk
    have hp7 : p < 7 := by omega
    have pb := passB_nat hp7
    have sb := psize_bd hw hh pb
    have gb := grid_bd hw hh pb
    have gl := gridPl_len w (pstep p).2.2.1 (pstep p).2.2.2 (pstep p).1 (psize w h p).1.toNat (psize w h p).2.toNat (pstep p).2.1
    obtain ⟨k, rfl⟩ : ∃ m, k = m + 1 := ⟨k - 1, by omega⟩
    simp only [impl_PassesOf.l0]
    rw [if_pos (by omega), impl_PassSize_eq k (by omega), impl_pixelsOf_eq hw hh pb k (by omega)]
    simp only [Option.bind_some]
    have pl : passL w h c d xs p = ⟨(psize w h p).1, (psize w h p).2, c, d, [] ++ ((gridPl w (pstep p).2.2.1 (pstep p).2.2.2 (pstep p).1 (psize w h p).1.toNat (psize w h p).2.toNat (pstep p).2.1).drop 0).flatMap (smp xs (chan c))⟩ := rfl
    generalize hP : gridPl w (pstep p).2.2.1 (pstep p).2.2.2 (pstep p).1 (psize w h p).1.toNat (psize w h p).2.toNat (pstep p).2.1 = P at gb gl pl ⊢
    have hPl : P.length ≤ 576 := by
      rw [gl]
      exact Nat.mul_le_mul (show (psize w h p).1.toNat ≤ 24 by omega) (show (psize w h p).2.toNat ≤ 24 by omega)
    obtain ⟨k, rfl⟩ : ∃ m, k = m + P.length + 1 := ⟨k - P.length - 1, by omega⟩
    have s1 := impl_passes_l1 x4 (chan c) p P w h c d xs (psize w h p).1 (psize w h p).2 c d (by omega) (by omega) (by omega) (by omega) hPl (fun a ha => ⟨(gb a ha).1, plc_bd (gb a ha) (by omega) hl⟩) P.length k 0 [] (by omega) (by omega) (by simp; omega)
    rw [show ((0 : Nat) : Int) = 0 from rfl] at s1
    rw [s1, ← pl]
    have s2 := ih k (p + 1) (x4 ++ [passL w h c d xs p]) (by omega) (by rw [List.length_append]; exact Nat.add_le_add_right hx 1) (passes_ar hk hPl)
    push_cast at s2
    rw [s2, List.range'_succ]
    simp
theorem impl_PassesOf_eq (w h c d : Int) (xs : List Int) (hx : xs.length ≤ 9223372036854775807) (k : Nat) (hk : 6000 ≤ k) (hk2 : xs.length + 3 ≤ k) :
    impl_PassesOf.f k w h c d xs = some (if rasterOk w h c d xs then (passesL w h c d xs, true) else ([], false)) := by
  unfold impl_PassesOf.f
  rw [impl_RasterOk_eq w h c d xs hx k hk2]
  simp only [Option.bind_some]
  by_cases ok : rasterOk w h c d xs = true
  · rw [if_pos ok, if_pos ok, impl_ChannelsOf_eq k (by omega)]
    simp only [Option.bind_some]
    have := impl_passes_l0 w h c d xs ok 7 k 0 [] (by omega) (by simp) (by omega)
    rw [show ((0 : Nat) : Int) = 0 from rfl] at this
    rw [this]; rfl
  · rw [if_neg ok, if_neg ok]

theorem impl_unitOf_eq (c d : Int) (hd : depthB d = true) (k : Nat) (hk : 1 ≤ k) : impl_unitOf.f k c d = some (unitV c d) := by
  have b := unit_bd (c := c) hd
  unfold impl_unitOf.f
  rw [impl_ChannelsOf_eq k hk]
  simp only [Option.bind_some]
  rw [w64 (x := chan c * d) (by omega) (by omega), Int.tdiv_eq_ediv_of_nonneg b.1, w64 (by omega) (by omega)]
  rfl
theorem impl_rows_l0 {w h c d : Int} {xs : List Int} (ok : PieceOk w h c d xs) (n : Nat) : ∀ (k j : Nat) (acc : List ByteArray), (j : Int) + n = h → acc.length ≤ j → n + 6000 ≤ k →
    impl_rowsOf.l0 k acc (w * chan c) h j w h c d xs = some (acc ++ rowsL xs (w * chan c) d j n) := by
  have b := piece_bd ok
  have hh := ok.hh
  induction n with
  | zero =>
    intro k j acc hj ha hk
    obtain ⟨k, rfl⟩ : ∃ m, k = m + 1 := ⟨k - 1, by omega⟩
    simp only [impl_rowsOf.l0]
    rw [if_neg (by omega)]; simp [rowsL]
  | succ n ih =>
    intro k j acc hj ha hk
    obtain ⟨k, rfl⟩ : ∃ m, k = m + 1 := ⟨k - 1, by omega⟩
    have p := piece_at ok j (by omega)
    have e : ((j : Int) + 1) * (w * chan c) = (j : Int) * (w * chan c) + w * chan c := by rw [Int.add_mul, Int.one_mul]
    have sl := smp_len xs (w * chan c) j b.1 (by omega) p.2
    simp only [impl_rowsOf.l0]
    rw [if_pos (by omega), w64 (x := (j : Int) * (w * chan c)) (by omega) (by omega), w64 (x := (j : Int) + 1) (by omega) (by omega), w64 (x := ((j : Int) + 1) * (w * chan c)) (by omega) (by omega), e, if_pos p.1, if_pos (by omega), if_pos p.2,
      show ((xs.take ((j : Int) * (w * chan c) + w * chan c).toNat).drop ((j : Int) * (w * chan c)).toNat) = smp xs (w * chan c) j from rfl,
      impl_PackRow_eq _ (by omega) d k (by omega)]
    simp only [Option.bind_some]
    rw [if_pos (by omega)]
    have q := ih k (j + 1) (acc ++ [(packRow (smp xs (w * chan c) j) d).1]) (by omega) (by rw [List.length_append]; exact Nat.add_le_add_right ha 1) (by omega)
    push_cast at q
    rw [q]
    simp [rowsL, rowS, List.range'_succ]
theorem impl_rowsOf_eq {w h c d : Int} {xs : List Int} (ok : PieceOk w h c d xs) (k : Nat) (hk : 6100 ≤ k) : impl_rowsOf.f k w h c d xs = some (rowsL xs (w * chan c) d 0 h.toNat) := by
  have b := piece_bd ok
  have hh := ok.hh
  unfold impl_rowsOf.f
  rw [impl_ChannelsOf_eq k (by omega)]
  simp only [Option.bind_some]
  rw [w64 (x := w * chan c) (by omega) (by omega)]
  have := impl_rows_l0 ok h.toNat k 0 [] (by omega) (by simp) (by omega)
  rw [show ((0 : Nat) : Int) = 0 from rfl] at this
  rw [this]; rfl
theorem rep_zero (n : Nat) : Go.Lib.repeatL [(0 : UInt8)] n = List.replicate n 0 := by
  induction n with
  | zero => rfl
  | succ n ih => simp [Go.Lib.repeatL, ih, List.replicate_succ]
theorem impl_noughts_eq (n : Nat) (hn : n ≤ 1000000) : impl_noughts.f (n : Int) = some (zeroS n) := by
  unfold impl_noughts.f strings_Repeat.f
  rw [if_pos (by omega), if_pos (by omega), if_pos (by
    rw [show (⟨#[0]⟩ : ByteArray).size = 1 from rfl, Int.toNat_natCast]; omega)]
  simp only [Option.bind_some, Int.toNat_natCast]
  congr 1
  apply ByteArray.ext
  apply Array.ext'
  unfold zeroS
  rw [strOfNums_data]
  simp only
  rw [rep_zero]
  simp
theorem impl_scan_l0 (m u : Int) (rows : List ByteArray) (hr : rows.length ≤ 24) (Z : Nat) (hZ : Z ≤ 1000) (hz : ∀ r ∈ rows, r.size = Z) (n : Nat) : ∀ (k i : Nat) (xs : List Int) (above ab2 : ByteArray), i ≤ rows.length → rows.length - i = n → xs.length + 201 * n ≤ 1000000 → n * 2 + 1000 ≤ k →
    (ab2 = if i = 0 then zeroS Z else above) →
    impl_scanRows.l0 k m (strOfNums xs) u above rows rows.length i = some (strOfNums (xs ++ scanL m u (rows.drop i) ab2)) := by
  induction n with
  | zero =>
    intro k i xs above ab2 hi hn hx hk hab
    obtain ⟨k, rfl⟩ : ∃ m, k = m + 1 := ⟨k - 1, by omega⟩
    simp only [impl_scanRows.l0]
    rw [if_neg (by omega), List.drop_eq_nil_of_le (by omega)]
    simp [scanL]
  | succ n ih =>
    intro k i xs above ab2 hi hn hx hk hab
    obtain ⟨k, rfl⟩ : ∃ m, k = m + 1 + 1 := ⟨k - 2, by omega⟩
    have hi' : i < rows.length := by omega
    have e : rdOf ByteArray.empty rows (i : Int) = rows[i] := by simp [rdOf, List.getD, hi']
    have zi : rows[i].size = Z := hz _ (List.getElem_mem hi')
    have core : impl_scanRows.j1 (k + 1) m (strOfNums xs) u ab2 rows[i] rows rows.length i = some (strOfNums (xs ++ scanL m u (rows.drop i) ab2)) := by
      simp only [impl_scanRows.j1]
      rw [List.drop_eq_getElem_cons hi']
      simp only [scanL]
      by_cases h5 : m = 5
      · rw [if_pos h5, if_pos h5, impl_BestFilter_val _ _ _ k (by omega)]
        simp only [Option.bind_some]
        rw [show (bestV rows[i] ab2 u 5 0 0 (-1)).1 = bestF rows[i] ab2 u from rfl, impl_FilterRow_eq _ _ _ _ k (by omega)]
        generalize bestF rows[i] ab2 u = f
        have sz := filterRow_size f rows[i] ab2 u
        simp only [Option.bind_some, impl_byteText.f]
        have q := ih k (i + 1) (xs ++ ([f % 256] ++ bytesOf (filterRow f rows[i] ab2 u).1)) rows[i] rows[i] (by omega) (by omega) (by simp only [List.length_append, List.length_cons, List.length_nil, bytesOf_len]; omega) (by omega) (by simp)
        push_cast at q
        rw [if_pos (by rw [strOfNums_size]; simp; omega), if_pos (by rw [ByteArray.size_append, strOfNums_size, strOfNums_size]; simp; omega), w64 (x := (i : Int) + 1) (by omega) (by omega), strApp, q]
        simp
      · rw [if_neg h5, if_neg h5, impl_FilterRow_eq _ _ _ _ k (by omega)]
        have sz := filterRow_size m rows[i] ab2 u
        simp only [Option.bind_some, impl_byteText.f]
        have q := ih k (i + 1) (xs ++ ([m % 256] ++ bytesOf (filterRow m rows[i] ab2 u).1)) rows[i] rows[i] (by omega) (by omega) (by simp only [List.length_append, List.length_cons, List.length_nil, bytesOf_len]; omega) (by omega) (by simp)
        push_cast at q
        rw [if_pos (by rw [strOfNums_size]; simp; omega), if_pos (by rw [ByteArray.size_append, strOfNums_size, strOfNums_size]; simp; omega), w64 (x := (i : Int) + 1) (by omega) (by omega), strApp, q]
        simp
    rw [impl_scanRows.l0, if_pos (by omega), if_pos (by omega), if_pos (by omega), e]
    by_cases h0 : i = 0
    · rw [if_pos (by omega), zi, impl_noughts_eq Z (by omega)]
      rw [if_pos h0] at hab
      simp only [Option.bind_some]
      rw [← hab]; exact core
    · rw [if_neg (by omega)]
      rw [if_neg h0] at hab
      rw [← hab]; exact core
theorem impl_scanRows_eq {w h c d : Int} {xs : List Int} (ok : PieceOk w h c d xs) (m : Int) (k : Nat) (hk : 7000 ≤ k) : impl_scanRows.f k w h c d xs m = some (strOfNums (pieceL w h c d xs m)) := by
  have hh := ok.hh
  have z := piece_Z ok
  unfold impl_scanRows.f
  rw [impl_unitOf_eq c d ok.hd k (by omega), Option.bind_some, impl_rowsOf_eq ok k (by omega), Option.bind_some]
  have rl := rowsL_len xs (w * chan c) d 0 h.toNat
  have q := impl_scan_l0 m (unitV c d) (rowsL xs (w * chan c) d 0 h.toNat) (by omega) (upN ((w * chan c).toNat * d.toNat)) (by unfold upN; omega) (piece_mem ok) h.toNat k 0 [] ⟨#[]⟩ _ (by omega) (by omega) (by simp; omega) (by omega) rfl
  rw [show ((0 : Nat) : Int) = 0 from rfl] at q
  exact q

theorem impl_ScanOf_l0 (m : Int) (ps : List S29) (ok : PartsOk ps) (n : Nat) : ∀ (k i : Nat) (ys : List Int), i ≤ ps.length → ps.length - i = n → ys.length + 5000 * n ≤ 1000000 → 7000 + n ≤ k →
    impl_ScanOf.l0 k m (strOfNums ys) ps ps.length i = some (strOfNums (ys ++ (ps.drop i).flatMap (pieceT m)), true) := by
  have pl := ok.1
  induction n with
  | zero =>
    intro k i ys hi hn hy hk
    obtain ⟨k, rfl⟩ : ∃ m, k = m + 1 := ⟨k - 1, by omega⟩
    simp only [impl_ScanOf.l0]
    rw [if_neg (by omega), List.drop_eq_nil_of_le (by omega)]; simp
  | succ n ih =>
    intro k i ys hi hn hy hk
    obtain ⟨k, rfl⟩ : ∃ m, k = m + 1 := ⟨k - 1, by omega⟩
    have hk7 : 7000 ≤ k ∧ 7000 + n ≤ k := by clear hy; omega
    have hi' : i < ps.length := by clear hy; omega
    have e : rd_T29 ps (i : Int) = ps[i] := by simp [rd_T29, List.getD, hi']
    have po := ok.2 _ (List.getElem_mem hi')
    have pn := parts_ar hy (piece_len po m)
    rw [impl_ScanOf.l0, if_pos (by omega), if_pos (by omega), if_pos (by omega), e, impl_scanRows_eq po m k hk7.1, Option.bind_some, if_pos (by rw [strOfNums_size, strOfNums_size]; exact Nat.le_trans pn.1 (by decide)), w64 (x := (i : Int) + 1) (by omega) (by omega), str_append]
    have q := ih k (i + 1) (ys ++ pieceT m ps[i]) (by omega) (by omega) (by rw [List.length_append]; exact pn.2) hk7.2
    push_cast at q
    rw [show pieceL ps[i].f0 ps[i].f1 ps[i].f2 ps[i].f3 ps[i].f4 m = pieceT m ps[i] from rfl, q, List.drop_eq_getElem_cons hi', List.flatMap_cons, List.append_assoc]
theorem impl_ScanOf_eq (w h c d : Int) (xs : List Int) (lace : Bool) (m : Int) (hx : xs.length ≤ 9223372036854775807) (k : Nat) (hk : 8000 ≤ k) (hk2 : xs.length + 3 ≤ k) : impl_ScanOf.f k w h c d xs lace m = some (scanV w h c d xs lace m) := by
  unfold impl_ScanOf.f scanV
  rw [impl_RasterOk_eq w h c d xs hx k hk2, Option.bind_some]
  have j1 : ∀ b : Bool, b = true → impl_ScanOf.j0 k lace m b w h c d xs = some (⟨#[]⟩, false) := by
    intro b hb
    obtain ⟨k, rfl⟩ : ∃ m, k = m + 1 := ⟨k - 1, by omega⟩
    simp only [impl_ScanOf.j0]
    rw [if_pos hb]
  by_cases ok : rasterOk w h c d xs = true
  · rw [if_pos ok, impl_within_eq, Option.bind_some, ok, Bool.true_and]
    by_cases hm : (decide (0 ≤ m) && decide (m ≤ 5)) = true
    · rw [hm, if_pos rfl]
      have po := parts_ok ok lace
      obtain ⟨k, rfl⟩ : ∃ m, k = m + 1 := ⟨k - 1, by omega⟩
      simp only [impl_ScanOf.j0]
      rw [if_neg (by decide)]
      unfold partsL at po ⊢
      by_cases hl : lace = true
      · rw [if_pos hl] at po
        rw [if_pos hl, if_pos hl, impl_PassesOf_eq w h c d xs hx k (by omega) (by have := (piece_bd (raster_piece ok)).2.2; omega), if_pos ok, Option.bind_some]
        have q := impl_ScanOf_l0 m _ po 7 k 0 [] (by omega) (by simp [passesL]) (by simp) (by omega)
        rw [show ((0 : Nat) : Int) = 0 from rfl, ← str_nil] at q
        exact q
      · rw [if_neg hl, if_neg hl, impl_scanRows_eq (raster_piece ok) m k (by omega), Option.bind_some]
        simp [pieceT]
    · rw [if_neg hm, Bool.eq_false_iff.mpr hm]
      exact j1 _ rfl
  · rw [if_neg ok, j1 _ rfl, Bool.eq_false_iff.mpr ok]
    rfl

theorem laws_toIntS_l0 (xs : List Int) (hx : xs.length ≤ 9223372036854775807) (d : Nat) : ∀ (k i : Nat) (ys : List Int), i ≤ xs.length → xs.length - i = d → d < k → ys.length = xs.length → (∀ j : Nat, j < i → ys[j]? = xs[j]?) → laws_toIntS.l0 k xs ys i = some xs := by
  induction d with
  | zero =>
    intro k i ys hi hd hk hl hy
    obtain ⟨k, rfl⟩ : ∃ m, k = m + 1 := ⟨k - 1, by omega⟩
    simp only [laws_toIntS.l0]
    rw [if_neg (by omega)]
    congr 1
    apply List.ext_getElem?
    intro j
    by_cases hj : j < i
    · exact hy j hj
    · rw [List.getElem?_eq_none (by omega), List.getElem?_eq_none (by omega)]
  | succ d ih =>
    intro k i ys hi hd hk hl hy
    obtain ⟨k, rfl⟩ : ∃ m, k = m + 1 := ⟨k - 1, by omega⟩
    have lt : i < xs.length := by omega
    simp only [laws_toIntS.l0]
    rw [if_pos (by omega), if_pos (by omega), if_pos (by omega), rd_at xs i lt, w64 (by omega) (by omega), Int.toNat_natCast]
    refine ih k (i + 1) (ys.set i xs[i]) (by omega) (by omega) (by omega) (by simpa using hl) (fun j hj => ?_)
    by_cases e : j = i
    · subst e
      rw [List.getElem?_set_self (by omega), List.getElem?_eq_getElem lt]
    · rw [List.getElem?_set_ne (by omega), hy j (by omega)]
theorem laws_toIntS_eq (xs : List Int) (hx : xs.length ≤ 1048576) (k : Nat) (hk : xs.length < k) : laws_toIntS.f k xs = some xs := by
  unfold laws_toIntS.f
  rw [if_pos (by omega), if_pos (by omega), Int.toNat_natCast]
  exact laws_toIntS_l0 xs (by omega) xs.length k 0 _ (by omega) (by omega) hk (by simp) (fun j hj => absurd hj (by omega))

theorem laws_eqIntS_l0 (xs : List Int) (hx : xs.length ≤ 9223372036854775807) (d : Nat) : ∀ (k i : Nat), i ≤ xs.length → xs.length - i = d → d < k → laws_eqIntS.l0 k xs xs i = some true := by
  induction d with
  | zero =>
    intro k i hi hd hk
    obtain ⟨k, rfl⟩ : ∃ m, k = m + 1 := ⟨k - 1, by omega⟩
    simp only [laws_eqIntS.l0]
    rw [if_neg (by omega)]
  | succ d ih =>
    intro k i hi hd hk
    obtain ⟨k, rfl⟩ : ∃ m, k = m + 1 := ⟨k - 1, by omega⟩
    simp only [laws_eqIntS.l0]
    rw [if_pos (by omega), if_pos (by omega), if_pos (by omega)]
    simp only [if_true]
    rw [w64 (by omega) (by omega)]
    exact ih k (i + 1) (by omega) (by omega) (by omega)
theorem laws_eqIntS_refl (xs : List Int) (hx : xs.length ≤ 9223372036854775807) (k : Nat) (hk : xs.length < k) : laws_eqIntS.f k xs xs = some true := by
  unfold laws_eqIntS.f
  rw [if_pos rfl]
  exact laws_eqIntS_l0 xs hx xs.length k 0 (by omega) (by omega) hk

theorem laws_szIntS_eq (xs : List Int) (hx : xs.length ≤ 9223372036854775807) (a : Int) (h0 : 0 ≤ a) (h1 : a ≤ 1048576) : laws_szIntS.f xs a = some (if a < xs.length then -1 else a - xs.length) := by
  unfold laws_szIntS.f
  rw [w64 (by omega) (by omega)]
  split
  · rw [if_pos (by omega)]
  · rw [if_neg (by omega)]

theorem laws_szRaster_eq (w h c d : Int) (xs : List Int) (hx : xs.length ≤ 9223372036854775807) (t : Int) (h0 : 0 ≤ t) (h1 : t ≤ 1048576) : laws_szRaster.f w h c d xs t = some (if t < xs.length then -1 else t - xs.length) := by
  unfold laws_szRaster.f
  rw [laws_szIntS_eq xs hx t h0 h1]
  simp only [Option.bind_some]
  by_cases hl : t < xs.length
  · rw [if_pos hl]; rfl
  · rw [if_neg hl, if_neg (by omega)]
theorem laws_toRaster_eq (w h c d : Int) (xs : List Int) (hx : xs.length ≤ 1048576) (k : Nat) (hk : xs.length < k) : laws_toRaster.f k w h c d xs = some (w, h, c, d, xs) := by
  unfold laws_toRaster.f
  rw [laws_toIntS_eq xs hx k hk]; rfl
theorem laws_eqRaster_refl (w h c d : Int) (xs : List Int) (hx : xs.length ≤ 1048576) (k : Nat) (hk : xs.length < k) : laws_eqRaster.f k w h c d xs w h c d xs = some true := by
  unfold laws_eqRaster.f
  rw [laws_eqIntS_refl xs (by omega) k hk]
  simp

theorem FnExactScanOf (w h c d : Int) (xs : List Int) (lace : Bool) (m : Int) (_ : (Lit.int .i64 w).wf = true) (_ : (Lit.int .i64 h).wf = true) (_ : (Lit.int .i64 c).wf = true) (_ : (Lit.int .i64 d).wf = true) (hx : xs.length ≤ 9223372036854775807) (_ : ∀ x ∈ xs, (Lit.int .i64 x).wf = true) (_ : (Lit.int .i64 m).wf = true) : ∃ k, laws_FnExactScanOf.f k w h c d xs lace m = some true := by
  obtain ⟨k, hk⟩ : ∃ k : Nat, k = 2000000 := ⟨_, rfl⟩
  refine ⟨k, ?_⟩
  unfold laws_FnExactScanOf.f
  rw [laws_szRaster_eq w h c d xs hx 1048576 (by omega) (by omega), Option.bind_some]
  by_cases hl : (1048576 : Int) < xs.length
  · rw [if_pos hl, if_pos (by omega)]
  · rw [if_neg hl, if_neg (by omega), laws_toRaster_eq w h c d xs (by omega) k (by omega), Option.bind_some]
    simp only
    rw [spec_ScanOf_eq w h c d xs lace m hx k (by omega) (by omega), Option.bind_some, Option.bind_some]
    simp only
    rw [impl_ScanOf_eq w h c d xs lace m hx k (by omega) (by omega), Option.bind_some, if_pos rfl]
    obtain ⟨k, rfl⟩ : ∃ m, k = m + 1 := ⟨k - 1, by omega⟩
    simp only [laws_FnExactScanOf.j0]
    rw [if_neg (by simp), laws_toRaster_eq w h c d xs (by omega) k (by omega), Option.bind_some]
    simp only
    rw [laws_eqRaster_refl w h c d xs (by omega) k (by omega), Option.bind_some, if_pos rfl]

end Go.Proofs.Ytajnobmnkbkkgaa.Pure
