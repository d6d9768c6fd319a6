/- The law FnHeads as a statement over numbers and lists: for every row of bytes of a size that a machine can hold, the law's function returns true. -/
import Derived.Test.YtajnobmnkbkkgaaPFnHeadsx13
set_option linter.unusedVariables false
set_option linter.unusedSimpArgs false
namespace Go.Proofs.Ytajnobmnkbkkgaa.Pure
open Go.RowKit Go.Proofs.Ytajnobmnkbkkgaa.PFnHeads Go.Proofs.YtajnobmnkbkkgaaW.PrintWords Go.Proofs.YtajnobmnkbkkgaaW.PrintLast

theorem w64 {x : Int} (h : -9223372036854775808 ≤ x) (h' : x ≤ 9223372036854775807) : wrap64 x = x := by unfold wrap64; omega
theorem wf_i64 {a : Int} (h : (Lit.int .i64 a).wf = true) : -9223372036854775808 ≤ a ∧ a ≤ 9223372036854775807 := by
  simpa [Lit.wf, IntKind.min, IntKind.max, IntKind.signed, IntKind.bits] using h
theorem wbt (s : ByteArray) (i : Int) : wrap64 (bt s i) = bt s i := w64 (by have := bt_range s i; omega) (by have := bt_range s i; omega)

theorem rd_at (xs : List Int) (i : Nat) (h : i < xs.length) : rd xs i = xs[i] := by simp [rd, List.getD, h]
def inB (m x : Int) : Bool := decide (0 ≤ x) && decide (x ≤ m)
theorem drop_all (p : Int → Bool) (xs : List Int) (i : Nat) (h : i < xs.length) : (xs.drop i).all p = (p xs[i] && (xs.drop (i + 1)).all p) := by
  rw [List.drop_eq_getElem_cons h]; rfl
theorem drop_all_end (p : Int → Bool) (xs : List Int) (i : Nat) (h : xs.length ≤ i) : (xs.drop i).all p = true := by
  rw [List.drop_eq_nil_of_le h]; rfl

theorem and_bd (x : Int) (m : Nat) (hm : m < 9223372036854775808) : 0 ≤ Go.bits .and .i64 x m ∧ Go.bits .and .i64 x m ≤ m := by
  unfold Go.bits
  simp only [IntKind.wrap_i64]
  have h : (BitVec.ofInt IntKind.i64.bits x &&& BitVec.ofInt IntKind.i64.bits (m : Int)).toNat ≤ m := by
    rw [BitVec.toNat_and]
    refine Nat.le_trans Nat.and_le_right ?_
    rw [BitVec.ofInt_natCast, BitVec.toNat_ofNat]
    exact Nat.mod_le _ _
  omega
theorem and_255 (x : Int) : 0 ≤ Go.bits .and .i64 x 255 ∧ Go.bits .and .i64 x 255 ≤ 255 := and_bd x 255 (by omega)
theorem spec_l01New_l0 (l : List Int) (hl : l.length ≤ 1048576) (d : Nat) : ∀ (k i : Nat) (h : Int), i ≤ l.length → l.length - i = d → d < k → ∃ h', spec_l01New.l0 k l h i = some (l, 0, h') := by
  induction d with
  | zero =>
    intro k i h hi hd hk
    obtain ⟨k, rfl⟩ : ∃ m, k = m + 1 := ⟨k - 1, by omega⟩
    exact ⟨h, by simp only [spec_l01New.l0]; rw [if_neg (by omega)]⟩
  | succ d ih =>
    intro k i h hi hd hk
    obtain ⟨k, rfl⟩ : ∃ m, k = m + 1 := ⟨k - 1, by omega⟩
    simp only [spec_l01New.l0]
    rw [if_pos (by omega)]
    by_cases h4 : (i : Int) < 4000
    · rw [if_pos h4, if_pos (by omega), w64 (x := (i : Int) + 1) (by omega) (by omega)]
      exact ih k (i + 1) _ (by omega) (by omega) (by omega)
    · rw [if_neg h4]; exact ⟨h, rfl⟩
theorem spec_l01New_eq (l : List Int) (hl : l.length ≤ 1048576) (k : Nat) (hk : l.length < k) : ∃ h, spec_l01New.f k l = some (l, 0, h) := by
  unfold spec_l01New.f
  exact spec_l01New_l0 l hl l.length k 0 _ (by omega) (by omega) hk
/-- A cursor's place. -/
def Cur (l : List Int) (i : Int) : Prop := l.length ≤ 1048576 ∧ 0 ≤ i ∧ i ≤ l.length
theorem cur_new {l : List Int} (hl : l.length ≤ 1048576) : Cur l 0 := ⟨hl, by omega, by omega⟩
theorem spec_l01Byte_eq {l : List Int} {i : Int} (hc : Cur l i) (h : Int) : ∃ x i' h', spec_l01Byte.f l i h = some (x, i', h') ∧ 0 ≤ x ∧ x ≤ 255 ∧ Cur l i' := by
  obtain ⟨hl, h0, h1⟩ := hc
  unfold spec_l01Byte.f
  by_cases hi : i < l.length
  · rw [if_pos hi, if_pos h0, w64 (x := i + 1) (by omega) (by omega)]
    exact ⟨_, _, _, rfl, (and_255 _).1, (and_255 _).2, hl, by omega, by omega⟩
  · rw [if_neg hi]
    exact ⟨_, _, _, rfl, (and_255 _).1, (and_255 _).2, hl, h0, h1⟩
theorem spec_l01Below_eq {l : List Int} {i : Int} (hc : Cur l i) (h : Int) (n : Int) : ∃ x i' h', spec_l01Below.f l i h n = some (x, i', h') ∧ 0 ≤ x ∧ (0 < n → x < n) ∧ (n ≤ 0 → x = 0) ∧ Cur l i' := by
  unfold spec_l01Below.f
  by_cases h0 : n ≤ 0
  · rw [if_pos h0]
    exact ⟨_, _, _, rfl, by omega, by omega, fun _ => rfl, hc⟩
  · rw [if_neg h0]
    have tm : ∀ y : Int, 0 ≤ y → 0 ≤ Int.tmod y n ∧ Int.tmod y n < n := fun y hy => ⟨Int.tmod_nonneg _ hy, Int.tmod_lt_of_pos _ (by omega)⟩
    by_cases h1 : n ≤ 256
    · rw [if_pos h1]
      obtain ⟨x, i1, h1', e1, a1, b1, c1⟩ := spec_l01Byte_eq hc h
      rw [e1]
      simp only [Option.bind_some]
      rw [if_neg (by omega)]
      exact ⟨_, _, _, rfl, (tm x a1).1, fun _ => (tm x a1).2, by omega, c1⟩
    · rw [if_neg h1]
      obtain ⟨x, i1, h1', e1, a1, b1, c1⟩ := spec_l01Byte_eq hc h
      rw [e1]; simp only [Option.bind_some]
      obtain ⟨y, i2, h2', e2, a2, b2, c2⟩ := spec_l01Byte_eq c1 h1'
      rw [e2]; simp only [Option.bind_some]
      obtain ⟨z, i3, h3', e3, a3, b3, c3⟩ := spec_l01Byte_eq c2 h2'
      rw [e3]; simp only [Option.bind_some]
      obtain ⟨u, i4, h4', e4, a4, b4, c4⟩ := spec_l01Byte_eq c3 h3'
      rw [e4]; simp only [Option.bind_some]
      rw [if_neg (by omega), w64 (x := x * 16777216) (by omega) (by omega), w64 (x := y * 65536) (by omega) (by omega), w64 (x := x * 16777216 + y * 65536) (by omega) (by omega), w64 (x := z * 256) (by omega) (by omega), w64 (x := x * 16777216 + y * 65536 + z * 256) (by omega) (by omega), w64 (x := x * 16777216 + y * 65536 + z * 256 + u) (by omega) (by omega)]
      exact ⟨_, _, _, rfl, (tm _ (by omega)).1, fun _ => (tm _ (by omega)).2, by omega, c4⟩

theorem spec_l01PickInt_eq {l : List Int} {i : Int} (hc : Cur l i) (h : Int) (xs : List Int) (hx : xs ≠ []) : ∃ x i' h', spec_l01PickInt.f l i h xs = some (x, i', h') ∧ x ∈ xs ∧ Cur l i' := by
  unfold spec_l01PickInt.f
  obtain ⟨x, i1, h1, e1, a1, b1, _, c1⟩ := spec_l01Below_eq hc h (xs.length : Int)
  have hp : 0 < xs.length := List.length_pos_iff.2 hx
  have b := b1 (by omega)
  rw [e1]; simp only [Option.bind_some]
  rw [if_pos a1, if_pos b]
  obtain ⟨m, rfl⟩ := Int.eq_ofNat_of_zero_le a1
  refine ⟨_, _, _, rfl, ?_, c1⟩
  rw [rd_at xs m (by omega)]
  exact List.getElem_mem _

def smallD (d : Int) : Bool := d == 1 || d == 2 || d == 4
def bigD (d : Int) : Bool := d == 8 || d == 16
def dok (c d : Int) : Bool := if c = 0 then smallD d || bigD d else if c = 3 then smallD d || d == 8 else if c = 2 then bigD d else if c = 4 then bigD d else if c = 6 then bigD d else false
theorem some_or (a b : Bool) : (if a = true then some true else some b) = some (a || b) := by cases a <;> rfl
theorem spec_DepthOk_eq (k : Nat) (hk : 1 ≤ k) (c d : Int) : spec_DepthOk.f k c d = some (dok c d) := by
  obtain ⟨k, rfl⟩ : ∃ m, k = m + 1 := ⟨k - 1, by omega⟩
  have e : ∀ x : Bool, spec_DepthOk.j0 (k + 1) c d x = some (if c = 0 then x || bigD d else if c = 3 then x || d == 8 else if c = 2 then bigD d else if c = 4 then bigD d else if c = 6 then bigD d else false) := by
    intro x
    have h8 : (if d = 8 then some true else some (d == 16)) = some (bigD d) := by unfold bigD; by_cases h : d = 8 <;> simp [h]
    simp only [spec_DepthOk.j0, h8, some_or]
    repeat (first | rfl | split)
  simp only [spec_DepthOk.f, e, dok, smallD]
  by_cases h1 : d = 1
  · simp [h1]
  by_cases h2 : d = 2
  · simp [h2]
  · have e1 : (d == 1) = false := by simpa using h1
    have e2 : (d == 2) = false := by simpa using h2
    simp only [h1, h2, e1, e2, if_false, Bool.false_or]

def p2 (n : Int) : Int := 2 ^ n.toNat
theorem p2_nat (n : Nat) : p2 n = ((2 ^ n : Nat) : Int) := by simp [p2]
theorem p2_succ (n : Int) (h : 0 ≤ n) : p2 (n + 1) = 2 * p2 n := by
  obtain ⟨m, rfl⟩ := Int.eq_ofNat_of_zero_le h
  have : ((m : Int) + 1) = ((m + 1 : Nat) : Int) := by omega
  rw [this, p2_nat, p2_nat, Nat.pow_succ]; push_cast; omega
theorem p2_zero : p2 0 = 1 := rfl
theorem p2_pos (n : Int) : 1 ≤ p2 n := by
  unfold p2
  have h := Nat.one_le_two_pow (n := n.toNat)
  exact_mod_cast h
theorem p2_le {m n : Int} (h : m ≤ n) : p2 m ≤ p2 n := by
  unfold p2
  have h := Nat.pow_le_pow_right (n := 2) (by decide) (show m.toNat ≤ n.toNat by omega)
  exact_mod_cast h
theorem p2_62 {n : Int} (h : n ≤ 62) : p2 n ≤ 4611686018427387904 := p2_le (n := 62) h
theorem p2_16 {n : Int} (h : n ≤ 16) : p2 n ≤ 65536 := p2_le (n := 16) h

theorem spec_l01Pow_l0 (n : Int) (h62 : n ≤ 62) (d : Nat) : ∀ (k : Nat) (i : Int), 0 ≤ i → i ≤ n → n - i = d → d < k → spec_l01Pow.l0 k n (p2 i) i = some (p2 n) := by
  induction d with
  | zero =>
    intro k i h0 h1 hd hk
    obtain ⟨k, rfl⟩ : ∃ m, k = m + 1 := ⟨k - 1, by omega⟩
    obtain rfl : i = n := by omega
    simp only [spec_l01Pow.l0]
    rw [if_neg (by omega)]
  | succ d ih =>
    intro k i h0 h1 hd hk
    obtain ⟨k, rfl⟩ : ∃ m, k = m + 1 := ⟨k - 1, by omega⟩
    have b1 := p2_pos (i + 1)
    have b2 := p2_62 (n := i + 1) (by omega)
    have e := p2_succ i h0
    simp only [spec_l01Pow.l0]
    rw [if_pos (by omega), ← e, w64 (x := p2 (i + 1)) (by omega) (by omega), w64 (x := i + 1) (by omega) (by omega)]
    exact ih k (i + 1) (by omega) (by omega) (by omega) (by omega)
theorem spec_l01Pow_eq (k : Nat) (n : Int) (h62 : n ≤ 62) (hk : 64 ≤ k) : spec_l01Pow.f k n = some (p2 n) := by
  unfold spec_l01Pow.f
  by_cases h0 : 0 ≤ n
  · exact spec_l01Pow_l0 n h62 n.toNat k 0 (by omega) h0 (by omega) (by omega)
  · obtain ⟨k, rfl⟩ : ∃ m, k = m + 1 := ⟨k - 1, by omega⟩
    simp only [spec_l01Pow.l0]
    rw [if_neg (by omega)]
    have : n.toNat = 0 := by omega
    unfold p2; rw [this]; rfl

def depB (d : Int) : Int := if 0 ≤ d ∧ d ≤ 16 then d else 0
theorem depB_bd (d : Int) : 0 ≤ depB d ∧ depB d ≤ 16 := by unfold depB; split <;> omega
def clearOk (d c t : Int) (xs : List Int) : Bool :=
  if c = 3 then decide ((xs.length : Int) ≤ t) && xs.all (inB 255)
  else if xs.length = 0 then true
  else if c = 0 then decide (xs.length = 1) && xs.all (inB (p2 (depB d) - 1))
  else if c = 2 then decide (xs.length = 3) && xs.all (inB (p2 (depB d) - 1)) else false

theorem spec_l01In_eq (a b c : Int) : spec_l01In.f a b c = some (decide (b ≤ a) && decide (a ≤ c)) := by
  unfold spec_l01In.f
  by_cases h : b ≤ a <;> simp [h]

theorem headDepth_eq (w h d c : Int) (l : Bool) : spec_l17Depth.f w h d c l = some (depB d) := by
  unfold spec_l17Depth.f depB
  rw [spec_l01In_eq]
  simp only [Option.bind_some]
  by_cases h0 : 0 ≤ d <;> by_cases h1 : d ≤ 16 <;> simp [h0, h1]
theorem spec_l12Color_eq {l : List Int} {i : Int} (hc : Cur l i) (h : Int) : ∃ c i' h', spec_l12Color.f l i h = some (c, i', h') ∧ c ∈ [(0 : Int), 2, 3, 4, 6] ∧ Cur l i' := by
  unfold spec_l12Color.f
  obtain ⟨x, i1, h1, e1, hm, c1⟩ := spec_l01PickInt_eq hc h [0, 2, 3, 4, 6] (by simp)
  rw [e1]; exact ⟨_, _, _, rfl, hm, c1⟩
theorem dok_8 {c : Int} (hm : c ∈ [(0 : Int), 2, 3, 4, 6]) : dok c 8 = true := by
  simp only [List.mem_cons, List.not_mem_nil, or_false] at hm
  rcases hm with rfl | rfl | rfl | rfl | rfl <;> decide
theorem spec_l12DepthOf_l0 {l : List Int} {i : Int} (hc : Cur l i) (h c : Int) (hm : c ∈ [(0 : Int), 2, 3, 4, 6]) (d : Nat) : ∀ (k q : Nat) (xs : List Int), q + d = 17 → d < k → xs.length ≤ q → (∀ x ∈ xs, dok c x = true) → (xs ≠ [] ∨ q ≤ 8) → ∃ x i' h', spec_l12DepthOf.l0 k c xs q l i h = some (x, i', h') ∧ dok c x = true ∧ Cur l i' := by
  induction d with
  | zero =>
    intro k q xs hd hk hx ha hn
    obtain ⟨k, rfl⟩ : ∃ m, k = m + 1 := ⟨k - 1, by omega⟩
    simp only [spec_l12DepthOf.l0]
    rw [if_neg (by omega)]
    obtain ⟨x, i1, h1, e1, hx', c1⟩ := spec_l01PickInt_eq hc h xs (by rcases hn with hn | hn; exact hn; omega)
    rw [e1]; exact ⟨_, _, _, rfl, ha x hx', c1⟩
  | succ d ih =>
    intro k q xs hd hk hx ha hn
    obtain ⟨k, rfl⟩ : ∃ m, k = m + 1 := ⟨k - 1, by omega⟩
    simp only [spec_l12DepthOf.l0]
    rw [if_pos (by omega), spec_DepthOk_eq k (by omega)]
    simp only [Option.bind_some]
    rw [w64 (x := (q : Int) + 1) (by omega) (by omega)]
    by_cases b : dok c q = true
    · rw [if_pos b, if_pos (by omega)]
      have := ih k (q + 1) (xs ++ [(q : Int)]) (by omega) (by omega) (by simp; omega) (by intro x hx'; rcases List.mem_append.1 hx' with h' | h'; exact ha x h'; simp at h'; rw [h']; exact b) (.inl (by simp))
      push_cast at this
      exact this
    · rw [if_neg b]
      have := ih k (q + 1) xs (by omega) (by omega) (by omega) ha (by
        rcases hn with hn | hn
        · exact .inl hn
        · by_cases e : q = 8
          · subst e; exact absurd (dok_8 hm) b
          · exact .inr (by omega))
      push_cast at this
      exact this
theorem spec_l12DepthOf_eq {l : List Int} {i : Int} (hc : Cur l i) (h c : Int) (hm : c ∈ [(0 : Int), 2, 3, 4, 6]) (k : Nat) (hk : 16 < k) : ∃ x i' h', spec_l12DepthOf.f k l i h c = some (x, i', h') ∧ Cur l i' := by
  unfold spec_l12DepthOf.f
  obtain ⟨x, i', h', e, _, c'⟩ := spec_l12DepthOf_l0 hc h c hm 16 k 1 [] (by omega) hk (by simp) (by simp) (.inr (by omega))
  exact ⟨x, i', h', e, c'⟩

theorem rd_Rgb (xs : List S52) (i : Nat) (h : i < xs.length) : rd_T52 xs i = xs[i] := by
  simp [rd_T52, List.getD, h]

theorem headOnce_eq {l : List Int} {i : Int} (hc : Cur l i) (h n : Int) : ∃ b i' h', spec_l01Once.f l i h n = some (b, i', h') ∧ Cur l i' := by
  unfold spec_l01Once.f
  obtain ⟨x, i1, h1, e1, _, _, _, c1⟩ := spec_l01Below_eq hc h n
  rw [e1]; exact ⟨_, _, _, rfl, c1⟩
theorem spec_l17Head_eq {l : List Int} {i : Int} (hc : Cur l i) (h : Int) (k : Nat) (hk : 20 < k) : ∃ w x d c b i' h', spec_l17Head.f k l i h = some (w, x, d, c, b, i', h') ∧ Cur l i' := by
  unfold spec_l17Head.f
  obtain ⟨a1, i1, h1, e1, p1, q1, _, c1⟩ := spec_l01Below_eq hc h 24
  rw [e1]; simp only [Option.bind_some]
  obtain ⟨a2, i2, h2, e2, p2, q2, _, c2⟩ := spec_l01Below_eq c1 h1 24
  rw [e2]; simp only [Option.bind_some]
  obtain ⟨c, i3, h3, e3, hm, c3⟩ := spec_l12Color_eq c2 h2
  rw [e3]; simp only [Option.bind_some]
  obtain ⟨b, i4, h4, e4, c4⟩ := headOnce_eq c3 h3 2
  rw [e4]; simp only [Option.bind_some]
  obtain ⟨d, i5, h5, e5, c5⟩ := spec_l12DepthOf_eq c4 h4 c hm k (by omega)
  rw [e5]; simp only [Option.bind_some]
  obtain ⟨a6, i6, h6, e6, p6, q6, _, c6⟩ := spec_l01Below_eq c5 h5 30
  rw [e6]; simp only [Option.bind_some]
  split
  · obtain ⟨x, i7, h7, e7, _, c7⟩ := spec_l01PickInt_eq c6 h6 [0, 25, (-1), 4294967296] (by simp)
    rw [e7]; exact ⟨_, _, _, _, _, _, _, rfl, c7⟩
  · split
    · obtain ⟨x, i7, h7, e7, _, c7⟩ := spec_l01PickInt_eq c6 h6 [0, 3, 16, 17, (-1), 9223372036854775807] (by simp)
      rw [e7]; exact ⟨_, _, _, _, _, _, _, rfl, c7⟩
    · split
      · obtain ⟨x, i7, h7, e7, _, c7⟩ := spec_l01PickInt_eq c6 h6 [1, 5, 7, (-1)] (by simp)
        rw [e7]; exact ⟨_, _, _, _, _, _, _, rfl, c7⟩
      · exact ⟨_, _, _, _, _, _, _, rfl, c6⟩
theorem spec_DrawHeadText_eq (l : List Int) (hl : l.length ≤ 1048576) (k : Nat) (hk : l.length + 100 < k) : ∃ w x d c b, spec_DrawHeadText.f k l = some (w, x, d, c, b) := by
  unfold spec_DrawHeadText.f
  obtain ⟨h, e⟩ := spec_l01New_eq l hl k (by omega)
  rw [e]; simp only [Option.bind_some]
  obtain ⟨w, x, d, c, b, i1, h1, e1, _⟩ := spec_l17Head_eq (cur_new hl) h k (by omega)
  rw [e1]; exact ⟨_, _, _, _, _, rfl⟩
theorem spec_l17Table_l1 {l : List Int} (d : Nat) : ∀ (k : Nat) (xs : List S52) (i h : Int), Cur l i → xs.length + d = 260 → d < k → ∃ ys i' h', spec_l17Table.l1 k xs l i h = some (ys, i', h') ∧ ys.length ≤ 1000 := by
  induction d with
  | zero =>
    intro k xs i h hc hd hk
    obtain ⟨k, rfl⟩ : ∃ m, k = m + 1 := ⟨k - 1, by omega⟩
    simp only [spec_l17Table.l1]
    obtain ⟨a, i1, h1, e1, p1, q1, _, c1⟩ := spec_l01Below_eq hc h 2
    have := q1 (by omega)
    rw [e1]; simp only [Option.bind_some]
    rw [w64 (x := 256 + a) (by omega) (by omega), if_neg (by omega)]
    exact ⟨_, _, _, rfl, by omega⟩
  | succ d ih =>
    intro k xs i h hc hd hk
    obtain ⟨k, rfl⟩ : ∃ m, k = m + 1 := ⟨k - 1, by omega⟩
    simp only [spec_l17Table.l1]
    obtain ⟨a, i1, h1, e1, p1, q1, _, c1⟩ := spec_l01Below_eq hc h 2
    rw [e1]; simp only [Option.bind_some]
    by_cases b : (xs.length : Int) < wrap64 (256 + a)
    · rw [if_pos b, if_pos (by omega)]
      exact ih k _ i1 h1 c1 (by simp; omega) (by omega)
    · rw [if_neg b]; exact ⟨_, _, _, rfl, by omega⟩
theorem spec_l17Table_l0 {l : List Int} (d : Nat) : ∀ (k : Nat) (xs : List S52) (n : Nat) (i h : Int), Cur l i → xs.length = n → n + d = 6 → d + 264 < k → ∃ ys i' h', spec_l17Table.l0 k xs n l i h = some (ys, i', h') ∧ ys.length ≤ 1000 := by
  have fin : ∀ (k : Nat) (xs : List S52) (n : Nat) (i h : Int), Cur l i → xs.length = n → 1 ≤ n → n ≤ 6 → 262 < k → ∃ ys i' h', ((spec_l01Below.f l i h 30).bind fun bt256 => (if bt256.1 = 0 then (some ((([] : List (S52))), bt256.2.1, bt256.2.2)) else (if bt256.1 = 1 then ((spec_l01PickInt.f l bt256.2.1 bt256.2.2 (([(-1), 256] : List Int))).bind fun bt265 => (if 0 < (xs.length : Int) then (some ((xs.set (0 : Int).toNat (⟨(rd_T52 xs 0).f0, bt265.1, (rd_T52 xs 0).f2⟩ : S52)), bt265.2.1, bt265.2.2)) else (none))) else (if bt256.1 = 2 then (spec_l17Table.l1 k xs l bt256.2.1 bt256.2.2) else (some (xs, bt256.2.1, bt256.2.2)))))) = some (ys, i', h') ∧ ys.length ≤ 1000 := by
    intro k xs n i h hc hx h1 h6 hk
    obtain ⟨a, i1, h1', e1, p1, q1, _, c1⟩ := spec_l01Below_eq hc h 30
    rw [e1]; simp only [Option.bind_some]
    split
    · exact ⟨_, _, _, rfl, by simp⟩
    · split
      · obtain ⟨x, i2, h2, e2, _, c2⟩ := spec_l01PickInt_eq c1 h1' [(-1), 256] (by simp)
        rw [e2]; simp only [Option.bind_some]
        rw [if_pos (by omega)]
        exact ⟨_, _, _, rfl, by simp; omega⟩
      · split
        · exact spec_l17Table_l1 (260 - n) k xs i1 h1' c1 (by omega) (by omega)
        · exact ⟨_, _, _, rfl, by omega⟩
  induction d with
  | zero =>
    intro k xs n i h hc hx hd hk
    obtain ⟨k, rfl⟩ : ∃ m, k = m + 1 := ⟨k - 1, by omega⟩
    simp only [spec_l17Table.l0]
    obtain ⟨a, i1, h1, e1, p1, q1, _, c1⟩ := spec_l01Below_eq hc h 6
    have := q1 (by omega)
    rw [e1]; simp only [Option.bind_some]
    rw [w64 (x := 1 + a) (by omega) (by omega), if_neg (show ¬ ((n : Int) < 1 + a) by omega)]
    exact fin k xs n i1 h1 c1 hx (by omega) (by omega) (by omega)
  | succ d ih =>
    intro k xs n i h hc hx hd hk
    obtain ⟨k, rfl⟩ : ∃ m, k = m + 1 := ⟨k - 1, by omega⟩
    simp only [spec_l17Table.l0]
    obtain ⟨a, i1, h1, e1, p1, q1, _, c1⟩ := spec_l01Below_eq hc h 6
    have := q1 (by omega)
    rw [e1]; simp only [Option.bind_some]
    rw [w64 (x := 1 + a) (by omega) (by omega)]
    by_cases b : (n : Int) < 1 + a
    · rw [if_pos b]
      obtain ⟨r, i2, h2, e2, _, _, _, c2⟩ := spec_l01Below_eq c1 h1 256
      rw [e2]; simp only [Option.bind_some]
      obtain ⟨g, i3, h3, e3, _, _, _, c3⟩ := spec_l01Below_eq c2 h2 256
      rw [e3]; simp only [Option.bind_some]
      obtain ⟨u, i4, h4, e4, _, _, _, c4⟩ := spec_l01Below_eq c3 h3 256
      rw [e4]; simp only [Option.bind_some]
      rw [if_pos (by omega), w64 (x := (n : Int) + 1) (by omega) (by omega)]
      have := ih k (xs ++ [⟨r, g, u⟩]) (n + 1) i4 h4 c4 (by simp [hx]) (by omega) (by omega)
      push_cast at this
      exact this
    · rw [if_neg b]
      exact fin k xs n i1 h1 c1 hx (by omega) (by omega) (by omega)
theorem spec_DrawTableText_eq (l : List Int) (hl : l.length ≤ 1048576) (k : Nat) (hk : l.length + 300 < k) : ∃ xs, spec_DrawTableText.f k l = some xs ∧ xs.length ≤ 1000 := by
  unfold spec_DrawTableText.f
  obtain ⟨h, e⟩ := spec_l01New_eq l hl k (by omega)
  rw [e]; simp only [Option.bind_some]
  unfold spec_l17Table.f
  obtain ⟨ys, i1, h1, e1, b⟩ := spec_l17Table_l0 (l := l) 6 k [] 0 0 h (cur_new hl) rfl (by omega) (by omega)
  have e1' : spec_l17Table.l0 k [] 0 l 0 h = some (ys, i1, h1) := e1
  rw [e1']; exact ⟨_, rfl, b⟩
theorem spec_l17Clear_j2 {l : List Int} (k : Nat) (t : Int) (xs : List Int) (m i h : Int) (hc : Cur l i) (hx : xs.length ≤ 20) : ∃ t' ys i' h', spec_l17Clear.j2 (k + 1) t xs m l i h = some (t', ys, i', h') ∧ ys.length ≤ 21 := by
  simp only [spec_l17Clear.j2]
  obtain ⟨a, i1, h1, e1, p1, q1, _, c1⟩ := spec_l01Below_eq hc h 20
  rw [e1]; simp only [Option.bind_some]
  split
  · rw [if_pos (by omega)]; exact ⟨_, _, _, _, rfl, by simp; omega⟩
  · split
    · split
      · rename_i hp
        obtain ⟨x, i2, h2, e2, _, c2⟩ := spec_l01PickInt_eq c1 h1 [(-1), m] (by simp)
        rw [e2]; exact ⟨_, _, _, _, rfl, by simp; omega⟩
      · exact ⟨_, _, _, _, rfl, by omega⟩
    · split
      · obtain ⟨x, i2, h2, e2, _, c2⟩ := spec_l01PickInt_eq c1 h1 [(-1), 0, 256] (by simp)
        rw [e2]; exact ⟨_, _, _, _, rfl, by omega⟩
      · exact ⟨_, _, _, _, rfl, by omega⟩
theorem spec_l17Clear_l0 {l : List Int} (t n m : Int) (d : Nat) : ∀ (k : Nat) (xs : List Int) (q : Nat) (i h : Int), Cur l i → xs.length = q → q + d = 15 → n ≤ 15 → d + 2 < k → ∃ t' ys i' h', spec_l17Clear.l0 k t xs n m q l i h = some (t', ys, i', h') ∧ ys.length ≤ 21 := by
  induction d with
  | zero =>
    intro k xs q i h hc hx hd hn hk
    obtain ⟨k, rfl⟩ : ∃ m, k = m + 2 := ⟨k - 2, by omega⟩
    simp only [spec_l17Clear.l0]
    rw [if_neg (by omega)]
    exact spec_l17Clear_j2 k t xs m i h hc (by omega)
  | succ d ih =>
    intro k xs q i h hc hx hd hn hk
    obtain ⟨k, rfl⟩ : ∃ m, k = m + 2 := ⟨k - 2, by omega⟩
    simp only [spec_l17Clear.l0]
    by_cases b : (q : Int) < n
    · rw [if_pos b]
      obtain ⟨o, i1, h1, e1, c1⟩ := headOnce_eq hc h 12
      rw [e1]; simp only [Option.bind_some]
      split
      · exact spec_l17Clear_j2 k t xs m i1 h1 c1 (by omega)
      · obtain ⟨a, i2, h2, e2, _, _, _, c2⟩ := spec_l01Below_eq c1 h1 m
        rw [e2]; simp only [Option.bind_some]
        rw [if_pos (by omega), w64 (x := (q : Int) + 1) (by omega) (by omega)]
        have := ih (k + 1) (xs ++ [a]) (q + 1) i2 h2 c2 (by simp [hx]) (by omega) hn (by omega)
        push_cast at this
        exact this
    · rw [if_neg b]
      exact spec_l17Clear_j2 k t xs m i h hc (by omega)
theorem spec_l17Clear_j0 {l : List Int} (k : Nat) (t n m i h : Int) (hc : Cur l i) (hn : n ≤ 15) (hk : 20 < k) : ∃ t' ys i' h', spec_l17Clear.j0 k t [] n m l i h = some (t', ys, i', h') ∧ ys.length ≤ 21 := by
  obtain ⟨k, rfl⟩ : ∃ m, k = m + 1 := ⟨k - 1, by omega⟩
  simp only [spec_l17Clear.j0]
  exact spec_l17Clear_l0 t n m 15 k [] 0 i h hc rfl (by omega) hn (by omega)
theorem spec_l17Clear_eq {l : List Int} {i : Int} (hc : Cur l i) (h w x d c : Int) (b : Bool) (k : Nat) (hk : 70 < k) : ∃ t ys i' h', spec_l17Clear.f k l i h w x d c b = some (t, ys, i', h') ∧ ys.length ≤ 21 := by
  have bd := depB_bd d
  unfold spec_l17Clear.f
  obtain ⟨a, i1, h1, e1, p1, q1, _, c1⟩ := spec_l01Below_eq hc h 9
  have := q1 (by omega)
  rw [e1]; simp only [Option.bind_some]
  rw [headDepth_eq, Option.bind_some, spec_l01Pow_eq k (depB d) (by omega) (by omega)]
  simp only [Option.bind_some]
  split
  · exact spec_l17Clear_j0 k _ _ _ i1 h1 c1 (by omega) (by omega)
  · split
    · exact spec_l17Clear_j0 k _ _ _ i1 h1 c1 (by omega) (by omega)
    · split
      · rw [w64 (x := 1 + a) (by omega) (by omega), w64 (x := 1 + a + 1) (by omega) (by omega)]
        obtain ⟨u, i2, h2, e2, p2, q2, _, c2⟩ := spec_l01Below_eq c1 h1 (1 + a + 1)
        have := q2 (by omega)
        rw [e2]; simp only [Option.bind_some]
        exact spec_l17Clear_j0 k _ _ _ i2 h2 c2 (by omega) (by omega)
      · exact spec_l17Clear_j0 k _ _ _ i1 h1 c1 (by omega) (by omega)
theorem spec_DrawClearText_eq (l : List Int) (hl : l.length ≤ 1048576) (k : Nat) (hk : l.length + 100 < k) : ∃ w x d c b t ys, spec_DrawClearText.f k l = some (w, x, d, c, b, t, ys) ∧ ys.length ≤ 21 := by
  unfold spec_DrawClearText.f
  obtain ⟨h, e⟩ := spec_l01New_eq l hl k (by omega)
  rw [e]; simp only [Option.bind_some]
  obtain ⟨w, x, d, c, b, i1, h1, e1, c1⟩ := spec_l17Head_eq (cur_new hl) h k (by omega)
  rw [e1]; simp only [Option.bind_some]
  obtain ⟨t, ys, i2, h2, e2, hb⟩ := spec_l17Clear_eq c1 h1 w x d c b k (by omega)
  rw [e2]; exact ⟨_, _, _, _, _, _, _, rfl, hb⟩

theorem str_append (xs ys : List Int) : strOfNums xs ++ strOfNums ys = strOfNums (xs ++ ys) := by
  apply ByteArray.ext
  apply Array.ext'
  rw [ByteArray.data_append, Array.toList_append, strOfNums_data, strOfNums_data, strOfNums_data, List.map_append]
theorem str_nil : (⟨#[]⟩ : ByteArray) = strOfNums [] := rfl
theorem str_size (xs : List Int) : (strOfNums xs).size = xs.length := strOfNums_size xs

def depthB (d : Int) : Bool := smallD d || bigD d
theorem depthB_nat {d : Int} (h : depthB d = true) : ∃ D : Nat, d = D ∧ (D = 1 ∨ D = 2 ∨ D = 4 ∨ D = 8 ∨ D = 16) := by
  simp [depthB, smallD, bigD] at h
  rcases h with h | h
  · rcases h with (h | h) | h <;> subst h
    · exact ⟨1, rfl, by omega⟩
    · exact ⟨2, rfl, by omega⟩
    · exact ⟨4, rfl, by omega⟩
  · rcases h with h | h <;> subst h
    · exact ⟨8, rfl, by omega⟩
    · exact ⟨16, rfl, by omega⟩
/-- Bit t of the samples, the highest of each first. -/
def bitF (xs : List Int) (D t : Nat) : Int := if t < xs.length * D then xs.getD (t / D) 0 / 2 ^ (D - 1 - t % D) % 2 else 0
theorem bitF_bd (xs : List Int) (D t : Nat) : 0 ≤ bitF xs D t ∧ bitF xs D t ≤ 1 := by unfold bitF; split <;> omega
theorem bitF_at (xs : List Int) (D i k : Nat) (hi : i < xs.length) (hk : k < D) : bitF xs D (i * D + k) = xs[i] / 2 ^ (D - 1 - k) % 2 := by
  have h1 : (i * D + k) / D = i := by
    rw [Nat.mul_comm, Nat.mul_add_div (by omega), Nat.div_eq_of_lt hk, Nat.add_zero]
  have h2 : (i * D + k) % D = k := by
    rw [Nat.mul_comm, Nat.mul_add_mod, Nat.mod_eq_of_lt hk]
  have h3 : i * D + k < xs.length * D := by
    have : (i + 1) * D ≤ xs.length * D := Nat.mul_le_mul_right _ hi
    rw [Nat.succ_mul] at this; omega
  unfold bitF
  rw [if_pos h3, h1, h2]
  simp [List.getD, hi]
theorem bitF_past (xs : List Int) (D t : Nat) (h : xs.length * D ≤ t) : bitF xs D t = 0 := by
  unfold bitF; rw [if_neg (by omega)]
/-- Eight bits as a byte. -/
def byteV (f : Nat → Int) (j : Nat) : Int := f (8 * j) * 128 + f (8 * j + 1) * 64 + f (8 * j + 2) * 32 + f (8 * j + 3) * 16 + f (8 * j + 4) * 8 + f (8 * j + 5) * 4 + f (8 * j + 6) * 2 + f (8 * j + 7)
def isBits (f : Nat → Int) : Prop := ∀ t, 0 ≤ f t ∧ f t ≤ 1
theorem byteV_bd {f : Nat → Int} (h : isBits f) (j : Nat) : 0 ≤ byteV f j ∧ byteV f j ≤ 255 := by
  have := h (8 * j); have := h (8 * j + 1); have := h (8 * j + 2); have := h (8 * j + 3); have := h (8 * j + 4); have := h (8 * j + 5); have := h (8 * j + 6); have := h (8 * j + 7)
  unfold byteV; omega
def bytesV (f : Nat → Int) (N : Nat) : List Int := (List.range N).map (byteV f)
theorem bytesV_len (f : Nat → Int) (N : Nat) : (bytesV f N).length = N := by simp [bytesV]
theorem bytesV_get (f : Nat → Int) (N j : Nat) (h : j < N) : rd (bytesV f N) j = byteV f j := by
  rw [rd_at _ _ (by rw [bytesV_len]; exact h)]; simp [bytesV]
theorem bytesV_succ (f : Nat → Int) (N : Nat) : bytesV f (N + 1) = bytesV f N ++ [byteV f N] := by simp [bytesV, List.range_succ]
/-- How many bytes so many bits need. -/
def upN (n : Nat) : Nat := (n + 7) / 8
def packRow (xs : List Int) (d : Int) : ByteArray × Bool :=
  if depthB d && decide (xs.length ≤ 96) && xs.all (inB (p2 d - 1)) then (strOfNums (bytesV (bitF xs d.toNat) (upN (xs.length * d.toNat))), true) else (⟨#[]⟩, false)

/-- Bit t of a text, the highest of each byte first. -/
def tbit (s : ByteArray) (t : Nat) : Int := bt s ((t / 8 : Nat) : Int) / 2 ^ (7 - t % 8) % 2
theorem tbit_bd (s : ByteArray) : isBits (tbit s) := fun t => by unfold tbit; omega
/-- The number whose bits, the highest first, are those from o on. -/
def valF (g : Nat → Int) (o : Nat) : Nat → Int
  | 0 => 0
  | k + 1 => 2 * valF g o k + g (o + k)
theorem valF_bd {g : Nat → Int} (h : isBits g) (o k : Nat) : 0 ≤ valF g o k ∧ valF g o k < 2 ^ k := by
  induction k with
  | zero => simp [valF]
  | succ k ih => have := h (o + k); simp only [valF, Int.pow_succ]; omega
def unpackL (s : ByteArray) (n D : Nat) : List Int := (List.range n).map fun i => valF (tbit s) (i * D) D
theorem unpackL_len (s : ByteArray) (n D : Nat) : (unpackL s n D).length = n := by simp [unpackL]
theorem unpackL_succ (s : ByteArray) (n D : Nat) : unpackL s (n + 1) D = unpackL s n D ++ [valF (tbit s) (n * D) D] := by simp [unpackL, List.range_succ]
def countB (n : Int) : Bool := decide (0 ≤ n) && decide (n ≤ 96)
def unpackRow (s : ByteArray) (n d : Int) : List Int × Bool :=
  if depthB d && countB n && decide (s.size = upN (n.toNat * d.toNat)) then (unpackL s n.toNat d.toNat, true) else ([], false)
theorem unpackRow_len (s : ByteArray) (n d : Int) : (unpackRow s n d).1.length ≤ 96 := by
  unfold unpackRow
  split
  · rename_i h
    simp [countB] at h
    rw [unpackL_len]; omega
  · simp
theorem pow16 {k : Nat} (h : k ≤ 16) : (2 : Int) ^ k ≤ 65536 := by
  have := p2_16 (n := (k : Int)) (by omega)
  simpa [p2] using this

theorem bt_str (xs : List Int) (i : Nat) (h : i < xs.length) (h0 : 0 ≤ xs[i]) (h1 : xs[i] ≤ 255) : bt (strOfNums xs) i = xs[i] := by
  have hs : (i : Int).toNat < (strOfNums xs).size := by rw [str_size]; simpa using h
  rw [← bt_at (strOfNums xs) i hs]
  have e : (strOfNums xs)[(i : Int).toNat]'hs = UInt8.ofNat xs[i].toNat := by
    have := strOfNums_data xs
    have q : (strOfNums xs).data.toList[i]? = some (UInt8.ofNat xs[i].toNat) := by rw [this]; simp [h]
    rw [ByteArray.getElem_eq_getElem_data]
    simp only [Array.getElem?_toList] at q
    obtain ⟨_, h⟩ := Array.getElem?_eq_some_iff.1 q
    simpa using h
  rw [e]
  simp
  omega
/-- The bits of bytes that were made of bits. -/
theorem tbit_bytes {f : Nat → Int} (hf : isBits f) (N t : Nat) (h : t < 8 * N) : tbit (strOfNums (bytesV f N)) t = f t := by
  have hl : t / 8 < (bytesV f N).length := by rw [bytesV_len]; omega
  have e : (bytesV f N)[t / 8] = byteV f (t / 8) := by simp [bytesV]
  have b := byteV_bd hf (t / 8)
  unfold tbit
  rw [bt_str _ _ hl (by rw [e]; omega) (by rw [e]; omega), e]
  obtain ⟨q, m, rfl, hm⟩ : ∃ q m, t = 8 * q + m ∧ m < 8 := ⟨t / 8, t % 8, by omega, by omega⟩
  rw [show (8 * q + m) / 8 = q by omega, show (8 * q + m) % 8 = m by omega]
  unfold byteV
  have h0 := hf (8 * q); have h1 := hf (8 * q + 1); have h2 := hf (8 * q + 2); have h3 := hf (8 * q + 3); have h4 := hf (8 * q + 4); have h5 := hf (8 * q + 5); have h6 := hf (8 * q + 6); have h7 := hf (8 * q + 7)
  have : m = 0 ∨ m = 1 ∨ m = 2 ∨ m = 3 ∨ m = 4 ∨ m = 5 ∨ m = 6 ∨ m = 7 := by omega
  rcases this with rfl | rfl | rfl | rfl | rfl | rfl | rfl | rfl <;> simp <;> omega
theorem valF_congr {f g : Nat → Int} (o k : Nat) (h : ∀ j, j < k → f (o + j) = g (o + j)) : valF f o k = valF g o k := by
  induction k with
  | zero => rfl
  | succ k ih =>
    simp only [valF]
    rw [ih (fun j hj => h j (by omega)), h k (by omega)]
theorem valF_bits (xs : List Int) (D i : Nat) (hi : i < xs.length) (h0 : 0 ≤ xs[i]) (h1 : xs[i] < 2 ^ D) (k : Nat) (hk : k ≤ D) : valF (bitF xs D) (i * D) k = xs[i] / 2 ^ (D - k) := by
  induction k with
  | zero =>
    simp only [valF, Nat.sub_zero]
    rw [Int.ediv_eq_zero_of_lt h0 h1]
  | succ k ih =>
    simp only [valF]
    rw [ih (by omega), bitF_at xs D i k hi (by omega)]
    have e : D - k = (D - 1 - k) + 1 := by omega
    rw [e, Int.pow_succ, ← Int.ediv_ediv_of_nonneg (by exact_mod_cast Nat.zero_le _), show D - (k + 1) = D - 1 - k by omega]
    generalize xs[i] / 2 ^ (D - 1 - k) = y
    omega
/-- Samples come back from their bytes. -/
theorem unpack_pack (xs : List Int) (d : Int) (h : (packRow xs d).2 = true) : unpackRow (packRow xs d).1 xs.length d = (xs, true) ∧ ∃ D : Nat, d = D ∧ D ≤ 16 ∧ xs.length ≤ 96 ∧ (packRow xs d).1.size = upN (xs.length * D) := by
  unfold packRow at h ⊢
  split at h
  · rename_i q
    rw [if_pos q]
    simp only [Bool.and_eq_true, decide_eq_true_eq] at q
    obtain ⟨⟨hd, hn⟩, ha⟩ := q
    obtain ⟨D, rfl, hD⟩ := depthB_nat hd
    simp only [Int.toNat_natCast]
    have sz : (strOfNums (bytesV (bitF xs D) (upN (xs.length * D)))).size = upN (xs.length * D) := by rw [str_size, bytesV_len]
    refine ⟨?_, D, rfl, by omega, hn, sz⟩
    unfold unpackRow
    have cb : countB (xs.length : Int) = true := by simp [countB]; omega
    rw [if_pos (by rw [hd, cb, sz]; simp)]
    congr 1
    unfold unpackL
    apply List.ext_getElem (by simp)
    intro i h1 h2
    have lt : i < xs.length := h2
    simp only [List.getElem_map, List.getElem_range, Int.toNat_natCast]
    have top : (i + 1) * D ≤ xs.length * D := Nat.mul_le_mul_right _ lt
    have topi : (i + 1) * D = i * D + D := Nat.succ_mul _ _
    have hb := List.all_eq_true.1 ha xs[i] (List.getElem_mem lt)
    simp only [inB, Bool.and_eq_true, decide_eq_true_eq] at hb
    rw [valF_congr (i * D) D (fun j hj => tbit_bytes (bitF_bd xs D) _ _ (by unfold upN; omega)), valF_bits xs D i lt hb.1 (by have := hb.2; unfold p2 at this; rw [Int.toNat_natCast] at this; omega) D (Nat.le_refl _), Nat.sub_self]
    simp
  · simp at h

def tri (s : ByteArray) (n : Nat) : List S52 := (List.range n).map fun (j : Nat) => ⟨bt s (3 * (j : Int)), bt s (3 * (j : Int) + 1), bt s (3 * (j : Int) + 2)⟩
theorem tri_succ (s : ByteArray) (n : Nat) : tri s (n + 1) = tri s n ++ [⟨bt s (3 * n), bt s (3 * n + 1), bt s (3 * n + 2)⟩] := by simp [tri, List.range_succ]
theorem tri_length (s : ByteArray) (n : Nat) : (tri s n).length = n := by simp [tri]
def tableLen (n : Nat) : Bool := decide (n % 3 = 0) && decide (1 ≤ n / 3) && decide (n / 3 ≤ 256)
theorem tableLen_iff (n : Nat) : tableLen n = true ↔ n % 3 = 0 ∧ 1 ≤ n / 3 ∧ n / 3 ≤ 256 := by simp [tableLen, and_assoc]
theorem tableLen_int (n : Nat) (h : ((n : Int) % 3) = 0) : (decide (1 ≤ (n : Int) / 3) && decide ((n : Int) / 3 ≤ 256)) = tableLen n := by
  rw [Bool.eq_iff_iff, tableLen_iff]; simp; omega
theorem tableLen_no (n : Nat) (h : ¬ ((n : Int) % 3) = 0) : tableLen n = false := by
  rw [Bool.eq_false_iff, ne_eq, tableLen_iff]; omega

def byteB (x : Int) : Bool := decide (0 ≤ x) && decide (x ≤ 255)
def rgbB (c : S52) : Bool := byteB c.f0 && byteB c.f1 && byteB c.f2
def rgbBytes (xs : List S52) : List Int := xs.flatMap fun c => [c.f0 % 256, c.f1 % 256, c.f2 % 256]
theorem rgbBytes_len (xs : List S52) : (rgbBytes xs).length = 3 * xs.length := by
  induction xs with
  | nil => rfl
  | cons c xs ih => simp only [rgbBytes, List.flatMap_cons, List.length_append, List.length_cons, List.length_nil] at ih ⊢; omega
theorem rgbBytes_take (xs : List S52) (i : Nat) (h : i < xs.length) : rgbBytes (xs.take (i + 1)) = rgbBytes (xs.take i) ++ [xs[i].f0 % 256, xs[i].f1 % 256, xs[i].f2 % 256] := by
  unfold rgbBytes
  rw [List.take_succ_eq_append_getElem h, List.flatMap_append]; rfl
def tableOk (xs : List S52) : Bool := decide (1 ≤ xs.length) && decide (xs.length ≤ 256) && xs.all rgbB
def tableText (xs : List S52) : ByteArray × Bool := if tableOk xs then (strOfNums (rgbBytes xs), true) else (⟨#[]⟩, false)
theorem rgb_drop_all (xs : List S52) (i : Nat) (h : i < xs.length) : (xs.drop i).all rgbB = (rgbB xs[i] && (xs.drop (i + 1)).all rgbB) := by
  rw [List.drop_eq_getElem_cons h]; rfl

def sideB (n : Int) : Bool := decide (1 ≤ n) && decide (n ≤ 24)
theorem sideB_iff (n : Int) : sideB n = true ↔ 1 ≤ n ∧ n ≤ 24 := by simp [sideB]

def headB (w h d c : Int) : Bool := sideB w && sideB h && dok c d

/-- A number in so many bytes, the highest first. -/
def bigB (n : Int) : Nat → List Int
  | 0 => []
  | s + 1 => bigB (n / 256) s ++ [n % 256]
theorem bigB_len (s : Nat) : ∀ n, (bigB n s).length = s := by
  induction s with
  | zero => intro n; rfl
  | succ s ih => intro n; simp [bigB, ih]
theorem bigB_cons (s : Nat) : ∀ n : Int, bigB n (s + 1) = (n / 256 ^ s % 256) :: bigB n s := by
  induction s with
  | zero => intro n; simp [bigB]
  | succ s ih =>
    intro n
    have e : n / 256 / 256 ^ s = n / 256 ^ (s + 1) := by
      rw [Int.ediv_ediv_of_nonneg (by decide), Int.pow_succ, Int.mul_comm]
    calc bigB n (s + 1 + 1) = bigB (n / 256) (s + 1) ++ [n % 256] := rfl
      _ = (n / 256 ^ (s + 1) % 256) :: (bigB (n / 256) s ++ [n % 256]) := by rw [ih, e]; rfl
      _ = _ := rfl

def clearSz (c : Int) : Nat := if c = 3 then 1 else 2
def clearBytes (c : Int) (xs : List Int) : List Int := xs.flatMap fun x => bigB x (clearSz c)
def clearText (w h d c t : Int) (xs : List Int) : ByteArray × Bool := if decide (xs.length ≠ 0) && headB w h d c && clearOk d c t xs then (strOfNums (clearBytes c xs), true) else (⟨#[]⟩, false)
theorem clearBytes_take (c : Int) (xs : List Int) (i : Nat) (h : i < xs.length) : clearBytes c (xs.take (i + 1)) = clearBytes c (xs.take i) ++ bigB xs[i] (clearSz c) := by
  unfold clearBytes
  rw [List.take_succ_eq_append_getElem h, List.flatMap_append]; simp
theorem clearBytes_len (c : Int) (xs : List Int) : (clearBytes c xs).length ≤ 2 * xs.length := by
  have hs : clearSz c ≤ 2 := by unfold clearSz; split <;> omega
  unfold clearBytes
  induction xs with
  | nil => simp
  | cons x xs ih => simp only [List.flatMap_cons, List.length_append, List.length_cons, bigB_len]; omega
/-- What is clear is told in so many bytes. -/
theorem clearOk_bd {d c t : Int} {xs : List Int} (h : clearOk d c t xs = true) (hl : xs.length ≠ 0) : ∀ x ∈ xs, 0 ≤ x ∧ x ≤ 65535 ∧ (c = 3 → x ≤ 255) := by
  have b := depB_bd d
  have p := p2_16 b.2
  intro x hx
  unfold clearOk at h
  split at h
  · rename_i h3
    simp only [Bool.and_eq_true] at h
    have := List.all_eq_true.1 h.2 x hx
    simp [inB] at this
    omega
  · rename_i h3
    try rw [if_neg hl] at h
    split at h
    · simp only [Bool.and_eq_true] at h
      have := List.all_eq_true.1 h.2 x hx
      simp [inB] at this
      exact ⟨this.1, by omega, fun e => absurd e h3⟩
    · split at h
      · simp only [Bool.and_eq_true] at h
        have := List.all_eq_true.1 h.2 x hx
        simp [inB] at this
        exact ⟨this.1, by omega, fun e => absurd e h3⟩
      · cases h

/-- The number that n bytes tell, the highest first. -/
def valB (s : ByteArray) (o : Nat) : Nat → Int
  | 0 => 0
  | n + 1 => 256 * valB s o n + bt s ((o + n : Nat) : Int)
theorem valB_bd (s : ByteArray) (o n : Nat) : 0 ≤ valB s o n ∧ valB s o n < 256 ^ n := by
  induction n with
  | zero => simp [valB]
  | succ n ih => have := bt_range s ((o + n : Nat) : Int); simp only [valB, Int.pow_succ]; omega
theorem pow256 {n : Nat} (h : n ≤ 4) : (256 : Int) ^ n ≤ 4294967296 := by
  have : n = 0 ∨ n = 1 ∨ n = 2 ∨ n = 3 ∨ n = 4 := by omega
  rcases this with rfl | rfl | rfl | rfl | rfl <;> decide
def readBig (s : ByteArray) (at_ size : Int) : Int × Bool := if 1 ≤ size ∧ size ≤ 4 ∧ 0 ≤ at_ ∧ at_ ≤ s.size - size then (valB s at_.toNat size.toNat, true) else (0, false)

def flagN (l : Bool) : Int := if l then 1 else 0
def headBytes (w h d c : Int) (l : Bool) : List Int := bigB w 4 ++ bigB h 4 ++ [d % 256, c % 256, 0, 0, flagN l]
def headText (w h d c : Int) (l : Bool) : ByteArray × Bool := if headB w h d c then (strOfNums (headBytes w h d c l), true) else (⟨#[]⟩, false)
theorem headB_bd {w h d c : Int} (q : headB w h d c = true) : (1 ≤ w ∧ w ≤ 24) ∧ 1 ≤ h ∧ h ≤ 24 := by
  simp only [headB, Bool.and_eq_true, sideB_iff] at q; omega

def readHead (s : ByteArray) : Int × Int × Int × Int × Bool × Bool :=
  if s.size = 13 then
    let w := (readBig s 0 4).1; let h := (readBig s 4 4).1; let d := bt s 8; let c := bt s 9; let l := (bt s 12) == 1
    if (headText w h d c l).2 = true ∧ (headText w h d c l).1.toList = s.toList then (w, h, d, c, l, true) else (0, 0, 0, 0, false, false)
  else (0, 0, 0, 0, false, false)

theorem bt_str' (xs : List Int) (hb : ∀ x ∈ xs, 0 ≤ x ∧ x ≤ 255) (i : Nat) (h : i < xs.length) : bt (strOfNums xs) i = xs[i] := bt_str xs i h (hb _ (List.getElem_mem h)).1 (hb _ (List.getElem_mem h)).2
theorem bigB_bd (s : Nat) : ∀ (n : Int), ∀ x ∈ bigB n s, 0 ≤ x ∧ x ≤ 255 := by
  induction s with
  | zero => intro n x hx; simp [bigB] at hx
  | succ s ih =>
    intro n x hx
    simp only [bigB, List.mem_append, List.mem_singleton] at hx
    rcases hx with hx | rfl
    · exact ih _ x hx
    · omega
/-- A number put down so is read again. -/
theorem valB_bigB (a b : List Int) (s : Nat) : ∀ (n : Int), 0 ≤ n → n < 256 ^ s → (∀ x ∈ a ++ bigB n s ++ b, 0 ≤ x ∧ x ≤ 255) → valB (strOfNums (a ++ bigB n s ++ b)) a.length s = n := by
  induction s generalizing b with
  | zero => intro n h0 h1 _; simp [valB] at h1 ⊢; omega
  | succ s ih =>
    intro n h0 h1 hb
    simp only [valB]
    have e : a ++ bigB n (s + 1) ++ b = a ++ bigB (n / 256) s ++ (n % 256 :: b) := by simp [bigB]
    rw [e] at hb ⊢
    rw [Int.pow_succ] at h1
    rw [ih (n % 256 :: b) (n / 256) (by omega) (by omega) hb]
    have l := bigB_len s (n / 256)
    have lt : a.length + s < (a ++ bigB (n / 256) s ++ (n % 256 :: b)).length := by simp [l]
    rw [bt_str' _ hb _ lt]
    have g : (a ++ bigB (n / 256) s ++ (n % 256 :: b))[a.length + s]'lt = n % 256 := by
      rw [List.getElem_append_right (by simp [l])]
      simp [l]
    rw [g]; omega
theorem dok_bd {c d : Int} (h : dok c d = true) : (1 ≤ d ∧ d ≤ 16) ∧ 0 ≤ c ∧ c ≤ 6 := by
  unfold dok smallD bigD at h
  repeat' split at h
  all_goals (try simp at h)
  all_goals (try omega)
theorem readHead_headText {w h d c : Int} {l : Bool} (q : headB w h d c = true) : (headText w h d c l).1.size = 13 ∧ readHead (headText w h d c l).1 = (w, h, d, c, l, true) := by
  have hb := headB_bd q
  have dk : dok c d = true := by simp only [headB, Bool.and_eq_true] at q; exact q.2
  have bd := dok_bd dk
  have l1 := bigB_len 4 w
  have l2 := bigB_len 4 h
  have z : (headBytes w h d c l).length = 13 := by unfold headBytes; simp [l1, l2]
  have all : ∀ x ∈ headBytes w h d c l, 0 ≤ x ∧ x ≤ 255 := by
    intro x hx
    unfold headBytes at hx
    simp only [List.mem_append] at hx
    rcases hx with (hx | hx) | hx
    · exact bigB_bd _ _ _ hx
    · exact bigB_bd _ _ _ hx
    · simp only [List.mem_cons, List.not_mem_nil, or_false] at hx
      unfold flagN at hx
      rcases hx with rfl | rfl | rfl | rfl | rfl
      · omega
      · omega
      · omega
      · omega
      · cases l <;> simp
  have t1 : (headText w h d c l) = (strOfNums (headBytes w h d c l), true) := by unfold headText; rw [if_pos q]
  have s13 : (headText w h d c l).1.size = 13 := by rw [t1]; show (strOfNums _).size = 13; rw [str_size, z]
  refine ⟨s13, ?_⟩
  have v1 : valB (headText w h d c l).1 0 4 = w := by
    rw [t1]
    have := valB_bigB [] (bigB h 4 ++ [d % 256, c % 256, 0, 0, flagN l]) 4 w (by omega) (by have : (256 : Int) ^ 4 = 4294967296 := rfl; omega) (by intro x hx; exact all x (by unfold headBytes; simpa using hx))
    simpa [headBytes] using this
  have v2 : valB (headText w h d c l).1 4 4 = h := by
    rw [t1]
    have := valB_bigB (bigB w 4) [d % 256, c % 256, 0, 0, flagN l] 4 h (by omega) (by have : (256 : Int) ^ 4 = 4294967296 := rfl; omega) (by intro x hx; exact all x (by unfold headBytes; simpa using hx))
    rw [l1] at this
    simpa [headBytes] using this
  have g : ∀ (i : Nat) (x : Int), (headBytes w h d c l)[i]? = some x → bt (headText w h d c l).1 i = x := by
    intro i x hx
    obtain ⟨hi, he⟩ := List.getElem?_eq_some_iff.1 hx
    rw [t1]
    show bt (strOfNums _) i = x
    rw [bt_str' _ all i hi, he]
  have hd : ∀ j : Nat, j < 5 → (headBytes w h d c l)[8 + j]? = [d % 256, c % 256, 0, 0, flagN l][j]? := by
    intro j hj
    unfold headBytes
    rw [List.getElem?_append_right (by simp [l1, l2])]
    simp [l1, l2]
  have g8 := g 8 d (by rw [show 8 = 8 + 0 from rfl, hd 0 (by omega)]; simp; omega)
  have g9 := g 9 c (by rw [show 9 = 8 + 1 from rfl, hd 1 (by omega)]; simp; omega)
  have g12 := g 12 (flagN l) (by rw [show 12 = 8 + 4 from rfl, hd 4 (by omega)]; simp)
  have r1 : (readBig (headText w h d c l).1 0 4).1 = w := by
    unfold readBig; rw [if_pos (by omega)]; exact v1
  have r2 : (readBig (headText w h d c l).1 4 4).1 = h := by
    unfold readBig; rw [if_pos (by omega)]; exact v2
  have g8' : bt (headText w h d c l).1 8 = d := g8
  have g9' : bt (headText w h d c l).1 9 = c := g9
  have g12' : ((bt (headText w h d c l).1 12) == 1) = l := by
    have : bt (headText w h d c l).1 12 = flagN l := g12
    rw [this]; unfold flagN; cases l <;> rfl
  unfold readHead
  rw [if_pos s13]
  simp only [r1, r2, g8', g9', g12']
  rw [if_pos]
  rw [t1]; simp
theorem rgbB_bd {x : S52} (h : rgbB x = true) : (0 ≤ x.f0 ∧ x.f0 ≤ 255) ∧ (0 ≤ x.f1 ∧ x.f1 ≤ 255) ∧ 0 ≤ x.f2 ∧ x.f2 ≤ 255 := by
  simp [rgbB, byteB] at h; omega
theorem rgbBytes_bd (xs : List S52) : ∀ x ∈ rgbBytes xs, 0 ≤ x ∧ x ≤ 255 := by
  intro x hx
  unfold rgbBytes at hx
  obtain ⟨c, _, hc⟩ := List.mem_flatMap.1 hx
  simp only [List.mem_cons, List.not_mem_nil, or_false] at hc
  rcases hc with rfl | rfl | rfl <;> omega
theorem rgbBytes_get (xs : List S52) : ∀ (j : Nat) (hj : j < xs.length), (rgbBytes xs)[3 * j]? = some (xs[j].f0 % 256) ∧ (rgbBytes xs)[3 * j + 1]? = some (xs[j].f1 % 256) ∧ (rgbBytes xs)[3 * j + 2]? = some (xs[j].f2 % 256) := by
  induction xs with
  | nil => intro j hj; simp at hj
  | cons x xs ih =>
    intro j hj
    have e : rgbBytes (x :: xs) = [x.f0 % 256, x.f1 % 256, x.f2 % 256] ++ rgbBytes xs := rfl
    rw [e]
    cases j with
    | zero => simp
    | succ j =>
      have q := ih j (by simpa using hj)
      rw [List.getElem?_append_right (by simp; omega), List.getElem?_append_right (by simp; omega), List.getElem?_append_right (by simp; omega)]
      simp only [List.length_cons, List.length_nil, List.getElem_cons_succ]
      rw [show 3 * (j + 1) - (0 + 1 + 1 + 1) = 3 * j by omega, show 3 * (j + 1) + 1 - (0 + 1 + 1 + 1) = 3 * j + 1 by omega, show 3 * (j + 1) + 2 - (0 + 1 + 1 + 1) = 3 * j + 2 by omega]
      exact q
theorem tri_table (xs : List S52) (h : xs.all rgbB = true) : tri (strOfNums (rgbBytes xs)) xs.length = xs := by
  apply List.ext_getElem
  · rw [tri_length]
  · intro j h1 h2
    have q := rgbBytes_get xs j h2
    have b := rgbB_bd (List.all_eq_true.1 h _ (List.getElem_mem h2))
    have g : ∀ (i : Nat) (x : Int), (rgbBytes xs)[i]? = some x → bt (strOfNums (rgbBytes xs)) i = x := by
      intro i x hx
      obtain ⟨hi, he⟩ := List.getElem?_eq_some_iff.1 hx
      rw [bt_str' _ (rgbBytes_bd xs) i hi, he]
    have g0 := g _ _ q.1
    have g1 := g _ _ q.2.1
    have g2 := g _ _ q.2.2
    rw [show ((3 * j : Nat) : Int) = 3 * (j : Int) by omega] at g0
    rw [show ((3 * j + 1 : Nat) : Int) = 3 * (j : Int) + 1 by omega] at g1
    rw [show ((3 * j + 2 : Nat) : Int) = 3 * (j : Int) + 2 by omega] at g2
    simp only [tri, List.getElem_map, List.getElem_range, g0, g1, g2]
    have e0 : xs[j].f0 % 256 = xs[j].f0 := by omega
    have e1 : xs[j].f1 % 256 = xs[j].f1 := by omega
    have e2 : xs[j].f2 % 256 = xs[j].f2 := by omega
    rw [e0, e1, e2]
theorem clearBytes_bd (c : Int) (xs : List Int) : ∀ x ∈ clearBytes c xs, 0 ≤ x ∧ x ≤ 255 := by
  intro x hx
  unfold clearBytes at hx
  obtain ⟨y, _, hy⟩ := List.mem_flatMap.1 hx
  exact bigB_bd _ _ _ hy
theorem clearBytes_size (c : Int) (xs : List Int) : (clearBytes c xs).length = xs.length * clearSz c := by
  unfold clearBytes
  induction xs with
  | nil => simp
  | cons x xs ih => simp only [List.flatMap_cons, List.length_append, List.length_cons, bigB_len, ih, Nat.succ_mul]; omega
theorem valB_clear (c : Int) (xs : List Int) (hb : ∀ x ∈ xs, 0 ≤ x ∧ x ≤ 65535 ∧ (c = 3 → x ≤ 255)) (i : Nat) (h : i < xs.length) : valB (strOfNums (clearBytes c xs)) (i * clearSz c) (clearSz c) = xs[i] := by
  have b := hb _ (List.getElem_mem h)
  have sp : clearBytes c xs = clearBytes c (xs.take i) ++ bigB xs[i] (clearSz c) ++ clearBytes c (xs.drop (i + 1)) := by
    rw [← clearBytes_take c xs i h]
    unfold clearBytes
    rw [← List.flatMap_append, List.take_append_drop]
  have ln := clearBytes_size c (xs.take i)
  rw [List.length_take, Nat.min_eq_left (by omega)] at ln
  have := valB_bigB (clearBytes c (xs.take i)) (clearBytes c (xs.drop (i + 1))) (clearSz c) xs[i] b.1 (by unfold clearSz; by_cases e : c = 3 <;> simp [e] <;> omega) (by rw [← sp]; exact clearBytes_bd c xs)
  rw [← sp, ln] at this
  exact this

theorem impl_within_eq (a b c : Int) : impl_within.f a b c = some (decide (b ≤ a) && decide (a ≤ c)) := by
  unfold impl_within.f
  by_cases h : b ≤ a <;> simp [h]

theorem impl_isSide_eq (n : Int) : impl_isSide.f n = some (sideB n) := by simp [impl_isSide.f, impl_within_eq, sideB]

def chan (c : Int) : Int := if c = 0 then 1 else if c = 3 then 1 else if c = 2 then 3 else if c = 4 then 2 else if c = 6 then 4 else 0

theorem impl_ChannelsOf_eq (k : Nat) (hk : 1 ≤ k) (c : Int) : impl_ChannelsOf.f k c = some (chan c) := by
  obtain ⟨k, rfl⟩ : ∃ m, k = m + 1 := ⟨k - 1, by omega⟩
  simp only [impl_ChannelsOf.f, impl_ChannelsOf.j0, chan]
  by_cases h0 : c = 0
  · simp [h0]
  · by_cases h3 : c = 3
    · simp [h3]
    · by_cases h2 : c = 2
      · simp [h2]
      · by_cases h4 : c = 4
        · simp [h4]
        · simp [h0, h3, h2, h4]; repeat (first | split | rfl)

theorem impl_isDepth_eq (d : Int) : impl_isDepth.f d = some (smallD d || bigD d) := by
  simp only [impl_isDepth.f, smallD, bigD]
  by_cases h1 : d = 1
  · simp [h1]
  by_cases h2 : d = 2
  · simp [h2]
  by_cases h4 : d = 4
  · simp [h4]
  by_cases h8 : d = 8
  · simp [h8]
  · have e1 : (d == 1) = false := by simpa using h1
    have e2 : (d == 2) = false := by simpa using h2
    have e4 : (d == 4) = false := by simpa using h4
    have e8 : (d == 8) = false := by simpa using h8
    simp only [h1, h2, h4, h8, e1, e2, e4, e8, if_false, Bool.false_or]

theorem impl_DepthOk_eq (k : Nat) (hk : 1 ≤ k) (c d : Int) : impl_DepthOk.f k c d = some (dok c d) := by
  have h8 : (if d = 8 then some true else some (d == 16)) = some (bigD d) := by unfold bigD; by_cases h : d = 8 <;> simp [h]
  simp only [impl_DepthOk.f, impl_isDepth_eq, impl_ChannelsOf_eq k hk, Option.bind_some, dok, h8]
  by_cases h0 : c = 0
  · simp [h0]
  by_cases h3 : c = 3
  · subst h3
    simp only [show ¬ ((3 : Int) = 0) by decide, if_true, if_false]
    unfold smallD bigD
    by_cases h1 : d = 1
    · simp [h1]
    by_cases h2 : d = 2
    · simp [h2]
    by_cases h4 : d = 4
    · simp [h4]
    by_cases h8 : d = 8
    · simp [h8]
    by_cases h16 : d = 16
    · simp [h16]
    · simp [h1, h2, h4, h8, h16]
  · simp only [h0, h3, chan, if_false]
    by_cases h2 : c = 2
    · simp [h2]
    by_cases h4 : c = 4
    · simp [h4]
    by_cases h6 : c = 6
    · simp [h6]
    · simp [h2, h4, h6]

theorem impl_HeadOk_eq (k : Nat) (hk : 1 ≤ k) (w h d c : Int) (l : Bool) : impl_HeadOk.f k w h d c l = some (headB w h d c) := by
  unfold impl_HeadOk.f headB
  simp only [impl_isSide_eq, impl_DepthOk_eq k hk, Option.bind_some]
  cases sideB w <;> cases sideB h <;> simp

theorem shl_one (n : Int) (h0 : 0 ≤ n) (h62 : n ≤ 62) : shl .i64 1 n = p2 n := by
  have b1 := p2_pos n
  have b2 := p2_62 h62
  unfold shl
  rw [show min n.toNat IntKind.i64.bits = n.toNat by simp [IntKind.bits]; omega, Int.one_mul, IntKind.wrap_i64]
  show (p2 n + 9223372036854775808) % 18446744073709551616 - 9223372036854775808 = p2 n
  omega
theorem impl_powerOf_eq (n : Int) : impl_powerOf.f n = some (if 0 ≤ n ∧ n ≤ 62 then p2 n else 0) := by
  unfold impl_powerOf.f
  rw [impl_within_eq]
  simp only [Option.bind_some]
  by_cases h0 : 0 ≤ n
  · by_cases h1 : n ≤ 62
    · simp [h0, h1, shl_one n h0 h1]
    · simp [h0, h1]
  · simp [h0]

theorem impl_samplesOk_l0 (n : Int) (h0 : 0 ≤ n) (h1 : n ≤ 62) (xs : List Int) (hx : xs.length ≤ 9223372036854775807) (d : Nat) : ∀ (k i : Nat), i ≤ xs.length → xs.length - i = d → d < k → impl_samplesOk.l0 k n xs xs.length i = some ((xs.drop i).all (inB (p2 n - 1))) := by
  induction d with
  | zero =>
    intro k i hi hd hk
    obtain ⟨k, rfl⟩ : ∃ m, k = m + 1 := ⟨k - 1, by omega⟩
    simp only [impl_samplesOk.l0]
    rw [if_neg (by omega), drop_all_end _ _ _ (by omega)]
  | succ d ih =>
    intro k i hi hd hk
    obtain ⟨k, rfl⟩ : ∃ m, k = m + 1 := ⟨k - 1, by omega⟩
    have lt : i < xs.length := by omega
    have b1 := p2_pos n
    have b2 := p2_62 h1
    simp only [impl_samplesOk.l0, impl_powerOf_eq, Option.bind_some]
    rw [if_pos (by omega), if_pos (by omega), if_pos (by omega), if_pos ⟨h0, h1⟩, w64 (x := p2 n - 1) (by omega) (by omega), impl_within_eq, rd_at xs i lt, w64 (by omega) (by omega), drop_all _ _ _ lt]
    simp only [Option.bind_some]
    have step := ih k (i + 1) (by omega) (by omega) (by omega)
    push_cast at step
    rw [step]
    unfold inB
    cases (decide (0 ≤ xs[i]) && decide (xs[i] ≤ p2 n - 1)) <;> simp
theorem impl_samplesOk_eq (n : Int) (h0 : 0 ≤ n) (h1 : n ≤ 62) (xs : List Int) (hx : xs.length ≤ 9223372036854775807) (k : Nat) (hk : xs.length < k) : impl_samplesOk.f k xs n = some (xs.all (inB (p2 n - 1))) := by
  unfold impl_samplesOk.f
  have := impl_samplesOk_l0 n h0 h1 xs hx xs.length k 0 (by omega) (by omega) hk
  simpa using this

theorem impl_ClearOk_j0 (t : Int) (xs : List Int) (hx : xs.length ≤ 9223372036854775807) (hl : xs.length ≠ 0) (w h d c : Int) (l : Bool) (k : Nat) (hk : xs.length + 1 < k) : impl_ClearOk.j0 k t xs (depB d) w h d c l = some (clearOk d c t xs) := by
  obtain ⟨k, rfl⟩ : ∃ m, k = m + 1 := ⟨k - 1, by omega⟩
  have b := depB_bd d
  simp only [impl_ClearOk.j0, clearOk]
  rw [impl_samplesOk_eq (depB d) b.1 (by omega) xs hx k (by omega), impl_samplesOk_eq 8 (by omega) (by omega) xs hx k (by omega)]
  simp only [Option.bind_some, hl, if_false, show p2 8 - 1 = 255 from rfl]
  by_cases h0 : c = 0
  · subst h0
    simp only [if_true, show ¬ ((0 : Int) = 3) by decide, if_false]
    by_cases h1 : xs.length = 1
    · rw [if_pos (by omega)]; simp [h1]
    · rw [if_neg (by omega)]; simp [h1]
  · by_cases h2 : c = 2
    · subst h2
      simp only [if_true, show ¬ ((2 : Int) = 3) by decide, show ¬ ((2 : Int) = 0) by decide, if_false]
      by_cases h1 : xs.length = 3
      · rw [if_pos (by omega)]; simp [h1]
      · rw [if_neg (by omega)]; simp [h1]
    · by_cases h3 : c = 3
      · subst h3
        simp only [if_true, show ¬ ((3 : Int) = 2) by decide, show ¬ ((3 : Int) = 0) by decide, if_false]
        by_cases ht : (xs.length : Int) ≤ t
        · rw [if_pos ht]; simp [ht]
        · rw [if_neg ht]; simp [ht]
      · simp only [h0, h2, h3, if_false]
theorem impl_ClearOk_eq (w h d c : Int) (l : Bool) (t : Int) (xs : List Int) (hx : xs.length ≤ 9223372036854775807) (k : Nat) (hk : xs.length + 1 < k) : impl_ClearOk.f k w h d c l t xs = some (clearOk d c t xs) := by
  unfold impl_ClearOk.f
  by_cases hl : xs.length = 0
  · have e0 : xs = [] := List.eq_nil_of_length_eq_zero hl
    subst e0
    rw [if_pos (by simp)]
    unfold clearOk
    by_cases h3 : c = 3
    · simp [h3]
    · simp [h3]
  · rw [if_neg (by omega), impl_within_eq]
    simp only [Option.bind_some]
    have e := impl_ClearOk_j0 t xs hx hl w h d c l k hk
    by_cases hd : 0 ≤ d ∧ d ≤ 16
    · rw [if_pos (by simp; omega)]
      rw [show depB d = d from if_pos hd] at e
      exact e
    · rw [if_neg (by simp; omega)]
      rw [show depB d = 0 from if_neg hd] at e
      exact e

theorem shr_bytes (n : Int) (i : Nat) (hi : i ≤ 7) : shr .i64 n (8 * (i : Int)) = n / 256 ^ i := by
  unfold shr
  rw [show min (8 * (i : Int)).toNat IntKind.i64.bits = 8 * i by simp [IntKind.bits]; omega, Int.pow_mul]
  rfl
theorem impl_BigText_l0 (n : Int) (r : Nat) : ∀ (k : Nat) (s : List Int), r ≤ 4 → r < k → s.length + r ≤ 4 → impl_BigText.l0 k n s ((r : Int) - 1) = some (strOfNums (s ++ bigB n r), true) := by
  induction r with
  | zero =>
    intro k s hr hk hs
    obtain ⟨k, rfl⟩ : ∃ m, k = m + 1 := ⟨k - 1, by omega⟩
    simp only [impl_BigText.l0]
    rw [if_neg (by omega)]
    simp [bigB]
  | succ r ih =>
    intro k s hr hk hs
    obtain ⟨k, rfl⟩ : ∃ m, k = m + 1 := ⟨k - 1, by omega⟩
    have e : (((r + 1 : Nat) : Int) - 1) = r := by omega
    rw [e]
    simp only [impl_BigText.l0]
    rw [w64 (x := 8 * (r : Int)) (by omega) (by omega), if_pos (by omega), if_pos (by omega), if_pos (by omega), shr_bytes n r (by omega), w64 (x := (r : Int) - 1) (by omega) (by omega)]
    rw [ih k _ (by omega) (by omega) (by simp; omega), bigB_cons]
    simp
theorem impl_BigText_eq (n size : Int) (k : Nat) (hk : 6 ≤ k) : impl_BigText.f k n size = some (if 1 ≤ size ∧ size ≤ 4 ∧ 0 ≤ n ∧ n ≤ p2 (8 * size) - 1 then (strOfNums (bigB n size.toNat), true) else (⟨#[]⟩, false)) := by
  obtain ⟨k, rfl⟩ : ∃ m, k = m + 1 := ⟨k - 1, by omega⟩
  unfold impl_BigText.f
  simp only [impl_within_eq, impl_powerOf_eq, Option.bind_some]
  by_cases h : 1 ≤ size ∧ size ≤ 4
  · have b1 := p2_pos (8 * size)
    have b2 := p2_62 (n := 8 * size) (by omega)
    rw [if_pos (by simp; omega), w64 (x := 8 * size) (by omega) (by omega), if_pos (by omega), w64 (x := p2 (8 * size) - 1) (by omega) (by omega)]
    simp only [impl_BigText.j0]
    by_cases hn : 0 ≤ n ∧ n ≤ p2 (8 * size) - 1
    · obtain ⟨m, rfl⟩ := Int.eq_ofNat_of_zero_le (show 0 ≤ size by omega)
      rw [if_neg (by simp; omega), if_pos (by omega), w64 (by omega) (by omega), impl_BigText_l0 n m k [] (by omega) (by omega) (by simp; omega)]
      rfl
    · rw [if_pos (by simp; omega), if_neg (by omega)]
  · rw [if_neg (by simp; omega), if_neg (by omega)]
    simp [impl_BigText.j0]

theorem impl_clearSize_eq (w h d c : Int) (l : Bool) : impl_clearSize.f w h d c l = some ((clearSz c : Nat) : Int) := by
  unfold impl_clearSize.f clearSz
  split <;> rfl
theorem impl_BigText_clear (c x : Int) (h : 0 ≤ x ∧ x ≤ 65535 ∧ (c = 3 → x ≤ 255)) (k : Nat) (hk : 6 ≤ k) : impl_BigText.f k x (clearSz c : Nat) = some (strOfNums (bigB x (clearSz c)), true) := by
  rw [impl_BigText_eq _ _ k hk, if_pos]
  · simp
  · unfold clearSz
    by_cases h3 : c = 3
    · rw [if_pos h3]
      have := h.2.2 h3
      exact ⟨by omega, by omega, h.1, by show x ≤ 255; omega⟩
    · rw [if_neg h3]
      exact ⟨by omega, by omega, h.1, by show x ≤ 65535; omega⟩
theorem impl_ClearText_l0 (w h d c : Int) (l : Bool) (xs : List Int) (hx : xs.length ≤ 1048576) (hb : ∀ x ∈ xs, 0 ≤ x ∧ x ≤ 65535 ∧ (c = 3 → x ≤ 255)) (n : Nat) : ∀ (k i : Nat), i ≤ xs.length → xs.length - i = n → n + 10 < k → impl_ClearText.l0 k (strOfNums (clearBytes c (xs.take i))) xs xs.length i w h d c l = some (strOfNums (clearBytes c xs), true) := by
  have hs : clearSz c ≤ 2 := by unfold clearSz; split <;> omega
  induction n with
  | zero =>
    intro k i hi hd hk
    obtain ⟨k, rfl⟩ : ∃ m, k = m + 1 := ⟨k - 1, by omega⟩
    obtain rfl : i = xs.length := by omega
    simp only [impl_ClearText.l0]
    rw [if_neg (by omega), List.take_length]
  | succ n ih =>
    intro k i hi hd hk
    obtain ⟨k, rfl⟩ : ∃ m, k = m + 1 := ⟨k - 1, by omega⟩
    have lt : i < xs.length := by omega
    have b := hb _ (List.getElem_mem lt)
    have ln := clearBytes_len c (xs.take i)
    rw [List.length_take] at ln
    have st := ih k (i + 1) (by omega) (by omega) (by omega)
    rw [clearBytes_take c xs i lt] at st
    push_cast at st
    simp only [impl_ClearText.l0, impl_clearSize_eq, Option.bind_some]
    rw [if_pos (by omega), if_pos (by omega), if_pos (by omega), rd_at xs i lt, impl_BigText_clear c _ b k (by omega)]
    simp only [Option.bind_some]
    rw [str_size, str_size, bigB_len, if_pos (by omega), str_append, w64 (by omega) (by omega)]
    exact st
theorem impl_ClearText_eq (w h d c : Int) (l : Bool) (t : Int) (xs : List Int) (hx : xs.length ≤ 1048576) (k : Nat) (hk : xs.length + 80 < k) : impl_ClearText.f k w h d c l t xs = some (clearText w h d c t xs) := by
  obtain ⟨k, rfl⟩ : ∃ m, k = m + 1 := ⟨k - 1, by omega⟩
  have no : impl_ClearText.j0 (k + 1) xs true w h d c l = some (⟨#[]⟩, false) := by simp [impl_ClearText.j0]
  unfold impl_ClearText.f clearText
  rw [impl_HeadOk_eq _ (by omega), no]
  simp only [Option.bind_some]
  by_cases hl : xs.length = 0
  · rw [if_pos (by omega)]; simp [hl]
  · rw [if_neg (by omega)]
    by_cases hh : headB w h d c = true
    · rw [if_pos hh, hh, impl_ClearOk_eq w h d c l t xs (by omega) _ (by omega)]
      simp only [Option.bind_some]
      by_cases hc : clearOk d c t xs = true
      · have bd := clearOk_bd hc hl
        rw [hc]
        simp only [impl_ClearText.j0, Bool.not_true]
        rw [if_neg (by decide)]
        have R := impl_ClearText_l0 w h d c l xs hx bd xs.length k 0 (by omega) (by omega) (by omega)
        rw [show strOfNums (clearBytes c (xs.take 0)) = ⟨#[]⟩ by simp [clearBytes]; rfl] at R
        simpa [hl] using R
      · have : clearOk d c t xs = false := by simpa using hc
        rw [this, Bool.not_false, no]
        simp
    · rw [if_neg hh]; simp [hh]

theorem or_byte (a b : Int) (ha : 0 ≤ a ∧ a ≤ 4294967296) (hb : 0 ≤ b ∧ b ≤ 255) : Go.bits .or .i64 (a * 256) b = 256 * a + b := by
  have := bits_join .i64 62 (by decide) (fun n h0 h1 => by rw [IntKind.wrap_i64]; omega) 8 (a * 256) b (by omega) (by simp) (by simp; omega) hb.1 (by simp; omega) (by simp; omega)
  rw [this]; omega
theorem impl_ReadBig_l0 (s : ByteArray) (hs : s.size ≤ 9223372036854775807) (o size : Nat) (h4 : size ≤ 4) (ho : o + size ≤ s.size) (r : Nat) : ∀ (k i : Nat), i + r = size → r < k → impl_ReadBig.l0 k s o (valB s o i) size i = some (valB s o size, true) := by
  induction r with
  | zero =>
    intro k i hi hk
    obtain ⟨k, rfl⟩ : ∃ m, k = m + 1 := ⟨k - 1, by omega⟩
    obtain rfl : i = size := by omega
    simp only [impl_ReadBig.l0]
    rw [if_neg (by omega)]
  | succ r ih =>
    intro k i hi hk
    obtain ⟨k, rfl⟩ : ∃ m, k = m + 1 := ⟨k - 1, by omega⟩
    have b := valB_bd s o i
    have p := pow256 (n := i) (by omega)
    have bb := bt_range s ((o + i : Nat) : Int)
    have st := ih k (i + 1) (by omega) (by omega)
    simp only [valB] at st
    simp only [impl_ReadBig.l0]
    rw [if_pos (by omega), w64 (x := (o : Int) + i) (by omega) (by omega), if_pos (by omega), if_pos (by omega), show (o : Int) + i = ((o + i : Nat) : Int) by omega, wbt, w64 (x := valB s o i * 256) (by omega) (by omega), or_byte _ _ (by omega) bb, w64 (x := (i : Int) + 1) (by omega) (by omega)]
    exact st
theorem impl_ReadBig_eq (s : ByteArray) (hs : s.size ≤ 4611686018427387904) (at_ size : Int) (k : Nat) (hk : 6 ≤ k) : impl_ReadBig.f k s at_ size = some (readBig s at_ size) := by
  obtain ⟨k, rfl⟩ : ∃ m, k = m + 1 := ⟨k - 1, by omega⟩
  have no : impl_ReadBig.j0 (k + 1) s at_ size true = some (0, false) := by simp [impl_ReadBig.j0]
  unfold impl_ReadBig.f readBig
  rw [impl_within_eq, no]
  simp only [Option.bind_some]
  by_cases h : 1 ≤ size ∧ size ≤ 4
  · rw [if_pos (by simp; omega), w64 (by omega) (by omega)]
    by_cases h0 : at_ < 0
    · rw [if_pos h0, if_neg (by omega)]
    · rw [if_neg h0]
      by_cases h1 : at_ > s.size - size
      · rw [decide_eq_true h1, no, if_neg (by omega)]
      · rw [decide_eq_false h1, if_pos (by omega)]
        simp only [impl_ReadBig.j0]
        rw [if_neg (by decide)]
        obtain ⟨o, rfl⟩ := Int.eq_ofNat_of_zero_le (show 0 ≤ at_ by omega)
        obtain ⟨z, rfl⟩ := Int.eq_ofNat_of_zero_le (show 0 ≤ size by omega)
        exact impl_ReadBig_l0 s (by omega) o z (by omega) (by omega) z k 0 (by omega) (by omega)
  · rw [if_neg (by simp; omega), if_neg (by omega)]

theorem impl_ReadClear_l0 (w h d c : Int) (l : Bool) (t : Int) (xs : List Int) (hx : xs.length ≤ 1000) (hb : ∀ x ∈ xs, 0 ≤ x ∧ x ≤ 65535 ∧ (c = 3 → x ≤ 255)) (r : Int × Int → Int) (n : Nat) : ∀ (k i : Nat), i ≤ xs.length → xs.length - i = n → n + 1200 < k →
    impl_ReadClear.l0 k t (strOfNums (clearBytes c xs)) (clearSz c : Nat) (xs.take i) ((i * clearSz c : Nat) : Int) w h d c l = some (if (clearText w h d c t xs).2 = true ∧ (clearText w h d c t xs).1.toList = (strOfNums (clearBytes c xs)).toList then (xs, true) else ([], false)) := by
  have hs : 1 ≤ clearSz c ∧ clearSz c ≤ 2 := by unfold clearSz; split <;> omega
  have sz := clearBytes_size c xs
  have sz2 : xs.length * clearSz c ≤ xs.length * 2 := Nat.mul_le_mul_left _ hs.2
  induction n with
  | zero =>
    intro k i hi hd hk
    obtain ⟨k, rfl⟩ : ∃ m, k = m + 1 := ⟨k - 1, by omega⟩
    obtain rfl : i = xs.length := by omega
    simp only [impl_ReadClear.l0]
    rw [str_size, if_neg (by omega), List.take_length, impl_ClearText_eq w h d c l t xs (by omega) k (by omega)]
    simp only [Option.bind_some]
    split
    · rename_i h1
      split
      · rename_i h2; rw [if_pos ⟨h1, h2⟩]
      · rename_i h2; rw [if_neg (fun q => h2 q.2)]
    · rename_i h1; rw [if_neg (fun q => h1 q.1)]
  | succ n ih =>
    intro k i hi hd hk
    obtain ⟨k, rfl⟩ : ∃ m, k = m + 1 := ⟨k - 1, by omega⟩
    have lt : i < xs.length := by omega
    have m1 : i * clearSz c + clearSz c ≤ xs.length * clearSz c := by rw [← Nat.succ_mul]; exact Nat.mul_le_mul_right _ (by omega)
    have st := ih k (i + 1) (by omega) (by omega) (by omega)
    rw [show (i + 1) * clearSz c = i * clearSz c + clearSz c from Nat.succ_mul _ _] at st
    have rb : readBig (strOfNums (clearBytes c xs)) ((i * clearSz c : Nat) : Int) (clearSz c : Nat) = (xs[i], true) := by
      unfold readBig
      rw [str_size, if_pos (by omega), Int.toNat_natCast, Int.toNat_natCast, valB_clear c xs hb i lt]
    simp only [impl_ReadClear.l0]
    rw [str_size, if_pos (by omega), impl_ReadBig_eq _ (by rw [str_size]; omega) _ _ k (by omega), rb]
    simp only [Option.bind_some]
    have tk : xs.take i ++ [xs[i]] = xs.take (i + 1) := by rw [List.take_succ_eq_append_getElem lt]
    rw [if_pos (by simp; omega), tk, show ((i * clearSz c : Nat) : Int) + (clearSz c : Nat) = ((i * clearSz c + clearSz c : Nat) : Int) by omega, w64 (by omega) (by omega)]
    exact st
theorem impl_ReadClear_back (w h d c : Int) (l : Bool) (t : Int) (xs : List Int) (hx : xs.length ≤ 1000) (hok : (clearText w h d c t xs).2 = true) (k : Nat) (hk : 2300 < k) : impl_ReadClear.f k w h d c l t (clearText w h d c t xs).1 = some (xs, true) := by
  have hq : (decide (xs.length ≠ 0) && headB w h d c && clearOk d c t xs) = true := by
    unfold clearText at hok
    cases e : (decide (xs.length ≠ 0) && headB w h d c && clearOk d c t xs) with
    | true => rfl
    | false => rw [e] at hok; simp at hok
  have e1 : (clearText w h d c t xs) = (strOfNums (clearBytes c xs), true) := by unfold clearText; rw [if_pos hq]
  simp only [Bool.and_eq_true, decide_eq_true_eq] at hq
  have bd := clearOk_bd hq.2 hq.1.1
  have R := impl_ReadClear_l0 w h d c l t xs hx bd (fun _ => 0) xs.length k 0 (by omega) (by omega) (by omega)
  unfold impl_ReadClear.f
  rw [impl_clearSize_eq]
  simp only [Option.bind_some]
  rw [e1]
  rw [if_pos ⟨hok, by rw [e1]⟩] at R
  simpa using R
theorem impl_ReadClear_empty (w h d c : Int) (l : Bool) (t : Int) (k : Nat) (hk : 100 < k) : impl_ReadClear.f k w h d c l t ⟨#[]⟩ = some ([], false) := by
  obtain ⟨k, rfl⟩ : ∃ m, k = m + 1 := ⟨k - 1, by omega⟩
  unfold impl_ReadClear.f
  rw [impl_clearSize_eq]
  simp only [Option.bind_some, impl_ReadClear.l0]
  rw [if_neg (by rw [show (⟨#[]⟩ : ByteArray).size = 0 from rfl]; omega), impl_ClearText_eq w h d c l t [] (by simp) k (by simp; omega)]
  simp [clearText]

theorem impl_byteText_eq (n : Int) : impl_byteText.f n = some (strOfNums [n % 256]) := rfl
theorem impl_flag_eq (l : Bool) : impl_flag.f l = some (flagN l) := by unfold impl_flag.f flagN; cases l <;> rfl
theorem impl_HeadText_eq (k : Nat) (hk : 6 ≤ k) (w h d c : Int) (l : Bool) : impl_HeadText.f k w h d c l = some (headText w h d c l) := by
  unfold impl_HeadText.f headText
  rw [impl_HeadOk_eq k (by omega)]
  simp only [Option.bind_some]
  by_cases q : headB w h d c = true
  · have b := headB_bd q
    have l1 := bigB_len 4 w
    have l2 := bigB_len 4 h
    have p : p2 (8 * 4) - 1 = 4294967295 := rfl
    rw [if_pos q, if_pos q, impl_BigText_eq w 4 k hk, impl_BigText_eq h 4 k hk, if_pos (by omega), if_pos (by omega), impl_flag_eq]
    simp only [Option.bind_some, impl_byteText_eq, show (⟨#[0, 0]⟩ : ByteArray) = strOfNums [0, 0] from rfl, str_append, str_size, show (4 : Int).toNat = 4 from rfl, List.length_append, l1, l2, List.length_cons, List.length_nil]
    unfold headBytes flagN
    cases l <;> simp
  · rw [if_neg q, if_neg q]

theorem impl_ReadHead_eq (s : ByteArray) (k : Nat) (hk : 6 ≤ k) : impl_ReadHead.f k s = some (readHead s) := by
  unfold impl_ReadHead.f readHead
  by_cases hs : s.size = 13
  · rw [if_pos (by omega), if_pos hs, if_pos (by omega), if_pos (by omega), if_pos (by omega), impl_ReadBig_eq s (by omega) 0 4 k hk, impl_ReadBig_eq s (by omega) 4 4 k hk]
    simp only [Option.bind_some]
    rw [wbt, wbt, impl_HeadText_eq k hk]
    simp only [Option.bind_some]
    split
    · rename_i h1
      split
      · rename_i h2; rw [if_pos ⟨h1, h2⟩]
      · rename_i h2; rw [if_neg (fun q => h2 q.2)]
    · rename_i h1; rw [if_neg (fun q => h1 q.1)]
  · rw [if_neg (by omega), if_neg hs]

theorem spec_l12Side_eq (n : Int) : spec_l12Side.f n = some (sideB n) := by simp [spec_l12Side.f, spec_l01In_eq, sideB]

theorem spec_HeadOk_eq (k : Nat) (hk : 1 ≤ k) (w h d c : Int) (l : Bool) : spec_HeadOk.f k w h d c l = some (headB w h d c) := by
  unfold spec_HeadOk.f headB
  simp only [spec_l12Side_eq, spec_DepthOk_eq k hk, Option.bind_some]
  cases sideB w <;> cases sideB h <;> simp

theorem impl_colorOk_eq (a b c : Int) : impl_colorOk.f a b c = some (byteB a && byteB b && byteB c) := by
  simp only [impl_colorOk.f, impl_within_eq, Option.bind_some]
  change (if byteB a = true then (if byteB b = true then some (byteB c) else some false) else some false) = _
  cases byteB a <;> cases byteB b <;> simp

theorem impl_TableText_l0 (xs : List S52) (hx : xs.length ≤ 1048576) (d : Nat) : ∀ (k i : Nat), i ≤ xs.length → xs.length - i = d → d < k → impl_TableText.l0 k xs (rgbBytes (xs.take i)) xs xs.length i = some (if (xs.drop i).all rgbB && (decide (1 ≤ xs.length) && decide (xs.length ≤ 256)) then (strOfNums (rgbBytes xs), true) else (⟨#[]⟩, false)) := by
  induction d with
  | zero =>
    intro k i hi hd hk
    obtain ⟨k, rfl⟩ : ∃ m, k = m + 1 := ⟨k - 1, by omega⟩
    obtain rfl : i = xs.length := by omega
    simp only [impl_TableText.l0, impl_within_eq, Option.bind_some]
    rw [if_neg (by omega)]
    have e : (decide ((1 : Int) ≤ xs.length) && decide ((xs.length : Int) ≤ 256)) = (decide (1 ≤ xs.length) && decide (xs.length ≤ 256)) := by rw [Bool.eq_iff_iff]; simp; omega
    rw [e]
    cases (decide (1 ≤ xs.length) && decide (xs.length ≤ 256)) <;> simp
  | succ d ih =>
    intro k i hi hd hk
    obtain ⟨k, rfl⟩ : ∃ m, k = m + 1 := ⟨k - 1, by omega⟩
    have lt : i < xs.length := by omega
    have l3 := rgbBytes_len (xs.take i)
    rw [List.length_take] at l3
    simp only [impl_TableText.l0, impl_colorOk_eq, Option.bind_some]
    rw [if_pos (by omega), if_pos (by omega), if_pos (by omega), rd_Rgb xs i lt, rgb_drop_all xs i lt, w64 (by omega) (by omega)]
    have step := ih k (i + 1) (by omega) (by omega) (by omega)
    push_cast at step
    rw [rgbBytes_take xs i lt] at step
    change (if rgbB xs[i] = true then _ else _) = _
    cases rgbB xs[i] with
    | false => simp
    | true =>
      simp only [if_true, List.length_cons, List.length_nil, Bool.true_and]
      rw [if_pos (by omega)]
      exact step
theorem impl_TableText_eq (xs : List S52) (k : Nat) (hk : xs.length < k) (hx : xs.length ≤ 1048576) : impl_TableText.f k xs = some (tableText xs) := by
  unfold impl_TableText.f tableText tableOk
  have R := impl_TableText_l0 xs hx xs.length k 0 (by omega) (by omega) hk
  rw [show rgbBytes (xs.take 0) = [] by simp [rgbBytes]] at R
  rw [Bool.and_comm]
  simpa using R

theorem impl_ReadTable_l0 (s : ByteArray) (N : Nat) (hs : s.size = 3 * N) (hN : N ≤ 256) (d : Nat) : ∀ (k n : Nat), n ≤ N → N - n = d → d < k → impl_ReadTable.l0 k s (tri s n) (3 * n) = some (tri s N, true) := by
  induction d with
  | zero =>
    intro k n hn hd hk
    obtain ⟨k, rfl⟩ : ∃ m, k = m + 1 := ⟨k - 1, by omega⟩
    obtain rfl : n = N := by omega
    simp only [impl_ReadTable.l0]
    rw [if_neg (by omega)]
  | succ d ih =>
    intro k n hn hd hk
    obtain ⟨k, rfl⟩ : ∃ m, k = m + 1 := ⟨k - 1, by omega⟩
    simp only [impl_ReadTable.l0]
    rw [w64 (x := 3 * (n : Int) + 1) (by omega) (by omega), w64 (x := 3 * (n : Int) + 2) (by omega) (by omega), w64 (x := 3 * (n : Int) + 3) (by omega) (by omega)]
    rw [if_pos (by omega), if_pos (by omega), if_pos (by omega), if_pos (by omega), if_pos (by omega), if_pos (by omega), if_pos (by rw [tri_length]; omega)]
    rw [wbt, wbt, wbt, ← tri_succ]
    have := ih k (n + 1) (by omega) (by omega) (by omega)
    rw [show 3 * ((n + 1 : Nat) : Int) = 3 * (n : Int) + 3 by omega] at this
    exact this
theorem impl_ReadTable_j0 (s : ByteArray) (k : Nat) (b : Bool) : impl_ReadTable.j0 (k + 1) s b = if b = true then some ([], false) else impl_ReadTable.l0 k s [] 0 := by simp only [impl_ReadTable.j0]
theorem impl_ReadTable_eq (s : ByteArray) (hs : s.size ≤ 140737488351232) (k : Nat) (hk : 300 ≤ k) : impl_ReadTable.f k s = some (if tableLen s.size then (tri s (s.size / 3), true) else ([], false)) := by
  obtain ⟨k, rfl⟩ : ∃ m, k = m + 1 := ⟨k - 1, by omega⟩
  unfold impl_ReadTable.f
  rw [impl_within_eq, w64 (x := (s.size : Int) / 3) (by omega) (by omega), Option.bind_some, impl_ReadTable_j0, impl_ReadTable_j0]
  by_cases h3 : ((s.size : Int) % 3) = 0
  · rw [if_pos h3, tableLen_int _ h3]
    cases h : tableLen s.size with
    | true =>
      have h' := (tableLen_iff _).1 h
      rw [if_neg (by decide), if_pos rfl]
      have R := impl_ReadTable_l0 s (s.size / 3) (by omega) (by omega) (s.size / 3) k 0 (by omega) (by omega) (by omega)
      exact R
    | false => rfl
  · rw [if_neg h3, tableLen_no _ h3]; rfl

theorem spec_l17Depth_eq (w h d c : Int) (l : Bool) : spec_l17Depth.f w h d c l = some (depB d) := by
  unfold spec_l17Depth.f depB
  rw [spec_l01In_eq]
  simp only [Option.bind_some]
  by_cases h0 : 0 ≤ d <;> by_cases h1 : d ≤ 16 <;> simp [h0, h1]
theorem spec_ClearOk_l0 (m n : Int) (xs : List Int) (hx : xs.length ≤ 9223372036854775807) (d : Nat) : ∀ (k i : Nat), i ≤ xs.length → xs.length - i = d → d < k → spec_ClearOk.l0 k xs m n i = some ((xs.drop i).all (inB m) && decide ((xs.length : Int) = n)) := by
  induction d with
  | zero =>
    intro k i hi hd hk
    obtain ⟨k, rfl⟩ : ∃ m, k = m + 1 := ⟨k - 1, by omega⟩
    simp only [spec_ClearOk.l0]
    rw [if_neg (by omega), drop_all_end _ _ _ (by omega)]
    simp [Bool.beq_eq_decide_eq]
  | succ d ih =>
    intro k i hi hd hk
    obtain ⟨k, rfl⟩ : ∃ m, k = m + 1 := ⟨k - 1, by omega⟩
    have lt : i < xs.length := by omega
    simp only [spec_ClearOk.l0, spec_l01In_eq, Option.bind_some]
    rw [if_pos (by omega), if_pos (by omega), rd_at xs i lt, w64 (by omega) (by omega), drop_all _ _ _ lt]
    have step := ih k (i + 1) (by omega) (by omega) (by omega)
    push_cast at step
    rw [step]
    unfold inB
    cases (decide (0 ≤ xs[i]) && decide (xs[i] ≤ m)) <;> simp
theorem spec_ClearOk_j0 (m n : Int) (xs : List Int) (hx : xs.length ≤ 9223372036854775807) (k : Nat) (hk : xs.length + 1 < k) : spec_ClearOk.j0 k xs m n = some (decide (xs.length = 0) || (xs.all (inB m) && decide ((xs.length : Int) = n))) := by
  obtain ⟨k, rfl⟩ : ∃ m, k = m + 1 := ⟨k - 1, by omega⟩
  simp only [spec_ClearOk.j0]
  have R := spec_ClearOk_l0 m n xs hx xs.length k 0 (by omega) (by omega) (by omega)
  by_cases h : xs.length = 0
  · rw [if_pos (by omega)]; simp [h]
  · rw [if_neg (by omega)]
    simpa [h] using R
theorem spec_ClearOk_eq (w h d c : Int) (l : Bool) (t : Int) (xs : List Int) (hx : xs.length ≤ 9223372036854775807) (k : Nat) (hk : xs.length + 70 < k) : spec_ClearOk.f k w h d c l t xs = some (clearOk d c t xs) := by
  have b := depB_bd d
  have b1 := p2_pos (depB d)
  have b2 := p2_16 b.2
  unfold spec_ClearOk.f clearOk
  simp only [spec_l17Depth_eq, spec_l01Pow_eq k (depB d) (by omega) (by omega), Option.bind_some]
  rw [w64 (x := p2 (depB d) - 1) (by omega) (by omega)]
  simp only [spec_ClearOk_j0 _ _ xs hx k (by omega)]
  by_cases h0 : c = 0
  · subst h0
    simp only [if_true, show ¬ ((0 : Int) = 3) by decide, if_false]
    by_cases hl : xs.length = 0
    · simp [hl]
    · have e : decide ((xs.length : Int) = 1) = decide (xs.length = 1) := by rw [decide_eq_decide]; omega
      rw [e]
      simp [hl, Bool.and_comm]
  · by_cases h2 : c = 2
    · subst h2
      simp only [if_true, show ¬ ((2 : Int) = 3) by decide, show ¬ ((2 : Int) = 0) by decide, if_false]
      by_cases hl : xs.length = 0
      · simp [hl]
      · have e : decide ((xs.length : Int) = 3) = decide (xs.length = 3) := by rw [decide_eq_decide]; omega
        rw [e]
        simp [hl, Bool.and_comm]
    · by_cases h3 : c = 3
      · subst h3
        simp only [if_true, show ¬ ((3 : Int) = 2) by decide, show ¬ ((3 : Int) = 0) by decide, if_false]
        by_cases hl : xs.length = 0
        · have : xs = [] := List.eq_nil_of_length_eq_zero hl
          subst this
          by_cases ht : (0 : Int) ≤ t
          · rw [if_neg (by simp; omega)]; simp [ht]
          · rw [if_pos (by simp; omega)]; simp [ht]
        · by_cases ht : (xs.length : Int) ≤ t
          · rw [if_neg (by omega)]; simp [ht, hl]
          · rw [if_pos (by omega)]; simp [ht]
      · simp only [h0, h2, h3, if_false]
        by_cases hl : xs.length = 0
        · simp [hl]
        · have e : decide ((xs.length : Int) = 0) = false := by simp; exact fun h => hl (by simp [h])
          rw [e]; simp [hl]

theorem spec_l01Big_l0 (size : Nat) (hs : size ≤ 1000) (r : Nat) : ∀ (k i : Nat) (n : Int) (s : List Int), 0 ≤ n → n ≤ 9223372036854775807 → i + r = size → r < k → s.length = i → spec_l01Big.l0 k n size (strOfNums s) i = some (strOfNums (bigB n r ++ s)) := by
  induction r with
  | zero =>
    intro k i n s h0 h1 hi hk hl
    obtain ⟨k, rfl⟩ : ∃ m, k = m + 1 := ⟨k - 1, by omega⟩
    simp only [spec_l01Big.l0]
    rw [if_neg (by omega)]
    rfl
  | succ r ih =>
    intro k i n s h0 h1 hi hk hl
    obtain ⟨k, rfl⟩ : ∃ m, k = m + 1 := ⟨k - 1, by omega⟩
    simp only [spec_l01Big.l0, Option.bind_some]
    rw [if_pos (by omega), str_size, str_size, if_pos (by simp; omega), str_append, Int.tmod_eq_emod_of_nonneg h0, Int.tdiv_eq_ediv_of_nonneg h0, w64 (x := n / 256) (by omega) (by omega), w64 (x := (i : Int) + 1) (by omega) (by omega)]
    have step := ih k (i + 1) (n / 256) ([n % 256 % 256] ++ s) (by omega) (by omega) (by omega) (by omega) (by simp; omega)
    push_cast at step
    rw [step, show n % 256 % 256 = n % 256 by omega]
    simp [bigB]
theorem spec_l01Big_eq (size : Nat) (hs : size ≤ 1000) (n : Int) (h0 : 0 ≤ n) (h1 : n ≤ 9223372036854775807) (k : Nat) (hk : size < k) : spec_l01Big.f k n size = some (strOfNums (bigB n size)) := by
  unfold spec_l01Big.f
  have R := spec_l01Big_l0 size hs size k 0 n [] h0 h1 (by omega) hk rfl
  rw [List.append_nil] at R
  exact R

theorem spec_ClearText_l0 (c : Int) (xs : List Int) (hx : xs.length ≤ 1048576) (hb : ∀ x ∈ xs, 0 ≤ x ∧ x ≤ 65535) (d : Nat) : ∀ (k i : Nat), i ≤ xs.length → xs.length - i = d → d + 5 < k → spec_ClearText.l0 k xs (clearSz c) (strOfNums (clearBytes c (xs.take i))) i = some (strOfNums (clearBytes c xs), true) := by
  have hs : clearSz c ≤ 2 := by unfold clearSz; split <;> omega
  induction d with
  | zero =>
    intro k i hi hd hk
    obtain ⟨k, rfl⟩ : ∃ m, k = m + 1 := ⟨k - 1, by omega⟩
    obtain rfl : i = xs.length := by omega
    simp only [spec_ClearText.l0]
    rw [if_neg (by omega), List.take_length]
  | succ d ih =>
    intro k i hi hd hk
    obtain ⟨k, rfl⟩ : ∃ m, k = m + 1 := ⟨k - 1, by omega⟩
    have lt : i < xs.length := by omega
    have b := hb _ (List.getElem_mem lt)
    have ln := clearBytes_len c (xs.take i)
    rw [List.length_take] at ln
    have st := ih k (i + 1) (by omega) (by omega) (by omega)
    rw [clearBytes_take c xs i lt] at st
    push_cast at st
    simp only [spec_ClearText.l0]
    rw [if_pos (by omega), if_pos (by omega), rd_at xs i lt, spec_l01Big_eq (clearSz c) (by omega) _ b.1 (by omega) k (by omega)]
    simp only [Option.bind_some]
    rw [str_size, str_size, bigB_len, if_pos (by omega), str_append, w64 (by omega) (by omega)]
    exact st
theorem spec_ClearText_eq (w h d c : Int) (l : Bool) (t : Int) (xs : List Int) (hx : xs.length ≤ 1048576) (k : Nat) (hk : xs.length + 80 < k) : spec_ClearText.f k w h d c l t xs = some (clearText w h d c t xs) := by
  obtain ⟨k, rfl⟩ : ∃ m, k = m + 2 := ⟨k - 2, by omega⟩
  have no : spec_ClearText.j0 (k + 2) xs true w h d c l = some (⟨#[]⟩, false) := by simp [spec_ClearText.j0]
  unfold spec_ClearText.f clearText
  rw [spec_HeadOk_eq _ (by omega), no]
  simp only [Option.bind_some]
  by_cases hh : headB w h d c = true
  · rw [if_pos hh, hh]
    by_cases hl : xs.length = 0
    · rw [if_pos (by omega)]; simp [hl]
    · rw [if_neg (by omega), spec_ClearOk_eq w h d c l t xs (by omega) _ (by omega)]
      simp only [Option.bind_some]
      by_cases hc : clearOk d c t xs = true
      · have bd := clearOk_bd hc hl
        rw [hc]
        simp only [spec_ClearText.j0, spec_ClearText.j1, Bool.not_true]
        rw [if_neg (by decide)]
        have R := spec_ClearText_l0 c xs hx (fun x hm => ⟨(bd x hm).1, (bd x hm).2.1⟩) xs.length k 0 (by omega) (by omega) (by omega)
        rw [show strOfNums (clearBytes c (xs.take 0)) = ⟨#[]⟩ by simp [clearBytes]; rfl] at R
        unfold clearSz at R
        by_cases h3 : c = 3
        · rw [if_pos h3]
          simp only [h3, if_true] at R
          simpa [h3, hl] using R
        · rw [if_neg h3]
          simp only [h3, if_false] at R
          simpa [hl] using R
      · have : clearOk d c t xs = false := by simpa using hc
        rw [this, Bool.not_false, no]
        simp
  · rw [if_neg hh]; simp [hh]

theorem laws_big_eq (l : List Int) : laws_big.f l = some (decide (1048576 < l.length)) := by
  unfold laws_big.f
  congr 1
  rw [Bool.eq_iff_iff]; simp; omega

theorem laws_sameInts_l0 (xs : List Int) (hx : xs.length ≤ 9223372036854775807) (d : Nat) : ∀ (k i : Nat), i ≤ xs.length → xs.length - i = d → d < k → laws_sameInts.l0 k xs xs i = some true := by
  induction d with
  | zero =>
    intro k i hi hd hk
    obtain ⟨k, rfl⟩ : ∃ m, k = m + 1 := ⟨k - 1, by omega⟩
    simp only [laws_sameInts.l0]
    rw [if_neg (by omega)]
  | succ d ih =>
    intro k i hi hd hk
    obtain ⟨k, rfl⟩ : ∃ m, k = m + 1 := ⟨k - 1, by omega⟩
    simp only [laws_sameInts.l0]
    rw [if_pos (by omega), if_pos (by omega), if_pos (by omega), if_pos trivial, w64 (by omega) (by omega)]
    exact ih k (i + 1) (by omega) (by omega) (by omega)
theorem laws_sameInts_refl (xs : List Int) (hx : xs.length ≤ 9223372036854775807) (k : Nat) (hk : xs.length < k) : laws_sameInts.f k xs xs = some true := by
  unfold laws_sameInts.f
  rw [if_pos rfl]
  exact laws_sameInts_l0 xs hx xs.length k 0 (by omega) (by omega) hk
theorem FnHeads_end (l : List Int) (hl : l.length ≤ 1048576) (xs ys : List S52) (h : ys = xs ∨ ys = []) (hx : xs.length ≤ 1000) (d : Nat) : ∀ (k i : Nat), i ≤ ys.length → ys.length - i = d → d + l.length + 5000 < k → laws_FnHeads.l0 k l xs ys i = some true := by
  induction d with
  | zero =>
    intro k i hi hd hk
    obtain ⟨k, rfl⟩ : ∃ m, k = m + 1 := ⟨k - 1, by omega⟩
    simp only [laws_FnHeads.l0]
    rw [if_neg (by omega)]
    obtain ⟨w, x, d, c, b, t, cl, e1, hb⟩ := spec_DrawClearText_eq l hl k (by omega)
    rw [e1]
    simp only [Option.bind_some]
    rw [impl_ClearText_eq w x d c b t cl (by omega) k (by omega), spec_ClearText_eq w x d c b t cl (by omega) k (by omega)]
    simp only [Option.bind_some, bne_self_eq_false, Bool.false_eq_true, if_false]
    by_cases q : (clearText w x d c t cl).2 = true
    · rw [impl_ReadClear_back w x d c b t cl (by omega) q k (by omega)]
      simp only [Option.bind_some, if_true]
      rw [if_pos q, laws_sameInts_refl cl (by omega) k (by omega)]
      rfl
    · have e2 : (clearText w x d c t cl).1 = ⟨#[]⟩ := by
        unfold clearText at q ⊢
        split
        · rename_i h'; rw [if_pos h'] at q; exact absurd rfl q
        · rfl
      rw [e2, impl_ReadClear_empty w x d c b t k (by omega)]
      simp only [Option.bind_some]
      rw [if_neg q]
  | succ d ih =>
    intro k i hi hd hk
    obtain ⟨k, rfl⟩ : ∃ m, k = m + 1 := ⟨k - 1, by omega⟩
    have lt : i < ys.length := by omega
    rcases h with rfl | rfl
    · simp only [laws_FnHeads.l0]
      rw [if_pos (by omega), if_pos (by omega), if_pos (by omega), if_neg (by simp), w64 (by omega) (by omega)]
      exact ih k (i + 1) (by omega) (by omega) (by omega)
    · simp at lt
theorem FnHeads_j0 (l : List Int) (hl : l.length ≤ 1048576) (k : Nat) (hk : l.length + 10000 < k) : laws_FnHeads.j0 k l = some true := by
  obtain ⟨k, rfl⟩ : ∃ m, k = m + 2 := ⟨k - 2, by omega⟩
  simp only [laws_FnHeads.j0]
  obtain ⟨xs, e1, hx⟩ := spec_DrawTableText_eq l hl (k + 1) (by omega)
  rw [e1]
  simp only [Option.bind_some]
  rw [impl_TableText_eq xs _ (by omega) (by omega)]
  simp only [Option.bind_some]
  unfold tableText
  by_cases q : tableOk xs = true
  · have q' := q
    simp only [tableOk, Bool.and_eq_true, decide_eq_true_eq] at q'
    have len := rgbBytes_len xs
    have sz : (strOfNums (rgbBytes xs)).size = 3 * xs.length := by rw [str_size, len]
    rw [if_pos q, impl_ReadTable_eq _ (by rw [sz]; omega) _ (by omega), sz, if_pos ((tableLen_iff _).2 (by omega)), show 3 * xs.length / 3 = xs.length by omega, tri_table xs q'.2]
    simp only [Option.bind_some, bne_self_eq_false, Bool.false_eq_true, if_false, if_true]
    rw [w64 (x := 3 * (xs.length : Int)) (by omega) (by omega), show (((3 * xs.length : Nat) : Int) != 3 * (xs.length : Int)) = false by simp]
    simp only [laws_FnHeads.j1, Bool.false_eq_true, if_false]
    exact FnHeads_end l hl xs xs (.inl rfl) hx xs.length k 0 (by omega) (by omega) (by omega)
  · rw [if_neg q, impl_ReadTable_eq _ (by decide) _ (by omega)]
    have z : tableLen (⟨#[]⟩ : ByteArray).size = false := by decide
    rw [z]
    simp only [Option.bind_some, bne_self_eq_false, Bool.false_eq_true, if_false]
    simp only [laws_FnHeads.j1, Bool.false_eq_true, if_false]
    exact FnHeads_end l hl xs [] (.inr rfl) hx 0 k 0 (by simp) (by simp) (by omega)
theorem FnHeads : laws_FnHeads.Pure := by
  intro l _ _ _
  obtain ⟨k, hk⟩ : ∃ k : Nat, k = 3000000 := ⟨_, rfl⟩
  refine ⟨k, ?_⟩
  unfold laws_FnHeads.f
  rw [laws_big_eq]
  simp only [Option.bind_some]
  by_cases hb : 1048576 < l.length
  · rw [if_pos (by simpa using hb)]
  · rw [if_neg (by simpa using hb)]
    have hl : l.length ≤ 1048576 := by omega
    obtain ⟨w, x, d, c, b, e1⟩ := spec_DrawHeadText_eq l hl k (by omega)
    rw [e1]
    simp only [Option.bind_some]
    rw [impl_HeadText_eq k (by omega), spec_HeadOk_eq k (by omega)]
    simp only [Option.bind_some]
    by_cases q : headB w x d c = true
    · obtain ⟨z, r⟩ := readHead_headText (l := b) q
      have t2 : (headText w x d c b).2 = true := by unfold headText; rw [if_pos q]
      rw [t2, q]
      simp only [bne_self_eq_false, Bool.false_eq_true, if_false, if_true]
      rw [impl_ReadHead_eq _ k (by omega), r]
      simp only [Option.bind_some, if_true]
      rw [if_neg (by simp), if_pos (by omega)]
      exact FnHeads_j0 l hl k (by omega)
    · have t2 : (headText w x d c b).2 = false := by unfold headText; rw [if_neg q]
      rw [t2, show headB w x d c = false by simpa using q]
      simp only [bne_self_eq_false, Bool.false_eq_true, if_false]
      exact FnHeads_j0 l hl k (by omega)

end Go.Proofs.Ytajnobmnkbkkgaa.Pure
