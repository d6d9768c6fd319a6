/- FnPasses: the passes of a raster, put together, are the raster -/
import Derived.Test.YtefoebmcimnapaaPFnPassesx9
set_option linter.unusedVariables false
set_option linter.unusedSimpArgs false
namespace Go.Proofs.Ytefoebmcimnapaa.Pure
open Go.RowKit Go.Proofs.Ytefoebmcimnapaa.PFnPasses Go.Proofs.YtefoebmcimnapaaW.PrintWords Go.Proofs.YtefoebmcimnapaaW.PrintLast
open Go.Proofs.YtefoebmcimnapaaW.PrintMore (cpy)

theorem w64 {x : Int} (h : -9223372036854775808 ≤ x) (h' : x ≤ 9223372036854775807) : wrap64 x = x := by unfold wrap64; omega
theorem wf_i64 {a : Int} (h : (Lit.int .i64 a).wf = true) : -9223372036854775808 ≤ a ∧ a ≤ 9223372036854775807 := by
  simpa [Lit.wf, IntKind.min, IntKind.max, IntKind.signed, IntKind.bits] using h
theorem wbt (s : ByteArray) (i : Int) : wrap64 (bt s i) = bt s i := w64 (by have := bt_range s i; omega) (by have := bt_range s i; omega)

theorem rd_at (xs : List Int) (i : Nat) (h : i < xs.length) : rd xs i = xs[i] := by simp [rd, List.getD, h]
def inB (m x : Int) : Bool := decide (0 ≤ x) && decide (x ≤ m)
theorem drop_all (p : Int → Bool) (xs : List Int) (i : Nat) (h : i < xs.length) : (xs.drop i).all p = (p xs[i] && (xs.drop (i + 1)).all p) := by
  rw [List.drop_eq_getElem_cons h]; rfl
theorem drop_all_end (p : Int → Bool) (xs : List Int) (i : Nat) (h : xs.length ≤ i) : (xs.drop i).all p = true := by
  rw [List.drop_eq_nil_of_le h]; rfl

theorem and_bd (x : Int) (m : Nat) (hm : m < 9223372036854775808) : 0 ≤ Go.bits .and .i64 x m ∧ Go.bits .and .i64 x m ≤ m := by
  unfold Go.bits
  simp only [IntKind.wrap_i64]
  have h : (BitVec.ofInt IntKind.i64.bits x &&& BitVec.ofInt IntKind.i64.bits (m : Int)).toNat ≤ m := by
    rw [BitVec.toNat_and]
    refine Nat.le_trans Nat.and_le_right ?_
    rw [BitVec.ofInt_natCast, BitVec.toNat_ofNat]
    exact Nat.mod_le _ _
  omega
theorem and_255 (x : Int) : 0 ≤ Go.bits .and .i64 x 255 ∧ Go.bits .and .i64 x 255 ≤ 255 := and_bd x 255 (by omega)
theorem spec_l01New_l0 (l : List Int) (hl : l.length ≤ 1048576) (d : Nat) : ∀ (k i : Nat) (h : Int), i ≤ l.length → l.length - i = d → d < k → ∃ h', spec_l01New.l0 k l h i = some (l, 0, h') := by
  induction d with
  | zero =>
    intro k i h hi hd hk
    obtain ⟨k, rfl⟩ : ∃ m, k = m + 1 := ⟨k - 1, by omega⟩
    exact ⟨h, by simp only [spec_l01New.l0]; rw [if_neg (by omega)]⟩
  | succ d ih =>
    intro k i h hi hd hk
    obtain ⟨k, rfl⟩ : ∃ m, k = m + 1 := ⟨k - 1, by omega⟩
    simp only [spec_l01New.l0]
    rw [if_pos (by omega)]
    by_cases h4 : (i : Int) < 4000
    · rw [if_pos h4, if_pos (by omega), w64 (x := (i : Int) + 1) (by omega) (by omega)]
      exact ih k (i + 1) _ (by omega) (by omega) (by omega)
    · rw [if_neg h4]; exact ⟨h, rfl⟩
theorem spec_l01New_eq (l : List Int) (hl : l.length ≤ 1048576) (k : Nat) (hk : l.length < k) : ∃ h, spec_l01New.f k l = some (l, 0, h) := by
  unfold spec_l01New.f
  exact spec_l01New_l0 l hl l.length k 0 _ (by omega) (by omega) hk
/-- A cursor's place. -/
def Cur (l : List Int) (i : Int) : Prop := l.length ≤ 1048576 ∧ 0 ≤ i ∧ i ≤ l.length
theorem cur_new {l : List Int} (hl : l.length ≤ 1048576) : Cur l 0 := ⟨hl, by omega, by omega⟩
theorem spec_l01Byte_eq {l : List Int} {i : Int} (hc : Cur l i) (h : Int) : ∃ x i' h', spec_l01Byte.f l i h = some (x, i', h') ∧ 0 ≤ x ∧ x ≤ 255 ∧ Cur l i' := by
  obtain ⟨hl, h0, h1⟩ := hc
  unfold spec_l01Byte.f
  by_cases hi : i < l.length
  · rw [if_pos hi, if_pos h0, w64 (x := i + 1) (by omega) (by omega)]
    exact ⟨_, _, _, rfl, (and_255 _).1, (and_255 _).2, hl, by omega, by omega⟩
  · rw [if_neg hi]
    exact ⟨_, _, _, rfl, (and_255 _).1, (and_255 _).2, hl, h0, h1⟩
theorem spec_l01Below_eq {l : List Int} {i : Int} (hc : Cur l i) (h : Int) (n : Int) : ∃ x i' h', spec_l01Below.f l i h n = some (x, i', h') ∧ 0 ≤ x ∧ (0 < n → x < n) ∧ (n ≤ 0 → x = 0) ∧ Cur l i' := by
  unfold spec_l01Below.f
  by_cases h0 : n ≤ 0
  · rw [if_pos h0]
    exact ⟨_, _, _, rfl, by omega, by omega, fun _ => rfl, hc⟩
  · rw [if_neg h0]
    have tm : ∀ y : Int, 0 ≤ y → 0 ≤ Int.tmod y n ∧ Int.tmod y n < n := fun y hy => ⟨Int.tmod_nonneg _ hy, Int.tmod_lt_of_pos _ (by omega)⟩
    by_cases h1 : n ≤ 256
    · rw [if_pos h1]
      obtain ⟨x, i1, h1', e1, a1, b1, c1⟩ := spec_l01Byte_eq hc h
      rw [e1]
      simp only [Option.bind_some]
      rw [if_neg (by omega)]
      exact ⟨_, _, _, rfl, (tm x a1).1, fun _ => (tm x a1).2, by omega, c1⟩
    · rw [if_neg h1]
      obtain ⟨x, i1, h1', e1, a1, b1, c1⟩ := spec_l01Byte_eq hc h
      rw [e1]; simp only [Option.bind_some]
      obtain ⟨y, i2, h2', e2, a2, b2, c2⟩ := spec_l01Byte_eq c1 h1'
      rw [e2]; simp only [Option.bind_some]
      obtain ⟨z, i3, h3', e3, a3, b3, c3⟩ := spec_l01Byte_eq c2 h2'
      rw [e3]; simp only [Option.bind_some]
      obtain ⟨u, i4, h4', e4, a4, b4, c4⟩ := spec_l01Byte_eq c3 h3'
      rw [e4]; simp only [Option.bind_some]
      rw [if_neg (by omega), w64 (x := x * 16777216) (by omega) (by omega), w64 (x := y * 65536) (by omega) (by omega), w64 (x := x * 16777216 + y * 65536) (by omega) (by omega), w64 (x := z * 256) (by omega) (by omega), w64 (x := x * 16777216 + y * 65536 + z * 256) (by omega) (by omega), w64 (x := x * 16777216 + y * 65536 + z * 256 + u) (by omega) (by omega)]
      exact ⟨_, _, _, rfl, (tm _ (by omega)).1, fun _ => (tm _ (by omega)).2, by omega, c4⟩

theorem spec_l01PickInt_eq {l : List Int} {i : Int} (hc : Cur l i) (h : Int) (xs : List Int) (hx : xs ≠ []) : ∃ x i' h', spec_l01PickInt.f l i h xs = some (x, i', h') ∧ x ∈ xs ∧ Cur l i' := by
  unfold spec_l01PickInt.f
  obtain ⟨x, i1, h1, e1, a1, b1, _, c1⟩ := spec_l01Below_eq hc h (xs.length : Int)
  have hp : 0 < xs.length := List.length_pos_iff.2 hx
  have b := b1 (by omega)
  rw [e1]; simp only [Option.bind_some]
  rw [if_pos a1, if_pos b]
  obtain ⟨m, rfl⟩ := Int.eq_ofNat_of_zero_le a1
  refine ⟨_, _, _, rfl, ?_, c1⟩
  rw [rd_at xs m (by omega)]
  exact List.getElem_mem _

def smallD (d : Int) : Bool := d == 1 || d == 2 || d == 4
def bigD (d : Int) : Bool := d == 8 || d == 16
def dok (c d : Int) : Bool := if c = 0 then smallD d || bigD d else if c = 3 then smallD d || d == 8 else if c = 2 then bigD d else if c = 4 then bigD d else if c = 6 then bigD d else false
theorem some_or (a b : Bool) : (if a = true then some true else some b) = some (a || b) := by cases a <;> rfl
theorem spec_DepthOk_eq (k : Nat) (hk : 1 ≤ k) (c d : Int) : spec_DepthOk.f k c d = some (dok c d) := by
  obtain ⟨k, rfl⟩ : ∃ m, k = m + 1 := ⟨k - 1, by omega⟩
  have e : ∀ x : Bool, spec_DepthOk.j0 (k + 1) c d x = some (if c = 0 then x || bigD d else if c = 3 then x || d == 8 else if c = 2 then bigD d else if c = 4 then bigD d else if c = 6 then bigD d else false) := by
    intro x
    have h8 : (if d = 8 then some true else some (d == 16)) = some (bigD d) := by unfold bigD; by_cases h : d = 8 <;> simp [h]
    simp only [spec_DepthOk.j0, h8, some_or]
    repeat (first | rfl | split)
  simp only [spec_DepthOk.f, e, dok, smallD]
  by_cases h1 : d = 1
  · simp [h1]
  by_cases h2 : d = 2
  · simp [h2]
  · have e1 : (d == 1) = false := by simpa using h1
    have e2 : (d == 2) = false := by simpa using h2
    simp only [h1, h2, e1, e2, if_false, Bool.false_or]

def p2 (n : Int) : Int := 2 ^ n.toNat
theorem p2_nat (n : Nat) : p2 n = ((2 ^ n : Nat) : Int) := by simp [p2]
theorem p2_succ (n : Int) (h : 0 ≤ n) : p2 (n + 1) = 2 * p2 n := by
  obtain ⟨m, rfl⟩ := Int.eq_ofNat_of_zero_le h
  have : ((m : Int) + 1) = ((m + 1 : Nat) : Int) := by omega
  rw [this, p2_nat, p2_nat, Nat.pow_succ]; push_cast; omega
theorem p2_zero : p2 0 = 1 := rfl
theorem p2_pos (n : Int) : 1 ≤ p2 n := by
  unfold p2
  have h := Nat.one_le_two_pow (n := n.toNat)
  exact_mod_cast h
theorem p2_le {m n : Int} (h : m ≤ n) : p2 m ≤ p2 n := by
  unfold p2
  have h := Nat.pow_le_pow_right (n := 2) (by decide) (show m.toNat ≤ n.toNat by omega)
  exact_mod_cast h
theorem p2_62 {n : Int} (h : n ≤ 62) : p2 n ≤ 4611686018427387904 := p2_le (n := 62) h
theorem p2_16 {n : Int} (h : n ≤ 16) : p2 n ≤ 65536 := p2_le (n := 16) h

def depB (d : Int) : Int := if 0 ≤ d ∧ d ≤ 16 then d else 0
theorem depB_bd (d : Int) : 0 ≤ depB d ∧ depB d ≤ 16 := by unfold depB; split <;> omega
def clearOk (d c t : Int) (xs : List Int) : Bool :=
  if c = 3 then decide ((xs.length : Int) ≤ t) && xs.all (inB 255)
  else if xs.length = 0 then true
  else if c = 0 then decide (xs.length = 1) && xs.all (inB (p2 (depB d) - 1))
  else if c = 2 then decide (xs.length = 3) && xs.all (inB (p2 (depB d) - 1)) else false

theorem spec_l12Color_eq {l : List Int} {i : Int} (hc : Cur l i) (h : Int) : ∃ c i' h', spec_l12Color.f l i h = some (c, i', h') ∧ c ∈ [(0 : Int), 2, 3, 4, 6] ∧ Cur l i' := by
  unfold spec_l12Color.f
  obtain ⟨x, i1, h1, e1, hm, c1⟩ := spec_l01PickInt_eq hc h [0, 2, 3, 4, 6] (by simp)
  rw [e1]; exact ⟨_, _, _, rfl, hm, c1⟩
theorem dok_8 {c : Int} (hm : c ∈ [(0 : Int), 2, 3, 4, 6]) : dok c 8 = true := by
  simp only [List.mem_cons, List.not_mem_nil, or_false] at hm
  rcases hm with rfl | rfl | rfl | rfl | rfl <;> decide
theorem spec_l12DepthOf_l0 {l : List Int} {i : Int} (hc : Cur l i) (h c : Int) (hm : c ∈ [(0 : Int), 2, 3, 4, 6]) (d : Nat) : ∀ (k q : Nat) (xs : List Int), q + d = 17 → d < k → xs.length ≤ q → (∀ x ∈ xs, dok c x = true) → (xs ≠ [] ∨ q ≤ 8) → ∃ x i' h', spec_l12DepthOf.l0 k c xs q l i h = some (x, i', h') ∧ dok c x = true ∧ Cur l i' := by
  induction d with
  | zero =>
    intro k q xs hd hk hx ha hn
    obtain ⟨k, rfl⟩ : ∃ m, k = m + 1 := ⟨k - 1, by omega⟩
    simp only [spec_l12DepthOf.l0]
    rw [if_neg (by omega)]
    obtain ⟨x, i1, h1, e1, hx', c1⟩ := spec_l01PickInt_eq hc h xs (by rcases hn with hn | hn; exact hn; omega)
    rw [e1]; exact ⟨_, _, _, rfl, ha x hx', c1⟩
  | succ d ih =>
    intro k q xs hd hk hx ha hn
    obtain ⟨k, rfl⟩ : ∃ m, k = m + 1 := ⟨k - 1, by omega⟩
    simp only [spec_l12DepthOf.l0]
    rw [if_pos (by omega), spec_DepthOk_eq k (by omega)]
    simp only [Option.bind_some]
    rw [w64 (x := (q : Int) + 1) (by omega) (by omega)]
    by_cases b : dok c q = true
    · rw [if_pos b, if_pos (by omega)]
      have := ih k (q + 1) (xs ++ [(q : Int)]) (by omega) (by omega) (by simp; omega) (by intro x hx'; rcases List.mem_append.1 hx' with h' | h'; exact ha x h'; simp at h'; rw [h']; exact b) (.inl (by simp))
      push_cast at this
      exact this
    · rw [if_neg b]
      have := ih k (q + 1) xs (by omega) (by omega) (by omega) ha (by
        rcases hn with hn | hn
        · exact .inl hn
        · by_cases e : q = 8
          · subst e; exact absurd (dok_8 hm) b
          · exact .inr (by omega))
      push_cast at this
      exact this
theorem spec_l12DepthOf_eq {l : List Int} {i : Int} (hc : Cur l i) (h c : Int) (hm : c ∈ [(0 : Int), 2, 3, 4, 6]) (k : Nat) (hk : 16 < k) : ∃ x i' h', spec_l12DepthOf.f k l i h c = some (x, i', h') ∧ Cur l i' := by
  unfold spec_l12DepthOf.f
  obtain ⟨x, i', h', e, _, c'⟩ := spec_l12DepthOf_l0 hc h c hm 16 k 1 [] (by omega) hk (by simp) (by simp) (.inr (by omega))
  exact ⟨x, i', h', e, c'⟩

def chan (c : Int) : Int := if c = 0 then 1 else if c = 3 then 1 else if c = 2 then 3 else if c = 4 then 2 else if c = 6 then 4 else 0

theorem spec_ChannelsOf_eq (k : Nat) (hk : 1 ≤ k) (c : Int) : spec_ChannelsOf.f k c = some (chan c) := by
  obtain ⟨k, rfl⟩ : ∃ m, k = m + 1 := ⟨k - 1, by omega⟩
  simp only [spec_ChannelsOf.f, spec_ChannelsOf.j0, chan]
  by_cases h0 : c = 0
  · simp [h0]
  · by_cases h3 : c = 3
    · simp [h3]
    · simp [h0, h3]; repeat (first | split | rfl)

theorem spec_l01Pow_l0 (n : Int) (h62 : n ≤ 62) (d : Nat) : ∀ (k : Nat) (i : Int), 0 ≤ i → i ≤ n → n - i = d → d < k → spec_l01Pow.l0 k n (p2 i) i = some (p2 n) := by
  induction d with
  | zero =>
    intro k i h0 h1 hd hk
    obtain ⟨k, rfl⟩ : ∃ m, k = m + 1 := ⟨k - 1, by omega⟩
    obtain rfl : i = n := by omega
    simp only [spec_l01Pow.l0]
    rw [if_neg (by omega)]
  | succ d ih =>
    intro k i h0 h1 hd hk
    obtain ⟨k, rfl⟩ : ∃ m, k = m + 1 := ⟨k - 1, by omega⟩
    have b1 := p2_pos (i + 1)
    have b2 := p2_62 (n := i + 1) (by omega)
    have e := p2_succ i h0
    simp only [spec_l01Pow.l0]
    rw [if_pos (by omega), ← e, w64 (x := p2 (i + 1)) (by omega) (by omega), w64 (x := i + 1) (by omega) (by omega)]
    exact ih k (i + 1) (by omega) (by omega) (by omega) (by omega)
theorem spec_l01Pow_eq (k : Nat) (n : Int) (h62 : n ≤ 62) (hk : 64 ≤ k) : spec_l01Pow.f k n = some (p2 n) := by
  unfold spec_l01Pow.f
  by_cases h0 : 0 ≤ n
  · exact spec_l01Pow_l0 n h62 n.toNat k 0 (by omega) h0 (by omega) (by omega)
  · obtain ⟨k, rfl⟩ : ∃ m, k = m + 1 := ⟨k - 1, by omega⟩
    simp only [spec_l01Pow.l0]
    rw [if_neg (by omega)]
    have : n.toNat = 0 := by omega
    unfold p2; rw [this]; rfl

def sideB (n : Int) : Bool := decide (1 ≤ n) && decide (n ≤ 24)
theorem sideB_iff (n : Int) : sideB n = true ↔ 1 ≤ n ∧ n ≤ 24 := by simp [sideB]

def upB (n : Int) : Int := (n + 7) / 8
theorem upB_w (n : Int) (h : 0 ≤ n) (h' : n ≤ 9223372036854775800) : wrap64 (Int.tdiv (wrap64 (n + 7)) 8) = upB n := by
  unfold upB
  rw [w64 (x := n + 7) (by omega) (by omega), Int.tdiv_eq_ediv_of_nonneg (by omega), w64 (by omega) (by omega)]
theorem chan_bd (c : Int) : 0 ≤ chan c ∧ chan c ≤ 4 := by unfold chan; repeat (first | omega | split)
theorem dok_bd {c d : Int} (h : dok c d = true) : 1 ≤ d ∧ d ≤ 16 ∧ 1 ≤ chan c := by
  have hs : ∀ d : Int, smallD d = true → 1 ≤ d ∧ d ≤ 4 := by intro d h; simp [smallD] at h; omega
  have hb : ∀ d : Int, bigD d = true → 8 ≤ d ∧ d ≤ 16 := by intro d h; simp [bigD] at h; omega
  unfold dok at h
  unfold chan
  split at h
  · rename_i e; simp only [e, if_true, Bool.or_eq_true] at h ⊢
    rcases h with h | h
    · have := hs d h; omega
    · have := hb d h; omega
  · rename_i e0
    simp only [e0, if_false]
    split at h
    · rename_i e; simp only [e, if_true, Bool.or_eq_true, beq_iff_eq] at h ⊢
      rcases h with h | h
      · have := hs d h; omega
      · omega
    · rename_i e3
      simp only [e3, if_false]
      split at h
      · rename_i e; simp only [e, if_true]; have := hb d h; omega
      · rename_i e2
        simp only [e2, if_false]
        split at h
        · rename_i e; simp only [e, if_true]; have := hb d h; omega
        · rename_i e4
          simp only [e4, if_false]
          split at h
          · rename_i e; simp only [e, if_true]; have := hb d h; omega
          · cases h
theorem mul_bd {a b : Int} {m n : Int} (ha : 0 ≤ a) (ha' : a ≤ m) (hb : 0 ≤ b) (hb' : b ≤ n) : 0 ≤ a * b ∧ a * b ≤ m * n :=
  ⟨Int.mul_nonneg ha hb, Int.mul_le_mul ha' hb' hb (by omega)⟩
/-- How many bytes a row has. -/
def rowBytes (w c d : Int) : Int := if sideB w && dok c d then upB (w * chan c * d) else 0
theorem row_bd {w c d : Int} (h : sideB w = true) (h' : dok c d = true) : 0 ≤ w * chan c ∧ w * chan c ≤ 96 ∧ 0 ≤ w * chan c * d ∧ w * chan c * d ≤ 1536 := by
  rw [sideB_iff] at h
  have h2 := dok_bd h'
  have h3 := chan_bd c
  have h4 := mul_bd (a := w) (b := chan c) (m := 24) (n := 4) (by omega) (by omega) (by omega) (by omega)
  have h5 := mul_bd (a := w * chan c) (b := d) (m := 96) (n := 16) (by omega) (by omega) (by omega) (by omega)
  omega

def rasterOk (w h c d : Int) (xs : List Int) : Bool := sideB w && sideB h && dok c d && decide ((xs.length : Int) = w * h * chan c) && xs.all (inB (p2 d - 1))
theorem wh_bd {w h c : Int} (hw : sideB w = true) (hh : sideB h = true) : 0 ≤ w * h ∧ w * h ≤ 576 ∧ 0 ≤ w * h * chan c ∧ w * h * chan c ≤ 2304 := by
  rw [sideB_iff] at hw hh
  have h3 := chan_bd c
  have h4 := mul_bd (a := w) (b := h) (m := 24) (n := 24) (by omega) (by omega) (by omega) (by omega)
  have h5 := mul_bd (a := w * h) (b := chan c) (m := 576) (n := 4) (by omega) (by omega) (by omega) (by omega)
  omega

theorem str_append (xs ys : List Int) : strOfNums xs ++ strOfNums ys = strOfNums (xs ++ ys) := by
  apply ByteArray.ext
  apply Array.ext'
  rw [ByteArray.data_append, Array.toList_append, strOfNums_data, strOfNums_data, strOfNums_data, List.map_append]
theorem str_nil : (⟨#[]⟩ : ByteArray) = strOfNums [] := rfl
theorem str_size (xs : List Int) : (strOfNums xs).size = xs.length := strOfNums_size xs

def depthB (d : Int) : Bool := smallD d || bigD d
theorem depthB_nat {d : Int} (h : depthB d = true) : ∃ D : Nat, d = D ∧ (D = 1 ∨ D = 2 ∨ D = 4 ∨ D = 8 ∨ D = 16) := by
  simp [depthB, smallD, bigD] at h
  rcases h with h | h
  · rcases h with (h | h) | h <;> subst h
    · exact ⟨1, rfl, by omega⟩
    · exact ⟨2, rfl, by omega⟩
    · exact ⟨4, rfl, by omega⟩
  · rcases h with h | h <;> subst h
    · exact ⟨8, rfl, by omega⟩
    · exact ⟨16, rfl, by omega⟩
/-- Bit t of the samples, the highest of each first. -/
def bitF (xs : List Int) (D t : Nat) : Int := if t < xs.length * D then xs.getD (t / D) 0 / 2 ^ (D - 1 - t % D) % 2 else 0
theorem bitF_bd (xs : List Int) (D t : Nat) : 0 ≤ bitF xs D t ∧ bitF xs D t ≤ 1 := by unfold bitF; split <;> omega
theorem bitF_at (xs : List Int) (D i k : Nat) (hi : i < xs.length) (hk : k < D) : bitF xs D (i * D + k) = xs[i] / 2 ^ (D - 1 - k) % 2 := by
  have h1 : (i * D + k) / D = i := by
    rw [Nat.mul_comm, Nat.mul_add_div (by omega), Nat.div_eq_of_lt hk, Nat.add_zero]
  have h2 : (i * D + k) % D = k := by
    rw [Nat.mul_comm, Nat.mul_add_mod, Nat.mod_eq_of_lt hk]
  have h3 : i * D + k < xs.length * D := by
    have : (i + 1) * D ≤ xs.length * D := Nat.mul_le_mul_right _ hi
    rw [Nat.succ_mul] at this; omega
  unfold bitF
  rw [if_pos h3, h1, h2]
  simp [List.getD, hi]
theorem bitF_past (xs : List Int) (D t : Nat) (h : xs.length * D ≤ t) : bitF xs D t = 0 := by
  unfold bitF; rw [if_neg (by omega)]
/-- Eight bits as a byte. -/
def byteV (f : Nat → Int) (j : Nat) : Int := f (8 * j) * 128 + f (8 * j + 1) * 64 + f (8 * j + 2) * 32 + f (8 * j + 3) * 16 + f (8 * j + 4) * 8 + f (8 * j + 5) * 4 + f (8 * j + 6) * 2 + f (8 * j + 7)
def isBits (f : Nat → Int) : Prop := ∀ t, 0 ≤ f t ∧ f t ≤ 1
theorem byteV_bd {f : Nat → Int} (h : isBits f) (j : Nat) : 0 ≤ byteV f j ∧ byteV f j ≤ 255 := by
  have := h (8 * j); have := h (8 * j + 1); have := h (8 * j + 2); have := h (8 * j + 3); have := h (8 * j + 4); have := h (8 * j + 5); have := h (8 * j + 6); have := h (8 * j + 7)
  unfold byteV; omega
def bytesV (f : Nat → Int) (N : Nat) : List Int := (List.range N).map (byteV f)
theorem bytesV_len (f : Nat → Int) (N : Nat) : (bytesV f N).length = N := by simp [bytesV]
theorem bytesV_get (f : Nat → Int) (N j : Nat) (h : j < N) : rd (bytesV f N) j = byteV f j := by
  rw [rd_at _ _ (by rw [bytesV_len]; exact h)]; simp [bytesV]
theorem bytesV_succ (f : Nat → Int) (N : Nat) : bytesV f (N + 1) = bytesV f N ++ [byteV f N] := by simp [bytesV, List.range_succ]
/-- How many bytes so many bits need. -/
def upN (n : Nat) : Nat := (n + 7) / 8
def packRow (xs : List Int) (d : Int) : ByteArray × Bool :=
  if depthB d && decide (xs.length ≤ 96) && xs.all (inB (p2 d - 1)) then (strOfNums (bytesV (bitF xs d.toNat) (upN (xs.length * d.toNat))), true) else (⟨#[]⟩, false)

theorem dok_depth {c d : Int} (h : dok c d = true) : depthB d = true := by
  have e8 : (d == 8) = true → bigD d = true := by intro e; unfold bigD; rw [e]; rfl
  unfold dok at h
  unfold depthB
  by_cases h0 : c = 0
  · rw [if_pos h0] at h; exact h
  · rw [if_neg h0] at h
    by_cases h3 : c = 3
    · rw [if_pos h3] at h
      rw [Bool.or_eq_true] at h ⊢
      exact h.imp_right e8
    · rw [if_neg h3] at h
      have hb : bigD d = true := by
        by_cases h2 : c = 2
        · rw [if_pos h2] at h; exact h
        · rw [if_neg h2] at h
          by_cases h4 : c = 4
          · rw [if_pos h4] at h; exact h
          · rw [if_neg h4] at h
            by_cases h6 : c = 6
            · rw [if_pos h6] at h; exact h
            · rw [if_neg h6] at h; cases h
      rw [hb, Bool.or_true]
theorem depth_bd {d : Int} (h : depthB d = true) : 1 ≤ d ∧ d ≤ 16 := by
  obtain ⟨D, rfl, h⟩ := depthB_nat h
  omega

/-- A drawn raster is one. -/
theorem spec_l12DepthOf_ok {l : List Int} {i : Int} (hc : Cur l i) (h c : Int) (hm : c ∈ [(0 : Int), 2, 3, 4, 6]) (k : Nat) (hk : 16 < k) : ∃ x i' h', spec_l12DepthOf.f k l i h c = some (x, i', h') ∧ dok c x = true ∧ Cur l i' := by
  unfold spec_l12DepthOf.f
  exact spec_l12DepthOf_l0 hc h c hm 16 k 1 [] (by omega) hk (by simp) (by simp) (.inr (by omega))
theorem third_bd (p : Int) (h : 1 ≤ p) : 0 ≤ Int.tdiv p 3 ∧ Int.tdiv p 3 ≤ p - 1 := by
  rw [Int.tdiv_eq_ediv_of_nonneg (by omega)]; omega
theorem spec_l12Right_l0 {l : List Int} (m w h c d : Int) (hw : 1 ≤ w ∧ w ≤ 24) (hh : 1 ≤ h ∧ h ≤ 24) (hd : 1 ≤ d ∧ d ≤ 16) (N : Nat) (hN : (N : Int) = w * h * chan c) (q : Nat) : ∀ (k : Nat) (xs : List Int) (i g : Int), Cur l i → xs.length + q = N → q + 100 ≤ k → xs.all (inB (p2 d - 1)) = true →
    ∃ ys i' g', spec_l12Right.l0 k m xs.length l i g w h c d xs = some (w, h, c, d, ys, i', g') ∧ ys.length = N ∧ ys.all (inB (p2 d - 1)) = true := by
  have cb := chan_bd c
  have b1 := mul_bd (a := w) (b := h) (m := 24) (n := 24) (by omega) (by omega) (by omega) (by omega)
  have b2 := mul_bd b1.1 b1.2 cb.1 cb.2
  have pp := p2_pos d
  have p6 := p2_62 (n := d) (by omega)
  induction q with
  | zero =>
    intro k xs i g hc hx hk ha
    obtain ⟨k, rfl⟩ : ∃ m, k = m + 1 := ⟨k - 1, by omega⟩
    rw [spec_l12Right.l0, spec_ChannelsOf_eq k (by omega), Option.bind_some, w64 (x := w * h) (by omega) (by omega), w64 (x := w * h * chan c) (by omega) (by omega), if_neg (by omega)]
    exact ⟨_, _, _, rfl, by omega, ha⟩
  | succ q ih =>
    intro k xs i g hc hx hk ha
    obtain ⟨k, rfl⟩ : ∃ m, k = m + 1 := ⟨k - 1, by omega⟩
    obtain ⟨x, i1, g1, e1, a1, a2, _, c1⟩ := spec_l01Below_eq hc g (p2 d)
    have st := fun (v i g : Int) (hv : inB (p2 d - 1) v = true) (hc : Cur l i) => ih k (xs ++ [v]) i g hc (by rw [List.length_append]; simp only [List.length_cons, List.length_nil]; omega) (by omega) (by rw [List.all_append, ha]; simp [hv])
    simp only [List.length_append, List.length_cons, List.length_nil] at st
    push_cast at st
    rw [spec_l12Right.l0, spec_ChannelsOf_eq k (by omega), Option.bind_some, w64 (x := w * h) (by omega) (by omega), w64 (x := w * h * chan c) (by omega) (by omega), if_pos (by omega), spec_l01Pow_eq k d (by omega) (by omega), Option.bind_some, e1, Option.bind_some]
    have hx1 : inB (p2 d - 1) x = true := by unfold inB; simp; have := a2 (by omega); omega
    by_cases h4 : m < 4
    · rw [if_pos h4, Option.bind_some, Option.bind_some]
      have t3 := third_bd (p2 d) pp
      obtain ⟨y, i2, g2, e2, hy, c2⟩ := spec_l01PickInt_eq c1 g1 [0, wrap64 (p2 d - 1), wrap64 (Int.tdiv (p2 d) 3), 0] (by simp)
      simp only
      rw [e2, Option.bind_some, if_pos (by omega), w64 (x := (xs.length : Int) + 1) (by omega) (by omega)]
      have hy1 : inB (p2 d - 1) y = true := by
        rw [w64 (x := p2 d - 1) (by omega) (by omega), w64 (x := Int.tdiv (p2 d) 3) (by omega) (by omega)] at hy
        simp only [List.mem_cons, List.not_mem_nil, or_false] at hy
        unfold inB
        simp
        omega
      exact st y i2 g2 hy1 c2
    · rw [if_neg h4, if_pos (by omega), w64 (x := (xs.length : Int) + 1) (by omega) (by omega)]
      exact st x i1 g1 hx1 c1
theorem spec_l12Most_eq (l : List Int) (hl : l.length ≤ 1048576) : ∃ m, spec_l12Most.f l = some m ∧ 3 ≤ m ∧ m ≤ 9 := by
  unfold spec_l12Most.f
  rw [w64 (x := (l.length : Int) / 40) (by omega) (by omega), w64 (by omega) (by omega)]
  by_cases h : 3 + (l.length : Int) / 40 > 9
  · rw [if_pos h]; exact ⟨9, rfl, by omega, by omega⟩
  · rw [if_neg h]; exact ⟨_, rfl, by omega, by omega⟩
theorem spec_DrawRaster_eq (l : List Int) (hl : l.length ≤ 1048576) (k : Nat) (hk : l.length + 3000 < k) : ∃ w h c d xs, spec_DrawRaster.f k l = some (w, h, c, d, xs) ∧ rasterOk w h c d xs = true := by
  unfold spec_DrawRaster.f
  obtain ⟨g0, e0⟩ := spec_l01New_eq l hl k (by omega)
  obtain ⟨m, em, m1, m2⟩ := spec_l12Most_eq l hl
  rw [e0, Option.bind_some, em, Option.bind_some]
  unfold spec_l12Right.f
  obtain ⟨w, i1, g1, e1, a1, b1, _, c1⟩ := spec_l01Below_eq (cur_new hl) g0 m
  simp only
  rw [e1, Option.bind_some]
  obtain ⟨h, i2, g2, e2, a2, b2, _, c2⟩ := spec_l01Below_eq c1 g1 m
  simp only
  rw [e2, Option.bind_some]
  obtain ⟨c, i3, g3, e3, a3, c3⟩ := spec_l12Color_eq c2 g2
  simp only
  rw [e3, Option.bind_some]
  obtain ⟨d, i4, g4, e4, a4, c4⟩ := spec_l12DepthOf_ok c3 g3 c a3 k (by omega)
  simp only
  rw [e4, Option.bind_some]
  obtain ⟨n, i5, g5, e5, a5, b5, _, c5⟩ := spec_l01Below_eq c4 g4 5
  simp only
  rw [e5, Option.bind_some]
  have b1' := b1 (by omega)
  have b2' := b2 (by omega)
  have hd := depth_bd (dok_depth a4)
  have cb := chan_bd c
  simp only
  rw [w64 (x := 1 + w) (by omega) (by omega), w64 (x := 1 + h) (by omega) (by omega)]
  have q1 := mul_bd (a := 1 + w) (b := 1 + h) (m := 24) (n := 24) (by omega) (by omega) (by omega) (by omega)
  have q2 := mul_bd q1.1 q1.2 cb.1 cb.2
  obtain ⟨N, hN⟩ := Int.eq_ofNat_of_zero_le q2.1
  obtain ⟨ys, i6, g6, e6, l6, al6⟩ := spec_l12Right_l0 (l := l) (wrap64 (1 + n)) (1 + w) (1 + h) c d (by omega) (by omega) hd N (by omega) N k [] i5 g5 c5 (by simp) (by omega) (by simp)
  rw [show (([] : List Int).length : Int) = 0 from rfl] at e6
  rw [e6, Option.bind_some]
  refine ⟨_, _, _, _, _, rfl, ?_⟩
  simp only [rasterOk, Bool.and_eq_true, decide_eq_true_eq, sideB_iff]
  exact ⟨⟨⟨⟨by omega, by omega⟩, a4⟩, by omega⟩, al6⟩

def pstep (p : Int) : Int × Int × Int × Int := if p = 0 then (0, 0, 8, 8) else if p = 1 then (4, 0, 8, 8) else if p = 2 then (0, 4, 4, 8) else if p = 3 then (2, 0, 4, 4) else if p = 4 then (0, 2, 2, 4) else if p = 5 then (1, 0, 2, 2) else if p = 6 then (0, 1, 1, 2) else (0, 0, 0, 0)
def passB (p : Int) : Bool := decide (0 ≤ p) && decide (p ≤ 6)
theorem passB_iff (p : Int) : passB p = true ↔ 0 ≤ p ∧ p ≤ 6 := by simp [passB]
/-- How many of the places x, x + d, .. are below n. -/
def cnt (n x d : Int) : Int := if x < n then (n - x + d - 1) / d else 0
def power2 (d : Int) : Prop := d = 1 ∨ d = 2 ∨ d = 4 ∨ d = 8
theorem cnt_step {n x d : Int} (hd : power2 d) (h : x < n) : cnt n x d = 1 + cnt n (x + d) d := by
  unfold cnt
  rw [if_pos h]
  rcases hd with rfl | rfl | rfl | rfl <;> split <;> omega
theorem cnt_done {n x d : Int} (h : ¬ x < n) : cnt n x d = 0 := if_neg h
theorem cnt_bd {n x d : Int} (hd : power2 d) (h0 : 0 ≤ x) (hn : n ≤ 24) : 0 ≤ cnt n x d ∧ cnt n x d ≤ 24 := by
  unfold cnt
  rcases hd with rfl | rfl | rfl | rfl <;> split <;> omega
theorem pstep_bd {p : Int} (h : passB p = true) : 0 ≤ (pstep p).1 ∧ (pstep p).1 ≤ 4 ∧ 0 ≤ (pstep p).2.1 ∧ (pstep p).2.1 ≤ 4 ∧ power2 (pstep p).2.2.1 ∧ power2 (pstep p).2.2.2 ∧ (pstep p).1 ≤ (pstep p).2.2.1 ∧ (pstep p).2.1 ≤ (pstep p).2.2.2 := by
  rw [passB_iff] at h
  have : p = 0 ∨ p = 1 ∨ p = 2 ∨ p = 3 ∨ p = 4 ∨ p = 5 ∨ p = 6 := by omega
  unfold power2
  rcases this with rfl | rfl | rfl | rfl | rfl | rfl | rfl <;> decide

def psize (w h p : Int) : Int × Int :=
  if sideB w && sideB h && passB p then
    if cnt w (pstep p).1 (pstep p).2.2.1 = 0 ∨ cnt h (pstep p).2.1 (pstep p).2.2.2 = 0 then (0, 0) else (cnt w (pstep p).1 (pstep p).2.2.1, cnt h (pstep p).2.1 (pstep p).2.2.2)
  else (0, 0)

/-- The samples of one place: n of them from place a * n on. -/
def smp (xs : List Int) (n a : Int) : List Int := (xs.take (a * n + n).toNat).drop (a * n).toNat
def rowPl (b dx : Int) : Nat → List Int
  | 0 => []
  | n + 1 => b :: rowPl (b + dx) dx n
def gridPl (W dx dy x : Int) (w : Nat) : Nat → Int → List Int
  | 0, _ => []
  | n + 1, r => rowPl (r * W + x) dx w ++ gridPl W dx dy x w n (r + dy)
theorem rowPl_len (b dx : Int) (n : Nat) : (rowPl b dx n).length = n := by
  induction n generalizing b with
  | zero => rfl
  | succ n ih => simp [rowPl, ih]
theorem gridPl_len (W dx dy x : Int) (w n : Nat) (r : Int) : (gridPl W dx dy x w n r).length = w * n := by
  induction n generalizing r with
  | zero => simp [gridPl]
  | succ n ih => simp [gridPl, ih, rowPl_len, Nat.mul_succ]; omega
theorem gridPl_zero (W dx dy x : Int) (n : Nat) (r : Int) : gridPl W dx dy x 0 n r = [] := by
  induction n generalizing r with
  | zero => rfl
  | succ n ih => simp [gridPl, ih, rowPl]
theorem rowPl_bd {dx : Int} (hd : power2 dx) (W : Int) (hW : W ≤ 24) (n : Nat) : ∀ (c R : Int), 0 ≤ c → (n : Int) = cnt W c dx → ∀ a ∈ rowPl (R + c) dx n, R ≤ a ∧ a < R + W := by
  induction n with
  | zero => intro c R _ _ a ha; cases ha
  | succ n ih =>
    intro c R hc hn a ha
    have lt : c < W := by
      by_cases h : c < W
      · exact h
      · rw [cnt_done h] at hn; omega
    have st := cnt_step hd lt
    have hd0 : 0 ≤ dx := by rcases hd with rfl | rfl | rfl | rfl <;> omega
    rcases List.mem_cons.mp ha with rfl | ha
    · omega
    · rw [Int.add_assoc] at ha
      exact ih (c + dx) R (by omega) (by push_cast at hn; omega) a ha
theorem gridPl_bd {dx dy : Int} (hd : power2 dx) (he : power2 dy) (W H x : Int) (hx : 0 ≤ x) (hW0 : 0 ≤ W) (hW : W ≤ 24) (w : Nat) (hw : (w : Int) = cnt W x dx) (n : Nat) : ∀ (r : Int), 0 ≤ r → (n : Int) = cnt H r dy → ∀ a ∈ gridPl W dx dy x w n r, 0 ≤ a ∧ a < W * H := by
  induction n with
  | zero => intro r _ _ a ha; cases ha
  | succ n ih =>
    intro r hr hn a ha
    have lt : r < H := by
      by_cases h : r < H
      · exact h
      · rw [cnt_done h] at hn; omega
    have st := cnt_step he lt
    have hd0 : 0 ≤ dy := by rcases he with rfl | rfl | rfl | rfl <;> omega
    rcases List.mem_append.mp ha with ha | ha
    · have q := rowPl_bd hd W hW w x (r * W) hx hw a ha
      have p := Int.mul_le_mul_of_nonneg_right (show r + 1 ≤ H by omega) hW0
      have p2 := Int.mul_nonneg hr hW0
      rw [Int.add_mul, Int.mul_comm H W] at p
      omega
    · exact ih (r + dy) (by omega) (by push_cast at hn; omega) a ha
theorem smp_len (xs : List Int) (n a : Int) (hn : 0 ≤ n) (ha : 0 ≤ a) (h : a * n + n ≤ xs.length) : (smp xs n a).length = n.toNat := by
  have := Int.mul_nonneg ha hn
  simp only [smp, List.length_drop, List.length_take]; omega
theorem plc_bd {a WH n L : Int} (ha : 0 ≤ a ∧ a < WH) (hn : 0 ≤ n) (hL : L = WH * n) : 0 ≤ a * n ∧ a * n + n ≤ L := by
  have p := Int.mul_le_mul_of_nonneg_right (show a + 1 ≤ WH by omega) hn
  have p2 := Int.mul_nonneg ha.1 hn
  rw [Int.add_mul] at p
  omega
/-- The p-th pass of a raster. -/
def passL (w h c d : Int) (xs : List Int) (p : Int) : S66 :=
  ⟨(psize w h p).1, (psize w h p).2, c, d, (gridPl w (pstep p).2.2.1 (pstep p).2.2.2 (pstep p).1 (psize w h p).1.toNat (psize w h p).2.toNat (pstep p).2.1).flatMap (smp xs (chan c))⟩
def passesL (w h c d : Int) (xs : List Int) : List S66 := (List.range' 0 7).map fun p : Nat => passL w h c d xs p
theorem psize_eq {w h p : Int} (hw : sideB w = true) (hh : sideB h = true) (hp : passB p = true) :
    (psize w h p = (cnt w (pstep p).1 (pstep p).2.2.1, cnt h (pstep p).2.1 (pstep p).2.2.2)) ∨ (psize w h p = (0, 0) ∧ (cnt w (pstep p).1 (pstep p).2.2.1 = 0 ∨ cnt h (pstep p).2.1 (pstep p).2.2.2 = 0)) := by
  unfold psize
  rw [if_pos (by rw [hw, hh, hp]; rfl)]
  split
  · right; exact ⟨rfl, by assumption⟩
  · left; rfl
theorem psize_bd {w h p : Int} (hw : sideB w = true) (hh : sideB h = true) (hp : passB p = true) : 0 ≤ (psize w h p).1 ∧ (psize w h p).1 ≤ 24 ∧ 0 ≤ (psize w h p).2 ∧ (psize w h p).2 ≤ 24 := by
  have b := pstep_bd hp
  rw [sideB_iff] at hw hh
  have b1 := cnt_bd (n := w) b.2.2.2.2.1 b.1 hw.2
  have b2 := cnt_bd (n := h) b.2.2.2.2.2.1 b.2.2.1 hh.2
  rcases psize_eq ((sideB_iff w).mpr hw) ((sideB_iff h).mpr hh) hp with e | e
  · rw [e]; simp only; omega
  · rw [e.1]; simp only; omega
/-- The places of a pass, told by counts alone. -/
theorem grid_eq {w h p : Int} (hw : sideB w = true) (hh : sideB h = true) (hp : passB p = true) (W dx dy x r : Int) :
    gridPl W dx dy x (cnt w (pstep p).1 (pstep p).2.2.1).toNat (cnt h (pstep p).2.1 (pstep p).2.2.2).toNat r = gridPl W dx dy x (psize w h p).1.toNat (psize w h p).2.toNat r := by
  rcases psize_eq hw hh hp with e | ⟨e, z | z⟩
  · rw [e]
  · rw [e, z]; exact (gridPl_zero ..).trans rfl
  · rw [e, z]; rfl
theorem grid_bd {w h p : Int} (hw : sideB w = true) (hh : sideB h = true) (hp : passB p = true) :
    ∀ a ∈ gridPl w (pstep p).2.2.1 (pstep p).2.2.2 (pstep p).1 (psize w h p).1.toNat (psize w h p).2.toNat (pstep p).2.1, 0 ≤ a ∧ a < w * h := by
  have b := pstep_bd hp
  have hw' := (sideB_iff w).mp hw
  have hh' := (sideB_iff h).mp hh
  have b1 := cnt_bd (n := w) b.2.2.2.2.1 b.1 hw'.2
  have b2 := cnt_bd (n := h) b.2.2.2.2.2.1 b.2.2.1 hh'.2
  rw [← grid_eq hw hh hp]
  exact gridPl_bd b.2.2.2.2.1 b.2.2.2.2.2.1 w h _ b.1 (by omega) hw'.2 _ (by omega) _ _ b.2.2.1 (by omega)
theorem passB_nat {p : Nat} (h : p < 7) : passB (p : Int) = true := by rw [passB_iff]; omega

/-- Each place belongs to a pass. -/
theorem rowPl_mem (b dx : Int) (n : Nat) : ∀ i : Nat, i < n → ∀ b : Int, b + i * dx ∈ rowPl b dx n := by
  induction n with
  | zero => intro i hi; omega
  | succ n ih =>
    intro i hi b
    rcases i with _ | i
    · simp [rowPl]
    · have := ih i (by omega) (b + dx)
      rw [rowPl]
      refine List.mem_cons_of_mem _ ?_
      rw [show b + ((i + 1 : Nat) : Int) * dx = b + dx + i * dx from by push_cast; rw [Int.add_mul]; omega]
      exact this
theorem gridPl_mem (W dx dy x : Int) (w : Nat) (n : Nat) : ∀ (j i : Nat) (r : Int), j < n → i < w → (r + j * dy) * W + x + i * dx ∈ gridPl W dx dy x w n r := by
  induction n with
  | zero => intro j i r hj; omega
  | succ n ih =>
    intro j i r hj hi
    rw [gridPl]
    rcases j with _ | j
    · refine List.mem_append.2 (.inl ?_)
      have := rowPl_mem 0 dx w i hi (r * W + x)
      simpa using this
    · refine List.mem_append.2 (.inr ?_)
      have := ih j i (r + dy) (by omega) hi
      rw [show r + ((j + 1 : Nat) : Int) * dy = r + dy + j * dy from by push_cast; rw [Int.add_mul]; omega]
      exact this
theorem cnt_of {n x d c : Int} (hd : power2 d) (hx : 0 ≤ x) (hc : x ≤ c) (hn : c < n) (hm : c % d = x % d) : ∃ i : Nat, c = x + i * d ∧ (i : Int) < cnt n x d := by
  refine ⟨((c - x) / d).toNat, ?_, ?_⟩
  · rcases hd with rfl | rfl | rfl | rfl <;> omega
  · unfold cnt
    rw [if_pos (by omega)]
    rcases hd with rfl | rfl | rfl | rfl <;> omega
theorem pass_of (r c : Int) (hr : 0 ≤ r) (hc : 0 ≤ c) : ∃ p : Nat, p < 7 ∧ (pstep p).1 ≤ c ∧ c % (pstep p).2.2.1 = (pstep p).1 % (pstep p).2.2.1 ∧ (pstep p).2.1 ≤ r ∧ r % (pstep p).2.2.2 = (pstep p).2.1 % (pstep p).2.2.2 := by
  by_cases h6 : r % 2 = 1
  · exact ⟨6, by omega, by simp [pstep]; omega⟩
  · by_cases h5 : c % 2 = 1
    · exact ⟨5, by omega, by simp [pstep]; omega⟩
    · by_cases h4 : r % 4 = 2
      · exact ⟨4, by omega, by simp [pstep]; omega⟩
      · by_cases h3 : c % 4 = 2
        · exact ⟨3, by omega, by simp [pstep]; omega⟩
        · by_cases h2 : r % 8 = 4
          · exact ⟨2, by omega, by simp [pstep]; omega⟩
          · by_cases h1 : c % 8 = 4
            · exact ⟨1, by omega, by simp [pstep]; omega⟩
            · exact ⟨0, by omega, by simp [pstep]; omega⟩
def placesL (w h p : Int) : List Int := gridPl w (pstep p).2.2.1 (pstep p).2.2.2 (pstep p).1 (psize w h p).1.toNat (psize w h p).2.toNat (pstep p).2.1
theorem place_in {w h a : Int} (hw : sideB w = true) (hh : sideB h = true) (ha : 0 ≤ a ∧ a < w * h) : ∃ p : Nat, p < 7 ∧ a ∈ placesL w h p := by
  have hw' := (sideB_iff w).mp hw
  have hh' := (sideB_iff h).mp hh
  have e := Int.mul_ediv_add_emod a w
  have m0 := Int.emod_nonneg a (show w ≠ 0 by omega)
  have m1 := Int.emod_lt_of_pos a (show 0 < w by omega)
  have r0 : 0 ≤ a / w := Int.ediv_nonneg ha.1 (by omega)
  have r1 : a / w < h := Int.ediv_lt_of_lt_mul (by omega) (by rw [Int.mul_comm]; exact ha.2)
  obtain ⟨p, hp, x1, x2, y1, y2⟩ := pass_of (a / w) (a % w) r0 m0
  have pb := passB_nat hp
  have b := pstep_bd pb
  obtain ⟨i, hi, hi2⟩ := cnt_of b.2.2.2.2.1 b.1 x1 m1 x2
  obtain ⟨j, hj, hj2⟩ := cnt_of b.2.2.2.2.2.1 b.2.2.1 y1 r1 y2
  refine ⟨p, hp, ?_⟩
  unfold placesL
  rw [← grid_eq hw hh pb]
  have q := gridPl_mem w (pstep p).2.2.1 (pstep p).2.2.2 (pstep p).1 (cnt w (pstep p).1 (pstep p).2.2.1).toNat (cnt h (pstep p).2.1 (pstep p).2.2.2).toNat j i (pstep p).2.1 (by omega) (by omega)
  rw [← hj, Int.add_assoc, ← hi, Int.mul_comm] at q
  rw [e] at q
  exact q
/-- The passes have all the pixels together. -/
theorem cnt_two {n x d : Int} (hn : 1 ≤ n) (hx : 0 ≤ x) : (d = 4 ∨ d = 2 ∨ d = 1) → x < d → cnt n x (2 * d) + cnt n (x + d) (2 * d) = cnt n x d := by
  intro hd hx2
  unfold cnt
  rcases hd with rfl | rfl | rfl <;> (repeat' split) <;> omega
theorem cnt_one {n : Int} (hn : 1 ≤ n) : cnt n 0 1 = n := by
  unfold cnt; rw [if_pos (by omega)]; omega
def pixN (w h : Int) (p : Nat) : Int := (psize w h p).1 * (psize w h p).2
theorem pixN_eq {w h : Int} (hw : sideB w = true) (hh : sideB h = true) (p : Nat) (hp : p < 7) : pixN w h p = cnt w (pstep p).1 (pstep p).2.2.1 * cnt h (pstep p).2.1 (pstep p).2.2.2 := by
  unfold pixN
  rcases psize_eq hw hh (passB_nat hp) with e | ⟨e, z | z⟩
  · rw [e]
  · rw [e, z]; simp
  · rw [e, z]; simp
theorem pixN_sum {w h : Int} (hw : sideB w = true) (hh : sideB h = true) : pixN w h 0 + pixN w h 1 + pixN w h 2 + pixN w h 3 + pixN w h 4 + pixN w h 5 + pixN w h 6 = w * h := by
  have hw' := (sideB_iff w).mp hw
  have hh' := (sideB_iff h).mp hh
  rw [pixN_eq hw hh 0 (by omega), pixN_eq hw hh 1 (by omega), pixN_eq hw hh 2 (by omega), pixN_eq hw hh 3 (by omega), pixN_eq hw hh 4 (by omega), pixN_eq hw hh 5 (by omega), pixN_eq hw hh 6 (by omega)]
  show cnt w 0 8 * cnt h 0 8 + cnt w 4 8 * cnt h 0 8 + cnt w 0 4 * cnt h 4 8 + cnt w 2 4 * cnt h 0 4 + cnt w 0 2 * cnt h 2 4 + cnt w 1 2 * cnt h 0 2 + cnt w 0 1 * cnt h 1 2 = w * h
  have a1 := cnt_two (n := w) (x := 0) (d := 4) (by omega) (by omega) (by omega) (by omega)
  have a2 := cnt_two (n := w) (x := 0) (d := 2) (by omega) (by omega) (by omega) (by omega)
  have a3 := cnt_two (n := w) (x := 0) (d := 1) (by omega) (by omega) (by omega) (by omega)
  have b1 := cnt_two (n := h) (x := 0) (d := 4) (by omega) (by omega) (by omega) (by omega)
  have b2 := cnt_two (n := h) (x := 0) (d := 2) (by omega) (by omega) (by omega) (by omega)
  have b3 := cnt_two (n := h) (x := 0) (d := 1) (by omega) (by omega) (by omega) (by omega)
  have c1 := cnt_one (n := w) (by omega)
  have c2 := cnt_one (n := h) (by omega)
  simp only [Int.mul_one, Int.zero_add, Int.reduceMul] at a1 a2 a3 b1 b2 b3
  rw [← Int.add_mul, a1, ← Int.mul_add, b1, ← Int.add_mul, a2, ← Int.mul_add, b2, ← Int.add_mul, a3, ← Int.mul_add, b3, c1, c2]

theorem cpy_len {α : Type} (xs : List α) (l n : Nat) (ys : List α) (h : l + n ≤ xs.length) : (cpy xs l n ys).length = xs.length := by
  unfold cpy
  rw [List.length_append, List.length_append, List.length_take, List.length_take, List.length_drop]
  omega
theorem cpy_at {α : Type} (xs : List α) (l n : Nat) (ys : List α) (h : l + n ≤ xs.length) (hy : n ≤ ys.length) (t : Nat) : (cpy xs l n ys)[t]? = if l ≤ t ∧ t < l + n then ys[t - l]? else xs[t]? := by
  unfold cpy
  have l1 : (xs.take l).length = l := by rw [List.length_take]; omega
  have l2 : (ys.take n).length = n := by rw [List.length_take]; omega
  rw [Nat.min_eq_right hy]
  by_cases h1 : t < l
  · rw [if_neg (by omega), List.append_assoc, List.getElem?_append_left (by omega), List.getElem?_take, if_pos h1]
  · by_cases h2 : t < l + n
    · rw [if_pos (by omega), List.append_assoc, List.getElem?_append_right (by omega), l1, List.getElem?_append_left (by omega), List.getElem?_take, if_pos (by omega)]
    · rw [if_neg (by omega), List.getElem?_append_right (by rw [List.length_append]; omega), List.length_append, l1, l2, List.getElem?_drop]
      congr 1
      omega
def scatF (n : Nat) (src : List Int) : List Int → Nat → List Int → List Int
  | [], _, out => out
  | a :: P, i, out => scatF n src P (i + 1) (cpy out (a.toNat * n) n (src.drop (i * n)))
theorem scatF_len (n : Nat) (src : List Int) (P : List Int) : ∀ (i : Nat) (out : List Int), (∀ a ∈ P, a.toNat * n + n ≤ out.length) → (scatF n src P i out).length = out.length := by
  induction P with
  | nil => intro i out _; rfl
  | cons a P ih =>
    intro i out h
    have e := cpy_len out (a.toNat * n) n (src.drop (i * n)) (h a (List.mem_cons_self ..))
    rw [scatF, ih (i + 1) _ (fun b hb => by rw [e]; exact h b (List.mem_cons_of_mem _ hb)), e]
theorem flat_at (f : Int → List Int) (n : Nat) (P : List Int) (hf : ∀ a ∈ P, (f a).length = n) : ∀ (i s : Nat) (hi : i < P.length), s < n → (P.flatMap f)[i * n + s]? = (f P[i])[s]? := by
  induction P with
  | nil => intro i s hi; cases hi
  | cons a P ih =>
    intro i s hi hs
    have ha := hf a (List.mem_cons_self ..)
    rw [List.flatMap_cons]
    rcases i with _ | i
    · rw [Nat.zero_mul, Nat.zero_add, List.getElem?_append_left (by omega)]; rfl
    · rw [List.getElem?_append_right (by rw [Nat.succ_mul]; omega), ha, show (i + 1) * n + s - n = i * n + s from by rw [Nat.succ_mul]; omega, ih (fun b hb => hf b (List.mem_cons_of_mem _ hb)) i s (by simpa using hi) hs]
      rfl
/-- What is put at its places back from its samples agrees with the whole there, and as before elsewhere. -/
theorem scatF_good (xs : List Int) (n : Nat) (P0 : List Int) (hb : ∀ a ∈ P0, 0 ≤ a ∧ a.toNat * n + n ≤ xs.length) (m : Nat) : ∀ (i : Nat) (out : List Int), i + m = P0.length → out.length = xs.length →
    (∀ t : Nat, out[t]? = xs[t]? → (scatF n (P0.flatMap (smp xs n)) (P0.drop i) i out)[t]? = xs[t]?) ∧ (∀ a ∈ P0.drop i, ∀ t : Nat, a.toNat * n ≤ t → t < a.toNat * n + n → (scatF n (P0.flatMap (smp xs n)) (P0.drop i) i out)[t]? = xs[t]?) := by
  have sl : ∀ a ∈ P0, (smp xs n a).length = n := by
    intro a ha
    have q := hb a ha
    have e : a * (n : Int) + n = ((a.toNat * n + n : Nat) : Int) := by push_cast; rw [Int.toNat_of_nonneg q.1]
    rw [smp_len xs n a (by omega) q.1 (by omega)]; omega
  have fl : (P0.flatMap (smp xs n)).length = P0.length * n := by
    clear hb
    induction P0 with
    | nil => simp
    | cons a P ih =>
      rw [List.flatMap_cons, List.length_append, ih (fun b hb => sl b (List.mem_cons_of_mem _ hb)), sl a (List.mem_cons_self ..), List.length_cons, Nat.succ_mul]
      omega
  induction m with
  | zero =>
    intro i out hi ho
    rw [List.drop_eq_nil_of_le (by omega)]
    exact ⟨fun t h => h, fun a ha => by cases ha⟩
  | succ m ih =>
    intro i out hi ho
    have lt : i < P0.length := by omega
    have q := hb _ (List.getElem_mem lt)
    have fle : i * n + n ≤ P0.length * n := by
      rw [← Nat.succ_mul]; exact Nat.mul_le_mul_right _ lt
    have ce := cpy_len out (P0[i].toNat * n) n ((P0.flatMap (smp xs n)).drop (i * n)) (by rw [ho]; exact q.2)
    have ca := cpy_at out (P0[i].toNat * n) n ((P0.flatMap (smp xs n)).drop (i * n)) (by rw [ho]; exact q.2) (by rw [List.length_drop, fl]; omega)
    have blk : ∀ t : Nat, P0[i].toNat * n ≤ t → t < P0[i].toNat * n + n → (cpy out (P0[i].toNat * n) n ((P0.flatMap (smp xs n)).drop (i * n)))[t]? = xs[t]? := by
      intro t h1 h2
      rw [ca t, if_pos ⟨h1, h2⟩, List.getElem?_drop, flat_at (smp xs n) n P0 sl i _ lt (by omega)]
      unfold smp
      have e0 : (P0[i] * (n : Int)).toNat = P0[i].toNat * n := by
        have e : P0[i] * (n : Int) = ((P0[i].toNat * n : Nat) : Int) := by push_cast; rw [Int.toNat_of_nonneg q.1]
        rw [e]; omega
      have e1 : (P0[i] * (n : Int) + n).toNat = P0[i].toNat * n + n := by
        have e : P0[i] * (n : Int) = ((P0[i].toNat * n : Nat) : Int) := by push_cast; rw [Int.toNat_of_nonneg q.1]
        rw [e]; omega
      rw [e0, e1, List.getElem?_drop, List.getElem?_take, if_pos (by omega)]
      congr 1
      omega
    obtain ⟨s1, s2⟩ := ih (i + 1) _ (by omega) (by rw [ce]; exact ho)
    rw [List.drop_eq_getElem_cons lt, scatF]
    have keep : ∀ t : Nat, out[t]? = xs[t]? → (cpy out (P0[i].toNat * n) n ((P0.flatMap (smp xs n)).drop (i * n)))[t]? = xs[t]? := by
      intro t h
      by_cases c : P0[i].toNat * n ≤ t ∧ t < P0[i].toNat * n + n
      · exact blk t c.1 c.2
      · rw [ca t, if_neg c]; exact h
    refine ⟨fun t h => s1 t (keep t h), fun a ha t h1 h2 => ?_⟩
    rcases List.mem_cons.1 ha with rfl | ha
    · exact s1 t (blk t h1 h2)
    · exact s2 a ha t h1 h2
def scatAll (w h : Int) (n : Nat) (ps : List S66) : Nat → Nat → List Int → List Int
  | 0, _, out => out
  | r + 1, p, out => scatAll w h n ps r (p + 1) (scatF n (rd_T66 ps (p : Int)).f4 (placesL w h p) 0 out)
theorem places_bd {w h : Int} (hw : sideB w = true) (hh : sideB h = true) (n : Nat) (p : Nat) (hp : p < 7) : ∀ a ∈ placesL w h p, 0 ≤ a ∧ a.toNat * n + n ≤ (w * h).toNat * n := by
  intro a ha
  have g := grid_bd hw hh (passB_nat hp) a ha
  refine ⟨g.1, ?_⟩
  rw [← Nat.succ_mul]
  exact Nat.mul_le_mul_right _ (by omega)
theorem passesL_at (w h c d : Int) (xs : List Int) (p : Nat) (hp : p < 7) : rd_T66 (passesL w h c d xs) (p : Int) = passL w h c d xs p := by
  simp [rd_T66, passesL, List.getD, hp]
theorem scatAll_len {w h : Int} (hw : sideB w = true) (hh : sideB h = true) (n : Nat) (ps : List S66) (r : Nat) : ∀ (p : Nat) (out : List Int), p + r = 7 → out.length = (w * h).toNat * n → (scatAll w h n ps r p out).length = out.length := by
  induction r with
  | zero => intro p out _ _; rfl
  | succ r ih =>
    intro p out hp ho
    have e := scatF_len n (rd_T66 ps (p : Int)).f4 (placesL w h p) 0 out (fun a ha => by rw [ho]; exact (places_bd hw hh n p (by omega) a ha).2)
    rw [scatAll, ih (p + 1) _ (by omega) (by rw [e]; exact ho), e]
theorem scatAll_good {w h c d : Int} (hw : sideB w = true) (hh : sideB h = true) (xs : List Int) (n : Nat) (hn : chan c = n) (hl : xs.length = (w * h).toNat * n) (r : Nat) : ∀ (p : Nat) (out : List Int), p + r = 7 → out.length = xs.length →
    (∀ t : Nat, out[t]? = xs[t]? → (scatAll w h n (passesL w h c d xs) r p out)[t]? = xs[t]?) ∧ (∀ q : Nat, p ≤ q → q < 7 → ∀ a ∈ placesL w h q, ∀ t : Nat, a.toNat * n ≤ t → t < a.toNat * n + n → (scatAll w h n (passesL w h c d xs) r p out)[t]? = xs[t]?) := by
  induction r with
  | zero => intro p out hp ho; exact ⟨fun t h => h, fun q h1 h2 => by omega⟩
  | succ r ih =>
    intro p out hp ho
    have pb := places_bd hw hh n p (by omega)
    have f4 : (passL w h c d xs p).f4 = (placesL w h p).flatMap (smp xs (n : Int)) := by rw [← hn]; rfl
    have e := scatF_len n (passL w h c d xs p).f4 (placesL w h p) 0 out (fun a ha => by rw [ho, hl]; exact (pb a ha).2)
    rw [f4] at e
    obtain ⟨g1, g2⟩ := scatF_good xs n (placesL w h p) (fun a ha => by rw [hl]; exact pb a ha) (placesL w h p).length 0 out (by omega) ho
    rw [List.drop_zero] at g1 g2
    obtain ⟨s1, s2⟩ := ih (p + 1) (scatF n ((placesL w h p).flatMap (smp xs (n : Int))) (placesL w h p) 0 out) (by omega) (by rw [e]; exact ho)
    rw [scatAll, passesL_at w h c d xs p (by omega), f4]
    refine ⟨fun t h => s1 t (g1 t h), fun q h1 h2 a ha t h3 h4 => ?_⟩
    by_cases c : q = p
    · subst c; exact s1 t (g2 a ha t h3 h4)
    · exact s2 q (by omega) h2 a ha t h3 h4
/-- The passes put back are the raster. -/
theorem scatAll_back {w h c d : Int} {xs : List Int} (ok : rasterOk w h c d xs = true) (out : List Int) (ho : out.length = xs.length) : scatAll w h (chan c).toNat (passesL w h c d xs) 7 0 out = xs := by
  simp only [rasterOk, Bool.and_eq_true, decide_eq_true_eq] at ok
  obtain ⟨⟨⟨⟨hw, hh⟩, hdk⟩, hl⟩, hall⟩ := ok
  have bd := wh_bd (c := c) hw hh
  have cb := chan_bd c
  obtain ⟨n, hn⟩ := Int.eq_ofNat_of_zero_le cb.1
  have hl2 : xs.length = (w * h).toNat * n := by
    have : (xs.length : Int) = (((w * h).toNat * n : Nat) : Int) := by rw [hl, hn]; push_cast; rw [Int.toNat_of_nonneg bd.1]
    omega
  rw [hn, Int.toNat_natCast]
  have g := (scatAll_good (c := c) (d := d) hw hh xs n hn hl2 7 0 out (by omega) ho).2
  have e := scatAll_len hw hh n (passesL w h c d xs) 7 0 out (by omega) (by rw [ho, hl2])
  apply List.ext_getElem?
  intro t
  by_cases ht : t < xs.length
  · have np : 0 < n := by
      rcases Nat.eq_zero_or_pos n with z | z
      · rw [z, Nat.mul_zero] at hl2; omega
      · exact z
    have d1 := Nat.div_add_mod t n
    have d2 := Nat.mod_lt t np
    have d3 : t / n < (w * h).toNat := Nat.div_lt_of_lt_mul (by rw [hl2, Nat.mul_comm] at ht; exact ht)
    obtain ⟨p, hp, hm⟩ := place_in (a := ((t / n : Nat) : Int)) hw hh ⟨Int.natCast_nonneg _, by have := Int.ofNat_lt.2 d3; rw [Int.toNat_of_nonneg bd.1] at this; exact this⟩
    refine g p (by omega) hp _ hm t ?_ ?_
    · rw [Int.toNat_natCast, Nat.mul_comm]; omega
    · rw [Int.toNat_natCast, Nat.mul_comm]; omega
  · rw [List.getElem?_eq_none (by omega), List.getElem?_eq_none (by omega)]

theorem impl_within_eq (a b c : Int) : impl_within.f a b c = some (decide (b ≤ a) && decide (a ≤ c)) := by
  unfold impl_within.f
  by_cases h : b ≤ a <;> simp [h]

theorem impl_isSide_eq (n : Int) : impl_isSide.f n = some (sideB n) := by simp [impl_isSide.f, impl_within_eq, sideB]

theorem impl_PassStep_eq (p : Int) : impl_PassStep.f p = some (pstep p) := by unfold impl_PassStep.f pstep; repeat (first | rfl | split)
theorem cnt_quot {n x d : Int} (hd : power2 d) (h0 : 0 ≤ x) (h1 : x ≤ 4) (h2 : x ≤ d) (hn : 1 ≤ n) (hn' : n ≤ 24) : wrap64 (Int.tdiv (wrap64 (wrap64 (wrap64 (n - x) + d) - 1)) d) = (n - x + d - 1) / d ∧ (cnt n x d = 0 ↔ (n - x + d - 1) / d < 1) ∧ (cnt n x d ≠ 0 → cnt n x d = (n - x + d - 1) / d) := by
  have hd2 : 1 ≤ d ∧ d ≤ 8 := by unfold power2 at hd; omega
  rw [w64 (x := n - x) (by omega) (by omega), w64 (x := n - x + d) (by omega) (by omega), w64 (x := n - x + d - 1) (by omega) (by omega), Int.tdiv_eq_ediv_of_nonneg (by omega)]
  have q : 0 ≤ (n - x + d - 1) / d ∧ (n - x + d - 1) / d ≤ 40 := by rcases hd with rfl | rfl | rfl | rfl <;> omega
  refine ⟨w64 (by omega) (by omega), ?_, ?_⟩
  · unfold cnt
    rcases hd with rfl | rfl | rfl | rfl <;> split <;> omega
  · unfold cnt
    split
    · intro _; rfl
    · intro h; exact absurd rfl h
theorem impl_PassSize_eq (k : Nat) (hk : 1 ≤ k) (w h p : Int) : impl_PassSize.f k w h p = some (psize w h p) := by
  obtain ⟨k, rfl⟩ : ∃ m, k = m + 1 := ⟨k - 1, by omega⟩
  unfold impl_PassSize.f psize
  simp only [impl_isSide_eq, impl_within_eq, Option.bind_some]
  change (if sideB w = true then (if sideB h = true then impl_PassSize.j0 (k + 1) w h p (!(passB p)) else impl_PassSize.j0 (k + 1) w h p true) else impl_PassSize.j0 (k + 1) w h p true) = _
  have yes : impl_PassSize.j0 (k + 1) w h p true = some (0, 0) := by simp [impl_PassSize.j0]
  rw [yes]
  by_cases hw : sideB w = true
  · by_cases hh : sideB h = true
    · by_cases hp : passB p = true
      · have b := pstep_bd hp
        have bw := (sideB_iff w).1 hw
        have bh := (sideB_iff h).1 hh
        have q1 := cnt_quot (n := w) b.2.2.2.2.1 b.1 b.2.1 b.2.2.2.2.2.2.1 bw.1 bw.2
        have q2 := cnt_quot (n := h) b.2.2.2.2.2.1 b.2.2.1 b.2.2.2.1 b.2.2.2.2.2.2.2 bh.1 bh.2
        have n1 : (pstep p).2.2.1 ≠ 0 := by have := b.2.2.2.2.1; unfold power2 at this; omega
        have n2 : (pstep p).2.2.2 ≠ 0 := by have := b.2.2.2.2.2.1; unfold power2 at this; omega
        simp only [hw, hh, hp, if_true, Bool.not_true, Bool.and_self, impl_PassSize.j0, impl_PassStep_eq, Option.bind_some]
        rw [if_neg (by decide), if_neg n1, if_neg n2, q1.1, q2.1]
        by_cases h1 : cnt w (pstep p).1 (pstep p).2.2.1 = 0
        · rw [if_pos (q1.2.1.1 h1), if_pos (.inl h1)]
        · rw [if_neg (fun c => h1 (q1.2.1.2 c))]
          by_cases h2 : cnt h (pstep p).2.1 (pstep p).2.2.2 = 0
          · rw [if_pos (q2.2.1.1 h2), if_pos (.inr h2)]
          · rw [if_neg (fun c => h2 (q2.2.1.2 c)), if_neg (by omega), q1.2.2 h1, q2.2.2 h2]
      · simp [hw, hh, hp, yes]
    · simp [hw, hh]
  · simp [hw]

theorem impl_ChannelsOf_eq (k : Nat) (hk : 1 ≤ k) (c : Int) : impl_ChannelsOf.f k c = some (chan c) := by
  obtain ⟨k, rfl⟩ : ∃ m, k = m + 1 := ⟨k - 1, by omega⟩
  simp only [impl_ChannelsOf.f, impl_ChannelsOf.j0, chan]
  by_cases h0 : c = 0
  · simp [h0]
  · by_cases h3 : c = 3
    · simp [h3]
    · by_cases h2 : c = 2
      · simp [h2]
      · by_cases h4 : c = 4
        · simp [h4]
        · simp [h0, h3, h2, h4]; repeat (first | split | rfl)

theorem impl_isDepth_eq (d : Int) : impl_isDepth.f d = some (smallD d || bigD d) := by
  simp only [impl_isDepth.f, smallD, bigD]
  by_cases h1 : d = 1
  · simp [h1]
  by_cases h2 : d = 2
  · simp [h2]
  by_cases h4 : d = 4
  · simp [h4]
  by_cases h8 : d = 8
  · simp [h8]
  · have e1 : (d == 1) = false := by simpa using h1
    have e2 : (d == 2) = false := by simpa using h2
    have e4 : (d == 4) = false := by simpa using h4
    have e8 : (d == 8) = false := by simpa using h8
    simp only [h1, h2, h4, h8, e1, e2, e4, e8, if_false, Bool.false_or]

theorem impl_DepthOk_eq (k : Nat) (hk : 1 ≤ k) (c d : Int) : impl_DepthOk.f k c d = some (dok c d) := by
  have h8 : (if d = 8 then some true else some (d == 16)) = some (bigD d) := by unfold bigD; by_cases h : d = 8 <;> simp [h]
  simp only [impl_DepthOk.f, impl_isDepth_eq, impl_ChannelsOf_eq k hk, Option.bind_some, dok, h8]
  by_cases h0 : c = 0
  · simp [h0]
  by_cases h3 : c = 3
  · subst h3
    simp only [show ¬ ((3 : Int) = 0) by decide, if_true, if_false]
    unfold smallD bigD
    by_cases h1 : d = 1
    · simp [h1]
    by_cases h2 : d = 2
    · simp [h2]
    by_cases h4 : d = 4
    · simp [h4]
    by_cases h8 : d = 8
    · simp [h8]
    by_cases h16 : d = 16
    · simp [h16]
    · simp [h1, h2, h4, h8, h16]
  · simp only [h0, h3, chan, if_false]
    by_cases h2 : c = 2
    · simp [h2]
    by_cases h4 : c = 4
    · simp [h4]
    by_cases h6 : c = 6
    · simp [h6]
    · simp [h2, h4, h6]

theorem shl_one (n : Int) (h0 : 0 ≤ n) (h62 : n ≤ 62) : shl .i64 1 n = p2 n := by
  have b1 := p2_pos n
  have b2 := p2_62 h62
  unfold shl
  rw [show min n.toNat IntKind.i64.bits = n.toNat by simp [IntKind.bits]; omega, Int.one_mul, IntKind.wrap_i64]
  show (p2 n + 9223372036854775808) % 18446744073709551616 - 9223372036854775808 = p2 n
  omega
theorem impl_powerOf_eq (n : Int) : impl_powerOf.f n = some (if 0 ≤ n ∧ n ≤ 62 then p2 n else 0) := by
  unfold impl_powerOf.f
  rw [impl_within_eq]
  simp only [Option.bind_some]
  by_cases h0 : 0 ≤ n
  · by_cases h1 : n ≤ 62
    · simp [h0, h1, shl_one n h0 h1]
    · simp [h0, h1]
  · simp [h0]

theorem impl_samplesOk_l0 (n : Int) (h0 : 0 ≤ n) (h1 : n ≤ 62) (xs : List Int) (hx : xs.length ≤ 9223372036854775807) (d : Nat) : ∀ (k i : Nat), i ≤ xs.length → xs.length - i = d → d < k → impl_samplesOk.l0 k n xs xs.length i = some ((xs.drop i).all (inB (p2 n - 1))) := by
  induction d with
  | zero =>
    intro k i hi hd hk
    obtain ⟨k, rfl⟩ : ∃ m, k = m + 1 := ⟨k - 1, by omega⟩
    simp only [impl_samplesOk.l0]
    rw [if_neg (by omega), drop_all_end _ _ _ (by omega)]
  | succ d ih =>
    intro k i hi hd hk
    obtain ⟨k, rfl⟩ : ∃ m, k = m + 1 := ⟨k - 1, by omega⟩
    have lt : i < xs.length := by omega
    have b1 := p2_pos n
    have b2 := p2_62 h1
    simp only [impl_samplesOk.l0, impl_powerOf_eq, Option.bind_some]
    rw [if_pos (by omega), if_pos (by omega), if_pos (by omega), if_pos ⟨h0, h1⟩, w64 (x := p2 n - 1) (by omega) (by omega), impl_within_eq, rd_at xs i lt, w64 (by omega) (by omega), drop_all _ _ _ lt]
    simp only [Option.bind_some]
    have step := ih k (i + 1) (by omega) (by omega) (by omega)
    push_cast at step
    rw [step]
    unfold inB
    cases (decide (0 ≤ xs[i]) && decide (xs[i] ≤ p2 n - 1)) <;> simp
theorem impl_samplesOk_eq (n : Int) (h0 : 0 ≤ n) (h1 : n ≤ 62) (xs : List Int) (hx : xs.length ≤ 9223372036854775807) (k : Nat) (hk : xs.length < k) : impl_samplesOk.f k xs n = some (xs.all (inB (p2 n - 1))) := by
  unfold impl_samplesOk.f
  have := impl_samplesOk_l0 n h0 h1 xs hx xs.length k 0 (by omega) (by omega) hk
  simpa using this

theorem impl_RasterOk_eq (w h c d : Int) (xs : List Int) (hx : xs.length ≤ 9223372036854775807) (k : Nat) (hk : xs.length + 3 ≤ k) : impl_RasterOk.f k w h c d xs = some (rasterOk w h c d xs) := by
  obtain ⟨k, rfl⟩ : ∃ m, k = m + 1 := ⟨k - 1, by omega⟩
  have no : impl_RasterOk.j0 (k + 1) true w h c d xs = some false := by simp [impl_RasterOk.j0]
  unfold impl_RasterOk.f rasterOk
  simp only [impl_isSide_eq, impl_DepthOk_eq (k + 1) (by omega), Option.bind_some, no]
  by_cases hw : sideB w = true
  · by_cases hh : sideB h = true
    · by_cases hd : dok c d = true
      · have b := wh_bd (c := c) hw hh
        have bd := dok_bd hd
        simp only [hw, hh, hd, if_true, Bool.true_and, Bool.not_true, impl_RasterOk.j0]
        rw [if_neg (by decide), impl_ChannelsOf_eq k (by omega)]
        simp only [Option.bind_some]
        rw [w64 (x := w * h) (by omega) (by omega), w64 (x := w * h * chan c) (by omega) (by omega), impl_samplesOk_eq d (by omega) (by omega) xs hx k (by omega)]
        by_cases hl : (xs.length : Int) = w * h * chan c
        · simp [hl]
        · simp [hl]
      · simp [hw, hh, hd, no]
    · simp [hw, hh]
  · simp [hw]

theorem impl_pixels_l1 {dx : Int} (hd : power2 dx) (w h x dy r : Int) (hw : 1 ≤ w ∧ w ≤ 24) (hr : 0 ≤ r ∧ r ≤ 24) (m : Nat) : ∀ (k : Nat) (acc : List Int) (c : Int), 0 ≤ c → (m : Int) = cnt w c dx → acc.length + m ≤ 1000000 → (hdy : 0 ≤ dy ∧ dy ≤ 8) →
    impl_pixelsOf.l1 (k + m + 1) w h x dx dy acc r c = impl_pixelsOf.l0 k w h x dx dy (acc ++ rowPl (r * w + c) dx m) (r + dy) := by
  induction m with
  | zero =>
    intro k acc c hc hm ha hdy
    have ge : ¬ c < w := by
      intro lt
      have := cnt_step hd lt
      have : 0 ≤ cnt w (c + dx) dx := by
        have h0 : 0 ≤ c + dx := by rcases hd with rfl | rfl | rfl | rfl <;> omega
        exact (cnt_bd hd h0 hw.2).1
      omega
    simp only [Nat.add_zero, impl_pixelsOf.l1]
    rw [if_neg ge, w64 (x := r + dy) (by omega) (by omega)]
    simp [rowPl]
  | succ m ih =>
    intro k acc c hc hm ha hdy
    have lt : c < w := by
      by_cases h : c < w
      · exact h
      · rw [cnt_done h] at hm; omega
    have st := cnt_step hd lt
    have hdx : 0 ≤ dx ∧ dx ≤ 8 := by rcases hd with rfl | rfl | rfl | rfl <;> omega
    have b := mul_bd hr.1 hr.2 (show 0 ≤ w by omega) hw.2
    obtain ⟨K, hK⟩ : ∃ K, K = k + m + 1 := ⟨_, rfl⟩
    rw [show k + (m + 1) + 1 = K + 1 from by omega]
    simp only [impl_pixelsOf.l1]
    rw [if_pos lt, if_pos (by omega), w64 (x := r * w) (by omega) (by omega), w64 (x := r * w + c) (by omega) (by omega), w64 (x := c + dx) (by omega) (by omega),
      hK, ih k _ (c + dx) (by omega) (by push_cast at hm; omega) (by simp; omega) hdy]
    simp [rowPl, Int.add_assoc]
theorem impl_pixels_l0 {dx dy : Int} (hd : power2 dx) (he : power2 dy) (w h x : Int) (hw : 1 ≤ w ∧ w ≤ 24) (hh : h ≤ 24) (hx : 0 ≤ x) (n : Nat) : ∀ (k : Nat) (acc : List Int) (r : Int), 0 ≤ r → (n : Int) = cnt h r dy → acc.length + 24 * n ≤ 1000000 → n * 26 + 1 ≤ k →
    impl_pixelsOf.l0 k w h x dx dy acc r = some (acc ++ gridPl w dx dy x (cnt w x dx).toNat n r) := by
  have hdy : 0 ≤ dy ∧ dy ≤ 8 := by rcases he with rfl | rfl | rfl | rfl <;> omega
  have cb := cnt_bd (n := w) hd hx hw.2
  induction n with
  | zero =>
    intro k acc r hr hn ha hk
    obtain ⟨k, rfl⟩ : ∃ m, k = m + 1 := ⟨k - 1, by omega⟩
    have ge : ¬ r < h := by
      intro lt
      have := cnt_step he lt
      have : 0 ≤ cnt h (r + dy) dy := (cnt_bd he (by omega) hh).1
      omega
    simp only [impl_pixelsOf.l0]
    rw [if_neg ge]; simp [gridPl]
  | succ n ih =>
    intro k acc r hr hn ha hk
    obtain ⟨k, rfl⟩ : ∃ m, k = m + (cnt w x dx).toNat + 1 + 1 := ⟨k - (cnt w x dx).toNat - 2, by omega⟩
    have lt : r < h := by
      by_cases h2 : r < h
      · exact h2
      · rw [cnt_done h2] at hn; omega
    have st := cnt_step he lt
    simp only [impl_pixelsOf.l0]
    rw [if_pos lt, impl_pixels_l1 hd w h x dy r hw (by omega) _ k acc x hx (by omega) (by omega) hdy,
      ih k _ (r + dy) (by omega) (by push_cast at hn; omega) (by rw [List.length_append, rowPl_len]; omega) (by omega)]
    simp [gridPl]
theorem impl_pixelsOf_eq {w h p : Int} (hw : sideB w = true) (hh : sideB h = true) (hp : passB p = true) (k : Nat) (hk : 700 ≤ k) :
    impl_pixelsOf.f k w h p = some (gridPl w (pstep p).2.2.1 (pstep p).2.2.2 (pstep p).1 (psize w h p).1.toNat (psize w h p).2.toNat (pstep p).2.1) := by
  unfold impl_pixelsOf.f
  rw [impl_PassStep_eq]
  simp only [Option.bind_some]
  have b := pstep_bd hp
  have hw' := (sideB_iff w).mp hw
  have hh' := (sideB_iff h).mp hh
  have b2 := cnt_bd (n := h) b.2.2.2.2.2.1 b.2.2.1 hh'.2
  rw [impl_pixels_l0 b.2.2.2.2.1 b.2.2.2.2.2.1 w h _ hw' hh'.2 b.1 (cnt h (pstep p).2.1 (pstep p).2.2.2).toNat k [] _ b.2.2.1 (by omega) (by simp; omega) (by omega), grid_eq hw hh hp]
  rfl
theorem impl_passes_l1 (x4 : List S66) (n p : Int) (P : List Int) (w h c d : Int) (xs : List Int) (z0 z1 z2 z3 : Int) (hx4 : x4.length ≤ 7) (hp : 0 ≤ p ∧ p ≤ 7) (hn : 0 ≤ n ∧ n ≤ 4) (hxs : xs.length ≤ 2304) (hP : P.length ≤ 576) (hb : ∀ a ∈ P, 0 ≤ a ∧ 0 ≤ a * n ∧ a * n + n ≤ xs.length) (m : Nat) : ∀ (k i : Nat) (acc : List Int), i ≤ P.length → P.length - i = m → acc.length + 4 * m ≤ 1000000 →
    impl_PassesOf.l1 (k + m + 1) x4 n p P P.length i w h c d xs z0 z1 z2 z3 acc = impl_PassesOf.l0 k (x4 ++ [⟨z0, z1, z2, z3, acc ++ (P.drop i).flatMap (smp xs n)⟩]) n (p + 1) w h c d xs := by
  induction m with
  | zero =>
    intro k i acc hi hm ha
    simp only [Nat.add_zero, impl_PassesOf.l1]
    rw [if_neg (by omega), if_pos (by omega), w64 (x := p + 1) (by omega) (by omega), List.drop_eq_nil_of_le (by omega)]
    simp
  | succ m ih =>
    intro k i acc hi hm ha
    have hi' : i < P.length := by omega
    have e : rd P i = P[i] := rd_at P i hi'
    obtain ⟨b1, b2, b3⟩ := hb P[i] (List.getElem_mem hi')
    have b4 : P[i] ≤ 1000000 ∨ n = 0 := by
      by_cases z : n = 0
      · exact Or.inr z
      · left
        have := Int.mul_le_mul_of_nonneg_left (show 1 ≤ n by omega) b1
        omega
    have b5 : P[i] * n + n = (P[i] + 1) * n := by rw [Int.add_mul, Int.one_mul]
    have wq : wrap64 (wrap64 (P[i] + 1) * n) = P[i] * n + n := by
      rcases b4 with b4 | z
      · rw [w64 (x := P[i] + 1) (by omega) (by omega), b5, w64 (by omega) (by omega)]
      · rw [z]; simp [wrap64]
    obtain ⟨K, hK⟩ : ∃ K, K = k + m + 1 := ⟨_, rfl⟩
    rw [show k + (m + 1) + 1 = K + 1 from by omega]
    simp only [impl_PassesOf.l1]
    have ll : acc.length + ((xs.take (P[i] * n + n).toNat).drop (P[i] * n).toNat).length < 17592186044416 := by
      simp only [List.length_drop, List.length_take]; omega
    have sl : (smp xs n P[i]).length = n.toNat := smp_len xs n _ hn.1 b1 b3
    rw [if_pos (by omega), if_pos (by omega), if_pos (by omega), e, w64 (x := P[i] * n) (by omega) (by omega), wq, if_pos b2, if_pos (by omega), if_pos b3, if_pos ll,
      w64 (x := (i : Int) + 1) (by omega) (by omega)]
    have q := ih k (i + 1) (acc ++ smp xs n P[i]) (by omega) (by omega) (by rw [List.length_append, sl]; omega)
    push_cast at q
    rw [show ((xs.take (P[i] * n + n).toNat).drop (P[i] * n).toNat) = smp xs n P[i] from rfl, hK, q, List.drop_eq_getElem_cons hi', List.flatMap_cons, List.append_assoc]
theorem passes_ar {q k P : Nat} (h : (q + 1) * 600 + 800 ≤ k + P + 1 + 1) (hP : P ≤ 576) : q * 600 + 800 ≤ k := by
  rw [Nat.succ_mul] at h
  generalize q * 600 = z at h ⊢
  omega
theorem impl_passes_l0 (w h c d : Int) (xs : List Int) (ok : rasterOk w h c d xs = true) (q : Nat) : ∀ (k p : Nat) (x4 : List S66), p + q = 7 → x4.length ≤ p → q * 600 + 800 ≤ k →
    impl_PassesOf.l0 k x4 (chan c) p w h c d xs = some (x4 ++ (List.range' p q).map (fun p : Nat => passL w h c d xs p), true) := by
  have ok2 := ok
  simp only [rasterOk, Bool.and_eq_true, decide_eq_true_eq] at ok2
  obtain ⟨⟨⟨⟨hw, hh⟩, hdk⟩, hl⟩, hall⟩ := ok2
  have bd := wh_bd (c := c) hw hh
  have cb := chan_bd c
  induction q with
  | zero =>
    intro k p x4 hp hx hk
    obtain ⟨k, rfl⟩ : ∃ m, k = m + 1 := ⟨k - 1, by omega⟩
    simp only [impl_PassesOf.l0]
    rw [if_neg (by omega)]; simp
  | succ q ih =>
    intro k p x4 hp hx hk
    have hp7 : p < 7 := by omega
    have pb := passB_nat hp7
    have sb := psize_bd hw hh pb
    have gb := grid_bd hw hh pb
    have gl := gridPl_len w (pstep p).2.2.1 (pstep p).2.2.2 (pstep p).1 (psize w h p).1.toNat (psize w h p).2.toNat (pstep p).2.1
    obtain ⟨k, rfl⟩ : ∃ m, k = m + 1 := ⟨k - 1, by omega⟩
    simp only [impl_PassesOf.l0]
    rw [if_pos (by omega), impl_PassSize_eq k (by omega), impl_pixelsOf_eq hw hh pb k (by omega)]
    simp only [Option.bind_some]
    have pl : passL w h c d xs p = ⟨(psize w h p).1, (psize w h p).2, c, d, [] ++ ((gridPl w (pstep p).2.2.1 (pstep p).2.2.2 (pstep p).1 (psize w h p).1.toNat (psize w h p).2.toNat (pstep p).2.1).drop 0).flatMap (smp xs (chan c))⟩ := rfl
    generalize hP : gridPl w (pstep p).2.2.1 (pstep p).2.2.2 (pstep p).1 (psize w h p).1.toNat (psize w h p).2.toNat (pstep p).2.1 = P at gb gl pl ⊢
    have hPl : P.length ≤ 576 := by
      rw [gl]
      exact Nat.mul_le_mul (show (psize w h p).1.toNat ≤ 24 by omega) (show (psize w h p).2.toNat ≤ 24 by omega)
    obtain ⟨k, rfl⟩ : ∃ m, k = m + P.length + 1 := ⟨k - P.length - 1, by omega⟩
    have s1 := impl_passes_l1 x4 (chan c) p P w h c d xs (psize w h p).1 (psize w h p).2 c d (by omega) (by omega) (by omega) (by omega) hPl (fun a ha => ⟨(gb a ha).1, plc_bd (gb a ha) (by omega) hl⟩) P.length k 0 [] (by omega) (by omega) (by simp; omega)
    rw [show ((0 : Nat) : Int) = 0 from rfl] at s1
    rw [s1, ← pl]
    have s2 := ih k (p + 1) (x4 ++ [passL w h c d xs p]) (by omega) (by rw [List.length_append]; exact Nat.add_le_add_right hx 1) (passes_ar hk hPl)
    push_cast at s2
    rw [s2, List.range'_succ]
    simp
theorem impl_PassesOf_eq (w h c d : Int) (xs : List Int) (hx : xs.length ≤ 9223372036854775807) (k : Nat) (hk : 6000 ≤ k) (hk2 : xs.length + 3 ≤ k) :
    impl_PassesOf.f k w h c d xs = some (if rasterOk w h c d xs then (passesL w h c d xs, true) else ([], false)) := by
  unfold impl_PassesOf.f
  rw [impl_RasterOk_eq w h c d xs hx k hk2]
  simp only [Option.bind_some]
  by_cases ok : rasterOk w h c d xs = true
  · rw [if_pos ok, if_pos ok, impl_ChannelsOf_eq k (by omega)]
    simp only [Option.bind_some]
    have := impl_passes_l0 w h c d xs ok 7 k 0 [] (by omega) (by simp) (by omega)
    rw [show ((0 : Nat) : Int) = 0 from rfl] at this
    rw [this]; rfl
  · rw [if_neg ok, if_neg ok]

theorem slices_Equal_l0 (xs ys : List Int) (hl : xs.length = ys.length) (hx : xs.length ≤ 1000000000) (d : Nat) : ∀ (k i : Nat), i ≤ xs.length → xs.length - i = d → d < k → slices_Equal_int_int.l0 k xs ys xs.length i = some (decide (xs.drop i = ys.drop i)) := by
  induction d with
  | zero =>
    intro k i hi hd hk
    obtain ⟨k, rfl⟩ : ∃ m, k = m + 1 := ⟨k - 1, by omega⟩
    rw [slices_Equal_int_int.l0, if_neg (by omega), List.drop_eq_nil_of_le (by omega), List.drop_eq_nil_of_le (by omega)]
    rfl
  | succ d ih =>
    intro k i hi hd hk
    obtain ⟨k, rfl⟩ : ∃ m, k = m + 1 := ⟨k - 1, by omega⟩
    have lx : i < xs.length := by omega
    have ly : i < ys.length := by omega
    have st := ih k (i + 1) (by omega) (by omega) (by omega)
    push_cast at st
    rw [slices_Equal_int_int.l0, if_pos (by omega), if_pos (by omega), if_pos (by omega), if_pos (by omega), rd_at xs i lx, rd_at ys i ly, w64 (by omega) (by omega), List.drop_eq_getElem_cons lx, List.drop_eq_getElem_cons ly]
    by_cases h : xs[i] = ys[i]
    · rw [if_pos h, st]
      congr 1
      rw [decide_eq_decide]
      exact ⟨fun q => by rw [h, q], fun q => (List.cons.inj q).2⟩
    · rw [if_neg h]
      congr 1
      exact (decide_eq_false (fun q => h (List.cons.inj q).1)).symm
theorem slices_Equal_eq (xs ys : List Int) (hx : xs.length ≤ 1000000000) (k : Nat) (hk : xs.length < k) : slices_Equal_int_int.f k xs ys = some (decide (xs = ys)) := by
  unfold slices_Equal_int_int.f
  by_cases h : xs.length = ys.length
  · rw [if_pos (by omega)]
    have := slices_Equal_l0 xs ys h hx xs.length k 0 (by omega) (by omega) hk
    rw [show ((0 : Nat) : Int) = 0 from rfl] at this
    simpa using this
  · rw [if_neg (by omega)]
    congr 1
    exact (decide_eq_false (fun q => h (by rw [q]))).symm
def rastEq (a b : S66) : Bool := decide (a.f0 = b.f0) && decide (a.f1 = b.f1) && decide (a.f2 = b.f2) && decide (a.f3 = b.f3) && decide (a.f4 = b.f4)
theorem rastEq_iff (a b : S66) : rastEq a b = true ↔ a = b := by
  cases a; cases b
  simp [rastEq, and_assoc]
theorem impl_sameRaster_eq (a b : S66) (hx : a.f4.length ≤ 1000000000) (k : Nat) (hk : a.f4.length < k) : impl_sameRaster.f k a.f0 a.f1 a.f2 a.f3 a.f4 b.f0 b.f1 b.f2 b.f3 b.f4 = some (rastEq a b) := by
  unfold impl_sameRaster.f rastEq
  by_cases h0 : a.f0 = b.f0
  · by_cases h1 : a.f1 = b.f1
    · by_cases h2 : a.f2 = b.f2
      · by_cases h3 : a.f3 = b.f3
        · rw [if_pos h0, if_pos h1, if_pos h2, if_pos h3, slices_Equal_eq _ _ hx k hk]; simp [h0, h1, h2, h3]
        · rw [if_pos h0, if_pos h1, if_pos h2, if_neg h3]; simp [h3]
      · rw [if_pos h0, if_pos h1, if_neg h2]; simp [h2]
    · rw [if_pos h0, if_neg h1]; simp [h1]
  · rw [if_neg h0]; simp [h0]
def rastsEq : List S66 → List S66 → Bool
  | [], [] => true
  | a :: ls, b :: bs => rastEq a b && rastsEq ls bs
  | _, _ => false
theorem rastsEq_iff (ls : List S66) : ∀ bs, rastsEq ls bs = true ↔ ls = bs := by
  induction ls with
  | nil => intro bs; cases bs <;> simp [rastsEq]
  | cons a ls ih => intro bs; cases bs <;> simp [rastsEq, rastEq_iff, ih]
theorem rd_Rast (ps : List S66) (i : Nat) (h : i < ps.length) : rd_T66 ps (i : Int) = ps[i] := by simp [rd_T66, List.getD, h]
theorem impl_EqRasters_l0 (ls bs : List S66) (hl : ls.length = bs.length) (ha : ls.length ≤ 1000) (hx : ∀ a ∈ ls, a.f4.length ≤ 5000) (d : Nat) : ∀ (k i : Nat), i ≤ ls.length → ls.length - i = d → d + 6000 ≤ k → impl_Raster.l0 k bs ls ls.length i = some (rastsEq (ls.drop i) (bs.drop i)) := by
  induction d with
  | zero =>
    intro k i hi hd hk
    obtain ⟨k, rfl⟩ : ∃ m, k = m + 1 := ⟨k - 1, by omega⟩
    rw [impl_Raster.l0, if_neg (by omega), List.drop_eq_nil_of_le (by omega), List.drop_eq_nil_of_le (by omega)]
    rfl
  | succ d ih =>
    intro k i hi hd hk
    obtain ⟨k, rfl⟩ : ∃ m, k = m + 1 := ⟨k - 1, by omega⟩
    have lx : i < ls.length := by omega
    have ly : i < bs.length := by omega
    have z := hx _ (List.getElem_mem lx)
    have st := ih k (i + 1) (by omega) (by omega) (by omega)
    push_cast at st
    rw [impl_Raster.l0, if_pos (by omega), if_pos (by omega), if_pos (by omega), if_pos (by omega), rd_Rast ls i lx, rd_Rast bs i ly, impl_sameRaster_eq _ _ (by omega) k (by omega), Option.bind_some, w64 (by omega) (by omega), List.drop_eq_getElem_cons lx, List.drop_eq_getElem_cons ly, rastsEq]
    by_cases h : rastEq ls[i] bs[i] = true
    · rw [if_pos h, st, h, Bool.true_and]
    · rw [if_neg h, Bool.eq_false_iff.mpr h, Bool.false_and]
theorem impl_EqRasters_eq (ls bs : List S66) (ha : ls.length ≤ 1000) (hx : ∀ a ∈ ls, a.f4.length ≤ 5000) (k : Nat) (hk : 8000 ≤ k) : impl_Raster.f k ls bs () = some (rastsEq ls bs) := by
  unfold impl_Raster.f
  by_cases h : ls.length = bs.length
  · rw [if_pos (by omega)]
    have := impl_EqRasters_l0 ls bs h ha hx ls.length k 0 (by omega) (by omega) (by omega)
    rw [show ((0 : Nat) : Int) = 0 from rfl] at this
    simpa using this
  · rw [if_neg (by omega)]
    congr 1
    have : rastsEq ls bs ≠ true := fun q => h (by rw [(rastsEq_iff ls bs).1 q])
    exact (Bool.eq_false_iff.mpr this).symm

theorem impl_From_l1 (w h : Int) (n : Nat) (hn4 : n ≤ 4) (ps : List S66) (p : Nat) (hp : p < 7) (P : List Int) (hP : P.length ≤ 576) (L : Nat) (hL : L ≤ 2304) (hb : ∀ a ∈ P, 0 ≤ a ∧ a ≤ 1000 ∧ a.toNat * n + n ≤ L) (src : List Int) (hs : src.length = P.length * n) (z0 z1 z2 z3 y0 y1 y2 y3 : Int) (m : Nat) : ∀ (k i : Nat) (out : List Int), i + m = P.length → out.length = L →
    impl_FromPasses.l1 (k + m + 1) w h ps n ps 7 p P P.length i z0 z1 z2 z3 out y0 y1 y2 y3 src = impl_FromPasses.l0 k w h ps n ps 7 (p + 1 : Nat) z0 z1 z2 z3 (scatF n src (P.drop i) i out) := by
  induction m with
  | zero =>
    intro k i out hi ho
    rw [Nat.add_zero, impl_FromPasses.l1, if_neg (by omega), w64 (x := (p : Int) + 1) (by omega) (by omega), List.drop_eq_nil_of_le (by omega)]
    rfl
  | succ m ih =>
    intro k i out hi ho
    have lt : i < P.length := by omega
    have q := hb _ (List.getElem_mem lt)
    have e0 : P[i] * (n : Int) = ((P[i].toNat * n : Nat) : Int) := by push_cast; rw [Int.toNat_of_nonneg q.1]
    have e1 : (P[i] + 1) * (n : Int) = ((P[i].toNat * n + n : Nat) : Int) := by rw [Int.add_mul, Int.one_mul, e0]; push_cast; rfl
    have e2 : (i : Int) * (n : Int) = ((i * n : Nat) : Int) := by push_cast; rfl
    have b2 : i * n ≤ P.length * n := Nat.mul_le_mul_right _ (by omega)
    have b3 : P.length * n ≤ 576 * 4 := Nat.mul_le_mul hP hn4
    have cl := cpy_len out (P[i].toNat * n) n (src.drop (i * n)) (by rw [ho]; exact q.2.2)
    obtain ⟨K, hK⟩ : ∃ K, K = k + m + 1 := ⟨_, rfl⟩
    have cut : ((out.take (P[i].toNat * n + n)).drop (P[i].toNat * n)).length = n := by rw [List.length_drop, List.length_take]; omega
    have st := ih k (i + 1) (cpy out (P[i].toNat * n) n (src.drop (i * n))) (by omega) (by rw [cl]; exact ho)
    rw [show k + (m + 1) + 1 = K + 1 from by omega, impl_FromPasses.l1, if_pos (by omega), if_pos (by omega), if_pos (by omega), rd_at P i lt, w64 (x := P[i] + 1) (by omega) (by omega), e1, e0, e2,
      w64 (x := ((P[i].toNat * n : Nat) : Int)) (by omega) (by omega), w64 (x := ((P[i].toNat * n + n : Nat) : Int)) (by omega) (by omega), w64 (x := ((i * n : Nat) : Int)) (by omega) (by omega), w64 (x := (i : Int) + 1) (by omega) (by omega),
      Int.toNat_natCast, Int.toNat_natCast, Int.toNat_natCast, cut, if_pos (by omega), if_pos (by omega), if_pos (by omega), if_pos (by omega), if_pos (by omega), hK]
    push_cast at st
    rw [st, List.drop_eq_getElem_cons lt, scatF]
    push_cast
    rfl
/-- All the passes' lengths are right. -/
def lensOk (w h : Int) (n : Nat) (ps : List S66) : Prop := ∀ p : Nat, p < 7 → (rd_T66 ps (p : Int)).f4.length = (placesL w h p).length * n
theorem places_len {w h : Int} (hw : sideB w = true) (hh : sideB h = true) (p : Nat) (hp : p < 7) : (placesL w h p).length ≤ 576 := by
  have sb := psize_bd hw hh (passB_nat hp)
  unfold placesL
  rw [gridPl_len]
  exact Nat.mul_le_mul (show (psize w h p).1.toNat ≤ 24 by omega) (show (psize w h p).2.toNat ≤ 24 by omega)
theorem impl_From_l0 {w h : Int} (hw : sideB w = true) (hh : sideB h = true) (n : Nat) (hn4 : n ≤ 4) (ps : List S66) (h7 : ps.length = 7) (lo : lensOk w h n ps) (c d : Int) (r : Nat) : ∀ (k p : Nat) (out : List Int), p + r = 7 → out.length = (w * h).toNat * n → r * 600 + 9000 ≤ k →
    ∃ q, 8000 ≤ q ∧ impl_FromPasses.l0 k w h ps n ps 7 p w h c d out = impl_FromPasses.l0 (q + 1) w h ps n ps 7 7 w h c d (scatAll w h n ps r p out) := by
  induction r with
  | zero =>
    intro k p out hp ho hk
    obtain ⟨k, rfl⟩ : ∃ m, k = m + 1 := ⟨k - 1, by omega⟩
    refine ⟨k, by omega, ?_⟩
    rw [show p = 7 from by omega]
    rfl
  | succ r ih =>
    intro k p out hp ho hk
    have hp7 : p < 7 := by omega
    have pl := places_len hw hh p hp7
    have pb := places_bd hw hh n p hp7
    have gb := fun a ha => grid_bd hw hh (passB_nat hp7) a ha
    have hw' := (sideB_iff w).mp hw
    have hh' := (sideB_iff h).mp hh
    have wb := mul_bd (a := w) (b := h) (m := 24) (n := 24) (by omega) (by omega) (by omega) (by omega)
    have lp := lo p hp7
    have nb : (placesL w h p).length * n ≤ 576 * 4 := Nat.mul_le_mul pl hn4
    have Lb : (w * h).toNat * n ≤ 576 * 4 := Nat.mul_le_mul (by omega) hn4
    have el : ((placesL w h p).length : Int) * (n : Int) = (((placesL w h p).length * n : Nat) : Int) := by push_cast; rfl
    have hk1 : (placesL w h p).length + 2 ≤ k ∧ r * 600 + 9000 ≤ k - (placesL w h p).length - 2 := by
      rw [Nat.succ_mul] at hk
      generalize r * 600 = z at hk ⊢
      omega
    obtain ⟨K, rfl⟩ : ∃ m, k = m + (placesL w h p).length + 1 + 1 := ⟨k - (placesL w h p).length - 2, by omega⟩
    have hK : r * 600 + 9000 ≤ K := by
      have := hk1.2
      generalize r * 600 = z at this ⊢
      omega
    have hK2 : 9000 ≤ K := Nat.le_trans (Nat.le_add_left _ _) hK
    have s1 := impl_From_l1 w h n hn4 ps p hp7 (placesL w h p) pl ((w * h).toNat * n) (by omega) (fun a ha => ⟨(pb a ha).1, by have := gb a ha; omega, (pb a ha).2⟩) (rd_T66 ps (p : Int)).f4 lp w h c d (rd_T66 ps (p : Int)).f0 (rd_T66 ps (p : Int)).f1 (rd_T66 ps (p : Int)).f2 (rd_T66 ps (p : Int)).f3 (placesL w h p).length K 0 out (by omega) ho
    rw [show ((0 : Nat) : Int) = 0 from rfl] at s1
    rw [impl_FromPasses.l0, if_pos (by omega), if_pos (by omega), if_pos (by rw [h7]; omega), impl_pixelsOf_eq hw hh (passB_nat hp7) _ (by omega), Option.bind_some]
    rw [show gridPl w (pstep (p : Int)).2.2.1 (pstep (p : Int)).2.2.2 (pstep (p : Int)).1 (psize w h (p : Int)).1.toNat (psize w h (p : Int)).2.toNat (pstep (p : Int)).2.1 = placesL w h p from rfl, el, w64 (by omega) (by omega), if_pos (by rw [lp]), s1]
    have e := scatF_len n (rd_T66 ps (p : Int)).f4 (placesL w h p) 0 out (fun a ha => by rw [ho]; exact (pb a ha).2)
    rw [List.drop_zero]
    obtain ⟨q, hq, eq⟩ := ih K (p + 1) (scatF n (rd_T66 ps (p : Int)).f4 (placesL w h p) 0 out) (by omega) (by rw [e]; exact ho) hK
    exact ⟨q, hq, eq⟩
theorem passes_lens {w h c d : Int} {xs : List Int} (ok : rasterOk w h c d xs = true) : lensOk w h (chan c).toNat (passesL w h c d xs) := by
  intro p hp
  simp only [rasterOk, Bool.and_eq_true, decide_eq_true_eq] at ok
  obtain ⟨⟨⟨⟨hw, hh⟩, hdk⟩, hl⟩, hall⟩ := ok
  have cb := chan_bd c
  have gb := grid_bd hw hh (passB_nat hp)
  rw [passesL_at w h c d xs p hp]
  show ((placesL w h p).flatMap (smp xs (chan c))).length = _
  have fl : ∀ P : List Int, (∀ a ∈ P, 0 ≤ a ∧ a * chan c + chan c ≤ xs.length) → (P.flatMap (smp xs (chan c))).length = P.length * (chan c).toNat := by
    intro P
    induction P with
    | nil => intro _; simp
    | cons a P ih =>
      intro hb
      have q := hb a (List.mem_cons_self ..)
      rw [List.flatMap_cons, List.length_append, ih fun b hb' => hb b (List.mem_cons_of_mem _ hb'), smp_len xs (chan c) a cb.1 q.1 q.2, List.length_cons, Nat.succ_mul]
      omega
  exact fl _ fun a ha => ⟨(gb a ha).1, (plc_bd (gb a ha) cb.1 hl).2⟩
/-- The passes of a raster, put together, are the raster. -/
theorem impl_From_passes {w h c d : Int} {xs : List Int} (ok : rasterOk w h c d xs = true) (k : Nat) (hk : 15000 ≤ k) : impl_FromPasses.f k w h (passesL w h c d xs) = some (w, h, c, d, xs, true) := by
  have ok2 := ok
  simp only [rasterOk, Bool.and_eq_true, decide_eq_true_eq] at ok2
  obtain ⟨⟨⟨⟨hw, hh⟩, hdk⟩, hl⟩, hall⟩ := ok2
  have bd := wh_bd (c := c) hw hh
  have cb := chan_bd c
  have h7 : (passesL w h c d xs).length = 7 := by simp [passesL]
  unfold impl_FromPasses.f
  rw [impl_isSide_eq, Option.bind_some, hw, if_pos rfl, impl_isSide_eq, Option.bind_some, hh, if_pos rfl, h7]
  obtain ⟨k, rfl⟩ : ∃ m, k = m + 1 := ⟨k - 1, by omega⟩
  have r0 : rd_T66 (passesL w h c d xs) 0 = passL w h c d xs 0 := passesL_at w h c d xs 0 (by omega)
  rw [impl_FromPasses.j0, if_neg (by decide), h7, if_pos (by omega), r0]
  show (impl_ChannelsOf.f k c).bind _ = _
  obtain ⟨n, hn⟩ := Int.eq_ofNat_of_zero_le cb.1
  rw [impl_ChannelsOf_eq k (by omega), Option.bind_some, w64 (x := w * h) (by omega) (by omega), w64 (x := w * h * chan c) (by omega) (by omega), if_pos (by omega), if_pos (by omega), ← hl, Int.toNat_natCast]
  have lo := passes_lens ok
  rw [hn, Int.toNat_natCast] at lo
  have hl2 : xs.length = (w * h).toNat * n := by
    have : (xs.length : Int) = (((w * h).toNat * n : Nat) : Int) := by rw [hl, hn]; push_cast; rw [Int.toNat_of_nonneg bd.1]
    omega
  obtain ⟨q, hq, e⟩ := impl_From_l0 hw hh n (by omega) (passesL w h c d xs) h7 lo c d 7 k 0 (List.replicate xs.length 0) (by omega) (by rw [List.length_replicate, hl2]) (by omega)
  rw [show ((0 : Nat) : Int) = 0 from rfl] at e
  rw [hn]
  show impl_FromPasses.l0 k w h (passesL w h c d xs) n (passesL w h c d xs) 7 0 w h c d (List.replicate xs.length 0) = _
  rw [e]
  have back := scatAll_back ok (List.replicate xs.length 0) (by rw [List.length_replicate])
  rw [hn, Int.toNat_natCast] at back
  rw [back, impl_FromPasses.l0, if_neg (by omega), impl_PassesOf_eq w h c d xs (by omega) q (by omega) (by omega), if_pos ok, Option.bind_some, if_pos rfl,
    impl_EqRasters_eq _ _ (by rw [h7]; omega) (fun a ha => by
      simp only [passesL, List.mem_map, List.mem_range'_1] at ha
      obtain ⟨p, hp, rfl⟩ := ha
      have l := passes_lens ok p (by omega)
      rw [passesL_at w h c d xs p (by omega)] at l
      have pl := places_len hw hh p (by omega)
      have nb : (placesL w h p).length * (chan c).toNat ≤ 576 * 4 := Nat.mul_le_mul pl (by omega)
      omega) q (by omega), Option.bind_some, (rastsEq_iff _ _).2 rfl, if_pos rfl]

theorem laws_sameInts_l0 (xs : List Int) (hx : xs.length ≤ 1000000000) (d : Nat) : ∀ (k i : Nat), i ≤ xs.length → xs.length - i = d → d < k → laws_sameInts.l0 k xs xs i = some true := by
  induction d with
  | zero =>
    intro k i hi hd hk
    obtain ⟨k, rfl⟩ : ∃ m, k = m + 1 := ⟨k - 1, by omega⟩
    rw [laws_sameInts.l0, if_neg (by omega)]
  | succ d ih =>
    intro k i hi hd hk
    obtain ⟨k, rfl⟩ : ∃ m, k = m + 1 := ⟨k - 1, by omega⟩
    have st := ih k (i + 1) (by omega) (by omega) (by omega)
    push_cast at st
    rw [laws_sameInts.l0, if_pos (by omega), if_pos (by omega), if_pos (by omega), if_pos rfl, w64 (by omega) (by omega), st]
theorem laws_sameRaster_refl (w h c d : Int) (xs : List Int) (hx : xs.length ≤ 1000000000) (k : Nat) (hk : xs.length < k) : laws_sameRaster.f k w h c d xs w h c d xs = some true := by
  unfold laws_sameRaster.f laws_sameInts.f
  have := laws_sameInts_l0 xs hx xs.length k 0 (by omega) (by omega) hk
  rw [show ((0 : Nat) : Int) = 0 from rfl] at this
  rw [if_pos rfl, if_pos rfl, if_pos rfl, if_pos rfl, if_pos rfl, this]
  rfl

theorem laws_big_eq (l : List Int) : laws_big.f l = some (decide (1048576 < l.length)) := by
  unfold laws_big.f
  congr 1
  rw [Bool.eq_iff_iff]; simp; omega

def sumN (w h : Int) : Nat → Int
  | 0 => 0
  | p + 1 => sumN w h p + pixN w h p
theorem pixN_bd {w h : Int} (hw : sideB w = true) (hh : sideB h = true) (p : Nat) (hp : p < 7) : 0 ≤ pixN w h p ∧ pixN w h p ≤ 576 := by
  have sb := psize_bd hw hh (passB_nat hp)
  exact mul_bd (m := 24) (n := 24) sb.1 sb.2.1 sb.2.2.1 sb.2.2.2
theorem sumN_bd {w h : Int} (hw : sideB w = true) (hh : sideB h = true) (p : Nat) : p ≤ 7 → 0 ≤ sumN w h p ∧ sumN w h p ≤ 576 * p := by
  induction p with
  | zero => intro _; simp [sumN]
  | succ p ih =>
    intro hp
    have a := ih (by omega)
    have b := pixN_bd hw hh p (by omega)
    rw [sumN]; push_cast; omega
theorem FnPasses_l0 {w h c d : Int} {xs : List Int} (ok : rasterOk w h c d xs = true) (r : Nat) : ∀ (k p : Nat), p + r = 7 → 6000 + r ≤ k → laws_FnPasses.l0 k (passesL w h c d xs) true true (sumN w h p) p w h c d xs w h c d xs = some true := by
  have ok2 := ok
  simp only [rasterOk, Bool.and_eq_true, decide_eq_true_eq] at ok2
  obtain ⟨⟨⟨⟨hw, hh⟩, hdk⟩, hl⟩, hall⟩ := ok2
  have bd := wh_bd (c := c) hw hh
  have h7 : (passesL w h c d xs).length = 7 := by simp [passesL]
  induction r with
  | zero =>
    intro k p hp hk
    obtain ⟨k, rfl⟩ : ∃ m, k = m + 1 := ⟨k - 1, by omega⟩
    have e7 : sumN w h 7 = w * h := by
      have := pixN_sum hw hh
      simp only [sumN]
      omega
    rw [laws_FnPasses.l0, h7, if_neg (by omega), if_pos rfl, if_pos rfl, if_pos (by omega), w64 (x := w * h) (by omega) (by omega), show p = 7 from by omega, e7, if_pos rfl, laws_sameRaster_refl w h c d xs (by omega) k (by omega)]
    rfl
  | succ r ih =>
    intro k p hp hk
    obtain ⟨k, rfl⟩ : ∃ m, k = m + 1 := ⟨k - 1, by omega⟩
    have pb := pixN_bd hw hh p (by omega)
    have sb := sumN_bd hw hh p (by omega)
    have st := ih k (p + 1) (by omega) (by omega)
    rw [laws_FnPasses.l0, h7, if_pos (by omega), impl_PassSize_eq k (by omega), Option.bind_some, if_pos (by omega), passesL_at w h c d xs p (by omega)]
    rw [show (passL w h c d xs p).f0 = (psize w h p).1 from rfl, show (passL w h c d xs p).f1 = (psize w h p).2 from rfl, if_pos rfl, if_pos rfl, show (psize w h p).1 * (psize w h p).2 = pixN w h p from rfl,
      w64 (x := pixN w h p) (by omega) (by omega), w64 (x := sumN w h p + pixN w h p) (by omega) (by omega), w64 (x := (p : Int) + 1) (by omega) (by omega)]
    push_cast at st
    exact st
theorem FnPasses : laws_FnPasses.Pure := by
  intro l _ _ _
  obtain ⟨k, hk⟩ : ∃ k : Nat, k = 5000000 := ⟨_, rfl⟩
  refine ⟨k, ?_⟩
  unfold laws_FnPasses.f
  rw [laws_big_eq, Option.bind_some]
  by_cases hb : 1048576 < l.length
  · rw [if_pos (by simpa using hb)]
  · rw [if_neg (by simpa using hb)]
    obtain ⟨w, h, c, d, xs, e, ok⟩ := spec_DrawRaster_eq l (by omega) k (by omega)
    have ok2 := ok
    simp only [rasterOk, Bool.and_eq_true, decide_eq_true_eq] at ok2
    obtain ⟨⟨⟨⟨hw, hh⟩, hdk⟩, hl⟩, hall⟩ := ok2
    have bd := wh_bd (c := c) hw hh
    rw [e, Option.bind_some]
    simp only
    rw [impl_PassesOf_eq w h c d xs (by omega) k (by omega) (by omega), if_pos ok, Option.bind_some]
    simp only
    rw [impl_From_passes ok k (by omega), Option.bind_some]
    have := FnPasses_l0 ok 7 k 0 (by omega) (by omega)
    exact this

end Go.Proofs.Ytefoebmcimnapaa.Pure
