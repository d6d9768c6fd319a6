/- For every input that NoCover is given by the law FnExactNoCover the law holds: NoCover answers as the reference model does, leaves its argument alone, and its answer is its own. -/
import Derived.Test.YtajnobmnkbkkgaaPFnExactNoCoverx18
set_option linter.unusedVariables false
set_option linter.unusedSimpArgs false
namespace Go.Proofs.Ytajnobmnkbkkgaa.Pure
open Go.RowKit Go.Proofs.Ytajnobmnkbkkgaa.PFnExactNoCover Go.Proofs.YtajnobmnkbkkgaaW.PrintWords Go.Proofs.YtajnobmnkbkkgaaW.PrintLast

theorem w64 {x : Int} (h : -9223372036854775808 ≤ x) (h' : x ≤ 9223372036854775807) : wrap64 x = x := by unfold wrap64; omega
theorem wf_i64 {a : Int} (h : (Lit.int .i64 a).wf = true) : -9223372036854775808 ≤ a ∧ a ≤ 9223372036854775807 := by
  simpa [Lit.wf, IntKind.min, IntKind.max, IntKind.signed, IntKind.bits] using h
theorem wbt (s : ByteArray) (i : Int) : wrap64 (bt s i) = bt s i := w64 (by have := bt_range s i; omega) (by have := bt_range s i; omega)

theorem impl_within_eq (a b c : Int) : impl_within.f a b c = some (decide (b ≤ a) && decide (a ≤ c)) := by
  unfold impl_within.f
  by_cases h : b ≤ a <;> simp [h]

def great (c : Int) : Bool := decide (65 ≤ c) && decide (c ≤ 90)
def small (c : Int) : Bool := decide (97 ≤ c) && decide (c ≤ 122)
theorem spec_l16Letter_eq (c : Int) : spec_l16Letter.f c = some (great c || small c) := by
  unfold spec_l16Letter.f great small
  by_cases h1 : 65 ≤ c
  · by_cases h2 : c ≤ 90
    · simp [h1, h2]
    · by_cases h3 : 97 ≤ c
      · simp [h1, h2, h3]
      · simp [h1, h2, h3]
  · have h3 : ¬ (97 ≤ c) := by omega
    simp [h1, h3]
theorem impl_isGreat_eq (s : ByteArray) (i : Int) : impl_isGreat.f (bt s i) = some (great (bt s i)) := by
  simp [impl_isGreat.f, wbt, impl_within_eq, great]
theorem impl_isSmall_eq (s : ByteArray) (i : Int) : impl_isSmall.f (bt s i) = some (small (bt s i)) := by
  simp [impl_isSmall.f, wbt, impl_within_eq, small]
/-- A letter that may stand at a place of a name. -/
def letterAt (s : ByteArray) (i : Int) : Bool := great (bt s i) || (small (bt s i) && decide (i ≠ 2))
def nameOk (s : ByteArray) : Bool := (s.size == 4) && letterAt s 0 && letterAt s 1 && letterAt s 2 && letterAt s 3
theorem impl_NameOk_round (s : ByteArray) (hs : s.size ≤ 9223372036854775807) (k : Nat) (i : Int) (h0 : 0 ≤ i) (h1 : i < s.size) :
    impl_NameOk.l0 (k + 1) s s.size i = if letterAt s i = true then impl_NameOk.l0 k s s.size (i + 1) else some false := by
  simp only [impl_NameOk.l0]
  rw [if_pos h1, if_pos h0, if_pos h1, impl_isGreat_eq, impl_isSmall_eq, w64 (by omega) (by omega)]
  simp only [Option.bind_some, letterAt]
  by_cases hg : great (bt s i) = true
  · simp [hg]
  · by_cases hm : small (bt s i) = true
    · by_cases h2 : i = 2
      · simp [hg, hm, h2]
      · simp [hg, hm, h2]
    · simp [hg, hm]
theorem impl_NameOk_end (s : ByteArray) (k : Nat) : impl_NameOk.l0 (k + 1) s s.size s.size = some (s.size == 4) := by
  simp only [impl_NameOk.l0]
  rw [if_neg (by omega)]
  congr 1
  rw [Bool.eq_iff_iff]
  simp
  omega
/-- A name that is not of four bytes is none. -/
theorem impl_NameOk_not4 (s : ByteArray) (hs : s.size ≤ 9223372036854775807) (h4 : s.size ≠ 4) (d : Nat) : ∀ (k : Nat) (i : Int), 0 ≤ i → i ≤ s.size → (s.size : Int) - i = d → d < k → impl_NameOk.l0 k s s.size i = some false := by
  induction d with
  | zero =>
    intro k i h0 h1 hd hk
    obtain ⟨k, rfl⟩ : ∃ m, k = m + 1 := ⟨k - 1, by omega⟩
    have : i = s.size := by omega
    subst this
    rw [impl_NameOk_end]
    simp [h4]
  | succ d ih =>
    intro k i h0 h1 hd hk
    obtain ⟨k, rfl⟩ : ∃ m, k = m + 1 := ⟨k - 1, by omega⟩
    rw [impl_NameOk_round s hs k i h0 (by omega)]
    split
    · exact ih k (i + 1) (by omega) (by omega) (by omega) (by omega)
    · rfl
theorem impl_NameOk_eq (s : ByteArray) (hs : s.size ≤ 9223372036854775807) (k : Nat) (hk : s.size + 5 ≤ k) : impl_NameOk.f k s = some (nameOk s) := by
  unfold impl_NameOk.f nameOk
  by_cases h4 : s.size = 4
  · obtain ⟨k, rfl⟩ : ∃ m, k = m + 5 := ⟨k - 5, by omega⟩
    have r := impl_NameOk_round s hs
    have e := impl_NameOk_end s
    rw [h4] at r e ⊢
    rw [r (k + 4) 0 (by omega) (by omega), r (k + 3) (0 + 1) (by omega) (by omega), r (k + 2) (0 + 1 + 1) (by omega) (by omega), r (k + 1) (0 + 1 + 1 + 1) (by omega) (by omega)]
    have e' : impl_NameOk.l0 (k + 1) s ((4 : Nat) : Int) (0 + 1 + 1 + 1 + 1) = some (4 == 4) := e k
    rw [e']
    simp only [Int.zero_add, show (1 : Int) + 1 = 2 from rfl, show (2 : Int) + 1 = 3 from rfl]
    cases letterAt s 0 <;> cases letterAt s 1 <;> cases letterAt s 2 <;> cases letterAt s 3 <;> rfl
  · rw [impl_NameOk_not4 s hs h4 s.size k 0 (by omega) (by omega) (by omega) (by omega)]
    simp [h4]
theorem spec_NameOk_eq (s : ByteArray) : spec_NameOk.f s = some (nameOk s) := by
  unfold spec_NameOk.f nameOk
  by_cases h4 : s.size = 4
  · simp only [spec_l16Letter_eq, Option.bind_some]
    rw [h4]
    have l0 : letterAt s 0 = (great (bt s 0) || small (bt s 0)) := by simp [letterAt]
    have l1 : letterAt s 1 = (great (bt s 1) || small (bt s 1)) := by simp [letterAt]
    have l3 : letterAt s 3 = (great (bt s 3) || small (bt s 3)) := by simp [letterAt]
    have l2 : letterAt s 2 = great (bt s 2) := by simp [letterAt]
    have q : ((great (bt s 2) || small (bt s 2)) && decide (bt s 2 ≤ 90)) = great (bt s 2) := by
      rw [Bool.eq_iff_iff]; simp [great, small]; omega
    rw [l0, l1, l2, l3]
    cases h0 : (great (bt s 0) || small (bt s 0)) <;> cases h1 : (great (bt s 1) || small (bt s 1)) <;> cases h3 : (great (bt s 3) || small (bt s 3)) <;> cases h2 : (great (bt s 2) || small (bt s 2)) <;> rw [← q, h2] <;> simp
  · rw [if_neg (by omega)]; simp [h4]

def needB (s : ByteArray) : Bool := nameOk s && small (bt s 0)
theorem spec_Needless_eq (s : ByteArray) : spec_Needless.f s = some (needB s) := by
  unfold spec_Needless.f needB
  rw [spec_NameOk_eq]
  simp only [Option.bind_some]
  by_cases h : nameOk s = true
  · have h' := h
    simp only [nameOk, Bool.and_eq_true, beq_iff_eq] at h'
    have e : small (bt s 0) = decide (bt s 0 ≥ 97) := by
      have := h'.1.1.1.2
      rw [Bool.eq_iff_iff]; simp [letterAt, great, small] at this ⊢; omega
    simp [h, h'.1.1.1.1, e]
  · simp [h]
theorem impl_Needless_eq (s : ByteArray) (hs : s.size ≤ 9223372036854775807) (k : Nat) (hk : s.size + 5 ≤ k) : impl_Needless.f k s = some (needB s) := by
  unfold impl_Needless.f needB
  rw [impl_NameOk_eq s hs k hk]
  simp only [Option.bind_some, impl_isSmall_eq]
  by_cases h : nameOk s = true
  · have h' := h
    simp only [nameOk, Bool.and_eq_true, beq_iff_eq] at h'
    simp [h, h'.1.1.1.1]
  · simp [h]

theorem rd_Chunk (xs : List S168) (i : Nat) (h : i < xs.length) : rd_T168 xs i = xs[i] := by
  simp [rd_T168, List.getD, h]

def sideB (n : Int) : Bool := decide (1 ≤ n) && decide (n ≤ 24)
theorem sideB_iff (n : Int) : sideB n = true ↔ 1 ≤ n ∧ n ≤ 24 := by simp [sideB]

def smallD (d : Int) : Bool := d == 1 || d == 2 || d == 4
def bigD (d : Int) : Bool := d == 8 || d == 16
def dok (c d : Int) : Bool := if c = 0 then smallD d || bigD d else if c = 3 then smallD d || d == 8 else if c = 2 then bigD d else if c = 4 then bigD d else if c = 6 then bigD d else false
theorem some_or (a b : Bool) : (if a = true then some true else some b) = some (a || b) := by cases a <;> rfl
theorem spec_DepthOk_eq (k : Nat) (hk : 1 ≤ k) (c d : Int) : spec_DepthOk.f k c d = some (dok c d) := by
  obtain ⟨k, rfl⟩ : ∃ m, k = m + 1 := ⟨k - 1, by omega⟩
  have e : ∀ x : Bool, spec_DepthOk.j0 (k + 1) c d x = some (if c = 0 then x || bigD d else if c = 3 then x || d == 8 else if c = 2 then bigD d else if c = 4 then bigD d else if c = 6 then bigD d else false) := by
    intro x
    have h8 : (if d = 8 then some true else some (d == 16)) = some (bigD d) := by unfold bigD; by_cases h : d = 8 <;> simp [h]
    simp only [spec_DepthOk.j0, h8, some_or]
    repeat (first | rfl | split)
  simp only [spec_DepthOk.f, e, dok, smallD]
  by_cases h1 : d = 1
  · simp [h1]
  by_cases h2 : d = 2
  · simp [h2]
  · have e1 : (d == 1) = false := by simpa using h1
    have e2 : (d == 2) = false := by simpa using h2
    simp only [h1, h2, e1, e2, if_false, Bool.false_or]

def headB (w h d c : Int) : Bool := sideB w && sideB h && dok c d

def chan (c : Int) : Int := if c = 0 then 1 else if c = 3 then 1 else if c = 2 then 3 else if c = 4 then 2 else if c = 6 then 4 else 0

def p2 (n : Int) : Int := 2 ^ n.toNat
theorem p2_nat (n : Nat) : p2 n = ((2 ^ n : Nat) : Int) := by simp [p2]
theorem p2_succ (n : Int) (h : 0 ≤ n) : p2 (n + 1) = 2 * p2 n := by
  obtain ⟨m, rfl⟩ := Int.eq_ofNat_of_zero_le h
  have : ((m : Int) + 1) = ((m + 1 : Nat) : Int) := by omega
  rw [this, p2_nat, p2_nat, Nat.pow_succ]; push_cast; omega
theorem p2_zero : p2 0 = 1 := rfl
theorem p2_pos (n : Int) : 1 ≤ p2 n := by
  unfold p2
  have h := Nat.one_le_two_pow (n := n.toNat)
  exact_mod_cast h
theorem p2_le {m n : Int} (h : m ≤ n) : p2 m ≤ p2 n := by
  unfold p2
  have h := Nat.pow_le_pow_right (n := 2) (by decide) (show m.toNat ≤ n.toNat by omega)
  exact_mod_cast h
theorem p2_62 {n : Int} (h : n ≤ 62) : p2 n ≤ 4611686018427387904 := p2_le (n := 62) h
theorem p2_16 {n : Int} (h : n ≤ 16) : p2 n ≤ 65536 := p2_le (n := 16) h

theorem rd_at (xs : List Int) (i : Nat) (h : i < xs.length) : rd xs i = xs[i] := by simp [rd, List.getD, h]
def inB (m x : Int) : Bool := decide (0 ≤ x) && decide (x ≤ m)
theorem drop_all (p : Int → Bool) (xs : List Int) (i : Nat) (h : i < xs.length) : (xs.drop i).all p = (p xs[i] && (xs.drop (i + 1)).all p) := by
  rw [List.drop_eq_getElem_cons h]; rfl
theorem drop_all_end (p : Int → Bool) (xs : List Int) (i : Nat) (h : xs.length ≤ i) : (xs.drop i).all p = true := by
  rw [List.drop_eq_nil_of_le h]; rfl

def upB (n : Int) : Int := (n + 7) / 8
theorem upB_w (n : Int) (h : 0 ≤ n) (h' : n ≤ 9223372036854775800) : wrap64 (Int.tdiv (wrap64 (n + 7)) 8) = upB n := by
  unfold upB
  rw [w64 (x := n + 7) (by omega) (by omega), Int.tdiv_eq_ediv_of_nonneg (by omega), w64 (by omega) (by omega)]
theorem chan_bd (c : Int) : 0 ≤ chan c ∧ chan c ≤ 4 := by unfold chan; repeat (first | omega | split)
theorem dok_bd {c d : Int} (h : dok c d = true) : 1 ≤ d ∧ d ≤ 16 ∧ 1 ≤ chan c := by
  have hs : ∀ d : Int, smallD d = true → 1 ≤ d ∧ d ≤ 4 := by intro d h; simp [smallD] at h; omega
  have hb : ∀ d : Int, bigD d = true → 8 ≤ d ∧ d ≤ 16 := by intro d h; simp [bigD] at h; omega
  unfold dok at h
  unfold chan
  split at h
  · rename_i e; simp only [e, if_true, Bool.or_eq_true] at h ⊢
    rcases h with h | h
    · have := hs d h; omega
    · have := hb d h; omega
  · rename_i e0
    simp only [e0, if_false]
    split at h
    · rename_i e; simp only [e, if_true, Bool.or_eq_true, beq_iff_eq] at h ⊢
      rcases h with h | h
      · have := hs d h; omega
      · omega
    · rename_i e3
      simp only [e3, if_false]
      split at h
      · rename_i e; simp only [e, if_true]; have := hb d h; omega
      · rename_i e2
        simp only [e2, if_false]
        split at h
        · rename_i e; simp only [e, if_true]; have := hb d h; omega
        · rename_i e4
          simp only [e4, if_false]
          split at h
          · rename_i e; simp only [e, if_true]; have := hb d h; omega
          · cases h
theorem mul_bd {a b : Int} {m n : Int} (ha : 0 ≤ a) (ha' : a ≤ m) (hb : 0 ≤ b) (hb' : b ≤ n) : 0 ≤ a * b ∧ a * b ≤ m * n :=
  ⟨Int.mul_nonneg ha hb, Int.mul_le_mul ha' hb' hb (by omega)⟩
/-- How many bytes a row has. -/
def rowBytes (w c d : Int) : Int := if sideB w && dok c d then upB (w * chan c * d) else 0
theorem row_bd {w c d : Int} (h : sideB w = true) (h' : dok c d = true) : 0 ≤ w * chan c ∧ w * chan c ≤ 96 ∧ 0 ≤ w * chan c * d ∧ w * chan c * d ≤ 1536 := by
  rw [sideB_iff] at h
  have h2 := dok_bd h'
  have h3 := chan_bd c
  have h4 := mul_bd (a := w) (b := chan c) (m := 24) (n := 4) (by omega) (by omega) (by omega) (by omega)
  have h5 := mul_bd (a := w * chan c) (b := d) (m := 96) (n := 16) (by omega) (by omega) (by omega) (by omega)
  omega

def rasterOk (w h c d : Int) (xs : List Int) : Bool := sideB w && sideB h && dok c d && decide ((xs.length : Int) = w * h * chan c) && xs.all (inB (p2 d - 1))
theorem wh_bd {w h c : Int} (hw : sideB w = true) (hh : sideB h = true) : 0 ≤ w * h ∧ w * h ≤ 576 ∧ 0 ≤ w * h * chan c ∧ w * h * chan c ≤ 2304 := by
  rw [sideB_iff] at hw hh
  have h3 := chan_bd c
  have h4 := mul_bd (a := w) (b := h) (m := 24) (n := 24) (by omega) (by omega) (by omega) (by omega)
  have h5 := mul_bd (a := w * h) (b := chan c) (m := 576) (n := 4) (by omega) (by omega) (by omega) (by omega)
  omega

def depB (d : Int) : Int := if 0 ≤ d ∧ d ≤ 16 then d else 0
theorem depB_bd (d : Int) : 0 ≤ depB d ∧ depB d ≤ 16 := by unfold depB; split <;> omega
def clearOk (d c t : Int) (xs : List Int) : Bool :=
  if c = 3 then decide ((xs.length : Int) ≤ t) && xs.all (inB 255)
  else if xs.length = 0 then true
  else if c = 0 then decide (xs.length = 1) && xs.all (inB (p2 (depB d) - 1))
  else if c = 2 then decide (xs.length = 3) && xs.all (inB (p2 (depB d) - 1)) else false

theorem rd_Rgb (xs : List S52) (i : Nat) (h : i < xs.length) : rd_T52 xs i = xs[i] := by
  simp [rd_T52, List.getD, h]

def byteB (x : Int) : Bool := decide (0 ≤ x) && decide (x ≤ 255)
def rgbB (c : S52) : Bool := byteB c.f0 && byteB c.f1 && byteB c.f2
def rgbBytes (xs : List S52) : List Int := xs.flatMap fun c => [c.f0 % 256, c.f1 % 256, c.f2 % 256]
theorem rgbBytes_len (xs : List S52) : (rgbBytes xs).length = 3 * xs.length := by
  induction xs with
  | nil => rfl
  | cons c xs ih => simp only [rgbBytes, List.flatMap_cons, List.length_append, List.length_cons, List.length_nil] at ih ⊢; omega
theorem rgbBytes_take (xs : List S52) (i : Nat) (h : i < xs.length) : rgbBytes (xs.take (i + 1)) = rgbBytes (xs.take i) ++ [xs[i].f0 % 256, xs[i].f1 % 256, xs[i].f2 % 256] := by
  unfold rgbBytes
  rw [List.take_succ_eq_append_getElem h, List.flatMap_append]; rfl
def tableOk (xs : List S52) : Bool := decide (1 ≤ xs.length) && decide (xs.length ≤ 256) && xs.all rgbB
def tableText (xs : List S52) : ByteArray × Bool := if tableOk xs then (strOfNums (rgbBytes xs), true) else (⟨#[]⟩, false)
theorem rgb_drop_all (xs : List S52) (i : Nat) (h : i < xs.length) : (xs.drop i).all rgbB = (rgbB xs[i] && (xs.drop (i + 1)).all rgbB) := by
  rw [List.drop_eq_getElem_cons h]; rfl

def keptOne (c : S168) : Bool := needB c.f0 && !(decide (c.f0.toList = ([116, 82, 78, 83] : List UInt8))) && decide (c.f1.size ≤ 2600)
def keptB (kp : List S168) : Bool := decide (kp.length ≤ 32) && kp.all keptOne
theorem kept_drop (kp : List S168) (i : Nat) (h : i < kp.length) : (kp.drop i).all keptOne = (keptOne kp[i] && (kp.drop (i + 1)).all keptOne) := by
  rw [List.drop_eq_getElem_cons h]; rfl
def below (n x : Int) : Bool := decide (x < n)
def pngB (w h d c : Int) (tb : List S52) (cl : List Int) (rw_ rh rc rd_ : Int) (sm : List Int) (kp : List S168) : Bool :=
  headB w h d c && rasterOk rw_ rh rc rd_ sm && decide (rw_ = w) && decide (rh = h) && decide (rc = c) && decide (rd_ = d) && clearOk d c tb.length cl && keptB kp &&
  (if c = 3 then tb.all rgbB && decide (1 ≤ tb.length) && decide ((tb.length : Int) ≤ p2 d) && sm.all (below tb.length) else decide (tb.length = 0))
theorem headB_depth {w h d c : Int} (q : headB w h d c = true) : 1 ≤ d ∧ d ≤ 16 ∧ (c = 3 → d ≤ 8) := by
  simp only [headB, Bool.and_eq_true] at q
  have b := dok_bd q.2
  refine ⟨b.1, b.2.1, fun hc => ?_⟩
  have q2 := q.2
  subst hc
  simp [dok, smallD] at q2
  omega

def safeB (s : ByteArray) : Bool := nameOk s && small (bt s 3)
theorem spec_SafeToCopy_eq (s : ByteArray) : spec_SafeToCopy.f s = some (safeB s) := by
  unfold spec_SafeToCopy.f safeB
  rw [spec_NameOk_eq]
  simp only [Option.bind_some]
  by_cases h : nameOk s = true
  · have h' := h
    simp only [nameOk, Bool.and_eq_true, beq_iff_eq] at h'
    have e : small (bt s 3) = decide (bt s 3 ≥ 97) := by
      have := h'.2
      rw [Bool.eq_iff_iff]; simp [letterAt, great, small] at this ⊢; omega
    simp [h, h'.1.1.1.1, e]
  · simp [h]
theorem impl_SafeToCopy_eq (s : ByteArray) (hs : s.size ≤ 9223372036854775807) (k : Nat) (hk : s.size + 5 ≤ k) : impl_SafeToCopy.f k s = some (safeB s) := by
  unfold impl_SafeToCopy.f safeB
  rw [impl_NameOk_eq s hs k hk]
  simp only [Option.bind_some, impl_isSmall_eq]
  by_cases h : nameOk s = true
  · have h' := h
    simp only [nameOk, Bool.and_eq_true, beq_iff_eq] at h'
    simp [h, h'.1.1.1.1]
  · simp [h]

def touchName (s : ByteArray) : Bool := decide (s.toList = ([115, 66, 73, 84] : List UInt8)) || decide (s.toList = ([98, 75, 71, 68] : List UInt8)) || decide (s.toList = ([104, 73, 83, 84] : List UInt8)) || !(safeB s)
def touchB (kp : List S168) : Bool := kp.any fun c => touchName c.f0
theorem touch_drop (kp : List S168) (i : Nat) (h : i < kp.length) : touchB (kp.drop i) = (touchName kp[i].f0 || touchB (kp.drop (i + 1))) := by
  rw [List.drop_eq_getElem_cons h]; rfl

/-- The samples without their covers, if these are all the greatest. -/
def stripF (n : Nat) (mx : Int) : List Int → Nat → List Int → Option (List Int)
  | [], _, acc => some acc
  | x :: xs, i, acc => if i % n = n - 1 then (if x = mx then stripF n mx xs (i + 1) acc else none) else stripF n mx xs (i + 1) (acc ++ [x])
theorem stripF_len (n : Nat) (mx : Int) (xs : List Int) : ∀ (i : Nat) (acc out : List Int), stripF n mx xs i acc = some out → out.length ≤ acc.length + xs.length := by
  induction xs with
  | nil => intro i acc out h; simp only [stripF, Option.some.injEq] at h; subst h; simp
  | cons x xs ih =>
    intro i acc out h
    rw [stripF] at h
    split at h
    · split at h
      · have := ih _ _ _ h
        rw [List.length_cons]; omega
      · cases h
    · have := ih _ _ _ h
      rw [List.length_append] at this
      simp only [List.length_cons, List.length_nil] at this ⊢
      omega
abbrev PngT := Int × Int × Int × Int × Bool × List S52 × List Int × Int × Int × Int × Int × List Int × List S168 × Bool
def noPng : PngT := (0, 0, 0, 0, false, [], [], 0, 0, 0, 0, [], [], false)
def coverF (w h d c : Int) (l : Bool) (kp : List S168) (o : Option (List Int)) : PngT :=
  match o with
  | some out => (w, h, d, c - 4, l, [], [], w, h, c - 4, d, out, kp, true)
  | none => noPng
/-- What NoCover answers. -/
def coverV (w h d c : Int) (l : Bool) (tb : List S52) (cl : List Int) (rw_ rh rc rd_ : Int) (sm : List Int) (kp : List S168) : PngT :=
  if pngB w h d c tb cl rw_ rh rc rd_ sm kp = true ∧ touchB kp = false ∧ (c = 4 ∨ c = 6) then coverF w h d c l kp (stripF (chan c).toNat (p2 d - 1) sm 0 []) else noPng
theorem coverV_small (w h d c : Int) (l : Bool) (tb : List S52) (cl : List Int) (rw_ rh rc rd_ : Int) (sm : List Int) (kp : List S168) (hs : sm.length ≤ 1048576) (hk : kp.length ≤ 1048576) :
    (coverV w h d c l tb cl rw_ rh rc rd_ sm kp).2.2.2.2.2.1.length ≤ 1048576 ∧ (coverV w h d c l tb cl rw_ rh rc rd_ sm kp).2.2.2.2.2.2.1.length ≤ 1048576 ∧ (coverV w h d c l tb cl rw_ rh rc rd_ sm kp).2.2.2.2.2.2.2.2.2.2.2.1.length ≤ 1048576 ∧ (coverV w h d c l tb cl rw_ rh rc rd_ sm kp).2.2.2.2.2.2.2.2.2.2.2.2.1.length ≤ 1048576 := by
  unfold coverV
  split
  · unfold coverF
    split
    · rename_i out e
      have := stripF_len _ _ _ _ _ _ e
      simp only [List.length_nil] at this ⊢
      omega
    · simp [noPng]
  · simp [noPng]
/-- What is known of such a picture. -/
theorem cover_png {w h d c rw_ rh rc rd_ : Int} {tb : List S52} {cl sm : List Int} {kp : List S168} (ok : pngB w h d c tb cl rw_ rh rc rd_ sm kp = true) (hc : c = 4 ∨ c = 6) : tb = [] ∧ cl = [] ∧ rw_ = w ∧ rh = h ∧ (1 ≤ d ∧ d ≤ 16) ∧ kp.length ≤ 32 := by
  simp only [pngB, Bool.and_eq_true, decide_eq_true_eq] at ok
  obtain ⟨⟨⟨⟨⟨⟨⟨⟨hh, hr⟩, rfl⟩, rfl⟩, rfl⟩, rfl⟩, hcl⟩, hk⟩, ht⟩ := ok
  have b := headB_depth hh
  simp only [keptB, Bool.and_eq_true, decide_eq_true_eq] at hk
  refine ⟨?_, ?_, rfl, rfl, ⟨b.1, b.2.1⟩, hk.1⟩
  · rw [if_neg (by omega)] at ht
    exact List.eq_nil_of_length_eq_zero (of_decide_eq_true ht)
  · unfold clearOk at hcl
    rw [if_neg (by omega)] at hcl
    by_cases h0 : cl.length = 0
    · exact List.eq_nil_of_length_eq_zero h0
    · rw [if_neg h0, if_neg (by omega), if_neg (by omega)] at hcl; cases hcl
theorem tmod_nat (i n : Nat) : Int.tmod (i : Int) (n : Int) = ((i % n : Nat) : Int) := by rw [Int.tmod_eq_emod_of_nonneg (by omega), ← Int.natCast_emod]

theorem impl_isSide_eq (n : Int) : impl_isSide.f n = some (sideB n) := by simp [impl_isSide.f, impl_within_eq, sideB]

theorem impl_ChannelsOf_eq (k : Nat) (hk : 1 ≤ k) (c : Int) : impl_ChannelsOf.f k c = some (chan c) := by
  obtain ⟨k, rfl⟩ : ∃ m, k = m + 1 := ⟨k - 1, by omega⟩
  simp only [impl_ChannelsOf.f, impl_ChannelsOf.j0, chan]
  by_cases h0 : c = 0
  · simp [h0]
  · by_cases h3 : c = 3
    · simp [h3]
    · by_cases h2 : c = 2
      · simp [h2]
      · by_cases h4 : c = 4
        · simp [h4]
        · simp [h0, h3, h2, h4]; repeat (first | split | rfl)

theorem impl_isDepth_eq (d : Int) : impl_isDepth.f d = some (smallD d || bigD d) := by
  simp only [impl_isDepth.f, smallD, bigD]
  by_cases h1 : d = 1
  · simp [h1]
  by_cases h2 : d = 2
  · simp [h2]
  by_cases h4 : d = 4
  · simp [h4]
  by_cases h8 : d = 8
  · simp [h8]
  · have e1 : (d == 1) = false := by simpa using h1
    have e2 : (d == 2) = false := by simpa using h2
    have e4 : (d == 4) = false := by simpa using h4
    have e8 : (d == 8) = false := by simpa using h8
    simp only [h1, h2, h4, h8, e1, e2, e4, e8, if_false, Bool.false_or]

theorem impl_DepthOk_eq (k : Nat) (hk : 1 ≤ k) (c d : Int) : impl_DepthOk.f k c d = some (dok c d) := by
  have h8 : (if d = 8 then some true else some (d == 16)) = some (bigD d) := by unfold bigD; by_cases h : d = 8 <;> simp [h]
  simp only [impl_DepthOk.f, impl_isDepth_eq, impl_ChannelsOf_eq k hk, Option.bind_some, dok, h8]
  by_cases h0 : c = 0
  · simp [h0]
  by_cases h3 : c = 3
  · subst h3
    simp only [show ¬ ((3 : Int) = 0) by decide, if_true, if_false]
    unfold smallD bigD
    by_cases h1 : d = 1
    · simp [h1]
    by_cases h2 : d = 2
    · simp [h2]
    by_cases h4 : d = 4
    · simp [h4]
    by_cases h8 : d = 8
    · simp [h8]
    by_cases h16 : d = 16
    · simp [h16]
    · simp [h1, h2, h4, h8, h16]
  · simp only [h0, h3, chan, if_false]
    by_cases h2 : c = 2
    · simp [h2]
    by_cases h4 : c = 4
    · simp [h4]
    by_cases h6 : c = 6
    · simp [h6]
    · simp [h2, h4, h6]

theorem impl_HeadOk_eq (k : Nat) (hk : 1 ≤ k) (w h d c : Int) (l : Bool) : impl_HeadOk.f k w h d c l = some (headB w h d c) := by
  unfold impl_HeadOk.f headB
  simp only [impl_isSide_eq, impl_DepthOk_eq k hk, Option.bind_some]
  cases sideB w <;> cases sideB h <;> simp

theorem shl_one (n : Int) (h0 : 0 ≤ n) (h62 : n ≤ 62) : shl .i64 1 n = p2 n := by
  have b1 := p2_pos n
  have b2 := p2_62 h62
  unfold shl
  rw [show min n.toNat IntKind.i64.bits = n.toNat by simp [IntKind.bits]; omega, Int.one_mul, IntKind.wrap_i64]
  show (p2 n + 9223372036854775808) % 18446744073709551616 - 9223372036854775808 = p2 n
  omega
theorem impl_powerOf_eq (n : Int) : impl_powerOf.f n = some (if 0 ≤ n ∧ n ≤ 62 then p2 n else 0) := by
  unfold impl_powerOf.f
  rw [impl_within_eq]
  simp only [Option.bind_some]
  by_cases h0 : 0 ≤ n
  · by_cases h1 : n ≤ 62
    · simp [h0, h1, shl_one n h0 h1]
    · simp [h0, h1]
  · simp [h0]

theorem impl_samplesOk_l0 (n : Int) (h0 : 0 ≤ n) (h1 : n ≤ 62) (xs : List Int) (hx : xs.length ≤ 9223372036854775807) (d : Nat) : ∀ (k i : Nat), i ≤ xs.length → xs.length - i = d → d < k → impl_samplesOk.l0 k n xs xs.length i = some ((xs.drop i).all (inB (p2 n - 1))) := by
  induction d with
  | zero =>
    intro k i hi hd hk
    obtain ⟨k, rfl⟩ : ∃ m, k = m + 1 := ⟨k - 1, by omega⟩
    simp only [impl_samplesOk.l0]
    rw [if_neg (by omega), drop_all_end _ _ _ (by omega)]
  | succ d ih =>
    intro k i hi hd hk
    obtain ⟨k, rfl⟩ : ∃ m, k = m + 1 := ⟨k - 1, by omega⟩
    have lt : i < xs.length := by omega
    have b1 := p2_pos n
    have b2 := p2_62 h1
    simp only [impl_samplesOk.l0, impl_powerOf_eq, Option.bind_some]
    rw [if_pos (by omega), if_pos (by omega), if_pos (by omega), if_pos ⟨h0, h1⟩, w64 (x := p2 n - 1) (by omega) (by omega), impl_within_eq, rd_at xs i lt, w64 (by omega) (by omega), drop_all _ _ _ lt]
    simp only [Option.bind_some]
    have step := ih k (i + 1) (by omega) (by omega) (by omega)
    push_cast at step
    rw [step]
    unfold inB
    cases (decide (0 ≤ xs[i]) && decide (xs[i] ≤ p2 n - 1)) <;> simp
theorem impl_samplesOk_eq (n : Int) (h0 : 0 ≤ n) (h1 : n ≤ 62) (xs : List Int) (hx : xs.length ≤ 9223372036854775807) (k : Nat) (hk : xs.length < k) : impl_samplesOk.f k xs n = some (xs.all (inB (p2 n - 1))) := by
  unfold impl_samplesOk.f
  have := impl_samplesOk_l0 n h0 h1 xs hx xs.length k 0 (by omega) (by omega) hk
  simpa using this

theorem impl_RasterOk_eq (w h c d : Int) (xs : List Int) (hx : xs.length ≤ 9223372036854775807) (k : Nat) (hk : xs.length + 3 ≤ k) : impl_RasterOk.f k w h c d xs = some (rasterOk w h c d xs) := by
  obtain ⟨k, rfl⟩ : ∃ m, k = m + 1 := ⟨k - 1, by omega⟩
  have no : impl_RasterOk.j0 (k + 1) true w h c d xs = some false := by simp [impl_RasterOk.j0]
  unfold impl_RasterOk.f rasterOk
  simp only [impl_isSide_eq, impl_DepthOk_eq (k + 1) (by omega), Option.bind_some, no]
  by_cases hw : sideB w = true
  · by_cases hh : sideB h = true
    · by_cases hd : dok c d = true
      · have b := wh_bd (c := c) hw hh
        have bd := dok_bd hd
        simp only [hw, hh, hd, if_true, Bool.true_and, Bool.not_true, impl_RasterOk.j0]
        rw [if_neg (by decide), impl_ChannelsOf_eq k (by omega)]
        simp only [Option.bind_some]
        rw [w64 (x := w * h) (by omega) (by omega), w64 (x := w * h * chan c) (by omega) (by omega), impl_samplesOk_eq d (by omega) (by omega) xs hx k (by omega)]
        by_cases hl : (xs.length : Int) = w * h * chan c
        · simp [hl]
        · simp [hl]
      · simp [hw, hh, hd, no]
    · simp [hw, hh]
  · simp [hw]

theorem impl_ClearOk_j0 (t : Int) (xs : List Int) (hx : xs.length ≤ 9223372036854775807) (hl : xs.length ≠ 0) (w h d c : Int) (l : Bool) (k : Nat) (hk : xs.length + 1 < k) : impl_ClearOk.j0 k t xs (depB d) w h d c l = some (clearOk d c t xs) := by
  obtain ⟨k, rfl⟩ : ∃ m, k = m + 1 := ⟨k - 1, by omega⟩
  have b := depB_bd d
  simp only [impl_ClearOk.j0, clearOk]
  rw [impl_samplesOk_eq (depB d) b.1 (by omega) xs hx k (by omega), impl_samplesOk_eq 8 (by omega) (by omega) xs hx k (by omega)]
  simp only [Option.bind_some, hl, if_false, show p2 8 - 1 = 255 from rfl]
  by_cases h0 : c = 0
  · subst h0
    simp only [if_true, show ¬ ((0 : Int) = 3) by decide, if_false]
    by_cases h1 : xs.length = 1
    · rw [if_pos (by omega)]; simp [h1]
    · rw [if_neg (by omega)]; simp [h1]
  · by_cases h2 : c = 2
    · subst h2
      simp only [if_true, show ¬ ((2 : Int) = 3) by decide, show ¬ ((2 : Int) = 0) by decide, if_false]
      by_cases h1 : xs.length = 3
      · rw [if_pos (by omega)]; simp [h1]
      · rw [if_neg (by omega)]; simp [h1]
    · by_cases h3 : c = 3
      · subst h3
        simp only [if_true, show ¬ ((3 : Int) = 2) by decide, show ¬ ((3 : Int) = 0) by decide, if_false]
        by_cases ht : (xs.length : Int) ≤ t
        · rw [if_pos ht]; simp [ht]
        · rw [if_neg ht]; simp [ht]
      · simp only [h0, h2, h3, if_false]
theorem impl_ClearOk_eq (w h d c : Int) (l : Bool) (t : Int) (xs : List Int) (hx : xs.length ≤ 9223372036854775807) (k : Nat) (hk : xs.length + 1 < k) : impl_ClearOk.f k w h d c l t xs = some (clearOk d c t xs) := by
  unfold impl_ClearOk.f
  by_cases hl : xs.length = 0
  · have e0 : xs = [] := List.eq_nil_of_length_eq_zero hl
    subst e0
    rw [if_pos (by simp)]
    unfold clearOk
    by_cases h3 : c = 3
    · simp [h3]
    · simp [h3]
  · rw [if_neg (by omega), impl_within_eq]
    simp only [Option.bind_some]
    have e := impl_ClearOk_j0 t xs hx hl w h d c l k hk
    by_cases hd : 0 ≤ d ∧ d ≤ 16
    · rw [if_pos (by simp; omega)]
      rw [show depB d = d from if_pos hd] at e
      exact e
    · rw [if_neg (by simp; omega)]
      rw [show depB d = 0 from if_neg hd] at e
      exact e

theorem impl_colorOk_eq (a b c : Int) : impl_colorOk.f a b c = some (byteB a && byteB b && byteB c) := by
  simp only [impl_colorOk.f, impl_within_eq, Option.bind_some]
  change (if byteB a = true then (if byteB b = true then some (byteB c) else some false) else some false) = _
  cases byteB a <;> cases byteB b <;> simp

theorem impl_keptOk_l0 (kp : List S168) (hx : kp.length ≤ 1048576) (hc : ∀ x ∈ kp, x.f0.size ≤ 1048576) (n : Nat) : ∀ (k i : Nat), i ≤ kp.length → kp.length - i = n → n + 1048590 < k → impl_keptOk.l0 k kp kp kp.length i = some ((kp.drop i).all keptOne && decide (kp.length ≤ 32)) := by
  induction n with
  | zero =>
    intro k i hi hd hk
    obtain ⟨k, rfl⟩ : ∃ m, k = m + 1 := ⟨k - 1, by omega⟩
    simp only [impl_keptOk.l0]
    rw [if_neg (by omega), List.drop_eq_nil_of_le (by omega)]
    congr 1
    rw [Bool.eq_iff_iff]; simp; omega
  | succ n ih =>
    intro k i hi hd hk
    obtain ⟨k, rfl⟩ : ∃ m, k = m + 1 := ⟨k - 1, by omega⟩
    have lt : i < kp.length := by omega
    have c := hc _ (List.getElem_mem lt)
    have st := ih k (i + 1) (by omega) (by omega) (by omega)
    push_cast at st
    simp only [impl_keptOk.l0]
    rw [if_pos (by omega), if_pos (by omega), if_pos (by omega), rd_Chunk kp i lt, impl_Needless_eq _ (by omega) k (by omega), w64 (by omega) (by omega), st, kept_drop kp i lt]
    simp only [Option.bind_some, keptOne]
    cases needB kp[i].f0 with
    | false => simp
    | true =>
      by_cases e2 : kp[i].f0.toList = ([116, 82, 78, 83] : List UInt8)
      · simp [e2]
      · by_cases e3 : kp[i].f1.size ≤ 2600
        · have : ¬ ((kp[i].f1.size : Int) > 2600) := by omega
          simp [e2, e3, this]
        · have : (kp[i].f1.size : Int) > 2600 := by omega
          simp [e2, e3, this]
theorem impl_keptOk_eq (kp : List S168) (hx : kp.length ≤ 1048576) (hc : ∀ x ∈ kp, x.f0.size ≤ 1048576) (k : Nat) (hk : 2097200 ≤ k) : impl_keptOk.f k kp = some (keptB kp) := by
  unfold impl_keptOk.f keptB
  have := impl_keptOk_l0 kp hx hc kp.length k 0 (by omega) (by omega) (by omega)
  rw [Bool.and_comm]
  simpa using this
theorem impl_inTable_l0 (w h d c : Int) (l : Bool) (tb : List S52) (cl : List Int) (rw_ rh rc rd_ : Int) (s2 : List Int) (kp : List S168) (sm : List Int) (hx : sm.length ≤ 1048576) (n : Nat) : ∀ (k i : Nat), i ≤ sm.length → sm.length - i = n → n < k → impl_inTable.l0 k sm sm.length i w h d c l tb cl rw_ rh rc rd_ s2 kp = some ((sm.drop i).all (below tb.length)) := by
  induction n with
  | zero =>
    intro k i hi hd hk
    obtain ⟨k, rfl⟩ : ∃ m, k = m + 1 := ⟨k - 1, by omega⟩
    simp only [impl_inTable.l0]
    rw [if_neg (by omega), drop_all_end _ _ _ (by omega)]
  | succ n ih =>
    intro k i hi hd hk
    obtain ⟨k, rfl⟩ : ∃ m, k = m + 1 := ⟨k - 1, by omega⟩
    have lt : i < sm.length := by omega
    have st := ih k (i + 1) (by omega) (by omega) (by omega)
    push_cast at st
    simp only [impl_inTable.l0]
    rw [if_pos (by omega), if_pos (by omega), if_pos (by omega), rd_at sm i lt, w64 (by omega) (by omega), st, drop_all _ _ _ lt]
    unfold below
    by_cases e : sm[i] ≥ (tb.length : Int)
    · rw [if_pos e]; simp; intro h; omega
    · rw [if_neg e]; simp; intro h; omega
theorem impl_inTable_eq (w h d c : Int) (l : Bool) (tb : List S52) (cl : List Int) (rw_ rh rc rd_ : Int) (sm : List Int) (kp : List S168) (hx : sm.length ≤ 1048576) (k : Nat) (hk : sm.length < k) : impl_inTable.f k w h d c l tb cl rw_ rh rc rd_ sm kp = some (sm.all (below tb.length)) := by
  unfold impl_inTable.f
  have := impl_inTable_l0 w h d c l tb cl rw_ rh rc rd_ sm kp sm hx sm.length k 0 (by omega) (by omega) hk
  simpa using this
theorem impl_tableOk_l0 (w h d c : Int) (l : Bool) (hd : 0 ≤ d ∧ d ≤ 62) (tb : List S52) (hx : tb.length ≤ 1048576) (n : Nat) : ∀ (k i : Nat), i ≤ tb.length → tb.length - i = n → n < k → impl_tableOk.l0 k tb tb tb.length i w h d c l = some ((tb.drop i).all rgbB && decide (1 ≤ tb.length) && decide ((tb.length : Int) ≤ p2 d)) := by
  induction n with
  | zero =>
    intro k i hi hd' hk
    obtain ⟨k, rfl⟩ : ∃ m, k = m + 1 := ⟨k - 1, by omega⟩
    simp only [impl_tableOk.l0, impl_powerOf_eq, impl_within_eq, Option.bind_some]
    rw [if_neg (by omega), if_pos hd, List.drop_eq_nil_of_le (by omega)]
    congr 1
    rw [Bool.eq_iff_iff]; simp; omega
  | succ n ih =>
    intro k i hi hd' hk
    obtain ⟨k, rfl⟩ : ∃ m, k = m + 1 := ⟨k - 1, by omega⟩
    have lt : i < tb.length := by omega
    have st := ih k (i + 1) (by omega) (by omega) (by omega)
    push_cast at st
    simp only [impl_tableOk.l0, impl_colorOk_eq]
    rw [if_pos (by omega), if_pos (by omega), if_pos (by omega), rd_Rgb tb i lt, w64 (by omega) (by omega), st, rgb_drop_all tb i lt]
    simp only [Option.bind_some]
    change (if rgbB tb[i] = true then _ else _) = _
    cases rgbB tb[i] <;> simp
theorem impl_tableOk_eq (w h d c : Int) (l : Bool) (hd : 0 ≤ d ∧ d ≤ 62) (tb : List S52) (hx : tb.length ≤ 1048576) (k : Nat) (hk : tb.length < k) : impl_tableOk.f k w h d c l tb = some (if c = 3 then tb.all rgbB && decide (1 ≤ tb.length) && decide ((tb.length : Int) ≤ p2 d) else decide (tb.length = 0)) := by
  unfold impl_tableOk.f
  by_cases h3 : c = 3
  · rw [if_pos h3, if_pos h3]
    have := impl_tableOk_l0 w h d c l hd tb hx tb.length k 0 (by omega) (by omega) hk
    simpa using this
  · rw [if_neg h3, if_neg h3]
    congr 1
    rw [Bool.eq_iff_iff]; simp
theorem impl_PngOk_eq (w h d c : Int) (l : Bool) (tb : List S52) (cl : List Int) (rw_ rh rc rd_ : Int) (sm : List Int) (kp : List S168) (h1 : tb.length ≤ 1048576) (h2 : cl.length ≤ 1048576) (h3 : sm.length ≤ 1048576) (h4 : kp.length ≤ 1048576) (h5 : ∀ x ∈ kp, x.f0.size ≤ 1048576) (k : Nat) (hk : 2097210 ≤ k) :
    impl_PngOk.f k w h d c l tb cl rw_ rh rc rd_ sm kp = some (pngB w h d c tb cl rw_ rh rc rd_ sm kp) := by
  obtain ⟨k, rfl⟩ : ∃ m, k = m + 1 := ⟨k - 1, by omega⟩
  have no : impl_PngOk.j0 (k + 1) true w h d c l tb cl rw_ rh rc rd_ sm kp w h d c l = some false := by simp [impl_PngOk.j0]
  unfold impl_PngOk.f pngB
  rw [impl_HeadOk_eq _ (by omega), impl_RasterOk_eq rw_ rh rc rd_ sm (by omega) _ (by omega), no]
  simp only [Option.bind_some]
  by_cases hh : headB w h d c = true
  · have hd := headB_depth hh
    rw [if_pos hh, hh]
    by_cases hr : rasterOk rw_ rh rc rd_ sm = true
    · rw [if_pos hr, hr]
      by_cases e1 : rw_ = w
      · by_cases e2 : rh = h
        · by_cases e3 : rc = c
          · by_cases e4 : rd_ = d
            · have b4 : (rd_ != d) = false := by simp [e4]
              rw [if_pos e1, if_pos e2, if_pos e3, b4]
              simp only [e1, e2, e3, e4, decide_true, Bool.and_true, Bool.true_and, impl_PngOk.j0]
              rw [if_neg (by decide), impl_tableOk_eq w h d c l (by omega) tb h1 k (by omega), impl_ClearOk_eq w h d c l tb.length cl (by omega) k (by omega), impl_keptOk_eq kp h4 h5 k (by omega), impl_inTable_eq _ _ _ _ _ _ _ _ _ _ _ _ _ h3 k (by omega)]
              simp only [Option.bind_some]
              by_cases h3c : c = 3
              · simp only [h3c, if_true]
                cases tb.all rgbB <;> cases decide (1 ≤ tb.length) <;> cases decide ((tb.length : Int) ≤ p2 d) <;> cases clearOk d 3 tb.length cl <;> cases keptB kp <;> simp
              · simp only [h3c, if_false]
                cases decide (tb.length = 0) <;> cases clearOk d c tb.length cl <;> cases keptB kp <;> simp
            · have b4 : (rd_ != d) = true := by simp [e4]
              rw [if_pos e1, if_pos e2, if_pos e3, b4, no]
              simp [e4]
          · rw [if_pos e1, if_pos e2, if_neg e3]; simp [e3]
        · rw [if_pos e1, if_neg e2]; simp [e2]
      · rw [if_neg e1]; simp [e1]
    · rw [if_neg hr]; simp [hr]
  · rw [if_neg hh]; simp [hh]

theorem impl_Touchy_l0 (kp : List S168) (hx : kp.length ≤ 1048576) (hc : ∀ x ∈ kp, x.f0.size ≤ 1048576) (n : Nat) : ∀ (k i : Nat), i ≤ kp.length → kp.length - i = n → n + 1048590 < k → impl_Touchy.l0 k kp kp.length i = some (touchB (kp.drop i)) := by
  induction n with
  | zero =>
    intro k i hi hd hk
    obtain ⟨k, rfl⟩ : ∃ m, k = m + 1 := ⟨k - 1, by omega⟩
    simp only [impl_Touchy.l0]
    rw [if_neg (by omega), List.drop_eq_nil_of_le (by omega)]; rfl
  | succ n ih =>
    intro k i hi hd hk
    obtain ⟨k, rfl⟩ : ∃ m, k = m + 1 := ⟨k - 1, by omega⟩
    have lt : i < kp.length := by omega
    have c := hc _ (List.getElem_mem lt)
    have st := ih k (i + 1) (by omega) (by omega) (by omega)
    push_cast at st
    simp only [impl_Touchy.l0]
    rw [if_pos (by omega), if_pos (by omega), if_pos (by omega), rd_Chunk kp i lt, impl_SafeToCopy_eq _ (by omega) k (by omega), w64 (by omega) (by omega), st, touch_drop kp i lt]
    simp only [Option.bind_some, touchName]
    by_cases e1 : kp[i].f0.toList = ([115, 66, 73, 84] : List UInt8)
    · simp [e1]
    by_cases e2 : kp[i].f0.toList = ([98, 75, 71, 68] : List UInt8)
    · simp [e2]
    by_cases e3 : kp[i].f0.toList = ([104, 73, 83, 84] : List UInt8)
    · simp [e3]
    · simp only [e1, e2, e3, if_false, decide_false, Bool.false_or]
      cases safeB kp[i].f0 <;> simp
theorem impl_Touchy_eq (w h d c : Int) (l : Bool) (tb : List S52) (cl : List Int) (rw_ rh rc rd_ : Int) (sm : List Int) (kp : List S168) (hx : kp.length ≤ 1048576) (hc : ∀ x ∈ kp, x.f0.size ≤ 1048576) (k : Nat) (hk : kp.length + 1048590 < k) : impl_Touchy.f k w h d c l tb cl rw_ rh rc rd_ sm kp = some (touchB kp) := by
  unfold impl_Touchy.f
  have := impl_Touchy_l0 kp hx hc kp.length k 0 (by omega) (by omega) hk
  simpa using this

theorem impl_NoCover_l0 (w h d c : Int) (l : Bool) (rw_ rh rc rd_ : Int) (hrw : rw_ = w) (hrh : rh = h) (col : Int) (hcol : col = c - 4) (hd : 1 ≤ d ∧ d ≤ 16) (n : Nat) (hn : 1 ≤ n ∧ n ≤ 4) (s0 : List Int) (kp : List S168) (hs0 : s0.length ≤ 1048576) (hkp : kp.length ≤ 1048576) (sm : List Int) (hs : sm.length ≤ 1048576) (m : Nat) : ∀ (k i : Nat) (acc : List Int), i + m = sm.length → acc.length ≤ i → 2 * m + 3 ≤ k →
    impl_NoCover.l0 k col n acc sm sm.length i w h d c l [] [] rw_ rh rc rd_ s0 kp = some (coverF w h d c l kp (stripF n (p2 d - 1) (sm.drop i) i acc)) := by
  have pb := p2_16 hd.2
  have pb1 : (2 : Int) ≤ p2 d := p2_le (m := 1) hd.1
  induction m with
  | zero =>
    intro k i acc hi ha hk
    obtain ⟨k, rfl⟩ : ∃ m, k = m + 1 := ⟨k - 1, by omega⟩
    rw [impl_NoCover.l0, if_neg (by omega), List.drop_eq_nil_of_le (by omega), stripF]
    unfold impl_turned.f impl_copyPng.f impl_copyInts.f impl_copyRaster.f impl_copyInts.f impl_copyChunks.f
    simp only [Option.bind_some, List.nil_append, List.length_nil]
    rw [if_pos (by omega), if_pos (by omega)]
    simp only [Option.bind_some]
    rw [if_pos (by omega)]
    simp only [Option.bind_some]
    rw [if_pos (by omega)]
    simp only [Option.bind_some]
    subst hrw; subst hrh; subst hcol
    rfl
  | succ m ih =>
    intro k i acc hi ha hk
    obtain ⟨k, rfl⟩ : ∃ m, k = m + 1 + 1 := ⟨k - 2, by omega⟩
    have lt : i < sm.length := by omega
    have hm := Nat.mod_lt i (show 0 < n by omega)
    have e1 : (n : Int) - 1 = ((n - 1 : Nat) : Int) := by omega
    rw [impl_NoCover.l0, if_pos (by omega), if_pos (by omega), if_pos (by omega), if_neg (by omega), tmod_nat, e1, w64 (x := ((n - 1 : Nat) : Int)) (by omega) (by omega), rd_at sm i lt, List.drop_eq_getElem_cons lt, stripF]
    by_cases hl : i % n = n - 1
    · rw [if_pos (by omega), impl_powerOf_eq, Option.bind_some, if_pos (show 0 ≤ d ∧ d ≤ 62 from ⟨by omega, by omega⟩), w64 (x := p2 d - 1) (by omega) (by omega), impl_NoCover.j3, if_pos hl]
      by_cases hx : sm[i] = p2 d - 1
      · rw [if_neg (by simpa using hx), if_pos hx, if_pos (by rw [hl]; simp), w64 (x := (i : Int) + 1) (by omega) (by omega)]
        have st := ih k (i + 1) acc (by omega) (by omega) (by omega)
        push_cast at st
        exact st
      · rw [if_pos (by simpa using hx), if_neg hx]
        rfl
    · rw [if_neg (by omega), impl_NoCover.j3, if_neg (by decide), if_neg (by simp only [beq_iff_eq]; omega), if_pos (by omega), w64 (x := (i : Int) + 1) (by omega) (by omega), if_neg hl]
      have st := ih k (i + 1) (acc ++ [sm[i]]) (by omega) (by rw [List.length_append]; simp; omega) (by omega)
      push_cast at st
      exact st
theorem impl_NoCover_eq (w h d c : Int) (l : Bool) (tb : List S52) (cl : List Int) (rw_ rh rc rd_ : Int) (sm : List Int) (kp : List S168) (h1 : tb.length ≤ 1048576) (h2 : cl.length ≤ 1048576) (h3 : sm.length ≤ 1048576) (h4 : kp.length ≤ 1048576) (h5 : ∀ x ∈ kp, x.f0.size ≤ 1048576) (k : Nat) (hk : 2097240 ≤ k) :
    impl_NoCover.f k w h d c l tb cl rw_ rh rc rd_ sm kp = some (coverV w h d c l tb cl rw_ rh rc rd_ sm kp) := by
  obtain ⟨k, rfl⟩ : ∃ m, k = m + 1 + 1 := ⟨k - 2, by omega⟩
  have may : impl_mayTurn.f (k + 1) w h d c l tb cl rw_ rh rc rd_ sm kp = some (pngB w h d c tb cl rw_ rh rc rd_ sm kp && !touchB kp) := by
    unfold impl_mayTurn.f
    rw [impl_PngOk_eq w h d c l tb cl rw_ rh rc rd_ sm kp h1 h2 h3 h4 h5 _ (by omega), Option.bind_some]
    cases pngB w h d c tb cl rw_ rh rc rd_ sm kp with
    | true => rw [if_pos rfl, impl_Touchy_eq w h d c l tb cl rw_ rh rc rd_ sm kp h4 h5 _ (by omega)]; simp
    | false => simp
  have go : ∀ col : Int, (c = 6 → col = 2) → (c ≠ 6 → col = 0) → impl_NoCover.j0 (k + 1 + 1) col w h d c l tb cl rw_ rh rc rd_ sm kp = some (coverV w h d c l tb cl rw_ rh rc rd_ sm kp) := by
    intro col hc6 hc0
    rw [impl_NoCover.j0, may, Option.bind_some]
    unfold coverV
    have fin : pngB w h d c tb cl rw_ rh rc rd_ sm kp = true → (c = 4 ∨ c = 6) → (impl_ChannelsOf.f k c).bind (fun t460 => impl_NoCover.l0 k col t460 [] sm sm.length 0 w h d c l tb cl rw_ rh rc rd_ sm kp) = some (coverF w h d c l kp (stripF (chan c).toNat (p2 d - 1) sm 0 [])) := by
      intro png hc
      obtain ⟨e1, e2, e3, e4, e5, e6⟩ := cover_png png hc
      subst e1; subst e2
      have cb : 1 ≤ chan c ∧ chan c ≤ 4 := by rcases hc with rfl | rfl <;> exact ⟨by decide, by decide⟩
      obtain ⟨n, hn⟩ := Int.eq_ofNat_of_zero_le (show 0 ≤ chan c by omega)
      rw [impl_ChannelsOf_eq k (by omega), Option.bind_some, hn, Int.toNat_natCast]
      have st := impl_NoCover_l0 w h d c l rw_ rh rc rd_ e3 e4 col (by
        rcases hc with rfl | rfl
        · exact hc0 (by omega)
        · exact hc6 rfl) e5 n (by omega) sm kp h3 h4 sm h3 sm.length k 0 [] (by omega) (by simp) (by omega)
      rw [List.drop_zero] at st
      exact st
    cases png : pngB w h d c tb cl rw_ rh rc rd_ sm kp with
    | false => rw [if_neg (by simp), impl_NoCover.j1, if_pos rfl, if_neg (by simp)]; rfl
    | true =>
      cases tch : touchB kp with
      | true => rw [if_neg (by simp), impl_NoCover.j1, if_pos rfl, if_neg (by simp)]; rfl
      | false =>
        rw [if_pos (by simp)]
        by_cases c6 : c = 6
        · rw [if_pos c6, impl_NoCover.j1, if_neg (by decide), if_pos ⟨rfl, rfl, .inr c6⟩]
          exact fin png (.inr c6)
        · rw [if_neg c6, impl_NoCover.j1]
          by_cases c4 : c = 4
          · rw [if_neg (by simpa using c4), if_pos ⟨rfl, rfl, .inl c4⟩]
            exact fin png (.inl c4)
          · rw [if_pos (by simpa using c4), if_neg (by rintro ⟨_, _, h | h⟩; exact c4 h; exact c6 h)]; rfl
  unfold impl_NoCover.f
  by_cases c6 : c = 6
  · rw [if_pos c6]; exact go 2 (fun _ => rfl) (fun h => absurd c6 h)
  · rw [if_neg c6]; exact go 0 (fun h => absurd h c6) (fun _ => rfl)

theorem spec_l01In_eq (a b c : Int) : spec_l01In.f a b c = some (decide (b ≤ a) && decide (a ≤ c)) := by
  unfold spec_l01In.f
  by_cases h : b ≤ a <;> simp [h]

theorem spec_l12Side_eq (n : Int) : spec_l12Side.f n = some (sideB n) := by simp [spec_l12Side.f, spec_l01In_eq, sideB]

theorem spec_HeadOk_eq (k : Nat) (hk : 1 ≤ k) (w h d c : Int) (l : Bool) : spec_HeadOk.f k w h d c l = some (headB w h d c) := by
  unfold spec_HeadOk.f headB
  simp only [spec_l12Side_eq, spec_DepthOk_eq k hk, Option.bind_some]
  cases sideB w <;> cases sideB h <;> simp

theorem spec_ChannelsOf_eq (k : Nat) (hk : 1 ≤ k) (c : Int) : spec_ChannelsOf.f k c = some (chan c) := by
  obtain ⟨k, rfl⟩ : ∃ m, k = m + 1 := ⟨k - 1, by omega⟩
  simp only [spec_ChannelsOf.f, spec_ChannelsOf.j0, chan]
  by_cases h0 : c = 0
  · simp [h0]
  · by_cases h3 : c = 3
    · simp [h3]
    · simp [h0, h3]; repeat (first | split | rfl)

theorem spec_l01Pow_l0 (n : Int) (h62 : n ≤ 62) (d : Nat) : ∀ (k : Nat) (i : Int), 0 ≤ i → i ≤ n → n - i = d → d < k → spec_l01Pow.l0 k n (p2 i) i = some (p2 n) := by
  induction d with
  | zero =>
    intro k i h0 h1 hd hk
    obtain ⟨k, rfl⟩ : ∃ m, k = m + 1 := ⟨k - 1, by omega⟩
    obtain rfl : i = n := by omega
    simp only [spec_l01Pow.l0]
    rw [if_neg (by omega)]
  | succ d ih =>
    intro k i h0 h1 hd hk
    obtain ⟨k, rfl⟩ : ∃ m, k = m + 1 := ⟨k - 1, by omega⟩
    have b1 := p2_pos (i + 1)
    have b2 := p2_62 (n := i + 1) (by omega)
    have e := p2_succ i h0
    simp only [spec_l01Pow.l0]
    rw [if_pos (by omega), ← e, w64 (x := p2 (i + 1)) (by omega) (by omega), w64 (x := i + 1) (by omega) (by omega)]
    exact ih k (i + 1) (by omega) (by omega) (by omega) (by omega)
theorem spec_l01Pow_eq (k : Nat) (n : Int) (h62 : n ≤ 62) (hk : 64 ≤ k) : spec_l01Pow.f k n = some (p2 n) := by
  unfold spec_l01Pow.f
  by_cases h0 : 0 ≤ n
  · exact spec_l01Pow_l0 n h62 n.toNat k 0 (by omega) h0 (by omega) (by omega)
  · obtain ⟨k, rfl⟩ : ∃ m, k = m + 1 := ⟨k - 1, by omega⟩
    simp only [spec_l01Pow.l0]
    rw [if_neg (by omega)]
    have : n.toNat = 0 := by omega
    unfold p2; rw [this]; rfl

theorem spec_RasterOk_l0 (w h c d : Int) (hd2 : d ≤ 62) (xs : List Int) (hx : xs.length ≤ 9223372036854775807) (n : Nat) : ∀ (k i : Nat), i ≤ xs.length → xs.length - i = n → n + 64 < k → spec_RasterOk.l0 k i w h c d xs = some ((xs.drop i).all (inB (p2 d - 1))) := by
  induction n with
  | zero =>
    intro k i hi hd hk
    obtain ⟨k, rfl⟩ : ∃ m, k = m + 1 := ⟨k - 1, by omega⟩
    simp only [spec_RasterOk.l0]
    rw [if_neg (by omega), drop_all_end _ _ _ (by omega)]
  | succ n ih =>
    intro k i hi hd hk
    obtain ⟨k, rfl⟩ : ∃ m, k = m + 1 := ⟨k - 1, by omega⟩
    have lt : i < xs.length := by omega
    have b1 := p2_pos d
    have b2 := p2_62 hd2
    simp only [spec_RasterOk.l0]
    rw [if_pos (by omega), if_pos (by omega), spec_l01Pow_eq k d hd2 (by omega)]
    simp only [Option.bind_some]
    rw [w64 (x := p2 d - 1) (by omega) (by omega), spec_l01In_eq, rd_at xs i lt, w64 (by omega) (by omega), drop_all _ _ _ lt]
    simp only [Option.bind_some]
    have step := ih k (i + 1) (by omega) (by omega) (by omega)
    push_cast at step
    rw [step]
    unfold inB
    cases (decide (0 ≤ xs[i]) && decide (xs[i] ≤ p2 d - 1)) <;> simp
theorem spec_RasterOk_eq (w h c d : Int) (xs : List Int) (hx : xs.length ≤ 9223372036854775807) (k : Nat) (hk : xs.length + 70 ≤ k) : spec_RasterOk.f k w h c d xs = some (rasterOk w h c d xs) := by
  obtain ⟨k, rfl⟩ : ∃ m, k = m + 1 := ⟨k - 1, by omega⟩
  have no : spec_RasterOk.j0 (k + 1) true w h c d xs = some false := by simp [spec_RasterOk.j0]
  unfold spec_RasterOk.f rasterOk
  simp only [spec_l12Side_eq, spec_DepthOk_eq (k + 1) (by omega), spec_ChannelsOf_eq (k + 1) (by omega), Option.bind_some, no]
  by_cases hw : sideB w = true
  · by_cases hh : sideB h = true
    · by_cases hd : dok c d = true
      · have b := wh_bd (c := c) hw hh
        have bd := dok_bd hd
        simp only [hw, hh, hd, if_true, Bool.true_and]
        rw [w64 (x := w * h) (by omega) (by omega), w64 (x := w * h * chan c) (by omega) (by omega)]
        simp only [spec_RasterOk.j0]
        by_cases hl : (xs.length : Int) = w * h * chan c
        · have R := spec_RasterOk_l0 w h c d (by omega) xs hx xs.length k 0 (by omega) (by omega) (by omega)
          rw [if_neg (by simp [hl])]
          simpa [hl] using R
        · rw [if_pos (by simp [hl])]
          simp [hl]
      · simp [hw, hh, hd]
    · simp [hw, hh]
  · simp [hw]

theorem spec_l17Depth_eq (w h d c : Int) (l : Bool) : spec_l17Depth.f w h d c l = some (depB d) := by
  unfold spec_l17Depth.f depB
  rw [spec_l01In_eq]
  simp only [Option.bind_some]
  by_cases h0 : 0 ≤ d <;> by_cases h1 : d ≤ 16 <;> simp [h0, h1]
theorem spec_ClearOk_l0 (m n : Int) (xs : List Int) (hx : xs.length ≤ 9223372036854775807) (d : Nat) : ∀ (k i : Nat), i ≤ xs.length → xs.length - i = d → d < k → spec_ClearOk.l0 k xs m n i = some ((xs.drop i).all (inB m) && decide ((xs.length : Int) = n)) := by
  induction d with
  | zero =>
    intro k i hi hd hk
    obtain ⟨k, rfl⟩ : ∃ m, k = m + 1 := ⟨k - 1, by omega⟩
    simp only [spec_ClearOk.l0]
    rw [if_neg (by omega), drop_all_end _ _ _ (by omega)]
    simp [Bool.beq_eq_decide_eq]
  | succ d ih =>
    intro k i hi hd hk
    obtain ⟨k, rfl⟩ : ∃ m, k = m + 1 := ⟨k - 1, by omega⟩
    have lt : i < xs.length := by omega
    simp only [spec_ClearOk.l0, spec_l01In_eq, Option.bind_some]
    rw [if_pos (by omega), if_pos (by omega), rd_at xs i lt, w64 (by omega) (by omega), drop_all _ _ _ lt]
    have step := ih k (i + 1) (by omega) (by omega) (by omega)
    push_cast at step
    rw [step]
    unfold inB
    cases (decide (0 ≤ xs[i]) && decide (xs[i] ≤ m)) <;> simp
theorem spec_ClearOk_j0 (m n : Int) (xs : List Int) (hx : xs.length ≤ 9223372036854775807) (k : Nat) (hk : xs.length + 1 < k) : spec_ClearOk.j0 k xs m n = some (decide (xs.length = 0) || (xs.all (inB m) && decide ((xs.length : Int) = n))) := by
  obtain ⟨k, rfl⟩ : ∃ m, k = m + 1 := ⟨k - 1, by omega⟩
  simp only [spec_ClearOk.j0]
  have R := spec_ClearOk_l0 m n xs hx xs.length k 0 (by omega) (by omega) (by omega)
  by_cases h : xs.length = 0
  · rw [if_pos (by omega)]; simp [h]
  · rw [if_neg (by omega)]
    simpa [h] using R
theorem spec_ClearOk_eq (w h d c : Int) (l : Bool) (t : Int) (xs : List Int) (hx : xs.length ≤ 9223372036854775807) (k : Nat) (hk : xs.length + 70 < k) : spec_ClearOk.f k w h d c l t xs = some (clearOk d c t xs) := by
  have b := depB_bd d
  have b1 := p2_pos (depB d)
  have b2 := p2_16 b.2
  unfold spec_ClearOk.f clearOk
  simp only [spec_l17Depth_eq, spec_l01Pow_eq k (depB d) (by omega) (by omega), Option.bind_some]
  rw [w64 (x := p2 (depB d) - 1) (by omega) (by omega)]
  simp only [spec_ClearOk_j0 _ _ xs hx k (by omega)]
  by_cases h0 : c = 0
  · subst h0
    simp only [if_true, show ¬ ((0 : Int) = 3) by decide, if_false]
    by_cases hl : xs.length = 0
    · simp [hl]
    · have e : decide ((xs.length : Int) = 1) = decide (xs.length = 1) := by rw [decide_eq_decide]; omega
      rw [e]
      simp [hl, Bool.and_comm]
  · by_cases h2 : c = 2
    · subst h2
      simp only [if_true, show ¬ ((2 : Int) = 3) by decide, show ¬ ((2 : Int) = 0) by decide, if_false]
      by_cases hl : xs.length = 0
      · simp [hl]
      · have e : decide ((xs.length : Int) = 3) = decide (xs.length = 3) := by rw [decide_eq_decide]; omega
        rw [e]
        simp [hl, Bool.and_comm]
    · by_cases h3 : c = 3
      · subst h3
        simp only [if_true, show ¬ ((3 : Int) = 2) by decide, show ¬ ((3 : Int) = 0) by decide, if_false]
        by_cases hl : xs.length = 0
        · have : xs = [] := List.eq_nil_of_length_eq_zero hl
          subst this
          by_cases ht : (0 : Int) ≤ t
          · rw [if_neg (by simp; omega)]; simp [ht]
          · rw [if_pos (by simp; omega)]; simp [ht]
        · by_cases ht : (xs.length : Int) ≤ t
          · rw [if_neg (by omega)]; simp [ht, hl]
          · rw [if_pos (by omega)]; simp [ht]
      · simp only [h0, h2, h3, if_false]
        by_cases hl : xs.length = 0
        · simp [hl]
        · have e : decide ((xs.length : Int) = 0) = false := by simp; exact fun h => hl (by simp [h])
          rw [e]; simp [hl]

theorem spec_l17Byte_eq (x : Int) : spec_l17Byte.f x = some (byteB x) := by simp [spec_l17Byte.f, spec_l01In_eq, byteB]
theorem spec_TableText_l0 (xs : List S52) (hx : xs.length ≤ 256) (d : Nat) : ∀ (k i : Nat), i ≤ xs.length → xs.length - i = d → d < k → spec_TableText.l0 k xs (rgbBytes (xs.take i)) i = some (if (xs.drop i).all rgbB then (strOfNums (rgbBytes xs), true) else (⟨#[]⟩, false)) := by
  induction d with
  | zero =>
    intro k i hi hd hk
    obtain ⟨k, rfl⟩ : ∃ m, k = m + 1 := ⟨k - 1, by omega⟩
    obtain rfl : i = xs.length := by omega
    simp only [spec_TableText.l0]
    rw [if_neg (by omega)]
    simp
  | succ d ih =>
    intro k i hi hd hk
    obtain ⟨k, rfl⟩ : ∃ m, k = m + 1 := ⟨k - 1, by omega⟩
    have lt : i < xs.length := by omega
    have l3 := rgbBytes_len (xs.take i)
    rw [List.length_take] at l3
    simp only [spec_TableText.l0, spec_l17Byte_eq, Option.bind_some]
    rw [if_pos (by omega), if_pos (by omega), rd_Rgb xs i lt, rgb_drop_all xs i lt, w64 (by omega) (by omega)]
    have step := ih k (i + 1) (by omega) (by omega) (by omega)
    push_cast at step
    rw [rgbBytes_take xs i lt] at step
    unfold rgbB
    cases byteB xs[i].f0 with
    | false => simp
    | true =>
      cases byteB xs[i].f1 with
      | false => simp
      | true =>
        cases byteB xs[i].f2 with
        | false => simp
        | true =>
          simp only [if_true, List.length_cons, List.length_nil, Bool.and_self, Bool.true_and]
          rw [if_pos (by omega)]
          exact step
theorem spec_TableText_eq (xs : List S52) (k : Nat) (hk : 300 ≤ k) (hx : xs.length ≤ 9223372036854775807) : spec_TableText.f k xs = some (tableText xs) := by
  unfold spec_TableText.f tableText tableOk
  rw [spec_l01In_eq]
  simp only [Option.bind_some]
  by_cases h1 : 1 ≤ xs.length
  · by_cases h2 : xs.length ≤ 256
    · have R := spec_TableText_l0 xs h2 xs.length k 0 (by omega) (by omega) (by omega)
      have e : (decide ((1 : Int) ≤ xs.length) && decide ((xs.length : Int) ≤ 256)) = true := by simp; omega
      rw [if_pos e]
      simp only [h1, h2, decide_true, Bool.true_and]
      simpa [rgbBytes] using R
    · have e : (decide ((1 : Int) ≤ xs.length) && decide ((xs.length : Int) ≤ 256)) = false := by simp; omega
      rw [e]; simp [h2]
  · have e : (decide ((1 : Int) ≤ xs.length) && decide ((xs.length : Int) ≤ 256)) = false := by simp; omega
    rw [e]; simp [h1]

theorem spec_l18Kept_l0 (kp : List S168) (hx : kp.length ≤ 1048576) (n : Nat) : ∀ (k i : Nat), i ≤ kp.length → kp.length - i = n → n < k → spec_l18Kept.l0 k kp i = some ((kp.drop i).all keptOne) := by
  induction n with
  | zero =>
    intro k i hi hd hk
    obtain ⟨k, rfl⟩ : ∃ m, k = m + 1 := ⟨k - 1, by omega⟩
    simp only [spec_l18Kept.l0]
    rw [if_neg (by omega), List.drop_eq_nil_of_le (by omega)]; rfl
  | succ n ih =>
    intro k i hi hd hk
    obtain ⟨k, rfl⟩ : ∃ m, k = m + 1 := ⟨k - 1, by omega⟩
    have lt : i < kp.length := by omega
    have st := ih k (i + 1) (by omega) (by omega) (by omega)
    push_cast at st
    simp only [spec_l18Kept.l0]
    rw [if_pos (by omega), if_pos (by omega), rd_Chunk kp i lt, spec_Needless_eq, w64 (by omega) (by omega), st, kept_drop kp i lt]
    simp only [Option.bind_some, keptOne]
    cases needB kp[i].f0 with
    | false => simp
    | true =>
      by_cases e2 : kp[i].f0.toList = ([116, 82, 78, 83] : List UInt8)
      · simp [e2]
      · by_cases e3 : kp[i].f1.size ≤ 2600
        · have : ¬ ((kp[i].f1.size : Int) > 2600) := by omega
          simp [e2, e3, this]
        · have : (kp[i].f1.size : Int) > 2600 := by omega
          simp [e2, e3, this]
theorem spec_l18Kept_eq (kp : List S168) (hx : kp.length ≤ 1048576) (k : Nat) (hk : 40 ≤ k) : spec_l18Kept.f k kp = some (keptB kp) := by
  unfold spec_l18Kept.f keptB
  by_cases h : kp.length ≤ 32
  · have := spec_l18Kept_l0 kp hx kp.length k 0 (by omega) (by omega) (by omega)
    rw [if_neg (by omega)]
    simpa [h] using this
  · rw [if_pos (by omega)]; simp [h]
theorem spec_PngOk_l0 (w h d c : Int) (l : Bool) (tb : List S52) (cl : List Int) (rw_ rh rc rd_ : Int) (sm : List Int) (kp : List S168) (hx : sm.length ≤ 1048576) (n : Nat) : ∀ (k i : Nat), i ≤ sm.length → sm.length - i = n → n < k → spec_PngOk.l0 k i w h d c l tb cl rw_ rh rc rd_ sm kp = some ((sm.drop i).all (below tb.length)) := by
  induction n with
  | zero =>
    intro k i hi hd hk
    obtain ⟨k, rfl⟩ : ∃ m, k = m + 1 := ⟨k - 1, by omega⟩
    simp only [spec_PngOk.l0]
    rw [if_neg (by omega), drop_all_end _ _ _ (by omega)]
  | succ n ih =>
    intro k i hi hd hk
    obtain ⟨k, rfl⟩ : ∃ m, k = m + 1 := ⟨k - 1, by omega⟩
    have lt : i < sm.length := by omega
    have st := ih k (i + 1) (by omega) (by omega) (by omega)
    push_cast at st
    simp only [spec_PngOk.l0]
    rw [if_pos (by omega), if_pos (by omega), rd_at sm i lt, w64 (by omega) (by omega), st, drop_all _ _ _ lt]
    unfold below
    by_cases e : sm[i] ≥ (tb.length : Int)
    · rw [if_pos e]; simp; intro h; omega
    · rw [if_neg e]; simp; intro h; omega
theorem spec_PngOk_eq (w h d c : Int) (l : Bool) (tb : List S52) (cl : List Int) (rw_ rh rc rd_ : Int) (sm : List Int) (kp : List S168) (h1 : tb.length ≤ 1048576) (h2 : cl.length ≤ 1048576) (h3 : sm.length ≤ 1048576) (h4 : kp.length ≤ 1048576) (k : Nat) (hk : 1048700 ≤ k) :
    spec_PngOk.f k w h d c l tb cl rw_ rh rc rd_ sm kp = some (pngB w h d c tb cl rw_ rh rc rd_ sm kp) := by
  obtain ⟨k, rfl⟩ : ∃ m, k = m + 3 := ⟨k - 3, by omega⟩
  have no : spec_PngOk.j0 (k + 3) true w h d c l tb cl rw_ rh rc rd_ sm kp = some false := by simp [spec_PngOk.j0]
  have no1 : spec_PngOk.j1 (k + 2) true w h d c l tb cl rw_ rh rc rd_ sm kp = some false := by simp [spec_PngOk.j1]
  have no2 : spec_PngOk.j2 (k + 1) true w h d c l tb cl rw_ rh rc rd_ sm kp = some false := by simp [spec_PngOk.j2]
  unfold spec_PngOk.f pngB
  rw [spec_HeadOk_eq _ (by omega), spec_RasterOk_eq rw_ rh rc rd_ sm (by omega) _ (by omega), no]
  simp only [Option.bind_some]
  by_cases hh : headB w h d c = true
  · have hd := headB_depth hh
    rw [if_pos hh, hh]
    by_cases hr : rasterOk rw_ rh rc rd_ sm = true
    · rw [if_pos hr, hr]
      by_cases e1 : rw_ = w
      · by_cases e2 : rh = h
        · by_cases e3 : rc = c
          · by_cases e4 : rd_ = d
            · have b4 : (rd_ != d) = false := by simp [e4]
              rw [if_pos e1, if_pos e2, if_pos e3, b4]
              simp only [e1, e2, e3, e4, decide_true, Bool.and_true, Bool.true_and, spec_PngOk.j0]
              rw [if_neg (by decide), spec_ClearOk_eq w h d c l tb.length cl (by omega) _ (by omega)]
              simp only [Option.bind_some]
              by_cases hc : clearOk d c tb.length cl = true
              · rw [if_pos hc, hc, spec_l18Kept_eq kp h4 _ (by omega)]
                simp only [Option.bind_some]
                by_cases hkp : keptB kp = true
                · rw [hkp]
                  simp only [spec_PngOk.j1, Bool.not_true, Bool.true_and]
                  rw [if_neg (by decide)]
                  by_cases h3c : c = 3
                  · rw [if_pos h3c, if_pos h3c, spec_TableText_eq tb _ (by omega) (by omega)]
                    simp only [Option.bind_some]
                    have p8 := p2_le (m := d) (n := 8) (hd.2.2 h3c)
                    have p8' : p2 8 = 256 := rfl
                    have tt : (tableText tb).2 = tableOk tb := by unfold tableText; cases tableOk tb <;> rfl
                    rw [tt, spec_l01Pow_eq _ d (by omega) (by omega)]
                    simp only [Option.bind_some, tableOk]
                    by_cases t1 : 1 ≤ tb.length
                    · by_cases t2 : tb.length ≤ 256
                      · have no2' : spec_PngOk.j2 (k + 1) true w h d c l tb cl w h c d sm kp = some false := by simpa [e1, e2, e3, e4] using no2
                        by_cases t3 : tb.all rgbB = true
                        · simp only [t1, t2, t3, decide_true, Bool.and_self, Bool.true_and, if_true]
                          by_cases t4 : (tb.length : Int) ≤ p2 d
                          · have e : decide ((tb.length : Int) > p2 d) = false := by simp; omega
                            rw [e]
                            simp only [spec_PngOk.j2]
                            rw [if_neg (by decide)]
                            have R := spec_PngOk_l0 w h d c l tb cl w h c d sm kp h3 sm.length k 0 (by omega) (by omega) (by omega)
                            simp only [t4, decide_true, Bool.true_and]
                            simpa using R
                          · have e : decide ((tb.length : Int) > p2 d) = true := by simp; omega
                            rw [e, no2']
                            simp [t4]
                        · have t3' : tb.all rgbB = false := by simpa using t3
                          simp only [t3', Bool.and_false, Bool.false_and, if_false]
                          rw [if_neg (by decide), no2']
                      · have t4 : ¬ ((tb.length : Int) ≤ p2 d) := by omega
                        simp [t1, t2, t4]
                        simpa [e1, e2, e3, e4] using no2
                    · simp [t1]
                      simpa [e1, e2, e3, e4] using no2
                  · rw [if_neg h3c, if_neg h3c]
                    congr 1
                    rw [Bool.eq_iff_iff]; simp
                · have : keptB kp = false := by simpa using hkp
                  rw [this]
                  simp
                  simpa [e1, e2, e3, e4] using no1
              · have : clearOk d c tb.length cl = false := by simpa using hc
                rw [if_neg hc, this]
                simp
                simpa [e1, e2, e3, e4] using no1
            · have b4 : (rd_ != d) = true := by simp [e4]
              rw [if_pos e1, if_pos e2, if_pos e3, b4, no]
              simp [e4]
          · rw [if_pos e1, if_pos e2, if_neg e3]; simp [e3]
        · rw [if_pos e1, if_neg e2]; simp [e2]
      · rw [if_neg e1]; simp [e1]
    · rw [if_neg hr]; simp [hr]
  · rw [if_neg hh]; simp [hh]

theorem spec_Touchy_l0 (w h d c : Int) (l : Bool) (tb : List S52) (cl : List Int) (rw_ rh rc rd_ : Int) (sm : List Int) (kp : List S168) (hx : kp.length ≤ 1048576) (n : Nat) : ∀ (k i : Nat), i ≤ kp.length → kp.length - i = n → n < k → spec_Touchy.l0 k i w h d c l tb cl rw_ rh rc rd_ sm kp = some (touchB (kp.drop i)) := by
  induction n with
  | zero =>
    intro k i hi hd hk
    obtain ⟨k, rfl⟩ : ∃ m, k = m + 1 := ⟨k - 1, by omega⟩
    simp only [spec_Touchy.l0]
    rw [if_neg (by omega), List.drop_eq_nil_of_le (by omega)]; rfl
  | succ n ih =>
    intro k i hi hd hk
    obtain ⟨k, rfl⟩ : ∃ m, k = m + 1 := ⟨k - 1, by omega⟩
    have lt : i < kp.length := by omega
    have st := ih k (i + 1) (by omega) (by omega) (by omega)
    push_cast at st
    simp only [spec_Touchy.l0]
    rw [if_pos (by omega), if_pos (by omega), rd_Chunk kp i lt, spec_SafeToCopy_eq, w64 (by omega) (by omega), st, touch_drop kp i lt]
    simp only [Option.bind_some, touchName]
    by_cases e1 : kp[i].f0.toList = ([115, 66, 73, 84] : List UInt8)
    · simp [e1]
    by_cases e2 : kp[i].f0.toList = ([98, 75, 71, 68] : List UInt8)
    · simp [e2]
    by_cases e3 : kp[i].f0.toList = ([104, 73, 83, 84] : List UInt8)
    · simp [e3]
    · simp only [e1, e2, e3, if_false, decide_false, Bool.false_or]
      cases safeB kp[i].f0 <;> simp
theorem spec_Touchy_eq (w h d c : Int) (l : Bool) (tb : List S52) (cl : List Int) (rw_ rh rc rd_ : Int) (sm : List Int) (kp : List S168) (hx : kp.length ≤ 1048576) (k : Nat) (hk : kp.length < k) : spec_Touchy.f k w h d c l tb cl rw_ rh rc rd_ sm kp = some (touchB kp) := by
  unfold spec_Touchy.f
  have := spec_Touchy_l0 w h d c l tb cl rw_ rh rc rd_ sm kp hx kp.length k 0 (by omega) (by omega) hk
  simpa using this

theorem spec_NoCover_l0 (w h d c : Int) (l : Bool) (tb : List S52) (cl : List Int) (rw_ rh rc rd_ : Int) (hc : c = 4 ∨ c = 6) (hd : 1 ≤ d ∧ d ≤ 16) (n : Nat) (hn : 1 ≤ n ∧ n ≤ 4) (kp : List S168) (hkp : kp.length ≤ 1048576) (sm : List Int) (hs : sm.length ≤ 1048576) (m : Nat) : ∀ (k i : Nat) (acc : List Int), i + m = sm.length → acc.length ≤ i → m + 100 ≤ k →
    spec_NoCover.l0 k n acc i w h d c l tb cl rw_ rh rc rd_ sm kp = some (coverF w h d c l kp (stripF n (p2 d - 1) (sm.drop i) i acc)) := by
  have pb := p2_16 hd.2
  have pb1 : (2 : Int) ≤ p2 d := p2_le (m := 1) hd.1
  induction m with
  | zero =>
    intro k i acc hi ha hk
    obtain ⟨k, rfl⟩ : ∃ m, k = m + 1 := ⟨k - 1, by omega⟩
    rw [spec_NoCover.l0, if_neg (by omega), List.drop_eq_nil_of_le (by omega), stripF, w64 (x := c - 4) (by omega) (by omega)]
    unfold spec_l19With.f spec_l18CopyKept.f
    simp only [Option.bind_some, List.nil_append, List.length_nil]
    rw [if_pos (by omega)]
    rfl
  | succ m ih =>
    intro k i acc hi ha hk
    obtain ⟨k, rfl⟩ : ∃ m, k = m + 1 := ⟨k - 1, by omega⟩
    have lt : i < sm.length := by omega
    have hm := Nat.mod_lt i (show 0 < n by omega)
    have e1 : (n : Int) - 1 = ((n - 1 : Nat) : Int) := by omega
    rw [spec_NoCover.l0, if_pos (by omega), if_neg (by omega), tmod_nat, e1, w64 (x := ((n - 1 : Nat) : Int)) (by omega) (by omega), rd_at sm i lt, List.drop_eq_getElem_cons lt, stripF]
    by_cases hl : i % n = n - 1
    · rw [if_neg (by omega), if_pos (by omega), spec_l01Pow_eq k d (by omega) (by omega), Option.bind_some, w64 (x := p2 d - 1) (by omega) (by omega), if_pos hl]
      by_cases hx : sm[i] = p2 d - 1
      · rw [if_pos hx, if_pos hx, w64 (x := (i : Int) + 1) (by omega) (by omega)]
        have st := ih k (i + 1) acc (by omega) (by omega) (by omega)
        push_cast at st
        exact st
      · rw [if_neg hx, if_neg hx]
        rfl
    · rw [if_pos (by omega), if_pos (by omega), if_pos (by omega), w64 (x := (i : Int) + 1) (by omega) (by omega), if_neg hl]
      have st := ih k (i + 1) (acc ++ [sm[i]]) (by omega) (by rw [List.length_append]; simp; omega) (by omega)
      push_cast at st
      exact st
theorem spec_NoCover_eq (w h d c : Int) (l : Bool) (tb : List S52) (cl : List Int) (rw_ rh rc rd_ : Int) (sm : List Int) (kp : List S168) (h1 : tb.length ≤ 1048576) (h2 : cl.length ≤ 1048576) (h3 : sm.length ≤ 1048576) (h4 : kp.length ≤ 1048576) (k : Nat) (hk : 1048700 ≤ k) :
    spec_NoCover.f k w h d c l tb cl rw_ rh rc rd_ sm kp = some (coverV w h d c l tb cl rw_ rh rc rd_ sm kp) := by
  unfold spec_NoCover.f spec_l19May.f coverV
  rw [spec_PngOk_eq w h d c l tb cl rw_ rh rc rd_ sm kp h1 h2 h3 h4 _ hk, Option.bind_some]
  cases png : pngB w h d c tb cl rw_ rh rc rd_ sm kp with
  | false => simp [noPng]
  | true =>
    rw [if_pos rfl, spec_Touchy_eq w h d c l tb cl rw_ rh rc rd_ sm kp h4 _ (by omega), Option.bind_some]
    cases tch : touchB kp with
    | true => simp [noPng]
    | false =>
      rw [if_neg (by decide)]
      by_cases hc : c = 4 ∨ c = 6
      · obtain ⟨e1, e2, e3, e4, e5, e6⟩ := cover_png png hc
        have cb : 1 ≤ chan c ∧ chan c ≤ 4 := by rcases hc with rfl | rfl <;> exact ⟨by decide, by decide⟩
        obtain ⟨n, hn⟩ := Int.eq_ofNat_of_zero_le (show 0 ≤ chan c by omega)
        have st := spec_NoCover_l0 w h d c l tb cl rw_ rh rc rd_ hc e5 n (by omega) kp h4 sm h3 sm.length k 0 [] (by omega) (by simp) (by omega)
        rw [List.drop_zero] at st
        rw [show (if c = 4 then some true else some (c == 6)) = some true from by rcases hc with rfl | rfl <;> rfl, Option.bind_some, if_pos rfl, spec_ChannelsOf_eq k (by omega), Option.bind_some, if_pos ⟨rfl, rfl, hc⟩, hn, Int.toNat_natCast]
        exact st
      · have n4 : c ≠ 4 := fun h => hc (.inl h)
        have n6 : c ≠ 6 := fun h => hc (.inr h)
        rw [if_neg n4, show (c == 6) = false from by simpa using n6, Option.bind_some, if_neg (by decide), if_neg (fun h => hc h.2.2)]
        rfl

theorem laws_szRgbS_eq (xs : List S170) (hx : xs.length ≤ 9223372036854775807) (t : Int) (h0 : 0 ≤ t) (h1 : t ≤ 1048576) : laws_szRgbS.f xs t = some (if t < xs.length then -1 else t - xs.length) := by
  unfold laws_szRgbS.f
  rw [w64 (by omega) (by omega)]
  split
  · rw [if_pos (by omega)]
  · rw [if_neg (by omega)]

theorem laws_szIntS_eq (xs : List Int) (hx : xs.length ≤ 9223372036854775807) (a : Int) (h0 : 0 ≤ a) (h1 : a ≤ 1048576) : laws_szIntS.f xs a = some (if a < xs.length then -1 else a - xs.length) := by
  unfold laws_szIntS.f
  rw [w64 (by omega) (by omega)]
  split
  · rw [if_pos (by omega)]
  · rw [if_neg (by omega)]

theorem rd_LChunk (xs : List S166) (i : Nat) (h : i < xs.length) : rd_T166 xs i = xs[i] := by
  simp [rd_T166, List.getD, h]
def toChunk (x : S166) : S168 := ⟨x.f0, x.f1⟩
theorem laws_toChunkS_l0 (xs : List S166) (hx : xs.length ≤ 9223372036854775807) (d : Nat) : ∀ (k i : Nat) (ys : List S168), i ≤ xs.length → xs.length - i = d → d < k → ys.length = xs.length → (∀ j : Nat, j < i → ys[j]? = (xs.map toChunk)[j]?) → laws_toChunkS.l0 k xs ys i = some (xs.map toChunk) := by
  induction d with
  | zero =>
    intro k i ys hi hd hk hl hy
    obtain ⟨k, rfl⟩ : ∃ m, k = m + 1 := ⟨k - 1, by omega⟩
    simp only [laws_toChunkS.l0]
    rw [if_neg (by omega)]
    congr 1
    apply List.ext_getElem?
    intro j
    by_cases hj : j < i
    · exact hy j hj
    · rw [List.getElem?_eq_none (by omega), List.getElem?_eq_none (by simp; omega)]
  | succ d ih =>
    intro k i ys hi hd hk hl hy
    obtain ⟨k, rfl⟩ : ∃ m, k = m + 1 := ⟨k - 1, by omega⟩
    have lt : i < xs.length := by omega
    simp only [laws_toChunkS.l0, laws_toChunk.f, Option.bind_some]
    rw [if_pos (by omega), if_pos (by omega), if_pos (by omega), rd_LChunk xs i lt, w64 (by omega) (by omega), Int.toNat_natCast]
    refine ih k (i + 1) _ (by omega) (by omega) (by omega) (by simpa using hl) (fun j hj => ?_)
    by_cases e : j = i
    · subst e
      rw [List.getElem?_set_self (by omega), List.getElem?_map, List.getElem?_eq_getElem lt]
      rfl
    · rw [List.getElem?_set_ne (by omega), hy j (by omega)]
theorem laws_toChunkS_eq (xs : List S166) (hx : xs.length ≤ 1048576) (k : Nat) (hk : xs.length < k) : laws_toChunkS.f k xs = some (xs.map toChunk) := by
  unfold laws_toChunkS.f
  rw [if_pos (by omega), if_pos (by omega), Int.toNat_natCast]
  exact laws_toChunkS_l0 xs (by omega) xs.length k 0 _ (by omega) (by omega) hk (by simp) (fun j hj => absurd hj (by omega))

theorem laws_szChunk_eq (a b : ByteArray) (ha : a.size ≤ 9223372036854775807) (hb : b.size ≤ 9223372036854775807) (t : Int) (h0 : 0 ≤ t) (h1 : t ≤ 1048576) : ∃ u, laws_szChunk.f a b t = some u ∧ u ≤ t ∧ (0 ≤ u → a.size ≤ 1048576 ∧ b.size ≤ 1048576) := by
  unfold laws_szChunk.f
  rw [w64 (x := t - a.size) (by omega) (by omega)]
  split
  · exact ⟨_, rfl, by omega, by omega⟩
  · rw [w64 (x := t - a.size - b.size) (by omega) (by omega)]
    split
    · exact ⟨_, rfl, by omega, by omega⟩
    · exact ⟨_, rfl, by omega, by omega⟩
theorem laws_szChunkS_l0 (xs : List S166) (hx : xs.length ≤ 1048576) (hc : ∀ x ∈ xs, x.f0.size ≤ 9223372036854775807 ∧ x.f1.size ≤ 9223372036854775807) (d : Nat) : ∀ (k i : Nat) (t : Int), i ≤ xs.length → xs.length - i = d → d < k → 0 ≤ t → t ≤ 1048576 →
    ∃ u, laws_szChunkS.l0 k xs t i = some u ∧ u ≤ t ∧ (0 ≤ u → ∀ j : Nat, i ≤ j → ∀ x, xs[j]? = some x → x.f0.size ≤ 1048576 ∧ x.f1.size ≤ 1048576) := by
  induction d with
  | zero =>
    intro k i t hi hd hk h0 h1
    obtain ⟨k, rfl⟩ : ∃ m, k = m + 1 := ⟨k - 1, by omega⟩
    simp only [laws_szChunkS.l0]
    rw [if_neg (by omega)]
    exact ⟨_, rfl, Int.le_refl _, fun _ j hj x hx => by rw [List.getElem?_eq_none (by omega)] at hx; cases hx⟩
  | succ d ih =>
    intro k i t hi hd hk h0 h1
    obtain ⟨k, rfl⟩ : ∃ m, k = m + 1 := ⟨k - 1, by omega⟩
    have lt : i < xs.length := by omega
    have c := hc _ (List.getElem_mem lt)
    simp only [laws_szChunkS.l0]
    rw [if_pos (by omega), if_pos (by omega), rd_LChunk xs i lt]
    obtain ⟨u, e, hu, hb⟩ := laws_szChunk_eq xs[i].f0 xs[i].f1 c.1 c.2 t h0 h1
    rw [e]; simp only [Option.bind_some]
    split
    · exact ⟨_, rfl, by omega, by omega⟩
    · rw [w64 (by omega) (by omega)]
      obtain ⟨v, e2, hv, hj⟩ := ih k (i + 1) u (by omega) (by omega) (by omega) (by omega) (by omega)
      refine ⟨v, e2, by omega, fun h j hj' x hx => ?_⟩
      by_cases ej : j = i
      · subst ej
        rw [List.getElem?_eq_getElem lt] at hx
        injection hx with hx
        subst hx
        exact hb (by omega)
      · exact hj h j (by omega) x hx
theorem laws_szChunkS_eq (xs : List S166) (hx : xs.length ≤ 9223372036854775807) (hc : ∀ x ∈ xs, x.f0.size ≤ 9223372036854775807 ∧ x.f1.size ≤ 9223372036854775807) (t : Int) (h0 : 0 ≤ t) (h1 : t ≤ 1048576) (k : Nat) (hk : 1048580 ≤ k) :
    ∃ u, laws_szChunkS.f k xs t = some u ∧ u ≤ t ∧ (0 ≤ u → xs.length ≤ 1048576 ∧ ∀ x ∈ xs, x.f0.size ≤ 1048576 ∧ x.f1.size ≤ 1048576) := by
  unfold laws_szChunkS.f
  rw [w64 (x := t - xs.length) (by omega) (by omega)]
  split
  · exact ⟨_, rfl, by omega, by omega⟩
  · obtain ⟨u, e, hu, hj⟩ := laws_szChunkS_l0 xs (by omega) hc xs.length k 0 (t - xs.length) (by omega) (by omega) (by omega) (by omega) (by omega)
    refine ⟨u, e, by omega, fun h => ⟨by omega, fun x hm => ?_⟩⟩
    obtain ⟨j, hj', rfl⟩ := List.getElem_of_mem hm
    exact hj h j (by omega) _ (List.getElem?_eq_getElem hj')

theorem laws_toIntS_l0 (xs : List Int) (hx : xs.length ≤ 9223372036854775807) (d : Nat) : ∀ (k i : Nat) (ys : List Int), i ≤ xs.length → xs.length - i = d → d < k → ys.length = xs.length → (∀ j : Nat, j < i → ys[j]? = xs[j]?) → laws_toIntS.l0 k xs ys i = some xs := by
  induction d with
  | zero =>
    intro k i ys hi hd hk hl hy
    obtain ⟨k, rfl⟩ : ∃ m, k = m + 1 := ⟨k - 1, by omega⟩
    simp only [laws_toIntS.l0]
    rw [if_neg (by omega)]
    congr 1
    apply List.ext_getElem?
    intro j
    by_cases hj : j < i
    · exact hy j hj
    · rw [List.getElem?_eq_none (by omega), List.getElem?_eq_none (by omega)]
  | succ d ih =>
    intro k i ys hi hd hk hl hy
    obtain ⟨k, rfl⟩ : ∃ m, k = m + 1 := ⟨k - 1, by omega⟩
    have lt : i < xs.length := by omega
    simp only [laws_toIntS.l0]
    rw [if_pos (by omega), if_pos (by omega), if_pos (by omega), rd_at xs i lt, w64 (by omega) (by omega), Int.toNat_natCast]
    refine ih k (i + 1) (ys.set i xs[i]) (by omega) (by omega) (by omega) (by simpa using hl) (fun j hj => ?_)
    by_cases e : j = i
    · subst e
      rw [List.getElem?_set_self (by omega), List.getElem?_eq_getElem lt]
    · rw [List.getElem?_set_ne (by omega), hy j (by omega)]
theorem laws_toIntS_eq (xs : List Int) (hx : xs.length ≤ 1048576) (k : Nat) (hk : xs.length < k) : laws_toIntS.f k xs = some xs := by
  unfold laws_toIntS.f
  rw [if_pos (by omega), if_pos (by omega), Int.toNat_natCast]
  exact laws_toIntS_l0 xs (by omega) xs.length k 0 _ (by omega) (by omega) hk (by simp) (fun j hj => absurd hj (by omega))

theorem laws_eqIntS_l0 (xs : List Int) (hx : xs.length ≤ 9223372036854775807) (d : Nat) : ∀ (k i : Nat), i ≤ xs.length → xs.length - i = d → d < k → laws_eqIntS.l0 k xs xs i = some true := by
  induction d with
  | zero =>
    intro k i hi hd hk
    obtain ⟨k, rfl⟩ : ∃ m, k = m + 1 := ⟨k - 1, by omega⟩
    simp only [laws_eqIntS.l0]
    rw [if_neg (by omega)]
  | succ d ih =>
    intro k i hi hd hk
    obtain ⟨k, rfl⟩ : ∃ m, k = m + 1 := ⟨k - 1, by omega⟩
    simp only [laws_eqIntS.l0]
    rw [if_pos (by omega), if_pos (by omega), if_pos (by omega)]
    simp only [if_true]
    rw [w64 (by omega) (by omega)]
    exact ih k (i + 1) (by omega) (by omega) (by omega)
theorem laws_eqIntS_refl (xs : List Int) (hx : xs.length ≤ 9223372036854775807) (k : Nat) (hk : xs.length < k) : laws_eqIntS.f k xs xs = some true := by
  unfold laws_eqIntS.f
  rw [if_pos rfl]
  exact laws_eqIntS_l0 xs hx xs.length k 0 (by omega) (by omega) hk

theorem laws_szRaster_eq (w h c d : Int) (xs : List Int) (hx : xs.length ≤ 9223372036854775807) (t : Int) (h0 : 0 ≤ t) (h1 : t ≤ 1048576) : laws_szRaster.f w h c d xs t = some (if t < xs.length then -1 else t - xs.length) := by
  unfold laws_szRaster.f
  rw [laws_szIntS_eq xs hx t h0 h1]
  simp only [Option.bind_some]
  by_cases hl : t < xs.length
  · rw [if_pos hl]; rfl
  · rw [if_neg hl, if_neg (by omega)]
theorem laws_toRaster_eq (w h c d : Int) (xs : List Int) (hx : xs.length ≤ 1048576) (k : Nat) (hk : xs.length < k) : laws_toRaster.f k w h c d xs = some (w, h, c, d, xs) := by
  unfold laws_toRaster.f
  rw [laws_toIntS_eq xs hx k hk]; rfl
theorem laws_eqRaster_refl (w h c d : Int) (xs : List Int) (hx : xs.length ≤ 1048576) (k : Nat) (hk : xs.length < k) : laws_eqRaster.f k w h c d xs w h c d xs = some true := by
  unfold laws_eqRaster.f
  rw [laws_eqIntS_refl xs (by omega) k hk]
  simp

theorem laws_eqRgbS_l0 (xs : List S52) (hx : xs.length ≤ 9223372036854775807) (d : Nat) : ∀ (k i : Nat), i ≤ xs.length → xs.length - i = d → d < k → laws_eqRgbS.l0 k xs xs i = some true := by
  induction d with
  | zero =>
    intro k i hi hd hk
    obtain ⟨k, rfl⟩ : ∃ m, k = m + 1 := ⟨k - 1, by omega⟩
    simp only [laws_eqRgbS.l0]
    rw [if_neg (by omega)]
  | succ d ih =>
    intro k i hi hd hk
    obtain ⟨k, rfl⟩ : ∃ m, k = m + 1 := ⟨k - 1, by omega⟩
    simp only [laws_eqRgbS.l0]
    rw [if_pos (by omega), if_pos (by omega), if_pos (by omega)]
    simp only [laws_eqRgb.f, if_true, Option.bind_some]
    rw [w64 (by omega) (by omega)]
    exact ih k (i + 1) (by omega) (by omega) (by omega)
theorem laws_eqRgbS_refl (xs : List S52) (hx : xs.length ≤ 9223372036854775807) (k : Nat) (hk : xs.length < k) : laws_eqRgbS.f k xs xs = some true := by
  unfold laws_eqRgbS.f
  rw [if_pos rfl]
  exact laws_eqRgbS_l0 xs hx xs.length k 0 (by omega) (by omega) hk

theorem rd_LRgb (xs : List S170) (i : Nat) (h : i < xs.length) : rd_T170 xs i = xs[i] := by
  simp [rd_T170, List.getD, h]
def toRgb (x : S170) : S52 := ⟨x.f0, x.f1, x.f2⟩
theorem laws_toRgbS_l0 (xs : List S170) (hx : xs.length ≤ 9223372036854775807) (d : Nat) : ∀ (k i : Nat) (ys : List S52), i ≤ xs.length → xs.length - i = d → d < k → ys.length = xs.length → (∀ j : Nat, j < i → ys[j]? = (xs.map toRgb)[j]?) → laws_toRgbS.l0 k xs ys i = some (xs.map toRgb) := by
  induction d with
  | zero =>
    intro k i ys hi hd hk hl hy
    obtain ⟨k, rfl⟩ : ∃ m, k = m + 1 := ⟨k - 1, by omega⟩
    simp only [laws_toRgbS.l0]
    rw [if_neg (by omega)]
    congr 1
    apply List.ext_getElem?
    intro j
    by_cases hj : j < i
    · exact hy j hj
    · rw [List.getElem?_eq_none (by omega), List.getElem?_eq_none (by simp; omega)]
  | succ d ih =>
    intro k i ys hi hd hk hl hy
    obtain ⟨k, rfl⟩ : ∃ m, k = m + 1 := ⟨k - 1, by omega⟩
    have lt : i < xs.length := by omega
    simp only [laws_toRgbS.l0, laws_toRgb.f, Option.bind_some]
    rw [if_pos (by omega), if_pos (by omega), if_pos (by omega), rd_LRgb xs i lt, w64 (by omega) (by omega), Int.toNat_natCast]
    refine ih k (i + 1) _ (by omega) (by omega) (by omega) (by simpa using hl) (fun j hj => ?_)
    by_cases e : j = i
    · subst e
      rw [List.getElem?_set_self (by omega), List.getElem?_map, List.getElem?_eq_getElem lt]
      rfl
    · rw [List.getElem?_set_ne (by omega), hy j (by omega)]
theorem laws_toRgbS_eq (xs : List S170) (hx : xs.length ≤ 1048576) (k : Nat) (hk : xs.length < k) : laws_toRgbS.f k xs = some (xs.map toRgb) := by
  unfold laws_toRgbS.f
  rw [if_pos (by omega), if_pos (by omega), Int.toNat_natCast]
  exact laws_toRgbS_l0 xs (by omega) xs.length k 0 _ (by omega) (by omega) hk (by simp) (fun j hj => absurd hj (by omega))

theorem laws_eqChunkS_l0 (xs : List S168) (hx : xs.length ≤ 9223372036854775807) (d : Nat) : ∀ (k i : Nat), i ≤ xs.length → xs.length - i = d → d < k → laws_eqChunkS.l0 k xs xs i = some true := by
  induction d with
  | zero =>
    intro k i hi hd hk
    obtain ⟨k, rfl⟩ : ∃ m, k = m + 1 := ⟨k - 1, by omega⟩
    simp only [laws_eqChunkS.l0]
    rw [if_neg (by omega)]
  | succ d ih =>
    intro k i hi hd hk
    obtain ⟨k, rfl⟩ : ∃ m, k = m + 1 := ⟨k - 1, by omega⟩
    simp only [laws_eqChunkS.l0]
    rw [if_pos (by omega), if_pos (by omega), if_pos (by omega)]
    simp only [laws_eqChunk.f, if_true, Option.bind_some]
    rw [w64 (by omega) (by omega)]
    exact ih k (i + 1) (by omega) (by omega) (by omega)
theorem laws_eqChunkS_refl (xs : List S168) (hx : xs.length ≤ 9223372036854775807) (k : Nat) (hk : xs.length < k) : laws_eqChunkS.f k xs xs = some true := by
  unfold laws_eqChunkS.f
  rw [if_pos rfl]
  exact laws_eqChunkS_l0 xs hx xs.length k 0 (by omega) (by omega) hk

theorem laws_szPng_eq (w h d c : Int) (l : Bool) (tb : List S170) (cl : List Int) (rw_ rh rc rd_ : Int) (sm : List Int) (kp : List S166) (h1 : tb.length ≤ 9223372036854775807) (h2 : cl.length ≤ 9223372036854775807) (h3 : sm.length ≤ 9223372036854775807) (h4 : kp.length ≤ 9223372036854775807)
    (hc : ∀ x ∈ kp, x.f0.size ≤ 9223372036854775807 ∧ x.f1.size ≤ 9223372036854775807) (k : Nat) (hk : 1048580 ≤ k) :
    ∃ u, laws_szPng.f k w h d c l tb cl rw_ rh rc rd_ sm kp 1048576 = some u ∧ (0 ≤ u → tb.length ≤ 1048576 ∧ cl.length ≤ 1048576 ∧ sm.length ≤ 1048576 ∧ kp.length ≤ 1048576 ∧ ∀ x ∈ kp, x.f0.size ≤ 1048576 ∧ x.f1.size ≤ 1048576) := by
  unfold laws_szPng.f
  rw [laws_szRgbS_eq tb h1 _ (by omega) (by omega)]
  simp only [Option.bind_some]
  by_cases e1 : (1048576 : Int) < tb.length
  · rw [if_pos e1]; exact ⟨_, rfl, by omega⟩
  rw [if_neg e1, if_neg (by omega), laws_szIntS_eq cl h2 _ (by omega) (by omega)]
  simp only [Option.bind_some]
  by_cases e2 : (1048576 : Int) - tb.length < cl.length
  · rw [if_pos e2]; exact ⟨_, rfl, by omega⟩
  rw [if_neg e2, if_neg (by omega), laws_szRaster_eq rw_ rh rc rd_ sm h3 _ (by omega) (by omega)]
  simp only [Option.bind_some]
  by_cases e3 : (1048576 : Int) - tb.length - cl.length < sm.length
  · rw [if_pos e3]; exact ⟨_, rfl, by omega⟩
  rw [if_neg e3, if_neg (by omega)]
  obtain ⟨u, e, hu, hj⟩ := laws_szChunkS_eq kp h4 hc (1048576 - tb.length - cl.length - sm.length) (by omega) (by omega) k hk
  rw [e]; simp only [Option.bind_some]
  split
  · exact ⟨_, rfl, by omega⟩
  · exact ⟨_, rfl, fun h0 => ⟨by omega, by omega, by omega, hj h0⟩⟩
theorem laws_toPng_eq (w h d c : Int) (l : Bool) (tb : List S170) (cl : List Int) (rw_ rh rc rd_ : Int) (sm : List Int) (kp : List S166) (h1 : tb.length ≤ 1048576) (h2 : cl.length ≤ 1048576) (h3 : sm.length ≤ 1048576) (h4 : kp.length ≤ 1048576) (k : Nat) (hk : 1048580 ≤ k) :
    laws_toPng.f k w h d c l tb cl rw_ rh rc rd_ sm kp = some (w, h, d, c, l, tb.map toRgb, cl, rw_, rh, rc, rd_, sm, kp.map toChunk) := by
  unfold laws_toPng.f
  simp only [laws_toHead.f, Option.bind_some]
  rw [laws_toRgbS_eq tb h1 k (by omega), laws_toIntS_eq cl h2 k (by omega), laws_toRaster_eq rw_ rh rc rd_ sm h3 k (by omega), laws_toChunkS_eq kp h4 k (by omega)]
  rfl
theorem laws_eqPng_refl (w h d c : Int) (l : Bool) (tb : List S52) (cl : List Int) (rw_ rh rc rd_ : Int) (sm : List Int) (kp : List S168) (h1 : tb.length ≤ 1048576) (h2 : cl.length ≤ 1048576) (h3 : sm.length ≤ 1048576) (h4 : kp.length ≤ 1048576) (k : Nat) (hk : 1048580 ≤ k) :
    laws_eqPng.f k w h d c l tb cl rw_ rh rc rd_ sm kp w h d c l tb cl rw_ rh rc rd_ sm kp = some true := by
  unfold laws_eqPng.f laws_eqHead.f
  rw [laws_eqRgbS_refl tb (by omega) k (by omega), laws_eqIntS_refl cl (by omega) k (by omega), laws_eqRaster_refl rw_ rh rc rd_ sm h3 k (by omega), laws_eqChunkS_refl kp (by omega) k (by omega)]
  simp

theorem laws_markIntS_l0 (d : Nat) : ∀ (k i : Nat) (xs : List Int) (m : Int), i ≤ xs.length → xs.length - i = d → d < k → xs.length ≤ 1000000000 → 0 ≤ m → m + d ≤ 4000000000 →
    ∃ ys : List Int, laws_markIntS.l0 k xs m i = some (m + d, ys) ∧ ys.length = xs.length ∧ (∀ j : Nat, j < i → ys[j]? = xs[j]?) ∧ ∀ q, d < q → laws_heldIntS.l0 q ys m i = some (m + d) := by
  induction d with
  | zero =>
    intro k i xs m hi hd hk hx h0 hm
    obtain ⟨k, rfl⟩ : ∃ m, k = m + 1 := ⟨k - 1, by omega⟩
    refine ⟨xs, ?_, rfl, fun _ _ => rfl, fun q hq => ?_⟩
    · simp only [laws_markIntS.l0]
      rw [if_neg (by omega)]
      simp
    · obtain ⟨q, rfl⟩ : ∃ m, q = m + 1 := ⟨q - 1, by omega⟩
      simp only [laws_heldIntS.l0]
      rw [if_neg (by omega)]
      simp
  | succ d ih =>
    intro k i xs m hi hd hk hx h0 hm
    obtain ⟨k, rfl⟩ : ∃ m, k = m + 1 := ⟨k - 1, by omega⟩
    have lt : i < xs.length := by omega
    obtain ⟨ys, e1, e2, e3, e4⟩ := ih k (i + 1) (xs.set i m) (m + 1) (by simp; omega) (by simp; omega) (by omega) (by simpa using hx) (by omega) (by push_cast at hm; omega)
    refine ⟨ys, ?_, by simpa using e2, ?_, ?_⟩
    · simp only [laws_markIntS.l0]
      rw [if_pos (by omega), if_pos (by omega), w64 (x := m + 1) (by omega) (by omega), w64 (x := (i : Int) + 1) (by omega) (by omega)]
      simp only [Int.toNat_natCast]
      have e1' := e1
      push_cast at e1'
      rw [e1']
      congr 2; omega
    · intro j hj
      rw [e3 j (by omega), List.getElem?_set_ne (by omega)]
    · intro q hq
      obtain ⟨q, rfl⟩ : ∃ m, q = m + 1 := ⟨q - 1, by omega⟩
      have hl : i < ys.length := by rw [e2]; simpa using lt
      have hv : rd ys i = m := by
        rw [rd_at _ i hl]
        have := e3 i (by omega)
        rw [List.getElem?_set_self lt, List.getElem?_eq_getElem hl] at this
        exact Option.some.inj this
      simp only [laws_heldIntS.l0]
      rw [if_pos (by omega), if_pos (by omega), hv, w64 (x := m + 1) (by omega) (by omega), w64 (x := (i : Int) + 1) (by omega) (by omega)]
      simp only [if_true]
      have := e4 q (by omega)
      push_cast at this
      rw [this]
      congr 1; omega
theorem laws_mark_held_Int (xs : List Int) (hx : xs.length ≤ 1000000000) (m : Int) (h0 : 0 ≤ m) (hm : m ≤ 1000000000) (k q : Nat) (hk : xs.length < k) (hq : xs.length < q) :
    ∃ ys, laws_markIntS.f k xs m = some (m + (xs.length : Int), ys) ∧ laws_heldIntS.f q ys m = some (m + (xs.length : Int)) ∧ ys.length = xs.length := by
  obtain ⟨ys, h1, h3, _, h2⟩ := laws_markIntS_l0 xs.length k 0 xs m (by omega) (by omega) hk hx (by omega) (by omega)
  exact ⟨ys, h1, h2 q hq, h3⟩

theorem str_append (xs ys : List Int) : strOfNums xs ++ strOfNums ys = strOfNums (xs ++ ys) := by
  apply ByteArray.ext
  apply Array.ext'
  rw [ByteArray.data_append, Array.toList_append, strOfNums_data, strOfNums_data, strOfNums_data, List.map_append]
theorem str_nil : (⟨#[]⟩ : ByteArray) = strOfNums [] := rfl
theorem str_size (xs : List Int) : (strOfNums xs).size = xs.length := strOfNums_size xs

/-- The text that a number is marked by. -/
def mtxt : Nat → Int → ByteArray → ByteArray
  | 0, _, acc => acc
  | f + 1, x, acc => if x > 0 then mtxt f (x / 10) (strOfNums [(48 + x % 10) % 256] ++ acc) else (⟨#[109]⟩ : ByteArray) ++ acc
def markT (x : Int) : ByteArray := if x ≤ 0 then (⟨#[109, 48]⟩ : ByteArray) else mtxt 11 x ⟨#[]⟩
theorem laws_markText_l0 (f : Nat) : ∀ (k : Nat) (x : Int) (acc : ByteArray), 0 ≤ x → x < 10 ^ f → x ≤ 1000000000000 → acc.size + f ≤ 1000 → f < k → laws_markText.l0 k x acc = some (mtxt (f + 1) x acc) := by
  induction f with
  | zero =>
    intro k x acc h0 h1 _ ha hk
    obtain ⟨k, rfl⟩ : ∃ m, k = m + 1 := ⟨k - 1, by omega⟩
    simp only [laws_markText.l0, mtxt]
    rw [if_neg (by simp at h1; omega), if_pos (by omega), if_neg (by simp at h1; omega)]
  | succ f ih =>
    intro k x acc h0 h1 hx ha hk
    obtain ⟨k, rfl⟩ : ∃ m, k = m + 1 := ⟨k - 1, by omega⟩
    simp only [laws_markText.l0, Option.bind_some]
    rw [mtxt]
    by_cases h : x > 0
    · rw [if_pos h, if_pos h, str_size, if_pos (by simp only [List.length_cons, List.length_nil]; omega), Int.tmod_eq_emod_of_nonneg h0, Int.tdiv_eq_ediv_of_nonneg h0, w64 (x := x / 10) (by omega) (by omega), w64 (x := 48 + x % 10) (by omega) (by omega)]
      refine ih k _ _ (by omega) ?_ (by omega) ?_ (by omega)
      · rw [Int.pow_succ] at h1; omega
      · rw [ByteArray.size_append, str_size]; simp only [List.length_cons, List.length_nil]; omega
    · rw [if_neg h, if_pos (by omega), if_neg h]
theorem laws_markText_eq (x : Int) (hx : x < 10000000000) (k : Nat) (hk : 11 ≤ k) : laws_markText.f k x = some (markT x) := by
  unfold laws_markText.f markT
  by_cases h : x ≤ 0
  · rw [if_pos h, if_pos h]
  · rw [if_neg h, if_neg h]
    exact laws_markText_l0 10 k x ⟨#[]⟩ (by omega) (by simpa using hx) (by omega) (by decide) (by omega)

theorem laws_markChunkS_l0 (d : Nat) : ∀ (k i : Nat) (xs : List S168) (m : Int), i ≤ xs.length → xs.length - i = d → d + 12 < k → xs.length ≤ 1000000000 → 0 ≤ m → m + 2 * d ≤ 4000000000 →
    ∃ ys : List S168, laws_markChunkS.l0 k xs m i = some (m + 2 * d, ys) ∧ ys.length = xs.length ∧ (∀ j : Nat, j < i → ys[j]? = xs[j]?) ∧ ∀ q, d + 12 < q → laws_heldChunkS.l0 q ys m i = some (m + 2 * d) := by
  induction d with
  | zero =>
    intro k i xs m hi hd hk hx h0 hm
    obtain ⟨k, rfl⟩ : ∃ m, k = m + 1 := ⟨k - 1, by omega⟩
    refine ⟨xs, ?_, rfl, fun _ _ => rfl, fun q hq => ?_⟩
    · simp only [laws_markChunkS.l0]
      rw [if_neg (by omega)]
      simp
    · obtain ⟨q, rfl⟩ : ∃ m, q = m + 1 := ⟨q - 1, by omega⟩
      simp only [laws_heldChunkS.l0]
      rw [if_neg (by omega)]
      simp
  | succ d ih =>
    intro k i xs m hi hd hk hx h0 hm
    obtain ⟨k, rfl⟩ : ∃ m, k = m + 1 := ⟨k - 1, by omega⟩
    have lt : i < xs.length := by omega
    push_cast at hm
    obtain ⟨ys, e1, e2, e3, e4⟩ := ih k (i + 1) (xs.set i ⟨markT m, markT (m + 1)⟩) (m + 2) (by simp; omega) (by simp; omega) (by omega) (by simpa using hx) (by omega) (by omega)
    refine ⟨ys, ?_, by simpa using e2, ?_, ?_⟩
    · simp only [laws_markChunkS.l0]
      rw [if_pos (by omega), w64 (x := m + 1) (by omega) (by omega), w64 (x := m + 1 + 1) (by omega) (by omega), w64 (x := (i : Int) + 1) (by omega) (by omega), laws_markText_eq m (by omega) k (by omega), laws_markText_eq (m + 1) (by omega) k (by omega)]
      simp only [Option.bind_some]
      rw [if_pos (by omega)]
      simp only [Int.toNat_natCast]
      rw [rd_Chunk (xs.set i _) i (by simpa using lt), List.getElem_set_self, List.set_set]
      have e1' := e1
      push_cast at e1'
      rw [show m + 1 + 1 = m + 2 by omega, e1']
      congr 2; push_cast; omega
    · intro j hj
      rw [e3 j (by omega), List.getElem?_set_ne (by omega)]
    · intro q hq
      obtain ⟨q, rfl⟩ : ∃ m, q = m + 1 := ⟨q - 1, by omega⟩
      have hl : i < ys.length := by rw [e2]; simpa using lt
      have hv : rd_T168 ys i = ⟨markT m, markT (m + 1)⟩ := by
        rw [rd_Chunk _ i hl]
        have := e3 i (by omega)
        rw [List.getElem?_set_self lt, List.getElem?_eq_getElem hl] at this
        exact Option.some.inj this
      simp only [laws_heldChunkS.l0]
      rw [if_pos (by omega), if_pos (by omega), hv, w64 (x := m + 1) (by omega) (by omega), w64 (x := m + 1 + 1) (by omega) (by omega), w64 (x := (i : Int) + 1) (by omega) (by omega), laws_markText_eq m (by omega) q (by omega), laws_markText_eq (m + 1) (by omega) q (by omega)]
      simp only [Option.bind_some, if_true]
      have := e4 q (by omega)
      push_cast at this
      rw [show m + 1 + 1 = m + 2 by omega, this]
      congr 1; push_cast; omega
theorem laws_mark_held_Chunk (xs : List S168) (hx : xs.length ≤ 1000000000) (m : Int) (h0 : 0 ≤ m) (hm : m ≤ 1000000000) (k q : Nat) (hk : xs.length + 12 < k) (hq : xs.length + 12 < q) :
    ∃ ys, laws_markChunkS.f k xs m = some (m + 2 * (xs.length : Int), ys) ∧ laws_heldChunkS.f q ys m = some (m + 2 * (xs.length : Int)) ∧ ys.length = xs.length := by
  obtain ⟨ys, h1, h3, _, h2⟩ := laws_markChunkS_l0 xs.length k 0 xs m (by omega) (by omega) hk hx (by omega) (by omega)
  exact ⟨ys, h1, h2 q hq, h3⟩

/-- What was marked from place i on is held from there on; what stands ahead stays. -/
theorem laws_markRgbS_l0 (d : Nat) : ∀ (k i : Nat) (xs : List S52) (m : Int), i ≤ xs.length → xs.length - i = d → d < k → xs.length ≤ 1000000000 → 0 ≤ m → m ≤ 3 * i + 1 →
    ∃ ys : List S52, laws_markRgbS.l0 k xs m i = some (m + 3 * d, ys) ∧ ys.length = xs.length ∧ (∀ j : Nat, j < i → ys[j]? = xs[j]?) ∧ ∀ q, d < q → laws_heldRgbS.l0 q ys m i = some (m + 3 * d) := by
  induction d with
  | zero =>
    intro k i xs m hi hd hk hx h0 hm
    obtain ⟨k, rfl⟩ : ∃ m, k = m + 1 := ⟨k - 1, by omega⟩
    refine ⟨xs, ?_, rfl, fun _ _ => rfl, fun q hq => ?_⟩
    · simp only [laws_markRgbS.l0]
      rw [if_neg (by omega)]
      simp
    · obtain ⟨q, rfl⟩ : ∃ m, q = m + 1 := ⟨q - 1, by omega⟩
      simp only [laws_heldRgbS.l0]
      rw [if_neg (by omega)]
      simp
  | succ d ih =>
    intro k i xs m hi hd hk hx h0 hm
    obtain ⟨k, rfl⟩ : ∃ m, k = m + 1 := ⟨k - 1, by omega⟩
    have g : ∀ (zs : List S52) (v : S52), i < zs.length → rd_T52 (zs.set i v) i = v := by
      intro zs v h
      rw [rd_Rgb _ i (by simpa using h)]
      simp
    obtain ⟨ys, e1, e2, e3, e4⟩ := ih k (i + 1) (xs.set i ⟨m, m + 1, m + 1 + 1⟩) (m + 1 + 1 + 1) (by simp; omega) (by simp; omega) (by omega) (by simpa using hx) (by omega) (by omega)
    have lt : i < xs.length := by omega
    refine ⟨ys, ?_, by simpa using e2, ?_, ?_⟩
    · simp only [laws_markRgbS.l0]
      rw [if_pos (by omega), if_pos (by omega), w64 (x := m + 1) (by omega) (by omega), w64 (x := m + 1 + 1) (by omega) (by omega), w64 (x := m + 1 + 1 + 1) (by omega) (by omega), w64 (x := (i : Int) + 1) (by omega) (by omega)]
      simp only [Option.bind_some, Int.toNat_natCast]
      rw [g _ _ lt, g _ _ (by simpa using lt)]
      simp only [List.set_set]
      have e1' := e1
      push_cast at e1'
      rw [e1']
      congr 2; omega
    · intro j hj
      rw [e3 j (by omega), List.getElem?_set_ne (by omega)]
    · intro q hq
      obtain ⟨q, rfl⟩ : ∃ m, q = m + 1 := ⟨q - 1, by omega⟩
      have hl : i < ys.length := by rw [e2]; simpa using lt
      have hv : rd_T52 ys i = ⟨m, m + 1, m + 1 + 1⟩ := by
        rw [rd_Rgb _ i hl]
        have := e3 i (by omega)
        rw [List.getElem?_set_self lt, List.getElem?_eq_getElem hl] at this
        exact Option.some.inj this
      simp only [laws_heldRgbS.l0]
      rw [if_pos (by omega), if_pos (by omega), hv, w64 (x := m + 1) (by omega) (by omega), w64 (x := m + 1 + 1) (by omega) (by omega), w64 (x := m + 1 + 1 + 1) (by omega) (by omega), w64 (x := (i : Int) + 1) (by omega) (by omega)]
      simp only [if_true]
      have := e4 q (by omega)
      push_cast at this
      rw [this]
      congr 1; omega
theorem laws_mark_held_Rgb (xs : List S52) (hx : xs.length ≤ 1000000000) (k q : Nat) (hk : xs.length < k) (hq : xs.length < q) :
    ∃ ys, laws_markRgbS.f k xs 1 = some (1 + 3 * (xs.length : Int), ys) ∧ laws_heldRgbS.f q ys 1 = some (1 + 3 * (xs.length : Int)) := by
  obtain ⟨ys, h1, _, _, h2⟩ := laws_markRgbS_l0 xs.length k 0 xs 1 (by omega) (by omega) hk hx (by omega) (by omega)
  exact ⟨ys, h1, h2 q hq⟩

theorem laws_mark_held_Png (w h d c : Int) (l : Bool) (tb : List S52) (cl : List Int) (rw_ rh rc rd_ : Int) (sm : List Int) (kp : List S168) (h1 : tb.length ≤ 1048576) (h2 : cl.length ≤ 1048576) (h3 : sm.length ≤ 1048576) (h4 : kp.length ≤ 1048576) (k : Nat) (hk : 1048600 ≤ k) :
    ∃ m y1 y2 y3 y4, laws_markPng.f k w h d c l tb cl rw_ rh rc rd_ sm kp 1 = some (m, y1, y2, y3, y4) ∧ 0 ≤ m ∧ ∀ q, 1048600 ≤ q → laws_heldPng.f q w h d c l y1 y2 rw_ rh rc rd_ y3 y4 1 = some m := by
  obtain ⟨y1, e1, _⟩ := laws_mark_held_Rgb tb (by omega) k (tb.length + 1) (by omega) (by omega)
  obtain ⟨y2, e2, _, _⟩ := laws_mark_held_Int cl (by omega) (1 + 3 * (tb.length : Int)) (by omega) (by omega) k (cl.length + 1) (by omega) (by omega)
  obtain ⟨y3, e3, _, _⟩ := laws_mark_held_Int sm (by omega) (1 + 3 * (tb.length : Int) + cl.length) (by omega) (by omega) k (sm.length + 1) (by omega) (by omega)
  obtain ⟨y4, e4, _, _⟩ := laws_mark_held_Chunk kp (by omega) (1 + 3 * (tb.length : Int) + cl.length + sm.length) (by omega) (by omega) k (kp.length + 13) (by omega) (by omega)
  refine ⟨1 + 3 * (tb.length : Int) + cl.length + sm.length + 2 * (kp.length : Int), y1, y2, y3, y4, ?_, by omega, fun q hq => ?_⟩
  · unfold laws_markPng.f
    rw [e1, Option.bind_some]
    simp only
    rw [e2, Option.bind_some]
    simp only
    unfold laws_markRaster.f
    rw [e3, Option.bind_some, Option.bind_some]
    simp only
    rw [e4, Option.bind_some]
  · obtain ⟨z1, f1, g1⟩ := laws_mark_held_Rgb tb (by omega) k q (by omega) (by omega)
    obtain rfl : y1 = z1 := by rw [e1] at f1; simpa using f1
    obtain ⟨z2, f2, g2, _⟩ := laws_mark_held_Int cl (by omega) (1 + 3 * (tb.length : Int)) (by omega) (by omega) k q (by omega) (by omega)
    obtain rfl : y2 = z2 := by rw [e2] at f2; simpa using f2
    obtain ⟨z3, f3, g3, _⟩ := laws_mark_held_Int sm (by omega) (1 + 3 * (tb.length : Int) + cl.length) (by omega) (by omega) k q (by omega) (by omega)
    obtain rfl : y3 = z3 := by rw [e3] at f3; simpa using f3
    obtain ⟨z4, f4, g4, _⟩ := laws_mark_held_Chunk kp (by omega) (1 + 3 * (tb.length : Int) + cl.length + sm.length) (by omega) (by omega) k q (by omega) (by omega)
    obtain rfl : y4 = z4 := by rw [e4] at f4; simpa using f4
    unfold laws_heldPng.f laws_heldRaster.f
    rw [g1, Option.bind_some, if_neg (by omega), g2, Option.bind_some, if_neg (by omega), g3, Option.bind_some, if_neg (by omega), Option.bind_some, if_neg (by omega), g4, Option.bind_some, if_neg (by omega)]

theorem FnExactNoCover (w h d c : Int) (l : Bool) (tb : List S170) (cl : List Int) (rw_ rh rc rd_ : Int) (sm : List Int) (kp : List S166) (_ : (Lit.int .i64 w).wf = true) (_ : (Lit.int .i64 h).wf = true) (_ : (Lit.int .i64 d).wf = true) (_ : (Lit.int .i64 c).wf = true) (h1 : tb.length ≤ 9223372036854775807) (_ : ∀ x ∈ tb, ((Lit.int .i64 x.f0).wf = true) ∧ ((Lit.int .i64 x.f1).wf = true) ∧ ((Lit.int .i64 x.f2).wf = true)) (h2 : cl.length ≤ 9223372036854775807) (_ : ∀ x ∈ cl, (Lit.int .i64 x).wf = true)
    (_ : (Lit.int .i64 rw_).wf = true) (_ : (Lit.int .i64 rh).wf = true) (_ : (Lit.int .i64 rc).wf = true) (_ : (Lit.int .i64 rd_).wf = true) (h3 : sm.length ≤ 9223372036854775807) (_ : ∀ x ∈ sm, (Lit.int .i64 x).wf = true) (h4 : kp.length ≤ 9223372036854775807) (hc : ∀ x ∈ kp, (x.f0.size ≤ 9223372036854775807) ∧ (x.f1.size ≤ 9223372036854775807)) :
    ∃ k, laws_FnExactNoCover.f k w h d c l tb cl rw_ rh rc rd_ sm kp = some true := by
  obtain ⟨k, hk⟩ : ∃ k : Nat, k = 5000000 := ⟨_, rfl⟩
  refine ⟨k + 3, ?_⟩
  unfold laws_FnExactNoCover.f
  obtain ⟨u, e, hu⟩ := laws_szPng_eq w h d c l tb cl rw_ rh rc rd_ sm kp h1 h2 h3 h4 hc (k + 3) (by omega)
  rw [e]; simp only [Option.bind_some]
  by_cases h0 : u < 0
  · rw [if_pos h0]
  rw [if_neg h0]
  obtain ⟨b1, b2, b3, b4, b5⟩ := hu (by omega)
  have tp := fun q (hq : 1048580 ≤ q) => laws_toPng_eq w h d c l tb cl rw_ rh rc rd_ sm kp b1 b2 b3 b4 q hq
  rw [tp _ (by omega)]
  simp only [Option.bind_some]
  have m1 : (tb.map toRgb).length = tb.length := by simp
  have m2 : (kp.map toChunk).length = kp.length := by simp
  have im := fun q (hq : 2097240 ≤ q) => impl_NoCover_eq w h d c l (tb.map toRgb) cl rw_ rh rc rd_ sm (kp.map toChunk) (by omega) b2 b3 (by omega) (fun x hx => by
    obtain ⟨y, hy, rfl⟩ := List.mem_map.1 hx
    exact (b5 y hy).1) q hq
  have ep := fun q (hq : 1048580 ≤ q) => laws_eqPng_refl w h d c l (tb.map toRgb) cl rw_ rh rc rd_ sm (kp.map toChunk) (by omega) b2 b3 (by omega) q hq
  obtain ⟨pm, p1, p2, p3, p4, pe, p0, _⟩ := laws_mark_held_Png w h d c l (tb.map toRgb) cl rw_ rh rc rd_ sm (kp.map toChunk) (by omega) b2 b3 (by omega) (k + 2) (by omega)
  rw [spec_NoCover_eq w h d c l (tb.map toRgb) cl rw_ rh rc rd_ sm (kp.map toChunk) (by omega) b2 b3 (by omega) _ (by omega), Option.bind_some, im _ (by omega), Option.bind_some]
  have ml := coverV_small w h d c l (tb.map toRgb) cl rw_ rh rc rd_ sm (kp.map toChunk) b3 (by omega)
  generalize coverV w h d c l (tb.map toRgb) cl rw_ rh rc rd_ sm (kp.map toChunk) = r at ml im ⊢
  obtain ⟨r1, r2, r3, r4, r5, q1, q2, r6, r7, r8, r9, q3, q4, r10⟩ := r
  simp only at ml ⊢
  have er := fun q (hq : 1048580 ≤ q) => laws_eqPng_refl r1 r2 r3 r4 r5 q1 q2 r6 r7 r8 r9 q3 q4 (by omega) (by omega) (by omega) (by omega) q hq
  obtain ⟨mm, y1, y2, y3, y4, e1, e0, e2⟩ := laws_mark_held_Png r1 r2 r3 r4 r5 q1 q2 r6 r7 r8 r9 q3 q4 (by omega) (by omega) (by omega) (by omega) (k + 1) (by omega)
  rw [er _ (by omega), Option.bind_some, if_pos rfl, laws_FnExactNoCover.j0, if_neg (by simp), tp _ (by omega), Option.bind_some]
  simp only
  rw [ep _ (by omega), Option.bind_some, if_pos rfl, pe, Option.bind_some]
  simp only
  rw [if_neg (by omega), er _ (by omega), Option.bind_some, if_pos rfl, laws_FnExactNoCover.j1, if_neg (by simp), e1, Option.bind_some]
  simp only
  rw [e2 _ (by omega), Option.bind_some, if_neg (by omega), if_pos rfl, tp _ (by omega), Option.bind_some]
  simp only
  rw [im _ (by omega), Option.bind_some]
  simp only
  rw [er _ (by omega), Option.bind_some, if_pos rfl, laws_FnExactNoCover.j2, if_neg (by simp), e2 _ (by omega), Option.bind_some, if_neg (by omega), if_pos rfl]

end Go.Proofs.Ytajnobmnkbkkgaa.Pure
