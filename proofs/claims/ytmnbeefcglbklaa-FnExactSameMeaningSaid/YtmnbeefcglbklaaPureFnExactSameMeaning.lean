/- The law FnExactSameMeaning as a statement over numbers and lists: for every two meanings told by their fields, each of a size that a machine can hold, the law's function returns true. -/
import Derived.Test.YtmnbeefcglbklaaPFnExactSameMeaningx6
set_option linter.unusedVariables false
set_option linter.unusedSimpArgs false
namespace Go.Proofs.Ytmnbeefcglbklaa.Pure
open Go.RowKit Go.Proofs.Ytmnbeefcglbklaa.PFnExactSameMeaning Go.Proofs.YtmnbeefcglbklaaW.PrintWords Go.Proofs.YtmnbeefcglbklaaW.PrintLast

theorem w64 {x : Int} (h : -9223372036854775808 ≤ x) (h' : x ≤ 9223372036854775807) : wrap64 x = x := by unfold wrap64; omega
theorem wf_i64 {a : Int} (h : (Lit.int .i64 a).wf = true) : -9223372036854775808 ≤ a ∧ a ≤ 9223372036854775807 := by
  simpa [Lit.wf, IntKind.min, IntKind.max, IntKind.signed, IntKind.bits] using h
theorem wbt (s : ByteArray) (i : Int) : wrap64 (bt s i) = bt s i := w64 (by have := bt_range s i; omega) (by have := bt_range s i; omega)

theorem rd_at (xs : List Int) (i : Nat) (h : i < xs.length) : rd xs i = xs[i] := by simp [rd, List.getD, h]
def inB (m x : Int) : Bool := decide (0 ≤ x) && decide (x ≤ m)
theorem drop_all (p : Int → Bool) (xs : List Int) (i : Nat) (h : i < xs.length) : (xs.drop i).all p = (p xs[i] && (xs.drop (i + 1)).all p) := by
  rw [List.drop_eq_getElem_cons h]; rfl
theorem drop_all_end (p : Int → Bool) (xs : List Int) (i : Nat) (h : xs.length ≤ i) : (xs.drop i).all p = true := by
  rw [List.drop_eq_nil_of_le h]; rfl

theorem rd_Chunk (xs : List S36) (i : Nat) (h : i < xs.length) : rd_T36 xs i = xs[i] := by
  simp [rd_T36, List.getD, h]

def eqCh (a b : S36) : Bool := (a.f0.toList == b.f0.toList) && (a.f1.toList == b.f1.toList)
def eqTo {α : Type} (p : α → α → Bool) : List α → List α → Bool
  | [], [] => true
  | x :: xs, y :: ys => p x y && eqTo p xs ys
  | _, _ => false
theorem eqTo_drop {α : Type} (p : α → α → Bool) (xs ys : List α) (i : Nat) (h1 : i < xs.length) (h2 : i < ys.length) : eqTo p (xs.drop i) (ys.drop i) = (p xs[i] ys[i] && eqTo p (xs.drop (i + 1)) (ys.drop (i + 1))) := by
  rw [List.drop_eq_getElem_cons h1, List.drop_eq_getElem_cons h2]; rfl
theorem eqTo_end {α : Type} (p : α → α → Bool) (xs ys : List α) (i : Nat) (h1 : xs.length ≤ i) (h2 : ys.length ≤ i) : eqTo p (xs.drop i) (ys.drop i) = true := by
  rw [List.drop_eq_nil_of_le h1, List.drop_eq_nil_of_le h2]; rfl
def eqI (a b : Int) : Bool := decide (a = b)
def sameM (w h : Int) (px : List Int) (kp : List S36) (w' h' : Int) (px' : List Int) (kp' : List S36) : Bool :=
  if w = w' ∧ h = h' ∧ px.length = px'.length ∧ kp.length = kp'.length then eqTo eqI px px' && eqTo eqCh kp kp' else false
theorem ne_eqCh (a b : S36) : (!((a.f0.toList) == (b.f0.toList)) || (!((a.f1.toList) == (b.f1.toList)))) = !eqCh a b := by
  unfold eqCh; cases (a.f0.toList == b.f0.toList) <;> cases (a.f1.toList == b.f1.toList) <;> rfl

theorem spec_SameMeaning_l1 (w h : Int) (px : List Int) (xs : List S36) (w' h' : Int) (px' : List Int) (ys : List S36) (hx : xs.length ≤ 9223372036854775807) (hl : xs.length = ys.length) (d : Nat) : ∀ (k i : Nat), i ≤ xs.length → xs.length - i = d → d < k → spec_SameMeaning.l1 k i w h px xs w' h' px' ys = some (eqTo eqCh (xs.drop i) (ys.drop i)) := by
  induction d with
  | zero =>
    intro k i hi hd hk
    obtain ⟨k, rfl⟩ : ∃ m, k = m + 1 := ⟨k - 1, by omega⟩
    simp only [spec_SameMeaning.l1]
    rw [if_neg (by omega), eqTo_end _ _ _ _ (by omega) (by omega)]
  | succ d ih =>
    intro k i hi hd hk
    obtain ⟨k, rfl⟩ : ∃ m, k = m + 1 := ⟨k - 1, by omega⟩
    have lt : i < xs.length := by omega
    have lt2 : i < ys.length := by omega
    have st := ih k (i + 1) (by omega) (by omega) (by omega)
    push_cast at st
    simp only [spec_SameMeaning.l1]
    rw [if_pos (by omega), if_pos (by omega), if_pos (by omega), rd_Chunk xs i lt, rd_Chunk ys i lt2, w64 (by omega) (by omega), eqTo_drop _ _ _ _ lt lt2, ne_eqCh]
    cases e : eqCh xs[i] ys[i] with
    | true => rw [if_neg (by simp), st]; rfl
    | false => rw [if_pos (by simp)]; rfl
theorem spec_SameMeaning_l0 (w h : Int) (xs : List Int) (kp : List S36) (w' h' : Int) (ys : List Int) (kp' : List S36) (hx : xs.length ≤ 9223372036854775807) (hl : xs.length = ys.length) (hx2 : kp.length ≤ 9223372036854775807) (hl2 : kp.length = kp'.length) (d : Nat) : ∀ (k i : Nat), i ≤ xs.length → xs.length - i = d → d + kp.length + 1 < k → spec_SameMeaning.l0 k i w h xs kp w' h' ys kp' = some (eqTo eqI (xs.drop i) (ys.drop i) && eqTo eqCh kp kp') := by
  induction d with
  | zero =>
    intro k i hi hd hk
    obtain ⟨k, rfl⟩ : ∃ m, k = m + 1 := ⟨k - 1, by omega⟩
    simp only [spec_SameMeaning.l0]
    rw [if_neg (by omega), eqTo_end _ _ _ _ (by omega) (by omega), Bool.true_and]
    exact spec_SameMeaning_l1 w h xs kp w' h' ys kp' hx2 hl2 kp.length k 0 (by omega) (by omega) (by omega)
  | succ d ih =>
    intro k i hi hd hk
    obtain ⟨k, rfl⟩ : ∃ m, k = m + 1 := ⟨k - 1, by omega⟩
    have lt : i < xs.length := by omega
    have lt2 : i < ys.length := by omega
    have st := ih k (i + 1) (by omega) (by omega) (by omega)
    push_cast at st
    simp only [spec_SameMeaning.l0]
    rw [if_pos (by omega), if_pos (by omega), if_pos (by omega), rd_at xs i lt, rd_at ys i lt2, w64 (by omega) (by omega), eqTo_drop _ _ _ _ lt lt2]
    by_cases e : xs[i] = ys[i]
    · rw [if_pos e, st]; simp [eqI, e]
    · rw [if_neg e]; simp [eqI, e]
theorem spec_SameMeaning_eq (w h : Int) (px : List Int) (kp : List S36) (w' h' : Int) (px' : List Int) (kp' : List S36) (h1 : px.length ≤ 9223372036854775807) (h2 : kp.length ≤ 9223372036854775807) (k : Nat) (hk1 : px.length + kp.length + 3 < k) :
    spec_SameMeaning.f k w h px kp w' h' px' kp' = some (sameM w h px kp w' h' px' kp') := by
  obtain ⟨k, rfl⟩ : ∃ m, k = m + 1 := ⟨k - 1, by omega⟩
  have no : spec_SameMeaning.j0 (k + 1) true w h px kp w' h' px' kp' = some false := by simp [spec_SameMeaning.j0]
  unfold spec_SameMeaning.f sameM
  rw [no]
  by_cases e1 : w = w'
  · rw [if_pos e1]
    by_cases e2 : h = h'
    · rw [if_pos e2]
      by_cases e3 : px.length = px'.length
      · rw [if_pos (by omega)]
        by_cases e4 : kp.length = kp'.length
        · rw [if_pos ⟨e1, e2, e3, e4⟩, show (((kp.length : Nat) : Int) != ((kp'.length : Nat) : Int)) = false by simp; omega]
          simp only [spec_SameMeaning.j0]
          rw [if_neg (by decide)]
          exact spec_SameMeaning_l0 w h px kp w' h' px' kp' h1 e3 h2 e4 px.length k 0 (by omega) (by omega) (by omega)
        · rw [if_neg (fun q => e4 q.2.2.2), show (((kp.length : Nat) : Int) != ((kp'.length : Nat) : Int)) = true by simp; omega, no]
      · rw [if_neg (by omega), if_neg (fun q => e3 q.2.2.1)]
    · rw [if_neg e2, if_neg (fun q => e2 q.2.1)]
  · rw [if_neg e1, if_neg (fun q => e1 q.1)]

theorem slices_Equal_int_l0 (xs ys : List Int) (hx : xs.length ≤ 9223372036854775807) (hl : xs.length = ys.length) (d : Nat) : ∀ (k i : Nat), i ≤ xs.length → xs.length - i = d → d < k → slices_Equal_int_int.l0 k xs ys xs.length i = some (eqTo eqI (xs.drop i) (ys.drop i)) := by
  induction d with
  | zero =>
    intro k i hi hd hk
    obtain ⟨k, rfl⟩ : ∃ m, k = m + 1 := ⟨k - 1, by omega⟩
    simp only [slices_Equal_int_int.l0]
    rw [if_neg (by omega), eqTo_end _ _ _ _ (by omega) (by omega)]
  | succ d ih =>
    intro k i hi hd hk
    obtain ⟨k, rfl⟩ : ∃ m, k = m + 1 := ⟨k - 1, by omega⟩
    have lt : i < xs.length := by omega
    have lt2 : i < ys.length := by omega
    have st := ih k (i + 1) (by omega) (by omega) (by omega)
    push_cast at st
    simp only [slices_Equal_int_int.l0]
    rw [if_pos (by omega), if_pos (by omega), if_pos (by omega), if_pos (by omega), rd_at xs i lt, rd_at ys i lt2, w64 (by omega) (by omega), eqTo_drop _ _ _ _ lt lt2]
    by_cases e : xs[i] = ys[i]
    · rw [if_pos e, st]; simp [eqI, e]
    · rw [if_neg e]; simp [eqI, e]
theorem slices_Equal_int_eq (xs ys : List Int) (hx : xs.length ≤ 9223372036854775807) (k : Nat) (hk : xs.length < k) : slices_Equal_int_int.f k xs ys = some (if xs.length = ys.length then eqTo eqI xs ys else false) := by
  unfold slices_Equal_int_int.f
  by_cases h : xs.length = ys.length
  · rw [if_pos (by omega), if_pos h]
    exact slices_Equal_int_l0 xs ys hx h xs.length k 0 (by omega) (by omega) hk
  · rw [if_neg (by omega), if_neg h]
theorem impl_Chunk_l0 (xs ys : List S36) (hx : xs.length ≤ 9223372036854775807) (hl : xs.length = ys.length) (d : Nat) : ∀ (k i : Nat), i ≤ xs.length → xs.length - i = d → d < k → impl_Chunk.l0 k xs ys xs.length i = some (eqTo eqCh (xs.drop i) (ys.drop i)) := by
  induction d with
  | zero =>
    intro k i hi hd hk
    obtain ⟨k, rfl⟩ : ∃ m, k = m + 1 := ⟨k - 1, by omega⟩
    simp only [impl_Chunk.l0]
    rw [if_neg (by omega), eqTo_end _ _ _ _ (by omega) (by omega)]
  | succ d ih =>
    intro k i hi hd hk
    obtain ⟨k, rfl⟩ : ∃ m, k = m + 1 := ⟨k - 1, by omega⟩
    have lt : i < xs.length := by omega
    have lt2 : i < ys.length := by omega
    have st := ih k (i + 1) (by omega) (by omega) (by omega)
    push_cast at st
    simp only [impl_Chunk.l0]
    rw [if_pos (by omega), if_pos (by omega), if_pos (by omega), if_pos (by omega), rd_Chunk xs i lt, rd_Chunk ys i lt2, w64 (by omega) (by omega), eqTo_drop _ _ _ _ lt lt2, ne_eqCh]
    cases e : eqCh xs[i] ys[i] with
    | true => rw [if_neg (by simp), st]; rfl
    | false => rw [if_pos (by simp)]; rfl
theorem impl_Chunk_eq (xs ys : List S36) (hx : xs.length ≤ 9223372036854775807) (k : Nat) (hk : xs.length < k) : impl_Chunk.f k xs ys = some (if xs.length = ys.length then eqTo eqCh xs ys else false) := by
  unfold impl_Chunk.f
  by_cases h : xs.length = ys.length
  · rw [if_pos (by omega), if_pos h]
    exact impl_Chunk_l0 xs ys hx h xs.length k 0 (by omega) (by omega) hk
  · rw [if_neg (by omega), if_neg h]
theorem impl_SameMeaning_eq (w h : Int) (px : List Int) (kp : List S36) (w' h' : Int) (px' : List Int) (kp' : List S36) (h1 : px.length ≤ 9223372036854775807) (h2 : kp.length ≤ 9223372036854775807) (k : Nat) (hk1 : px.length < k) (hk2 : kp.length < k) :
    impl_SameMeaning.f k w h px kp w' h' px' kp' = some (sameM w h px kp w' h' px' kp') := by
  unfold impl_SameMeaning.f sameM
  rw [slices_Equal_int_eq px px' h1 k hk1, impl_Chunk_eq kp kp' h2 k hk2]
  simp only [Option.bind_some]
  by_cases e1 : w = w'
  · rw [if_pos e1]
    by_cases e2 : h = h'
    · rw [if_pos e2]
      by_cases e3 : px.length = px'.length
      · rw [if_pos e3]
        by_cases e4 : kp.length = kp'.length
        · rw [if_pos e4, if_pos (c := w = w' ∧ _) ⟨e1, e2, e3, e4⟩]
          cases eqTo eqI px px' <;> simp
        · rw [if_neg e4, if_neg (c := w = w' ∧ _) (fun q => e4 q.2.2.2)]
          cases eqTo eqI px px' <;> simp
      · rw [if_neg e3, if_neg (c := w = w' ∧ _) (fun q => e3 q.2.2.1)]; simp
    · rw [if_neg e2, if_neg (fun q => e2 q.2.1)]
  · rw [if_neg e1, if_neg (fun q => e1 q.1)]

theorem laws_szIntS_eq (xs : List Int) (hx : xs.length ≤ 9223372036854775807) (a : Int) (h0 : 0 ≤ a) (h1 : a ≤ 1048576) : laws_szIntS.f xs a = some (if a < xs.length then -1 else a - xs.length) := by
  unfold laws_szIntS.f
  rw [w64 (by omega) (by omega)]
  split
  · rw [if_pos (by omega)]
  · rw [if_neg (by omega)]

theorem rd_LChunk (xs : List S42) (i : Nat) (h : i < xs.length) : rd_T42 xs i = xs[i] := by
  simp [rd_T42, List.getD, h]
def toChunk (x : S42) : S36 := ⟨x.f0, x.f1⟩
theorem laws_toChunkS_l0 (xs : List S42) (hx : xs.length ≤ 9223372036854775807) (d : Nat) : ∀ (k i : Nat) (ys : List S36), i ≤ xs.length → xs.length - i = d → d < k → ys.length = xs.length → (∀ j : Nat, j < i → ys[j]? = (xs.map toChunk)[j]?) → laws_toChunkS.l0 k xs ys i = some (xs.map toChunk) := by
  induction d with
  | zero =>
    intro k i ys hi hd hk hl hy
    obtain ⟨k, rfl⟩ : ∃ m, k = m + 1 := ⟨k - 1, by omega⟩
    simp only [laws_toChunkS.l0]
    rw [if_neg (by omega)]
    congr 1
    apply List.ext_getElem?
    intro j
    by_cases hj : j < i
    · exact hy j hj
    · rw [List.getElem?_eq_none (by omega), List.getElem?_eq_none (by simp; omega)]
  | succ d ih =>
    intro k i ys hi hd hk hl hy
    obtain ⟨k, rfl⟩ : ∃ m, k = m + 1 := ⟨k - 1, by omega⟩
    have lt : i < xs.length := by omega
    simp only [laws_toChunkS.l0, laws_toChunk.f, Option.bind_some]
    rw [if_pos (by omega), if_pos (by omega), if_pos (by omega), rd_LChunk xs i lt, w64 (by omega) (by omega), Int.toNat_natCast]
    refine ih k (i + 1) _ (by omega) (by omega) (by omega) (by simpa using hl) (fun j hj => ?_)
    by_cases e : j = i
    · subst e
      rw [List.getElem?_set_self (by omega), List.getElem?_map, List.getElem?_eq_getElem lt]
      rfl
    · rw [List.getElem?_set_ne (by omega), hy j (by omega)]
theorem laws_toChunkS_eq (xs : List S42) (hx : xs.length ≤ 1048576) (k : Nat) (hk : xs.length < k) : laws_toChunkS.f k xs = some (xs.map toChunk) := by
  unfold laws_toChunkS.f
  rw [if_pos (by omega), if_pos (by omega), Int.toNat_natCast]
  exact laws_toChunkS_l0 xs (by omega) xs.length k 0 _ (by omega) (by omega) hk (by simp) (fun j hj => absurd hj (by omega))

theorem laws_szChunk_eq (a b : ByteArray) (ha : a.size ≤ 9223372036854775807) (hb : b.size ≤ 9223372036854775807) (t : Int) (h0 : 0 ≤ t) (h1 : t ≤ 1048576) : ∃ u, laws_szChunk.f a b t = some u ∧ u ≤ t ∧ (0 ≤ u → a.size ≤ 1048576 ∧ b.size ≤ 1048576) := by
  unfold laws_szChunk.f
  rw [w64 (x := t - a.size) (by omega) (by omega)]
  split
  · exact ⟨_, rfl, by omega, by omega⟩
  · rw [w64 (x := t - a.size - b.size) (by omega) (by omega)]
    split
    · exact ⟨_, rfl, by omega, by omega⟩
    · exact ⟨_, rfl, by omega, by omega⟩
theorem laws_szChunkS_l0 (xs : List S42) (hx : xs.length ≤ 1048576) (hc : ∀ x ∈ xs, x.f0.size ≤ 9223372036854775807 ∧ x.f1.size ≤ 9223372036854775807) (d : Nat) : ∀ (k i : Nat) (t : Int), i ≤ xs.length → xs.length - i = d → d < k → 0 ≤ t → t ≤ 1048576 →
    ∃ u, laws_szChunkS.l0 k xs t i = some u ∧ u ≤ t ∧ (0 ≤ u → ∀ j : Nat, i ≤ j → ∀ x, xs[j]? = some x → x.f0.size ≤ 1048576 ∧ x.f1.size ≤ 1048576) := by
  induction d with
  | zero =>
    intro k i t hi hd hk h0 h1
    obtain ⟨k, rfl⟩ : ∃ m, k = m + 1 := ⟨k - 1, by omega⟩
    simp only [laws_szChunkS.l0]
    rw [if_neg (by omega)]
    exact ⟨_, rfl, Int.le_refl _, fun _ j hj x hx => by rw [List.getElem?_eq_none (by omega)] at hx; cases hx⟩
  | succ d ih =>
    intro k i t hi hd hk h0 h1
    obtain ⟨k, rfl⟩ : ∃ m, k = m + 1 := ⟨k - 1, by omega⟩
    have lt : i < xs.length := by omega
    have c := hc _ (List.getElem_mem lt)
    simp only [laws_szChunkS.l0]
    rw [if_pos (by omega), if_pos (by omega), rd_LChunk xs i lt]
    obtain ⟨u, e, hu, hb⟩ := laws_szChunk_eq xs[i].f0 xs[i].f1 c.1 c.2 t h0 h1
    rw [e]; simp only [Option.bind_some]
    split
    · exact ⟨_, rfl, by omega, by omega⟩
    · rw [w64 (by omega) (by omega)]
      obtain ⟨v, e2, hv, hj⟩ := ih k (i + 1) u (by omega) (by omega) (by omega) (by omega) (by omega)
      refine ⟨v, e2, by omega, fun h j hj' x hx => ?_⟩
      by_cases ej : j = i
      · subst ej
        rw [List.getElem?_eq_getElem lt] at hx
        injection hx with hx
        subst hx
        exact hb (by omega)
      · exact hj h j (by omega) x hx
theorem laws_szChunkS_eq (xs : List S42) (hx : xs.length ≤ 9223372036854775807) (hc : ∀ x ∈ xs, x.f0.size ≤ 9223372036854775807 ∧ x.f1.size ≤ 9223372036854775807) (t : Int) (h0 : 0 ≤ t) (h1 : t ≤ 1048576) (k : Nat) (hk : 1048580 ≤ k) :
    ∃ u, laws_szChunkS.f k xs t = some u ∧ u ≤ t ∧ (0 ≤ u → xs.length ≤ 1048576 ∧ ∀ x ∈ xs, x.f0.size ≤ 1048576 ∧ x.f1.size ≤ 1048576) := by
  unfold laws_szChunkS.f
  rw [w64 (x := t - xs.length) (by omega) (by omega)]
  split
  · exact ⟨_, rfl, by omega, by omega⟩
  · obtain ⟨u, e, hu, hj⟩ := laws_szChunkS_l0 xs (by omega) hc xs.length k 0 (t - xs.length) (by omega) (by omega) (by omega) (by omega) (by omega)
    refine ⟨u, e, by omega, fun h => ⟨by omega, fun x hm => ?_⟩⟩
    obtain ⟨j, hj', rfl⟩ := List.getElem_of_mem hm
    exact hj h j (by omega) _ (List.getElem?_eq_getElem hj')

theorem laws_toIntS_l0 (xs : List Int) (hx : xs.length ≤ 9223372036854775807) (d : Nat) : ∀ (k i : Nat) (ys : List Int), i ≤ xs.length → xs.length - i = d → d < k → ys.length = xs.length → (∀ j : Nat, j < i → ys[j]? = xs[j]?) → laws_toIntS.l0 k xs ys i = some xs := by
  induction d with
  | zero =>
    intro k i ys hi hd hk hl hy
    obtain ⟨k, rfl⟩ : ∃ m, k = m + 1 := ⟨k - 1, by omega⟩
    simp only [laws_toIntS.l0]
    rw [if_neg (by omega)]
    congr 1
    apply List.ext_getElem?
    intro j
    by_cases hj : j < i
    · exact hy j hj
    · rw [List.getElem?_eq_none (by omega), List.getElem?_eq_none (by omega)]
  | succ d ih =>
    intro k i ys hi hd hk hl hy
    obtain ⟨k, rfl⟩ : ∃ m, k = m + 1 := ⟨k - 1, by omega⟩
    have lt : i < xs.length := by omega
    simp only [laws_toIntS.l0]
    rw [if_pos (by omega), if_pos (by omega), if_pos (by omega), rd_at xs i lt, w64 (by omega) (by omega), Int.toNat_natCast]
    refine ih k (i + 1) (ys.set i xs[i]) (by omega) (by omega) (by omega) (by simpa using hl) (fun j hj => ?_)
    by_cases e : j = i
    · subst e
      rw [List.getElem?_set_self (by omega), List.getElem?_eq_getElem lt]
    · rw [List.getElem?_set_ne (by omega), hy j (by omega)]
theorem laws_toIntS_eq (xs : List Int) (hx : xs.length ≤ 1048576) (k : Nat) (hk : xs.length < k) : laws_toIntS.f k xs = some xs := by
  unfold laws_toIntS.f
  rw [if_pos (by omega), if_pos (by omega), Int.toNat_natCast]
  exact laws_toIntS_l0 xs (by omega) xs.length k 0 _ (by omega) (by omega) hk (by simp) (fun j hj => absurd hj (by omega))

theorem laws_eqIntS_l0 (xs : List Int) (hx : xs.length ≤ 9223372036854775807) (d : Nat) : ∀ (k i : Nat), i ≤ xs.length → xs.length - i = d → d < k → laws_eqIntS.l0 k xs xs i = some true := by
  induction d with
  | zero =>
    intro k i hi hd hk
    obtain ⟨k, rfl⟩ : ∃ m, k = m + 1 := ⟨k - 1, by omega⟩
    simp only [laws_eqIntS.l0]
    rw [if_neg (by omega)]
  | succ d ih =>
    intro k i hi hd hk
    obtain ⟨k, rfl⟩ : ∃ m, k = m + 1 := ⟨k - 1, by omega⟩
    simp only [laws_eqIntS.l0]
    rw [if_pos (by omega), if_pos (by omega), if_pos (by omega)]
    simp only [if_true]
    rw [w64 (by omega) (by omega)]
    exact ih k (i + 1) (by omega) (by omega) (by omega)
theorem laws_eqIntS_refl (xs : List Int) (hx : xs.length ≤ 9223372036854775807) (k : Nat) (hk : xs.length < k) : laws_eqIntS.f k xs xs = some true := by
  unfold laws_eqIntS.f
  rw [if_pos rfl]
  exact laws_eqIntS_l0 xs hx xs.length k 0 (by omega) (by omega) hk

theorem laws_eqChunkS_l0 (xs : List S36) (hx : xs.length ≤ 9223372036854775807) (d : Nat) : ∀ (k i : Nat), i ≤ xs.length → xs.length - i = d → d < k → laws_eqChunkS.l0 k xs xs i = some true := by
  induction d with
  | zero =>
    intro k i hi hd hk
    obtain ⟨k, rfl⟩ : ∃ m, k = m + 1 := ⟨k - 1, by omega⟩
    simp only [laws_eqChunkS.l0]
    rw [if_neg (by omega)]
  | succ d ih =>
    intro k i hi hd hk
    obtain ⟨k, rfl⟩ : ∃ m, k = m + 1 := ⟨k - 1, by omega⟩
    simp only [laws_eqChunkS.l0]
    rw [if_pos (by omega), if_pos (by omega), if_pos (by omega)]
    simp only [laws_eqChunk.f, if_true, Option.bind_some]
    rw [w64 (by omega) (by omega)]
    exact ih k (i + 1) (by omega) (by omega) (by omega)
theorem laws_eqChunkS_refl (xs : List S36) (hx : xs.length ≤ 9223372036854775807) (k : Nat) (hk : xs.length < k) : laws_eqChunkS.f k xs xs = some true := by
  unfold laws_eqChunkS.f
  rw [if_pos rfl]
  exact laws_eqChunkS_l0 xs hx xs.length k 0 (by omega) (by omega) hk

theorem szM_eq (w h : Int) (px : List Int) (kp : List S42) (h1 : px.length ≤ 9223372036854775807) (h2 : kp.length ≤ 9223372036854775807) (hc : ∀ x ∈ kp, x.f0.size ≤ 9223372036854775807 ∧ x.f1.size ≤ 9223372036854775807) (t : Int) (ht0 : 0 ≤ t) (ht : t ≤ 1048576) (k : Nat) (hk : 1048580 ≤ k) :
    ∃ u, laws_szMeaning.f k w h px kp t = some u ∧ u ≤ t ∧ (0 ≤ u → px.length ≤ 1048576 ∧ kp.length ≤ 1048576) := by
  unfold laws_szMeaning.f laws_szIntS.f
  rw [w64 (x := t - px.length) (by omega) (by omega)]
  by_cases a : t - (px.length : Int) < 0
  · rw [if_pos a]; simp only [Option.bind_some]; exact ⟨-1, by simp, by omega, by omega⟩
  · rw [if_neg a]
    obtain ⟨u, e, hu, hb⟩ := laws_szChunkS_eq kp h2 hc (t - px.length) (by omega) (by omega) k hk
    simp only [Option.bind_some]
    rw [if_neg a, e]
    simp only [Option.bind_some]
    by_cases b : u < 0
    · rw [if_pos b]; exact ⟨-1, rfl, by omega, by omega⟩
    · rw [if_neg b]; exact ⟨u, rfl, by omega, fun _ => ⟨by omega, (hb (by omega)).1⟩⟩
theorem toM_eq (w h : Int) (px : List Int) (kp : List S42) (h1 : px.length ≤ 1048576) (h2 : kp.length ≤ 1048576) (k : Nat) (hk : 1048580 ≤ k) : laws_toMeaning.f k w h px kp = some (w, h, px, kp.map toChunk) := by
  unfold laws_toMeaning.f
  rw [laws_toIntS_eq px h1 k (by omega), laws_toChunkS_eq kp h2 k (by omega)]
  rfl
theorem eqM_refl (w h : Int) (px : List Int) (kp : List S36) (h1 : px.length ≤ 1048576) (h2 : kp.length ≤ 1048576) (k : Nat) (hk : 1048580 ≤ k) : laws_eqMeaning.f k w h px kp w h px kp = some true := by
  unfold laws_eqMeaning.f
  rw [laws_eqIntS_refl px (by omega) k (by omega), laws_eqChunkS_refl kp (by omega) k (by omega)]
  simp
theorem FnExactSameMeaning (w h : Int) (px : List Int) (kp : List S42) (w' h' : Int) (px' : List Int) (kp' : List S42) (_ : (Lit.int .i64 w).wf = true) (_ : (Lit.int .i64 h).wf = true) (h1 : px.length ≤ 9223372036854775807) (_ : ∀ x ∈ px, (Lit.int .i64 x).wf = true) (h2 : kp.length ≤ 9223372036854775807) (hc : ∀ x ∈ kp, (x.f0.size ≤ 9223372036854775807) ∧ (x.f1.size ≤ 9223372036854775807)) (_ : (Lit.int .i64 w').wf = true) (_ : (Lit.int .i64 h').wf = true) (h1' : px'.length ≤ 9223372036854775807) (_ : ∀ x ∈ px', (Lit.int .i64 x).wf = true) (h2' : kp'.length ≤ 9223372036854775807) (hc' : ∀ x ∈ kp', (x.f0.size ≤ 9223372036854775807) ∧ (x.f1.size ≤ 9223372036854775807)) :
    ∃ k, laws_FnExactSameMeaning.f k w h px kp w' h' px' kp' = some true := by
  obtain ⟨k, hk⟩ : ∃ k : Nat, k = 5000000 := ⟨_, rfl⟩
  refine ⟨k, ?_⟩
  unfold laws_FnExactSameMeaning.f
  obtain ⟨u, e, hu, hb⟩ := szM_eq w h px kp h1 h2 hc 1048576 (by omega) (by omega) k (by omega)
  rw [e]
  simp only [Option.bind_some]
  by_cases a : u < 0
  · rw [if_pos a]
  · rw [if_neg a]
    obtain ⟨v, e2, hv, hb2⟩ := szM_eq w' h' px' kp' h1' h2' hc' u (by omega) (by omega) k (by omega)
    rw [e2]
    simp only [Option.bind_some]
    by_cases b : v < 0
    · rw [if_pos b]
    · rw [if_neg b]
      obtain ⟨b1, b2⟩ := hb (by omega)
      obtain ⟨b3, b4⟩ := hb2 (by omega)
      have m1 : (kp.map toChunk).length = kp.length := by simp
      have m2 : (kp'.map toChunk).length = kp'.length := by simp
      rw [toM_eq w h px kp b1 b2 k (by omega), toM_eq w' h' px' kp' b3 b4 k (by omega)]
      simp only [Option.bind_some]
      rw [spec_SameMeaning_eq _ _ _ _ _ _ _ _ (by omega) (by omega) k (by omega), impl_SameMeaning_eq _ _ _ _ _ _ _ _ (by omega) (by omega) k (by omega) (by omega), eqM_refl w h px _ b1 (by omega) k (by omega), eqM_refl w' h' px' _ b3 (by omega) k (by omega)]
      simp

end Go.Proofs.Ytmnbeefcglbklaa.Pure
