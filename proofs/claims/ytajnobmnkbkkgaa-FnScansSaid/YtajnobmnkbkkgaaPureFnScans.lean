/- A drawn raster comes back from its scan lines, with passes or without, by every way of filtering, and these scan lines have just ScanBytes bytes; for every code that the generator reads, without a condition. -/
import Derived.Test.YtajnobmnkbkkgaaPFnScansx16
set_option linter.unusedVariables false
set_option linter.unusedSimpArgs false
namespace Go.Proofs.Ytajnobmnkbkkgaa.Pure
open Go.RowKit Go.Proofs.Ytajnobmnkbkkgaa.PFnScans Go.Proofs.YtajnobmnkbkkgaaW.PrintWords Go.Proofs.YtajnobmnkbkkgaaW.PrintLast
open Go.Proofs.YtajnobmnkbkkgaaW.PrintMore (cpy)

theorem w64 {x : Int} (h : -9223372036854775808 ≤ x) (h' : x ≤ 9223372036854775807) : wrap64 x = x := by unfold wrap64; omega
theorem wf_i64 {a : Int} (h : (Lit.int .i64 a).wf = true) : -9223372036854775808 ≤ a ∧ a ≤ 9223372036854775807 := by
  simpa [Lit.wf, IntKind.min, IntKind.max, IntKind.signed, IntKind.bits] using h
theorem wbt (s : ByteArray) (i : Int) : wrap64 (bt s i) = bt s i := w64 (by have := bt_range s i; omega) (by have := bt_range s i; omega)

def pstep (p : Int) : Int × Int × Int × Int := if p = 0 then (0, 0, 8, 8) else if p = 1 then (4, 0, 8, 8) else if p = 2 then (0, 4, 4, 8) else if p = 3 then (2, 0, 4, 4) else if p = 4 then (0, 2, 2, 4) else if p = 5 then (1, 0, 2, 2) else if p = 6 then (0, 1, 1, 2) else (0, 0, 0, 0)
def passB (p : Int) : Bool := decide (0 ≤ p) && decide (p ≤ 6)
theorem passB_iff (p : Int) : passB p = true ↔ 0 ≤ p ∧ p ≤ 6 := by simp [passB]
/-- How many of the places x, x + d, .. are below n. -/
def cnt (n x d : Int) : Int := if x < n then (n - x + d - 1) / d else 0
def power2 (d : Int) : Prop := d = 1 ∨ d = 2 ∨ d = 4 ∨ d = 8
theorem cnt_step {n x d : Int} (hd : power2 d) (h : x < n) : cnt n x d = 1 + cnt n (x + d) d := by
  unfold cnt
  rw [if_pos h]
  rcases hd with rfl | rfl | rfl | rfl <;> split <;> omega
theorem cnt_done {n x d : Int} (h : ¬ x < n) : cnt n x d = 0 := if_neg h
theorem cnt_bd {n x d : Int} (hd : power2 d) (h0 : 0 ≤ x) (hn : n ≤ 24) : 0 ≤ cnt n x d ∧ cnt n x d ≤ 24 := by
  unfold cnt
  rcases hd with rfl | rfl | rfl | rfl <;> split <;> omega
theorem pstep_bd {p : Int} (h : passB p = true) : 0 ≤ (pstep p).1 ∧ (pstep p).1 ≤ 4 ∧ 0 ≤ (pstep p).2.1 ∧ (pstep p).2.1 ≤ 4 ∧ power2 (pstep p).2.2.1 ∧ power2 (pstep p).2.2.2 ∧ (pstep p).1 ≤ (pstep p).2.2.1 ∧ (pstep p).2.1 ≤ (pstep p).2.2.2 := by
  rw [passB_iff] at h
  have : p = 0 ∨ p = 1 ∨ p = 2 ∨ p = 3 ∨ p = 4 ∨ p = 5 ∨ p = 6 := by omega
  unfold power2
  rcases this with rfl | rfl | rfl | rfl | rfl | rfl | rfl <;> decide

def sideB (n : Int) : Bool := decide (1 ≤ n) && decide (n ≤ 24)
theorem sideB_iff (n : Int) : sideB n = true ↔ 1 ≤ n ∧ n ≤ 24 := by simp [sideB]

def psize (w h p : Int) : Int × Int :=
  if sideB w && sideB h && passB p then
    if cnt w (pstep p).1 (pstep p).2.2.1 = 0 ∨ cnt h (pstep p).2.1 (pstep p).2.2.2 = 0 then (0, 0) else (cnt w (pstep p).1 (pstep p).2.2.1, cnt h (pstep p).2.1 (pstep p).2.2.2)
  else (0, 0)

def smallD (d : Int) : Bool := d == 1 || d == 2 || d == 4
def bigD (d : Int) : Bool := d == 8 || d == 16
def dok (c d : Int) : Bool := if c = 0 then smallD d || bigD d else if c = 3 then smallD d || d == 8 else if c = 2 then bigD d else if c = 4 then bigD d else if c = 6 then bigD d else false
theorem some_or (a b : Bool) : (if a = true then some true else some b) = some (a || b) := by cases a <;> rfl
theorem spec_DepthOk_eq (k : Nat) (hk : 1 ≤ k) (c d : Int) : spec_DepthOk.f k c d = some (dok c d) := by
  obtain ⟨k, rfl⟩ : ∃ m, k = m + 1 := ⟨k - 1, by omega⟩
  have e : ∀ x : Bool, spec_DepthOk.j0 (k + 1) c d x = some (if c = 0 then x || bigD d else if c = 3 then x || d == 8 else if c = 2 then bigD d else if c = 4 then bigD d else if c = 6 then bigD d else false) := by
    intro x
    have h8 : (if d = 8 then some true else some (d == 16)) = some (bigD d) := by unfold bigD; by_cases h : d = 8 <;> simp [h]
    simp only [spec_DepthOk.j0, h8, some_or]
    repeat (first | rfl | split)
  simp only [spec_DepthOk.f, e, dok, smallD]
  by_cases h1 : d = 1
  · simp [h1]
  by_cases h2 : d = 2
  · simp [h2]
  · have e1 : (d == 1) = false := by simpa using h1
    have e2 : (d == 2) = false := by simpa using h2
    simp only [h1, h2, e1, e2, if_false, Bool.false_or]

def chan (c : Int) : Int := if c = 0 then 1 else if c = 3 then 1 else if c = 2 then 3 else if c = 4 then 2 else if c = 6 then 4 else 0

def p2 (n : Int) : Int := 2 ^ n.toNat
theorem p2_nat (n : Nat) : p2 n = ((2 ^ n : Nat) : Int) := by simp [p2]
theorem p2_succ (n : Int) (h : 0 ≤ n) : p2 (n + 1) = 2 * p2 n := by
  obtain ⟨m, rfl⟩ := Int.eq_ofNat_of_zero_le h
  have : ((m : Int) + 1) = ((m + 1 : Nat) : Int) := by omega
  rw [this, p2_nat, p2_nat, Nat.pow_succ]; push_cast; omega
theorem p2_zero : p2 0 = 1 := rfl
theorem p2_pos (n : Int) : 1 ≤ p2 n := by
  unfold p2
  have h := Nat.one_le_two_pow (n := n.toNat)
  exact_mod_cast h
theorem p2_le {m n : Int} (h : m ≤ n) : p2 m ≤ p2 n := by
  unfold p2
  have h := Nat.pow_le_pow_right (n := 2) (by decide) (show m.toNat ≤ n.toNat by omega)
  exact_mod_cast h
theorem p2_62 {n : Int} (h : n ≤ 62) : p2 n ≤ 4611686018427387904 := p2_le (n := 62) h
theorem p2_16 {n : Int} (h : n ≤ 16) : p2 n ≤ 65536 := p2_le (n := 16) h

theorem rd_at (xs : List Int) (i : Nat) (h : i < xs.length) : rd xs i = xs[i] := by simp [rd, List.getD, h]
def inB (m x : Int) : Bool := decide (0 ≤ x) && decide (x ≤ m)
theorem drop_all (p : Int → Bool) (xs : List Int) (i : Nat) (h : i < xs.length) : (xs.drop i).all p = (p xs[i] && (xs.drop (i + 1)).all p) := by
  rw [List.drop_eq_getElem_cons h]; rfl
theorem drop_all_end (p : Int → Bool) (xs : List Int) (i : Nat) (h : xs.length ≤ i) : (xs.drop i).all p = true := by
  rw [List.drop_eq_nil_of_le h]; rfl

def upB (n : Int) : Int := (n + 7) / 8
theorem upB_w (n : Int) (h : 0 ≤ n) (h' : n ≤ 9223372036854775800) : wrap64 (Int.tdiv (wrap64 (n + 7)) 8) = upB n := by
  unfold upB
  rw [w64 (x := n + 7) (by omega) (by omega), Int.tdiv_eq_ediv_of_nonneg (by omega), w64 (by omega) (by omega)]
theorem chan_bd (c : Int) : 0 ≤ chan c ∧ chan c ≤ 4 := by unfold chan; repeat (first | omega | split)
theorem dok_bd {c d : Int} (h : dok c d = true) : 1 ≤ d ∧ d ≤ 16 ∧ 1 ≤ chan c := by
  have hs : ∀ d : Int, smallD d = true → 1 ≤ d ∧ d ≤ 4 := by intro d h; simp [smallD] at h; omega
  have hb : ∀ d : Int, bigD d = true → 8 ≤ d ∧ d ≤ 16 := by intro d h; simp [bigD] at h; omega
  unfold dok at h
  unfold chan
  split at h
  · rename_i e; simp only [e, if_true, Bool.or_eq_true] at h ⊢
    rcases h with h | h
    · have := hs d h; omega
    · have := hb d h; omega
  · rename_i e0
    simp only [e0, if_false]
    split at h
    · rename_i e; simp only [e, if_true, Bool.or_eq_true, beq_iff_eq] at h ⊢
      rcases h with h | h
      · have := hs d h; omega
      · omega
    · rename_i e3
      simp only [e3, if_false]
      split at h
      · rename_i e; simp only [e, if_true]; have := hb d h; omega
      · rename_i e2
        simp only [e2, if_false]
        split at h
        · rename_i e; simp only [e, if_true]; have := hb d h; omega
        · rename_i e4
          simp only [e4, if_false]
          split at h
          · rename_i e; simp only [e, if_true]; have := hb d h; omega
          · cases h
theorem mul_bd {a b : Int} {m n : Int} (ha : 0 ≤ a) (ha' : a ≤ m) (hb : 0 ≤ b) (hb' : b ≤ n) : 0 ≤ a * b ∧ a * b ≤ m * n :=
  ⟨Int.mul_nonneg ha hb, Int.mul_le_mul ha' hb' hb (by omega)⟩
/-- How many bytes a row has. -/
def rowBytes (w c d : Int) : Int := if sideB w && dok c d then upB (w * chan c * d) else 0
theorem row_bd {w c d : Int} (h : sideB w = true) (h' : dok c d = true) : 0 ≤ w * chan c ∧ w * chan c ≤ 96 ∧ 0 ≤ w * chan c * d ∧ w * chan c * d ≤ 1536 := by
  rw [sideB_iff] at h
  have h2 := dok_bd h'
  have h3 := chan_bd c
  have h4 := mul_bd (a := w) (b := chan c) (m := 24) (n := 4) (by omega) (by omega) (by omega) (by omega)
  have h5 := mul_bd (a := w * chan c) (b := d) (m := 96) (n := 16) (by omega) (by omega) (by omega) (by omega)
  omega

def rasterOk (w h c d : Int) (xs : List Int) : Bool := sideB w && sideB h && dok c d && decide ((xs.length : Int) = w * h * chan c) && xs.all (inB (p2 d - 1))
theorem wh_bd {w h c : Int} (hw : sideB w = true) (hh : sideB h = true) : 0 ≤ w * h ∧ w * h ≤ 576 ∧ 0 ≤ w * h * chan c ∧ w * h * chan c ≤ 2304 := by
  rw [sideB_iff] at hw hh
  have h3 := chan_bd c
  have h4 := mul_bd (a := w) (b := h) (m := 24) (n := 24) (by omega) (by omega) (by omega) (by omega)
  have h5 := mul_bd (a := w * h) (b := chan c) (m := 576) (n := 4) (by omega) (by omega) (by omega) (by omega)
  omega

/-- The samples of one place: n of them from place a * n on. -/
def smp (xs : List Int) (n a : Int) : List Int := (xs.take (a * n + n).toNat).drop (a * n).toNat
def rowPl (b dx : Int) : Nat → List Int
  | 0 => []
  | n + 1 => b :: rowPl (b + dx) dx n
def gridPl (W dx dy x : Int) (w : Nat) : Nat → Int → List Int
  | 0, _ => []
  | n + 1, r => rowPl (r * W + x) dx w ++ gridPl W dx dy x w n (r + dy)
theorem rowPl_len (b dx : Int) (n : Nat) : (rowPl b dx n).length = n := by
  induction n generalizing b with
  | zero => rfl
  | succ n ih => simp [rowPl, ih]
theorem gridPl_len (W dx dy x : Int) (w n : Nat) (r : Int) : (gridPl W dx dy x w n r).length = w * n := by
  induction n generalizing r with
  | zero => simp [gridPl]
  | succ n ih => simp [gridPl, ih, rowPl_len, Nat.mul_succ]; omega
theorem gridPl_zero (W dx dy x : Int) (n : Nat) (r : Int) : gridPl W dx dy x 0 n r = [] := by
  induction n generalizing r with
  | zero => rfl
  | succ n ih => simp [gridPl, ih, rowPl]
theorem rowPl_bd {dx : Int} (hd : power2 dx) (W : Int) (hW : W ≤ 24) (n : Nat) : ∀ (c R : Int), 0 ≤ c → (n : Int) = cnt W c dx → ∀ a ∈ rowPl (R + c) dx n, R ≤ a ∧ a < R + W := by
  induction n with
  | zero => intro c R _ _ a ha; cases ha
  | succ n ih =>
    intro c R hc hn a ha
    have lt : c < W := by
      by_cases h : c < W
      · exact h
      · rw [cnt_done h] at hn; omega
    have st := cnt_step hd lt
    have hd0 : 0 ≤ dx := by rcases hd with rfl | rfl | rfl | rfl <;> omega
    rcases List.mem_cons.mp ha with rfl | ha
    · omega
    · rw [Int.add_assoc] at ha
      exact ih (c + dx) R (by omega) (by push_cast at hn; omega) a ha
theorem gridPl_bd {dx dy : Int} (hd : power2 dx) (he : power2 dy) (W H x : Int) (hx : 0 ≤ x) (hW0 : 0 ≤ W) (hW : W ≤ 24) (w : Nat) (hw : (w : Int) = cnt W x dx) (n : Nat) : ∀ (r : Int), 0 ≤ r → (n : Int) = cnt H r dy → ∀ a ∈ gridPl W dx dy x w n r, 0 ≤ a ∧ a < W * H := by
  induction n with
  | zero => intro r _ _ a ha; cases ha
  | succ n ih =>
    intro r hr hn a ha
    have lt : r < H := by
      by_cases h : r < H
      · exact h
      · rw [cnt_done h] at hn; omega
    have st := cnt_step he lt
    have hd0 : 0 ≤ dy := by rcases he with rfl | rfl | rfl | rfl <;> omega
    rcases List.mem_append.mp ha with ha | ha
    · have q := rowPl_bd hd W hW w x (r * W) hx hw a ha
      have p := Int.mul_le_mul_of_nonneg_right (show r + 1 ≤ H by omega) hW0
      have p2 := Int.mul_nonneg hr hW0
      rw [Int.add_mul, Int.mul_comm H W] at p
      omega
    · exact ih (r + dy) (by omega) (by push_cast at hn; omega) a ha
theorem smp_len (xs : List Int) (n a : Int) (hn : 0 ≤ n) (ha : 0 ≤ a) (h : a * n + n ≤ xs.length) : (smp xs n a).length = n.toNat := by
  have := Int.mul_nonneg ha hn
  simp only [smp, List.length_drop, List.length_take]; omega
theorem plc_bd {a WH n L : Int} (ha : 0 ≤ a ∧ a < WH) (hn : 0 ≤ n) (hL : L = WH * n) : 0 ≤ a * n ∧ a * n + n ≤ L := by
  have p := Int.mul_le_mul_of_nonneg_right (show a + 1 ≤ WH by omega) hn
  have p2 := Int.mul_nonneg ha.1 hn
  rw [Int.add_mul] at p
  omega
/-- The p-th pass of a raster. -/
def passL (w h c d : Int) (xs : List Int) (p : Int) : S29 :=
  ⟨(psize w h p).1, (psize w h p).2, c, d, (gridPl w (pstep p).2.2.1 (pstep p).2.2.2 (pstep p).1 (psize w h p).1.toNat (psize w h p).2.toNat (pstep p).2.1).flatMap (smp xs (chan c))⟩
def passesL (w h c d : Int) (xs : List Int) : List S29 := (List.range' 0 7).map fun p : Nat => passL w h c d xs p
theorem psize_eq {w h p : Int} (hw : sideB w = true) (hh : sideB h = true) (hp : passB p = true) :
    (psize w h p = (cnt w (pstep p).1 (pstep p).2.2.1, cnt h (pstep p).2.1 (pstep p).2.2.2)) ∨ (psize w h p = (0, 0) ∧ (cnt w (pstep p).1 (pstep p).2.2.1 = 0 ∨ cnt h (pstep p).2.1 (pstep p).2.2.2 = 0)) := by
  unfold psize
  rw [if_pos (by rw [hw, hh, hp]; rfl)]
  split
  · right; exact ⟨rfl, by assumption⟩
  · left; rfl
theorem psize_bd {w h p : Int} (hw : sideB w = true) (hh : sideB h = true) (hp : passB p = true) : 0 ≤ (psize w h p).1 ∧ (psize w h p).1 ≤ 24 ∧ 0 ≤ (psize w h p).2 ∧ (psize w h p).2 ≤ 24 := by
  have b := pstep_bd hp
  rw [sideB_iff] at hw hh
  have b1 := cnt_bd (n := w) b.2.2.2.2.1 b.1 hw.2
  have b2 := cnt_bd (n := h) b.2.2.2.2.2.1 b.2.2.1 hh.2
  rcases psize_eq ((sideB_iff w).mpr hw) ((sideB_iff h).mpr hh) hp with e | e
  · rw [e]; simp only; omega
  · rw [e.1]; simp only; omega
/-- The places of a pass, told by counts alone. -/
theorem grid_eq {w h p : Int} (hw : sideB w = true) (hh : sideB h = true) (hp : passB p = true) (W dx dy x r : Int) :
    gridPl W dx dy x (cnt w (pstep p).1 (pstep p).2.2.1).toNat (cnt h (pstep p).2.1 (pstep p).2.2.2).toNat r = gridPl W dx dy x (psize w h p).1.toNat (psize w h p).2.toNat r := by
  rcases psize_eq hw hh hp with e | ⟨e, z | z⟩
  · rw [e]
  · rw [e, z]; exact (gridPl_zero ..).trans rfl
  · rw [e, z]; rfl
theorem grid_bd {w h p : Int} (hw : sideB w = true) (hh : sideB h = true) (hp : passB p = true) :
    ∀ a ∈ gridPl w (pstep p).2.2.1 (pstep p).2.2.2 (pstep p).1 (psize w h p).1.toNat (psize w h p).2.toNat (pstep p).2.1, 0 ≤ a ∧ a < w * h := by
  have b := pstep_bd hp
  have hw' := (sideB_iff w).mp hw
  have hh' := (sideB_iff h).mp hh
  have b1 := cnt_bd (n := w) b.2.2.2.2.1 b.1 hw'.2
  have b2 := cnt_bd (n := h) b.2.2.2.2.2.1 b.2.2.1 hh'.2
  rw [← grid_eq hw hh hp]
  exact gridPl_bd b.2.2.2.2.1 b.2.2.2.2.2.1 w h _ b.1 (by omega) hw'.2 _ (by omega) _ _ b.2.2.1 (by omega)
theorem passB_nat {p : Nat} (h : p < 7) : passB (p : Int) = true := by rw [passB_iff]; omega

theorem str_append (xs ys : List Int) : strOfNums xs ++ strOfNums ys = strOfNums (xs ++ ys) := by
  apply ByteArray.ext
  apply Array.ext'
  rw [ByteArray.data_append, Array.toList_append, strOfNums_data, strOfNums_data, strOfNums_data, List.map_append]
theorem str_nil : (⟨#[]⟩ : ByteArray) = strOfNums [] := rfl
theorem str_size (xs : List Int) : (strOfNums xs).size = xs.length := strOfNums_size xs

def depthB (d : Int) : Bool := smallD d || bigD d
theorem depthB_nat {d : Int} (h : depthB d = true) : ∃ D : Nat, d = D ∧ (D = 1 ∨ D = 2 ∨ D = 4 ∨ D = 8 ∨ D = 16) := by
  simp [depthB, smallD, bigD] at h
  rcases h with h | h
  · rcases h with (h | h) | h <;> subst h
    · exact ⟨1, rfl, by omega⟩
    · exact ⟨2, rfl, by omega⟩
    · exact ⟨4, rfl, by omega⟩
  · rcases h with h | h <;> subst h
    · exact ⟨8, rfl, by omega⟩
    · exact ⟨16, rfl, by omega⟩
/-- Bit t of the samples, the highest of each first. -/
def bitF (xs : List Int) (D t : Nat) : Int := if t < xs.length * D then xs.getD (t / D) 0 / 2 ^ (D - 1 - t % D) % 2 else 0
theorem bitF_bd (xs : List Int) (D t : Nat) : 0 ≤ bitF xs D t ∧ bitF xs D t ≤ 1 := by unfold bitF; split <;> omega
theorem bitF_at (xs : List Int) (D i k : Nat) (hi : i < xs.length) (hk : k < D) : bitF xs D (i * D + k) = xs[i] / 2 ^ (D - 1 - k) % 2 := by
  have h1 : (i * D + k) / D = i := by
    rw [Nat.mul_comm, Nat.mul_add_div (by omega), Nat.div_eq_of_lt hk, Nat.add_zero]
  have h2 : (i * D + k) % D = k := by
    rw [Nat.mul_comm, Nat.mul_add_mod, Nat.mod_eq_of_lt hk]
  have h3 : i * D + k < xs.length * D := by
    have : (i + 1) * D ≤ xs.length * D := Nat.mul_le_mul_right _ hi
    rw [Nat.succ_mul] at this; omega
  unfold bitF
  rw [if_pos h3, h1, h2]
  simp [List.getD, hi]
theorem bitF_past (xs : List Int) (D t : Nat) (h : xs.length * D ≤ t) : bitF xs D t = 0 := by
  unfold bitF; rw [if_neg (by omega)]
/-- Eight bits as a byte. -/
def byteV (f : Nat → Int) (j : Nat) : Int := f (8 * j) * 128 + f (8 * j + 1) * 64 + f (8 * j + 2) * 32 + f (8 * j + 3) * 16 + f (8 * j + 4) * 8 + f (8 * j + 5) * 4 + f (8 * j + 6) * 2 + f (8 * j + 7)
def isBits (f : Nat → Int) : Prop := ∀ t, 0 ≤ f t ∧ f t ≤ 1
theorem byteV_bd {f : Nat → Int} (h : isBits f) (j : Nat) : 0 ≤ byteV f j ∧ byteV f j ≤ 255 := by
  have := h (8 * j); have := h (8 * j + 1); have := h (8 * j + 2); have := h (8 * j + 3); have := h (8 * j + 4); have := h (8 * j + 5); have := h (8 * j + 6); have := h (8 * j + 7)
  unfold byteV; omega
def bytesV (f : Nat → Int) (N : Nat) : List Int := (List.range N).map (byteV f)
theorem bytesV_len (f : Nat → Int) (N : Nat) : (bytesV f N).length = N := by simp [bytesV]
theorem bytesV_get (f : Nat → Int) (N j : Nat) (h : j < N) : rd (bytesV f N) j = byteV f j := by
  rw [rd_at _ _ (by rw [bytesV_len]; exact h)]; simp [bytesV]
theorem bytesV_succ (f : Nat → Int) (N : Nat) : bytesV f (N + 1) = bytesV f N ++ [byteV f N] := by simp [bytesV, List.range_succ]
/-- How many bytes so many bits need. -/
def upN (n : Nat) : Nat := (n + 7) / 8
def packRow (xs : List Int) (d : Int) : ByteArray × Bool :=
  if depthB d && decide (xs.length ≤ 96) && xs.all (inB (p2 d - 1)) then (strOfNums (bytesV (bitF xs d.toNat) (upN (xs.length * d.toNat))), true) else (⟨#[]⟩, false)

theorem dok_depth {c d : Int} (h : dok c d = true) : depthB d = true := by
  have e8 : (d == 8) = true → bigD d = true := by intro e; unfold bigD; rw [e]; rfl
  unfold dok at h
  unfold depthB
  by_cases h0 : c = 0
  · rw [if_pos h0] at h; exact h
  · rw [if_neg h0] at h
    by_cases h3 : c = 3
    · rw [if_pos h3] at h
      rw [Bool.or_eq_true] at h ⊢
      exact h.imp_right e8
    · rw [if_neg h3] at h
      have hb : bigD d = true := by
        by_cases h2 : c = 2
        · rw [if_pos h2] at h; exact h
        · rw [if_neg h2] at h
          by_cases h4 : c = 4
          · rw [if_pos h4] at h; exact h
          · rw [if_neg h4] at h
            by_cases h6 : c = 6
            · rw [if_pos h6] at h; exact h
            · rw [if_neg h6] at h; cases h
      rw [hb, Bool.or_true]
theorem depth_bd {d : Int} (h : depthB d = true) : 1 ≤ d ∧ d ≤ 16 := by
  obtain ⟨D, rfl, h⟩ := depthB_nat h
  omega

def absD (x : Int) : Int := if x < 0 then -x else x
def inR (x : Int) : Bool := decide (-1000 ≤ x) && decide (x ≤ 1000)
/-- Paeth of numbers that are not too great. -/
def paeth (a b c : Int) : Int := if absD (b + a - c - a) ≤ absD (a + b - c - b) ∧ absD (b + a - c - a) ≤ absD (a + b - c - c) then a else if absD (a + b - c - b) ≤ absD (a + b - c - c) then b else c
def paethAll (a b c : Int) : Int := if inR a && inR b && inR c then paeth a b c else 0
theorem inR_iff (x : Int) : inR x = true ↔ -1000 ≤ x ∧ x ≤ 1000 := by simp [inR]

def filterB (d : Int) (s t : ByteArray) (u : Int) : Bool := decide (0 ≤ d) && decide (d ≤ 4) && decide (1 ≤ u) && decide (u ≤ 8) && decide (s.size = t.size) && decide (s.size ≤ 200)
theorem filterB_iff (d : Int) (s t : ByteArray) (u : Int) : filterB d s t u = true ↔ ((((0 ≤ d ∧ d ≤ 4) ∧ 1 ≤ u) ∧ u ≤ 8) ∧ s.size = t.size) ∧ s.size ≤ 200 := by simp [filterB, and_assoc]
def guess (d a b c : Int) : Int := if d = 1 then a else if d = 2 then b else if d = 3 then (a + b) / 2 else if d = 4 then paethAll a b c else 0
/-- What is foretold at place i. -/
def says (d : Int) (xs : List Int) (t : ByteArray) (u i : Nat) : Int := guess d (if u ≤ i then rd xs ((i - u : Nat) : Int) else 0) (bt t i) (if u ≤ i then bt t ((i - u : Nat) : Int) else 0)
theorem paethAll_bd {a b c : Int} (ha : 0 ≤ a ∧ a ≤ 255) (hb : 0 ≤ b ∧ b ≤ 255) (hc : 0 ≤ c ∧ c ≤ 255) : 0 ≤ paethAll a b c ∧ paethAll a b c ≤ 255 := by
  unfold paethAll paeth
  split
  · split
    · exact ha
    · split
      · exact hb
      · exact hc
  · omega
theorem guess_bd {d a b c : Int} (ha : 0 ≤ a ∧ a ≤ 255) (hb : 0 ≤ b ∧ b ≤ 255) (hc : 0 ≤ c ∧ c ≤ 255) : 0 ≤ guess d a b c ∧ guess d a b c ≤ 255 := by
  have := paethAll_bd ha hb hc
  unfold guess
  split
  · exact ha
  · split
    · exact hb
    · split
      · omega
      · split
        · exact this
        · omega
def Bytes (xs : List Int) : Prop := ∀ x ∈ xs, 0 ≤ x ∧ x ≤ 255
theorem rd_bd {xs : List Int} (h : Bytes xs) (i : Int) : 0 ≤ rd xs i ∧ rd xs i ≤ 255 := by
  unfold rd
  rw [List.getD_eq_getElem?_getD]
  cases e : xs[i.toNat]? with
  | none => simp
  | some x => simpa using h x (List.mem_of_getElem? e)
theorem bytesOf_Bytes (s : ByteArray) : Bytes (bytesOf s) := by
  intro x hx
  unfold bytesOf at hx
  obtain ⟨b, _, rfl⟩ := List.mem_map.mp hx
  have := b.toNat_lt
  omega
theorem says_bd {d : Int} {xs : List Int} (h : Bytes xs) (t : ByteArray) (u i : Nat) : 0 ≤ says d xs t u i ∧ says d xs t u i ≤ 255 := by
  unfold says
  refine guess_bd ?_ (bt_range t i) ?_
  · split
    · exact rd_bd h _
    · omega
  · split
    · exact bt_range _ _
    · omega
def filtL (d : Int) (s t : ByteArray) (u n : Nat) : List Int := (List.range n).map fun (j : Nat) => (bt s j - says d (bytesOf s) t u j) % 256
theorem filtL_len (d : Int) (s t : ByteArray) (u n : Nat) : (filtL d s t u n).length = n := by simp [filtL]
theorem filtL_succ (d : Int) (s t : ByteArray) (u n : Nat) : filtL d s t u (n + 1) = filtL d s t u n ++ [(bt s n - says d (bytesOf s) t u n) % 256] := by simp [filtL, List.range_succ]
def filterRow (d : Int) (s t : ByteArray) (u : Int) : ByteArray × Bool := if filterB d s t u then (strOfNums (filtL d s t u.toNat s.size), true) else (⟨#[]⟩, false)
theorem bytesOf_len (s : ByteArray) : (bytesOf s).length = s.size := by
  unfold bytesOf; rw [List.length_map, Array.length_toList]; rfl

theorem bytesOf_str' (xs : List Int) (hx : Bytes xs) : bytesOf (strOfNums xs) = xs := by
  unfold bytesOf
  rw [strOfNums_data, List.map_map]
  refine (List.map_congr_left (g := id) ?_).trans (List.map_id _)
  intro x hm
  have := hx x hm
  simp only [Function.comp, UInt8.toNat_ofNat', id]
  omega
theorem str_bytesOf' (s : ByteArray) : strOfNums (bytesOf s) = s := by
  apply ByteArray.ext
  apply Array.ext'
  rw [strOfNums_data]
  unfold bytesOf
  rw [List.map_map]
  have : (fun n : Int => UInt8.ofNat n.toNat) ∘ (fun b : UInt8 => (b.toNat : Int)) = id := by
    funext b; simp
  rw [this, List.map_id]

structure PieceOk (w h c d : Int) (xs : List Int) : Prop where
  hw : 0 ≤ w ∧ w ≤ 24
  hh : 0 ≤ h ∧ h ≤ 24
  hd : depthB d = true
  hl : (xs.length : Int) = w * h * chan c
  ha : xs.all (inB (p2 d - 1)) = true
def rowS (xs : List Int) (m d : Int) (j : Nat) : ByteArray := (packRow (smp xs m j) d).1
def rowsL (xs : List Int) (m d : Int) (j n : Nat) : List ByteArray := (List.range' j n).map (rowS xs m d)
def zeroS (n : Nat) : ByteArray := strOfNums (List.replicate n 0)
def unitV (c d : Int) : Int := mx 1 (chan c * d / 8)
theorem rowsL_len (xs : List Int) (m d : Int) (j n : Nat) : (rowsL xs m d j n).length = n := by simp [rowsL]
theorem piece_bd {w h c d : Int} {xs : List Int} (ok : PieceOk w h c d xs) : 0 ≤ w * chan c ∧ w * chan c ≤ 96 ∧ xs.length ≤ 2304 := by
  have b := chan_bd c
  have b1 := mul_bd ok.hw.1 ok.hw.2 b.1 b.2
  have b2 := mul_bd ok.hw.1 ok.hw.2 ok.hh.1 ok.hh.2
  have b3 := mul_bd b2.1 b2.2 b.1 b.2
  have := ok.hl
  omega
theorem piece_at {w h c d : Int} {xs : List Int} (ok : PieceOk w h c d xs) (j : Nat) (hj : (j : Int) < h) : 0 ≤ (j : Int) * (w * chan c) ∧ (j : Int) * (w * chan c) + w * chan c ≤ xs.length := by
  have b := piece_bd ok
  exact plc_bd (WH := h) (a := j) ⟨by omega, hj⟩ b.1 (by rw [ok.hl, Int.mul_comm w h, Int.mul_assoc])
theorem rowS_size {w h c d : Int} {xs : List Int} (ok : PieceOk w h c d xs) (j : Nat) (hj : (j : Int) < h) : (rowS xs (w * chan c) d j).size = upN ((w * chan c).toNat * d.toNat) := by
  have b := piece_bd ok
  have p := piece_at ok j hj
  have sl := smp_len xs (w * chan c) j b.1 (by omega) p.2
  have al : (smp xs (w * chan c) j).all (inB (p2 d - 1)) = true := by
    have := ok.ha
    rw [List.all_eq_true] at this ⊢
    intro x hx
    exact this x (List.mem_of_mem_take (List.mem_of_mem_drop hx))
  unfold rowS packRow
  rw [if_pos (by rw [ok.hd, al, sl]; simp; omega)]
  simp only
  rw [strOfNums_size, bytesV_len, sl]
theorem unit_bd {c d : Int} (hd : depthB d = true) : 0 ≤ chan c * d ∧ chan c * d ≤ 64 := by
  have b := chan_bd c
  have e := depth_bd hd
  exact mul_bd b.1 b.2 (by omega) e.2

def lightOf (c : Int) : Int := if c > 127 then 256 - c else c
theorem mn_light (c : Int) (h : 0 ≤ c) (h' : c ≤ 255) : mn c (256 - c) = lightOf c := by unfold mn lightOf; split <;> split <;> omega
/-- What the first n bytes weigh. -/
def weigh (s : ByteArray) : Nat → Int
  | 0 => 0
  | n + 1 => weigh s n + lightOf (bt s n)
theorem weigh_bd (s : ByteArray) (n : Nat) : 0 ≤ weigh s n ∧ weigh s n ≤ 128 * n := by
  induction n with
  | zero => simp [weigh]
  | succ n ih => have := bt_range s n; simp only [weigh, lightOf]; split <;> omega

theorem filterRow_size (d : Int) (s t : ByteArray) (u : Int) : (filterRow d s t u).1.size ≤ 200 := by
  unfold filterRow
  split
  · rename_i h
    have q := (filterB_iff d s t u).mp h
    simp only
    rw [strOfNums_size, filtL_len]; omega
  · simp only; decide
def wtR (z : ByteArray) : Int := if z.size ≤ 200 then weigh z z.size else -1
def bestV (s t : ByteArray) (u : Int) : Nat → Nat → Int → Int → Int × Bool
  | 0, _, b, _ => (b, true)
  | r + 1, i, b, w => if (filterRow i s t u).2 = true then (if w < 0 then bestV s t u r (i + 1) i (wtR (filterRow i s t u).1) else if wtR (filterRow i s t u).1 < w then bestV s t u r (i + 1) i (wtR (filterRow i s t u).1) else bestV s t u r (i + 1) b w) else (0, false)
def bestF (s t : ByteArray) (u : Int) : Int := (bestV s t u 5 0 0 (-1)).1

def scanL (m u : Int) : List ByteArray → ByteArray → List Int
  | [], _ => []
  | r :: rs, above =>
    let f := if m = 5 then bestF r above u else m
    f % 256 :: (bytesOf (filterRow f r above u).1 ++ scanL m u rs r)
def pieceL (w h c d : Int) (xs : List Int) (m : Int) : List Int := scanL m (unitV c d) (rowsL xs (w * chan c) d 0 h.toNat) (zeroS (upN ((w * chan c).toNat * d.toNat)))
theorem scanL_len (m u : Int) (rs : List ByteArray) : ∀ above, (scanL m u rs above).length ≤ 201 * rs.length := by
  induction rs with
  | nil => intro above; simp [scanL]
  | cons r rs ih =>
    intro above
    have a := ih r
    have b := filterRow_size (if m = 5 then bestF r above u else m) r above u
    simp only [scanL, List.length_cons, List.length_append, bytesOf_len]
    omega
theorem piece_len {w h c d : Int} {xs : List Int} (ok : PieceOk w h c d xs) (m : Int) : (pieceL w h c d xs m).length ≤ 4824 := by
  have a := scanL_len m (unitV c d) (rowsL xs (w * chan c) d 0 h.toNat) (zeroS (upN ((w * chan c).toNat * d.toNat)))
  rw [rowsL_len] at a
  have := ok.hh
  unfold pieceL
  omega
theorem strApp (xs ys : List Int) (s : ByteArray) : strOfNums xs ++ (strOfNums ys ++ s) = strOfNums (xs ++ (ys ++ bytesOf s)) := by
  conv => lhs; rw [← str_bytesOf' s]
  rw [str_append, str_append]

theorem piece_mem {w h c d : Int} {xs : List Int} (ok : PieceOk w h c d xs) : ∀ r ∈ rowsL xs (w * chan c) d 0 h.toNat, r.size = upN ((w * chan c).toNat * d.toNat) := by
  intro r hr
  simp only [rowsL, List.mem_map, List.mem_range'_1] at hr
  obtain ⟨j, hj, rfl⟩ := hr
  exact rowS_size ok j (by have := ok.hh; omega)
theorem piece_Z {w h c d : Int} {xs : List Int} (ok : PieceOk w h c d xs) : (w * chan c).toNat * d.toNat ≤ 1536 := by
  have b := piece_bd ok
  have e := depth_bd ok.hd
  exact Nat.mul_le_mul (show (w * chan c).toNat ≤ 96 by omega) (show d.toNat ≤ 16 by omega)

def unfL (d : Int) (s t : ByteArray) (u : Nat) : Nat → List Int
  | 0 => []
  | n + 1 => unfL d s t u n ++ [(bt s n + says d (unfL d s t u n) t u n) % 256]
theorem unfL_len (d : Int) (s t : ByteArray) (u n : Nat) : (unfL d s t u n).length = n := by
  induction n with
  | zero => rfl
  | succ n ih => rw [unfL, List.length_append, ih]; rfl
theorem unfL_Bytes (d : Int) (s t : ByteArray) (u n : Nat) : Bytes (unfL d s t u n) := by
  induction n with
  | zero => intro x hx; cases hx
  | succ n ih =>
    intro x hx
    rw [unfL] at hx
    rcases List.mem_append.mp hx with h | h
    · exact ih x h
    · rw [List.mem_singleton.mp h]; omega
def unfilterRow (d : Int) (s t : ByteArray) (u : Int) : ByteArray × Bool := if filterB d s t u then (strOfNums (unfL d s t u.toNat s.size), true) else (⟨#[]⟩, false)
theorem says_congr (d : Int) (xs ys : List Int) (t : ByteArray) (u i : Nat) (h : u ≤ i → rd xs ((i - u : Nat) : Int) = rd ys ((i - u : Nat) : Int)) : says d xs t u i = says d ys t u i := by
  unfold says
  by_cases hu : u ≤ i
  · rw [if_pos hu, if_pos hu, if_pos hu, h hu]
  · rw [if_neg hu, if_neg hu, if_neg hu]
theorem rd_left (xs ys : List Int) (i : Nat) (h : i < xs.length) : rd (xs ++ ys) i = rd xs i := by
  rw [rd_at _ _ (by rw [List.length_append]; omega), rd_at _ _ h, List.getElem_append_left h]
theorem rd_mid (xs ys : List Int) (y : Int) (i : Nat) (h : i = xs.length) : rd (xs ++ y :: ys) i = y := by
  subst h
  rw [rd_at _ _ (by rw [List.length_append, List.length_cons]; omega), List.getElem_append_right (Nat.le_refl _)]
  simp

/-- Bit t of a text, the highest of each byte first. -/
def tbit (s : ByteArray) (t : Nat) : Int := bt s ((t / 8 : Nat) : Int) / 2 ^ (7 - t % 8) % 2
theorem tbit_bd (s : ByteArray) : isBits (tbit s) := fun t => by unfold tbit; omega
/-- The number whose bits, the highest first, are those from o on. -/
def valF (g : Nat → Int) (o : Nat) : Nat → Int
  | 0 => 0
  | k + 1 => 2 * valF g o k + g (o + k)
theorem valF_bd {g : Nat → Int} (h : isBits g) (o k : Nat) : 0 ≤ valF g o k ∧ valF g o k < 2 ^ k := by
  induction k with
  | zero => simp [valF]
  | succ k ih => have := h (o + k); simp only [valF, Int.pow_succ]; omega
def unpackL (s : ByteArray) (n D : Nat) : List Int := (List.range n).map fun i => valF (tbit s) (i * D) D
theorem unpackL_len (s : ByteArray) (n D : Nat) : (unpackL s n D).length = n := by simp [unpackL]
theorem unpackL_succ (s : ByteArray) (n D : Nat) : unpackL s (n + 1) D = unpackL s n D ++ [valF (tbit s) (n * D) D] := by simp [unpackL, List.range_succ]
def countB (n : Int) : Bool := decide (0 ≤ n) && decide (n ≤ 96)
def unpackRow (s : ByteArray) (n d : Int) : List Int × Bool :=
  if depthB d && countB n && decide (s.size = upN (n.toNat * d.toNat)) then (unpackL s n.toNat d.toNat, true) else ([], false)
theorem unpackRow_len (s : ByteArray) (n d : Int) : (unpackRow s n d).1.length ≤ 96 := by
  unfold unpackRow
  split
  · rename_i h
    simp [countB] at h
    rw [unpackL_len]; omega
  · simp
theorem pow16 {k : Nat} (h : k ≤ 16) : (2 : Int) ^ k ≤ 65536 := by
  have := p2_16 (n := (k : Int)) (by omega)
  simpa [p2] using this

theorem psize_bd0 (w h p : Int) : (0 ≤ (psize w h p).1 ∧ (psize w h p).1 ≤ 24) ∧ (0 ≤ (psize w h p).2 ∧ (psize w h p).2 ≤ 24) ∧ ((psize w h p).1 = 0 → (psize w h p).2 = 0) := by
  unfold psize
  split
  · rename_i q
    simp only [Bool.and_eq_true, sideB_iff] at q
    have b := pstep_bd q.2
    have c1 := cnt_bd (n := w) b.2.2.2.2.1 b.1 q.1.1.2
    have c2 := cnt_bd (n := h) b.2.2.2.2.2.1 b.2.2.1 q.1.2.2
    split
    · simp
    · rename_i n; exact ⟨c1, c2, fun e => absurd (Or.inl e) n⟩
  · simp
/-- The sizes of a raster's pieces. -/
def pieces (w h : Int) (lace : Bool) : List (Int × Int) := if lace then (List.range 7).map (fun (p : Nat) => psize w h p) else [(w, h)]
def pieceB (a : Int × Int) : Prop := (0 ≤ a.1 ∧ a.1 ≤ 24) ∧ (0 ≤ a.2 ∧ a.2 ≤ 24) ∧ (a.1 = 0 → a.2 = 0)
theorem pieces_bd {w h : Int} (hw : sideB w = true) (hh : sideB h = true) (lace : Bool) : ∀ a ∈ pieces w h lace, pieceB a := by
  intro a ha
  rw [sideB_iff] at hw hh
  unfold pieces at ha
  split at ha
  · obtain ⟨p, _, rfl⟩ := List.mem_map.1 ha
    exact psize_bd0 w h p
  · rw [List.mem_singleton.1 ha]
    exact ⟨⟨by show 0 ≤ w; omega, by show w ≤ 24; omega⟩, ⟨by show 0 ≤ h; omega, by show h ≤ 24; omega⟩, fun e => by have : w = 0 := e; omega⟩
theorem pieces_len (w h : Int) (lace : Bool) : (pieces w h lace).length ≤ 7 := by unfold pieces; split <;> simp
theorem rowBytes_bd (w c d : Int) : 0 ≤ rowBytes w c d ∧ rowBytes w c d ≤ 192 := by
  unfold rowBytes
  split
  · rename_i q
    simp only [Bool.and_eq_true] at q
    have := row_bd q.1 q.2
    unfold upB; omega
  · omega
def pieceN (c d : Int) (a : Int × Int) : Int := a.2 * (1 + rowBytes a.1 c d)
theorem pieceN_bd (c d : Int) {a : Int × Int} (h : pieceB a) : 0 ≤ pieceN c d a ∧ pieceN c d a ≤ 24 * 193 := by
  have r := rowBytes_bd a.1 c d
  exact mul_bd h.2.1.1 h.2.1.2 (by omega) (by omega)
def piecesN (c d : Int) : List (Int × Int) → Int
  | [] => 0
  | a :: r => pieceN c d a + piecesN c d r
theorem piecesN_drop (c d : Int) (xs : List (Int × Int)) (i : Nat) (h : i < xs.length) : piecesN c d (xs.drop i) = pieceN c d xs[i] + piecesN c d (xs.drop (i + 1)) := by
  rw [List.drop_eq_getElem_cons h]; rfl
def scanBytes (w h c d : Int) (lace : Bool) : Int := if sideB w && sideB h && dok c d then piecesN c d (pieces w h lace) else 0

theorem b_ext {s t : ByteArray} (h : bytesOf s = bytesOf t) : s = t := by rw [← str_bytesOf' s, h, str_bytesOf']
theorem b_extract (s : ByteArray) (a b : Nat) : bytesOf (s.extract a b) = ((bytesOf s).drop a).take (b - a) := by
  unfold bytesOf
  rw [ByteArray.data_extract, Array.toList_extract, List.map_take, List.map_drop]
theorem b_bt (s : ByteArray) (a b i : Nat) (h : a + i < min b s.size) : bt (s.extract a b) (i : Int) = bt s ((a + i : Nat) : Int) := by
  have h1 : (i : Int).toNat < (s.extract a b).size := by rw [ByteArray.size_extract]; simp; omega
  have h2 : ((a + i : Nat) : Int).toNat < s.size := by simp; omega
  rw [← bt_at _ _ h1, ← bt_at _ _ h2]
  simp only [Int.toNat_natCast]
  rw [ByteArray.getElem_extract]
theorem b_cut (s : ByteArray) (a i j : Nat) (h : a + j ≤ s.size) : (s.extract a s.size).extract i j = s.extract (a + i) (a + j) := by
  apply b_ext
  rw [b_extract, b_extract, b_extract, List.drop_take, List.take_take, List.drop_drop]
  congr 1
  omega
theorem b_all (s : ByteArray) : s.extract 0 s.size = s := by
  apply b_ext
  rw [b_extract, List.drop_zero, List.take_of_length_le (by rw [bytesOf_len]; omega)]
theorem b_size (s : ByteArray) (a : Nat) (h : a ≤ s.size) : (s.extract a s.size).size = s.size - a := by rw [ByteArray.size_extract]; omega

/-- Rows read one behind the other from place pos on. -/
def readR (s : ByteArray) (w c d : Int) (rb : Nat) : Nat → Nat → ByteArray → List Int → Option (List Int)
  | 0, _, _, out => some out
  | r + 1, pos, above, out =>
    if (unfilterRow (bt s (pos : Int)) (s.extract (pos + 1) (pos + 1 + rb)) above (unitV c d)).2 = true then
      readR s w c d rb r (pos + 1 + rb) (unfilterRow (bt s (pos : Int)) (s.extract (pos + 1) (pos + 1 + rb)) above (unitV c d)).1 (out ++ (unpackRow (unfilterRow (bt s (pos : Int)) (s.extract (pos + 1) (pos + 1 + rb)) above (unitV c d)).1 (w * chan c) d).1)
    else none
theorem unfilterRow_size (d : Int) (s t : ByteArray) (u : Int) : (unfilterRow d s t u).1.size ≤ 200 := by
  unfold unfilterRow
  split
  · rename_i h
    have q := (filterB_iff d s t u).mp h
    have l : ∀ n, (unfL d s t u.toNat n).length = n := by
      intro n
      induction n with
      | zero => rfl
      | succ n ih => simp [unfL, ih]
    simp only
    rw [strOfNums_size, l]; omega
  · simp only; decide

theorem filtL_Bytes (d : Int) (s t : ByteArray) (u n : Nat) : Bytes (filtL d s t u n) := by
  intro x hx
  unfold filtL at hx
  obtain ⟨j, _, rfl⟩ := List.mem_map.mp hx
  omega
theorem filtL_at (d : Int) (s t : ByteArray) (u n i : Nat) (h : i < n) : rd (filtL d s t u n) i = (bt s i - says d (bytesOf s) t u i) % 256 := by
  rw [rd_at _ _ (by rw [filtL_len]; exact h)]
  simp [filtL]
theorem unf_filt (d : Int) (s t : ByteArray) (u : Nat) (f : ByteArray) (hf : f = strOfNums (filtL d s t u s.size)) (hu : 1 ≤ u) (n : Nat) : n ≤ s.size → unfL d f t u n = (bytesOf s).take n := by
  have hl := bytesOf_len s
  induction n with
  | zero => intro _; simp [unfL]
  | succ n ih =>
    intro hn
    have b := bt_range s n
    have e := ih (by omega)
    have ef : bytesOf f = filtL d s t u s.size := by rw [hf]; exact bytesOf_str' _ (filtL_Bytes d s t u s.size)
    have bf : bt f n = (bt s n - says d (bytesOf s) t u n) % 256 := by rw [← rd_bytesOf, ef, filtL_at d s t u _ n (by omega)]
    have sy : says d ((bytesOf s).take n) t u n = says d (bytesOf s) t u n := by
      refine says_congr d _ _ t u n (fun h => ?_)
      have lt : n - u < ((bytesOf s).take n).length := by rw [List.length_take]; omega
      rw [rd_at _ _ lt, rd_at _ _ (by omega), List.getElem_take]
    rw [unfL, e, sy, bf, List.take_succ_eq_append_getElem (by omega), ← rd_at (bytesOf s) n (by omega), rd_bytesOf]
    congr 2
    omega

theorem bt_str (xs : List Int) (i : Nat) (h : i < xs.length) (h0 : 0 ≤ xs[i]) (h1 : xs[i] ≤ 255) : bt (strOfNums xs) i = xs[i] := by
  have hs : (i : Int).toNat < (strOfNums xs).size := by rw [str_size]; simpa using h
  rw [← bt_at (strOfNums xs) i hs]
  have e : (strOfNums xs)[(i : Int).toNat]'hs = UInt8.ofNat xs[i].toNat := by
    have := strOfNums_data xs
    have q : (strOfNums xs).data.toList[i]? = some (UInt8.ofNat xs[i].toNat) := by rw [this]; simp [h]
    rw [ByteArray.getElem_eq_getElem_data]
    simp only [Array.getElem?_toList] at q
    obtain ⟨_, h⟩ := Array.getElem?_eq_some_iff.1 q
    simpa using h
  rw [e]
  simp
  omega
/-- The bits of bytes that were made of bits. -/

theorem tbit_bytes {f : Nat → Int} (hf : isBits f) (N t : Nat) (h : t < 8 * N) : tbit (strOfNums (bytesV f N)) t = f t := by
  have hl : t / 8 < (bytesV f N).length := by rw [bytesV_len]; omega
  have e : (bytesV f N)[t / 8] = byteV f (t / 8) := by simp [bytesV]
  have b := byteV_bd hf (t / 8)
  unfold tbit
  rw [bt_str _ _ hl (by rw [e]; omega) (by rw [e]; omega), e]
  obtain ⟨q, m, rfl, hm⟩ : ∃ q m, t = 8 * q + m ∧ m < 8 := ⟨t / 8, t % 8, by omega, by omega⟩
  rw [show (8 * q + m) / 8 = q by omega, show (8 * q + m) % 8 = m by omega]
  unfold byteV
  have h0 := hf (8 * q); have h1 := hf (8 * q + 1); have h2 := hf (8 * q + 2); have h3 := hf (8 * q + 3); have h4 := hf (8 * q + 4); have h5 := hf (8 * q + 5); have h6 := hf (8 * q + 6); have h7 := hf (8 * q + 7)
  have : m = 0 ∨ m = 1 ∨ m = 2 ∨ m = 3 ∨ m = 4 ∨ m = 5 ∨ m = 6 ∨ m = 7 := by omega
  rcases this with rfl | rfl | rfl | rfl | rfl | rfl | rfl | rfl <;> simp <;> omega
theorem valF_congr {f g : Nat → Int} (o k : Nat) (h : ∀ j, j < k → f (o + j) = g (o + j)) : valF f o k = valF g o k := by
  induction k with
  | zero => rfl
  | succ k ih =>
    simp only [valF]
    rw [ih (fun j hj => h j (by omega)), h k (by omega)]
theorem valF_bits (xs : List Int) (D i : Nat) (hi : i < xs.length) (h0 : 0 ≤ xs[i]) (h1 : xs[i] < 2 ^ D) (k : Nat) (hk : k ≤ D) : valF (bitF xs D) (i * D) k = xs[i] / 2 ^ (D - k) := by
  induction k with
  | zero =>
    simp only [valF, Nat.sub_zero]
    rw [Int.ediv_eq_zero_of_lt h0 h1]
  | succ k ih =>
    simp only [valF]
    rw [ih (by omega), bitF_at xs D i k hi (by omega)]
    have e : D - k = (D - 1 - k) + 1 := by omega
    rw [e, Int.pow_succ, ← Int.ediv_ediv_of_nonneg (by exact_mod_cast Nat.zero_le _), show D - (k + 1) = D - 1 - k by omega]
    generalize xs[i] / 2 ^ (D - 1 - k) = y
    omega
/-- Samples come back from their bytes. -/
theorem unpack_pack (xs : List Int) (d : Int) (h : (packRow xs d).2 = true) : unpackRow (packRow xs d).1 xs.length d = (xs, true) ∧ ∃ D : Nat, d = D ∧ D ≤ 16 ∧ xs.length ≤ 96 ∧ (packRow xs d).1.size = upN (xs.length * D) := by
  unfold packRow at h ⊢
  split at h
  · rename_i q
    rw [if_pos q]
    simp only [Bool.and_eq_true, decide_eq_true_eq] at q
    obtain ⟨⟨hd, hn⟩, ha⟩ := q
    obtain ⟨D, rfl, hD⟩ := depthB_nat hd
    simp only [Int.toNat_natCast]
    have sz : (strOfNums (bytesV (bitF xs D) (upN (xs.length * D)))).size = upN (xs.length * D) := by rw [str_size, bytesV_len]
    refine ⟨?_, D, rfl, by omega, hn, sz⟩
    unfold unpackRow
    have cb : countB (xs.length : Int) = true := by simp [countB]; omega
    rw [if_pos (by rw [hd, cb, sz]; simp)]
    congr 1
    unfold unpackL
    apply List.ext_getElem (by simp)
    intro i h1 h2
    have lt : i < xs.length := h2
    simp only [List.getElem_map, List.getElem_range, Int.toNat_natCast]
    have top : (i + 1) * D ≤ xs.length * D := Nat.mul_le_mul_right _ lt
    have topi : (i + 1) * D = i * D + D := Nat.succ_mul _ _
    have hb := List.all_eq_true.1 ha xs[i] (List.getElem_mem lt)
    simp only [inB, Bool.and_eq_true, decide_eq_true_eq] at hb
    rw [valF_congr (i * D) D (fun j hj => tbit_bytes (bitF_bd xs D) _ _ (by unfold upN; omega)), valF_bits xs D i lt hb.1 (by have := hb.2; unfold p2 at this; rw [Int.toNat_natCast] at this; omega) D (Nat.le_refl _), Nat.sub_self]
    simp
  · simp at h

theorem filterB_any' (s t : ByteArray) (u : Int) (d : Int) (h0 : 0 ≤ d) (hd : d ≤ 4) : filterB d s t u = filterB 0 s t u := by
  rw [Bool.eq_iff_iff, filterB_iff, filterB_iff]; omega
theorem round_trip' (d : Int) (h0 : 0 ≤ d) (hd : d ≤ 4) (s t : ByteArray) (u : Int) (ok : filterB 0 s t u = true) : unfilterRow d (filterRow d s t u).1 t u = (s, true) ∧ (filterRow d s t u).1.size = s.size := by
  have ok' : filterB d s t u = true := by rw [filterB_any' s t u d h0 hd]; exact ok
  have q := (filterB_iff d s t u).mp ok'
  have hl := bytesOf_len s
  obtain ⟨f, hf⟩ : ∃ f, f = strOfNums (filtL d s t u.toNat s.size) := ⟨_, rfl⟩
  have e1 : (filterRow d s t u).1 = f := by unfold filterRow; rw [if_pos ok', hf]
  have sz : f.size = s.size := by rw [hf, strOfNums_size, filtL_len]
  have ok2 : filterB d f t u = true := by rw [filterB_iff]; omega
  rw [e1]
  refine ⟨?_, sz⟩
  unfold unfilterRow
  rw [if_pos ok2, sz, unf_filt d s t u.toNat f hf (by omega) s.size (Nat.le_refl _), List.take_of_length_le (by omega), str_bytesOf']
theorem bestV_bd (s t : ByteArray) (u : Int) (r : Nat) : ∀ (i : Nat) (b w : Int), i + r = 5 → 0 ≤ b ∧ b ≤ 4 → 0 ≤ (bestV s t u r i b w).1 ∧ (bestV s t u r i b w).1 ≤ 4 := by
  induction r with
  | zero => intro i b w _ hb; exact hb
  | succ r ih =>
    intro i b w hi hb
    rw [bestV]
    split
    · split
      · exact ih (i + 1) i _ (by omega) (by omega)
      · split
        · exact ih (i + 1) i _ (by omega) (by omega)
        · exact ih (i + 1) b w (by omega) hb
    · exact ⟨by decide, by decide⟩
theorem bestF_bd (s t : ByteArray) (u : Int) : 0 ≤ bestF s t u ∧ bestF s t u ≤ 4 := bestV_bd s t u 5 0 0 (-1) (by omega) (by omega)
theorem unitV_bd {c d : Int} (hd : depthB d = true) : 1 ≤ unitV c d ∧ unitV c d ≤ 8 := by
  have b := unit_bd (c := c) hd
  unfold unitV mx
  split <;> omega
theorem row_back {w h c d : Int} {xs : List Int} (ok : PieceOk w h c d xs) (j : Nat) (hj : (j : Int) < h) : unpackRow (rowS xs (w * chan c) d j) (w * chan c) d = (smp xs (w * chan c) j, true) := by
  have b := piece_bd ok
  have p := piece_at ok j hj
  have sl := smp_len xs (w * chan c) j b.1 (by omega) p.2
  have al : (smp xs (w * chan c) j).all (inB (p2 d - 1)) = true := by
    have := ok.ha
    rw [List.all_eq_true] at this ⊢
    intro x hx
    exact this x (List.mem_of_mem_take (List.mem_of_mem_drop hx))
  have pk : (packRow (smp xs (w * chan c) j) d).2 = true := by
    unfold packRow
    rw [if_pos (by rw [ok.hd, al, sl]; simp; omega)]
  have q := (unpack_pack _ d pk).1
  rw [sl, Int.toNat_of_nonneg b.1] at q
  exact q
/-- Reading gives the samples back. -/
theorem readR_scan {w h c d : Int} {xs : List Int} (ok : PieceOk w h c d xs) (m : Int) (hm : 0 ≤ m ∧ m ≤ 5) (s : ByteArray) (r : Nat) : ∀ (j pos : Nat) (above : ByteArray) (out A B : List Int), (j : Int) + r = h → above.size = upN ((w * chan c).toNat * d.toNat) → bytesOf s = A ++ (scanL m (unitV c d) (rowsL xs (w * chan c) d j r) above ++ B) → A.length = pos →
    readR s w c d (upN ((w * chan c).toNat * d.toNat)) r pos above out = some (out ++ (List.range' j r).flatMap fun (i : Nat) => smp xs (w * chan c) i) := by
  have hh := ok.hh
  have z := piece_Z ok
  have uz := unitV_bd (c := c) ok.hd
  induction r with
  | zero => intro j pos above out A B hj ha hs hA; simp [readR]
  | succ r ih =>
    intro j pos above out A B hj ha hs hA
    have rs := rowS_size ok j (by omega)
    have rl : rowsL xs (w * chan c) d j (r + 1) = rowS xs (w * chan c) d j :: rowsL xs (w * chan c) d (j + 1) r := by simp [rowsL, List.range'_succ]
    have rb := row_back ok j (by omega)
    rw [rl, scanL] at hs
    generalize rowS xs (w * chan c) d j = row at rs rb hs
    obtain ⟨f, hf⟩ : ∃ f, f = (if m = 5 then bestF row above (unitV c d) else m) := ⟨_, rfl⟩
    have fb : 0 ≤ f ∧ f ≤ 4 := by
      rw [hf]
      split
      · exact bestF_bd row above (unitV c d)
      · omega
    rw [← hf] at hs
    have fok : filterB 0 row above (unitV c d) = true := by rw [filterB_iff]; unfold upN at rs ha; omega
    obtain ⟨rt, fz⟩ := round_trip' f fb.1 fb.2 row above (unitV c d) fok
    generalize hF : (filterRow f row above (unitV c d)).1 = F at rt fz hs
    have fl := bytesOf_len F
    have sl := bytesOf_len s
    have tot : s.size = A.length + (1 + (F.size + ((scanL m (unitV c d) (rowsL xs (w * chan c) d (j + 1) r) row).length + B.length))) := by
      rw [← sl, hs]
      simp only [List.length_append, List.length_cons, fl]
      omega
    have e0 : bt s (pos : Int) = f := by
      rw [← rd_bytesOf, rd_at _ pos (by omega)]
      have : (bytesOf s)[pos]? = some (f % 256) := by
        rw [hs, List.getElem?_append_right (by omega), hA, Nat.sub_self]; rfl
      rw [List.getElem?_eq_getElem (by omega)] at this
      injection this with this
      omega
    have e1 : s.extract (pos + 1) (pos + 1 + upN ((w * chan c).toNat * d.toNat)) = F := by
      apply b_ext
      rw [b_extract, hs, ← hA, show A.length + 1 + upN ((w * chan c).toNat * d.toNat) - (A.length + 1) = (bytesOf F).length from by omega,
        show A ++ (f % 256 :: (bytesOf F ++ scanL m (unitV c d) (rowsL xs (w * chan c) d (j + 1) r) row) ++ B) = (A ++ [f % 256]) ++ (bytesOf F ++ (scanL m (unitV c d) (rowsL xs (w * chan c) d (j + 1) r) row ++ B)) from by simp,
        show A.length + 1 = (A ++ [f % 256]).length from by simp, List.drop_left, List.take_left]
    rw [readR, e0, e1, rt]
    simp only [if_true]
    rw [rb]
    simp only
    rw [ih (j + 1) (pos + 1 + upN ((w * chan c).toNat * d.toNat)) row (out ++ smp xs (w * chan c) j) (A ++ (f % 256 :: bytesOf F)) B (by omega) rs (by rw [hs]; simp) (by simp only [List.length_append, List.length_cons, fl]; omega)]
    simp [List.range'_succ]

theorem raster_piece {w h c d : Int} {xs : List Int} (ok : rasterOk w h c d xs = true) : PieceOk w h c d xs := by
  simp only [rasterOk, Bool.and_eq_true, decide_eq_true_eq] at ok
  obtain ⟨⟨⟨⟨hw, hh⟩, hdk⟩, hl⟩, hall⟩ := ok
  rw [sideB_iff] at hw hh
  exact ⟨by omega, by omega, dok_depth hdk, hl, hall⟩
theorem flat_len (xs : List Int) (n : Int) (hn : 0 ≤ n) (P : List Int) (hb : ∀ a ∈ P, 0 ≤ a ∧ a * n + n ≤ xs.length) : (P.flatMap (smp xs n)).length = P.length * n.toNat := by
  induction P with
  | nil => simp
  | cons a P ih =>
    have q := hb a (List.mem_cons_self ..)
    rw [List.flatMap_cons, List.length_append, ih fun b hb' => hb b (List.mem_cons_of_mem _ hb'), smp_len xs n a hn q.1 q.2, List.length_cons, Nat.succ_mul]
    omega
theorem pass_piece {w h c d : Int} {xs : List Int} (ok : rasterOk w h c d xs = true) (p : Nat) (hp : p < 7) : PieceOk (passL w h c d xs p).f0 (passL w h c d xs p).f1 (passL w h c d xs p).f2 (passL w h c d xs p).f3 (passL w h c d xs p).f4 := by
  simp only [rasterOk, Bool.and_eq_true, decide_eq_true_eq] at ok
  obtain ⟨⟨⟨⟨hw, hh⟩, hdk⟩, hl⟩, hall⟩ := ok
  have pb := passB_nat hp
  have sb := psize_bd hw hh pb
  have gb := grid_bd hw hh pb
  have cb := chan_bd c
  have gl := gridPl_len w (pstep p).2.2.1 (pstep p).2.2.2 (pstep p).1 (psize w h p).1.toNat (psize w h p).2.toNat (pstep p).2.1
  refine ⟨⟨sb.1, sb.2.1⟩, ⟨sb.2.2.1, sb.2.2.2⟩, dok_depth hdk, ?_, ?_⟩
  · simp only [passL]
    rw [flat_len xs (chan c) cb.1 _ fun a ha => ⟨(gb a ha).1, (plc_bd (gb a ha) cb.1 hl).2⟩, gl, Int.natCast_mul, Int.natCast_mul, Int.toNat_of_nonneg cb.1, Int.toNat_of_nonneg sb.1, Int.toNat_of_nonneg sb.2.2.1]
  · simp only [passL]
    rw [List.all_eq_true] at hall ⊢
    intro x hx
    obtain ⟨a, _, ha⟩ := List.mem_flatMap.mp hx
    exact hall x (List.mem_of_mem_take (List.mem_of_mem_drop ha))
def partsL (w h c d : Int) (xs : List Int) (lace : Bool) : List S29 := if lace = true then passesL w h c d xs else [⟨w, h, c, d, xs⟩]
def pieceT (m : Int) (p : S29) : List Int := pieceL p.f0 p.f1 p.f2 p.f3 p.f4 m
def PartsOk (ps : List S29) : Prop := ps.length ≤ 7 ∧ ∀ p ∈ ps, PieceOk p.f0 p.f1 p.f2 p.f3 p.f4
theorem parts_ok {w h c d : Int} {xs : List Int} (ok : rasterOk w h c d xs = true) (lace : Bool) : PartsOk (partsL w h c d xs lace) := by
  unfold partsL
  split
  · refine ⟨by simp [passesL], fun p hp => ?_⟩
    simp only [passesL, List.mem_map, List.mem_range'_1] at hp
    obtain ⟨i, hi, rfl⟩ := hp
    exact pass_piece ok i (by omega)
  · refine ⟨by simp, fun p hp => ?_⟩
    rw [List.mem_singleton] at hp
    subst hp
    exact raster_piece ok
def scanV (w h c d : Int) (xs : List Int) (lace : Bool) (m : Int) : ByteArray × Bool := if (rasterOk w h c d xs && (decide (0 ≤ m) && decide (m ≤ 5))) = true then (strOfNums ((partsL w h c d xs lace).flatMap (pieceT m)), true) else (⟨#[]⟩, false)
theorem parts_ar {y p n : Nat} (hy : y + 5000 * (n + 1) ≤ 1000000) (hp : p ≤ 4824) : y + p ≤ 1000000 ∧ y + p + 5000 * n ≤ 1000000 := by
  rw [Nat.mul_succ] at hy
  generalize 5000 * n = z at hy ⊢
  omega

theorem rowBytes_up {w h c d : Int} {xs : List Int} (ok : PieceOk w h c d xs) (hk : dok c d = true) : rowBytes w c d = ((upN ((w * chan c).toNat * d.toNat) : Nat) : Int) := by
  have b := piece_bd ok
  have e := depth_bd ok.hd
  have hw := ok.hw
  have e1 : (((w * chan c).toNat * d.toNat : Nat) : Int) = w * chan c * d := by
    rw [Int.natCast_mul, Int.toNat_of_nonneg b.1, Int.toNat_of_nonneg (by omega)]
  unfold rowBytes
  by_cases h0 : w = 0
  · have : sideB w = false := by rw [h0]; decide
    rw [this, Bool.false_and, if_neg (by simp)]
    have z : (w * chan c).toNat = 0 := by rw [h0]; simp
    rw [z, Nat.zero_mul]
    rfl
  · have : sideB w = true := by rw [sideB_iff]; omega
    rw [this, hk, if_pos (by rfl)]
    unfold upB upN
    omega
theorem scanL_exact {w h c d : Int} {xs : List Int} (ok : PieceOk w h c d xs) (m : Int) (hm : 0 ≤ m ∧ m ≤ 5) (r : Nat) : ∀ (j : Nat) (above : ByteArray), (j : Int) + r = h → above.size = upN ((w * chan c).toNat * d.toNat) → (scanL m (unitV c d) (rowsL xs (w * chan c) d j r) above).length = r * (1 + upN ((w * chan c).toNat * d.toNat)) := by
  have hh := ok.hh
  have z := piece_Z ok
  have uz := unitV_bd (c := c) ok.hd
  induction r with
  | zero => intro j above _ _; simp [rowsL, scanL]
  | succ r ih =>
    intro j above hj ha
    have rs := rowS_size ok j (by omega)
    have rl : rowsL xs (w * chan c) d j (r + 1) = rowS xs (w * chan c) d j :: rowsL xs (w * chan c) d (j + 1) r := by simp [rowsL, List.range'_succ]
    rw [rl, scanL]
    generalize rowS xs (w * chan c) d j = row at rs
    have fb : 0 ≤ (if m = 5 then bestF row above (unitV c d) else m) ∧ (if m = 5 then bestF row above (unitV c d) else m) ≤ 4 := by
      split
      · exact bestF_bd row above (unitV c d)
      · omega
    have fok : filterB 0 row above (unitV c d) = true := by rw [filterB_iff]; unfold upN at rs ha; omega
    have fz := (round_trip' _ fb.1 fb.2 row above (unitV c d) fok).2
    simp only [List.length_cons, List.length_append, bytesOf_len]
    rw [fz, rs, ih (j + 1) row (by omega) rs, Nat.succ_mul]
    omega
theorem pieceL_exact {w h c d : Int} {xs : List Int} (ok : PieceOk w h c d xs) (m : Int) (hm : 0 ≤ m ∧ m ≤ 5) : (pieceL w h c d xs m).length = h.toNat * (1 + upN ((w * chan c).toNat * d.toNat)) := by
  have hh := ok.hh
  exact scanL_exact ok m hm h.toNat 0 _ (by omega) (by unfold zeroS; rw [strOfNums_size, List.length_replicate])
theorem flat_rows (xs : List Int) (m : Int) (hm : 0 ≤ m) (r : Nat) : ∀ j : Nat, (j + r) * m.toNat ≤ xs.length → ((List.range' j r).flatMap fun (i : Nat) => smp xs m i) = (xs.take ((j + r) * m.toNat)).drop (j * m.toNat) := by
  induction r with
  | zero =>
    intro j h
    rw [List.drop_eq_nil_of_le (by rw [List.length_take]; simp; omega)]; rfl
  | succ r ih =>
    intro j h
    have e0 : ((j : Int) * m).toNat = j * m.toNat := by
      obtain ⟨n, rfl⟩ := Int.eq_ofNat_of_zero_le hm
      rw [Int.toNat_natCast]
      have : (j : Int) * (n : Int) = ((j * n : Nat) : Int) := by push_cast; rfl
      rw [this, Int.toNat_natCast]
    have e1 : ((j : Int) * m + m).toNat = (j + 1) * m.toNat := by
      have := Int.mul_nonneg (Int.natCast_nonneg j) hm
      rw [Nat.succ_mul]; omega
    have le1 : (j + 1) * m.toNat ≤ (j + (r + 1)) * m.toNat := Nat.mul_le_mul_right _ (by omega)
    have le0 : j * m.toNat ≤ (j + 1) * m.toNat := Nat.mul_le_mul_right _ (by omega)
    rw [List.range'_succ, List.flatMap_cons, ih (j + 1) (by rw [show j + 1 + r = j + (r + 1) from by omega]; exact h)]
    unfold smp
    rw [e0, e1, show j + 1 + r = j + (r + 1) from by omega]
    have a : xs.take ((j + 1) * m.toNat) = (xs.take ((j + (r + 1)) * m.toNat)).take ((j + 1) * m.toNat) := by rw [List.take_take, Nat.min_eq_left le1]
    rw [a]
    generalize xs.take ((j + (r + 1)) * m.toNat) = L
    have b : L.drop (j * m.toNat) = (L.take ((j + 1) * m.toNat)).drop (j * m.toNat) ++ L.drop ((j + 1) * m.toNat) ∨ L.length < (j + 1) * m.toNat := by
      by_cases q : (j + 1) * m.toNat ≤ L.length
      · left
        conv => lhs; rw [← List.take_append_drop ((j + 1) * m.toNat) L]
        rw [List.drop_append_of_le_length (by rw [List.length_take]; omega)]
      · right; omega
    rcases b with b | b
    · exact b.symm
    · rw [List.take_of_length_le (by omega), show L.drop ((j + 1) * m.toNat) = [] from List.drop_eq_nil_of_le (by omega), List.append_nil]
theorem piece_all {w h c d : Int} {xs : List Int} (ok : PieceOk w h c d xs) : ((List.range' 0 h.toNat).flatMap fun (i : Nat) => smp xs (w * chan c) i) = xs := by
  have b := piece_bd ok
  have hh := ok.hh
  have e : h.toNat * (w * chan c).toNat = xs.length := by
    have : ((h.toNat * (w * chan c).toNat : Nat) : Int) = xs.length := by
      rw [Int.natCast_mul, Int.toNat_of_nonneg hh.1, Int.toNat_of_nonneg b.1, ok.hl, Int.mul_comm w h, Int.mul_assoc]
    omega
  rw [flat_rows xs (w * chan c) b.1 h.toNat 0 (by rw [Nat.zero_add, e]; exact Nat.le_refl _), Nat.zero_add, e, Nat.zero_mul, List.drop_zero, List.take_length]
theorem parts_pieces (w h c d : Int) (xs : List Int) (lace : Bool) : (partsL w h c d xs lace).map (fun p => (p.f0, p.f1)) = pieces w h lace := by
  unfold partsL pieces
  by_cases hl : lace = true
  · rw [if_pos hl, if_pos hl, passesL, List.map_map, List.range_eq_range']
    rfl
  · rw [if_neg hl, if_neg hl]; rfl

theorem impl_within_eq (a b c : Int) : impl_within.f a b c = some (decide (b ≤ a) && decide (a ≤ c)) := by
  unfold impl_within.f
  by_cases h : b ≤ a <;> simp [h]

theorem impl_distance_eq (a b : Int) (ha : -10000 ≤ a) (ha' : a ≤ 10000) (hb : -10000 ≤ b) (hb' : b ≤ 10000) : impl_distance.f a b = some (absD (b - a)) := by
  unfold impl_distance.f absD
  rw [w64 (x := a - b) (by omega) (by omega), w64 (x := b - a) (by omega) (by omega)]
  unfold mx
  split <;> split <;> congr 1 <;> omega
theorem impl_Paeth_l1 (k : Nat) (p x b c : Int) (hp : -10000 ≤ p) (hp' : p ≤ 10000) (hx : -10000 ≤ x) (hx' : x ≤ 10000) (hb : -10000 ≤ b) (hb' : b ≤ 10000) (hc : -10000 ≤ c) (hc' : c ≤ 10000) :
    impl_Paeth.l1 (k + 3) p x [b, c] 2 0 = some (if absD (p - c) < absD (p - (if absD (p - b) < absD (p - x) then b else x)) then c else if absD (p - b) < absD (p - x) then b else x) := by
  have r : ∀ (k : Nat) (y : Int) (i : Int) (z : Int), -10000 ≤ y → y ≤ 10000 → (i = 0 ∧ z = b ∨ i = 1 ∧ z = c) → impl_Paeth.l1 (k + 1) p y [b, c] 2 i = impl_Paeth.l1 k p (if absD (p - z) < absD (p - y) then z else y) [b, c] 2 (i + 1) := by
    intro k y i z hy hy' h
    have hi : 0 ≤ i ∧ i < 2 := by omega
    have hz : rd [b, c] i = z := by rcases h with ⟨rfl, rfl⟩ | ⟨rfl, rfl⟩ <;> rfl
    have hzb : -10000 ≤ z ∧ z ≤ 10000 := by rcases h with ⟨_, rfl⟩ | ⟨_, rfl⟩ <;> omega
    simp only [impl_Paeth.l1]
    rw [if_pos hi.2, if_pos hi.1, if_pos (by simpa using hi.2), hz, impl_distance_eq z p (by omega) (by omega) hp hp', impl_distance_eq y p hy hy' hp hp', w64 (by omega) (by omega)]
    simp only [Option.bind_some]
    split <;> rfl
  rw [r (k + 2) x 0 b hx hx' (.inl ⟨rfl, rfl⟩), r (k + 1) _ (0 + 1) c (by split <;> omega) (by split <;> omega) (.inr ⟨rfl, rfl⟩)]
  simp only [impl_Paeth.l1]
  rw [if_neg (by decide)]
theorem impl_Paeth_eq (k : Nat) (hk : 8 ≤ k) (a b c : Int) : impl_Paeth.f k a b c = some (paethAll a b c) := by
  obtain ⟨k, rfl⟩ : ∃ m, k = m + 8 := ⟨k - 8, by omega⟩
  unfold impl_Paeth.f paethAll
  simp only [Option.bind_some]
  have r : ∀ (k : Nat) (i z : Int), (i = 0 ∧ z = a ∨ i = 1 ∧ z = b ∨ i = 2 ∧ z = c) → impl_Paeth.l0 (k + 1) a b c [a, b, c] 3 i = if inR z = true then impl_Paeth.l0 k a b c [a, b, c] 3 (i + 1) else some 0 := by
    intro k i z h
    have hi : 0 ≤ i ∧ i < 3 := by omega
    have hz : rd [a, b, c] i = z := by rcases h with ⟨rfl, rfl⟩ | ⟨rfl, rfl⟩ | ⟨rfl, rfl⟩ <;> rfl
    simp only [impl_Paeth.l0]
    rw [if_pos hi.2, if_pos hi.1, if_pos (by simpa using hi.2), hz, impl_within_eq, w64 (by omega) (by omega)]
    rfl
  change impl_Paeth.l0 (k + 8) a b c [a, b, c] 3 0 = _
  rw [r (k + 7) 0 a (.inl ⟨rfl, rfl⟩), r (k + 6) (0 + 1) b (.inr (.inl ⟨rfl, rfl⟩)), r (k + 5) (0 + 1 + 1) c (.inr (.inr ⟨rfl, rfl⟩))]
  by_cases ha : inR a = true
  · by_cases hb : inR b = true
    · by_cases hc : inR c = true
      · simp only [ha, hb, hc, if_true, Bool.and_self]
        rw [inR_iff] at ha hb hc
        simp only [impl_Paeth.l0]
        rw [if_neg (by decide)]
        simp only [Option.bind_some]
        rw [w64 (x := a + b) (by omega) (by omega), w64 (x := a + b - c) (by omega) (by omega)]
        have := impl_Paeth_l1 (k + 1) (a + b - c) a b c (by omega) (by omega) (by omega) (by omega) (by omega) (by omega) (by omega) (by omega)
        change impl_Paeth.l1 (k + 4) (a + b - c) a [b, c] 2 0 = _
        rw [this]
        unfold paeth
        rw [show b + a - c - a = a + b - c - a by omega]
        congr 1
        by_cases h1 : absD (a + b - c - b) < absD (a + b - c - a)
        · rw [if_pos h1, if_neg (show ¬ (absD (a + b - c - a) ≤ absD (a + b - c - b) ∧ absD (a + b - c - a) ≤ absD (a + b - c - c)) by omega)]
          by_cases h2 : absD (a + b - c - c) < absD (a + b - c - b)
          · rw [if_pos h2, if_neg (by omega)]
          · rw [if_neg h2, if_pos (by omega)]
        · rw [if_neg h1]
          by_cases h2 : absD (a + b - c - c) < absD (a + b - c - a)
          · rw [if_pos h2, if_neg (by omega), if_neg (by omega)]
          · rw [if_neg h2, if_pos (by omega)]
      · simp [ha, hb, hc]
    · simp [ha, hb]
  · simp [ha]

theorem impl_filterOk_eq (d : Int) (s t : ByteArray) (u : Int) : impl_filterOk.f d s t u = some (filterB d s t u) := by
  unfold impl_filterOk.f
  rw [impl_within_eq]
  simp only [Option.bind_some]
  split
  · rename_i h1
    rw [impl_within_eq]
    simp only [Option.bind_some]
    split
    · rename_i h2
      split
      · rename_i h3
        congr 1
        rw [Bool.eq_iff_iff, filterB_iff]
        simp at h1 h2 ⊢; omega
      · rename_i h3
        congr 1
        symm
        rw [Bool.eq_false_iff, ne_eq, filterB_iff]
        omega
    · rename_i h2
      congr 1
      symm
      rw [Bool.eq_false_iff, ne_eq, filterB_iff]
      simp at h2; omega
  · rename_i h1
    congr 1
    symm
    rw [Bool.eq_false_iff, ne_eq, filterB_iff]
    simp at h1; omega
theorem impl_byteAt_eq (xs : List Int) (hx : Bytes xs) (i : Int) (h : i < xs.length) : impl_byteAt.f xs i = some (if i < 0 then 0 else rd xs i) := by
  unfold impl_byteAt.f
  have b := rd_bd hx i
  by_cases h0 : i < 0
  · rw [if_pos h0, if_pos h0]
  · rw [if_neg h0, if_neg h0, if_pos (by omega), if_pos h, w64 (by omega) (by omega)]
theorem impl_foretold_eq (d : Int) (xs : List Int) (hx : Bytes xs) (t : ByteArray) (ht : t.size ≤ 1000000) (u i : Nat) (hu : 1 ≤ u ∧ u ≤ 8) (hi : i < t.size) (hl : i < xs.length) (k : Nat) (hk : 9 ≤ k) : impl_foretold.f k d xs (bytesOf t) i u = some (says d xs t u i) := by
  unfold impl_foretold.f says
  have bb := bt_range t i
  have tl := bytesOf_len t
  rw [w64 (x := (i : Int) - u) (by omega) (by omega), impl_byteAt_eq xs hx _ (by omega)]
  simp only [Option.bind_some]
  rw [impl_byteAt_eq (bytesOf t) (bytesOf_Bytes t) (i : Int) (by omega), if_neg (show ¬ (i : Int) < 0 by omega), rd_bytesOf]
  simp only [Option.bind_some]
  rw [impl_byteAt_eq (bytesOf t) (bytesOf_Bytes t) ((i : Int) - u) (by omega)]
  simp only [Option.bind_some]
  have ea : (if (i : Int) - u < 0 then 0 else rd xs ((i : Int) - u)) = (if u ≤ i then rd xs ((i - u : Nat) : Int) else 0) := by
    by_cases h : u ≤ i
    · rw [if_neg (by omega), if_pos h, show (i : Int) - u = ((i - u : Nat) : Int) by omega]
    · rw [if_pos (by omega), if_neg h]
  have ec : (if (i : Int) - u < 0 then 0 else rd (bytesOf t) ((i : Int) - u)) = (if u ≤ i then bt t ((i - u : Nat) : Int) else 0) := by
    by_cases h : u ≤ i
    · rw [if_neg (by omega), if_pos h, show (i : Int) - u = ((i - u : Nat) : Int) by omega, rd_bytesOf]
    · rw [if_pos (by omega), if_neg h]
  have ba : 0 ≤ (if u ≤ i then rd xs ((i - u : Nat) : Int) else 0) ∧ (if u ≤ i then rd xs ((i - u : Nat) : Int) else 0) ≤ 255 := by
    split
    · exact rd_bd hx _
    · omega
  rw [ea, ec]
  generalize (if u ≤ i then rd xs ((i - u : Nat) : Int) else 0) = a at ba ⊢
  generalize (if u ≤ i then bt t ((i - u : Nat) : Int) else 0) = c
  unfold guess
  split
  · rfl
  · split
    · rfl
    · split
      · rw [w64 (x := a + bt t i) (by omega) (by omega), Int.tdiv_eq_ediv_of_nonneg (by omega), w64 (by omega) (by omega)]
      · split
        · rw [impl_Paeth_eq k (by omega)]; rfl
        · rfl

theorem impl_UnfilterRow_l0 (d : Int) (s t : ByteArray) (u : Nat) (hu : 1 ≤ u ∧ u ≤ 8) (hs : s.size = t.size) (hs2 : s.size ≤ 200) (n : Nat) : ∀ (k i : Nat), i ≤ s.size → s.size - i = n → n + 15 < k → impl_UnfilterRow.l0 k d u (unfL d s t u i ++ (bytesOf s).drop i) (bytesOf t) s.size i = some (strOfNums (unfL d s t u s.size), true) := by
  have hl := bytesOf_len s
  induction n with
  | zero =>
    intro k i hi hn hk
    obtain ⟨k, rfl⟩ : ∃ m, k = m + 1 := ⟨k - 1, by omega⟩
    obtain rfl : i = s.size := by omega
    simp only [impl_UnfilterRow.l0]
    rw [if_neg (by omega), List.drop_eq_nil_of_le (by omega), List.append_nil]
  | succ n ih =>
    intro k i hi hn hk
    obtain ⟨k, rfl⟩ : ∃ m, k = m + 1 := ⟨k - 1, by omega⟩
    have lt : i < s.size := by omega
    have b := bt_range s i
    have hb := unfL_Bytes d s t u i
    have hlen := unfL_len d s t u i
    have y := says_bd (d := d) hb t u i
    have st := ih k (i + 1) (by omega) (by omega) (by omega)
    have dr : (bytesOf s).drop i = bt s i :: (bytesOf s).drop (i + 1) := by
      rw [List.drop_eq_getElem_cons (by omega), ← rd_at (bytesOf s) i (by omega), rd_bytesOf]
    have hB : Bytes (unfL d s t u i ++ (bytesOf s).drop i) := by
      intro x hx
      rcases List.mem_append.mp hx with h | h
      · exact hb x h
      · exact bytesOf_Bytes s x (List.mem_of_mem_drop h)
    have hL : (unfL d s t u i ++ (bytesOf s).drop i).length = s.size := by rw [List.length_append, List.length_drop]; omega
    have e1 : says d (unfL d s t u i ++ (bytesOf s).drop i) t u i = says d (unfL d s t u i) t u i := says_congr d _ _ t u i (fun h => rd_left _ _ _ (by omega))
    have e2 : rd (unfL d s t u i ++ (bytesOf s).drop i) i = bt s i := by rw [dr]; exact rd_mid _ _ _ i hlen.symm
    push_cast at st
    simp only [impl_UnfilterRow.l0]
    rw [if_pos (by omega), if_pos (by omega), if_pos (by omega), impl_foretold_eq d _ hB t (by omega) u i hu (by omega) (by omega) k (by omega)]
    simp only [Option.bind_some]
    rw [e1, e2, w64 (x := (i : Int) + 1) (by omega) (by omega), Int.toNat_natCast]
    have e3 : (unfL d s t u i ++ (bytesOf s).drop i).set i ((bt s i + says d (unfL d s t u i) t u i % 256) % 256) = unfL d s t u (i + 1) ++ (bytesOf s).drop (i + 1) := by
      rw [dr, List.set_append_right _ _ (by omega), hlen, Nat.sub_self, List.set_cons_zero, unfL, List.append_assoc, List.singleton_append, show (bt s i + says d (unfL d s t u i) t u i % 256) % 256 = (bt s i + says d (unfL d s t u i) t u i) % 256 by omega]
    rw [e3]
    exact st
theorem impl_UnfilterRow_eq (d : Int) (s t : ByteArray) (u : Int) (k : Nat) (hk : 300 ≤ k) : impl_UnfilterRow.f k d s t u = some (unfilterRow d s t u) := by
  unfold impl_UnfilterRow.f unfilterRow
  rw [impl_filterOk_eq]
  simp only [Option.bind_some]
  by_cases h : filterB d s t u = true
  · rw [if_pos h, if_pos h]
    have q := (filterB_iff d s t u).mp h
    obtain ⟨n, rfl⟩ := Int.eq_ofNat_of_zero_le (show 0 ≤ u by omega)
    have := impl_UnfilterRow_l0 d s t n (by omega) (by omega) (by omega) s.size k 0 (by omega) (by omega) (by omega)
    rw [if_pos (by omega), if_pos (by omega), Int.toNat_natCast, bytesOf_len]
    exact this
  · rw [if_neg h, if_neg h]

theorem impl_isDepth_eq (d : Int) : impl_isDepth.f d = some (smallD d || bigD d) := by
  simp only [impl_isDepth.f, smallD, bigD]
  by_cases h1 : d = 1
  · simp [h1]
  by_cases h2 : d = 2
  · simp [h2]
  by_cases h4 : d = 4
  · simp [h4]
  by_cases h8 : d = 8
  · simp [h8]
  · have e1 : (d == 1) = false := by simpa using h1
    have e2 : (d == 2) = false := by simpa using h2
    have e4 : (d == 4) = false := by simpa using h4
    have e8 : (d == 8) = false := by simpa using h8
    simp only [h1, h2, h4, h8, e1, e2, e4, e8, if_false, Bool.false_or]

theorem impl_up_eq' (n : Nat) (h : n ≤ 1000000) : impl_up.f n = some ((upN n : Nat) : Int) := by
  unfold impl_up.f
  rw [upB_w _ (by omega) (by omega)]
  unfold upB upN
  congr 1

theorem shr_and_u8 (x : Int) (hx : 0 ≤ x ∧ x ≤ 255) (m : Nat) (hm : m ≤ 7) : Go.bits .and .u8 (shr .u8 x (m : Int)) 1 = x / 2 ^ m % 2 := by
  have e1 : shr .u8 x (m : Int) = x / 2 ^ m := by
    unfold shr
    rw [show min (m : Int).toNat IntKind.u8.bits = m by simp [IntKind.bits]; omega]
  have q : 0 ≤ x / 2 ^ m ∧ x / 2 ^ m ≤ 255 := ⟨Int.ediv_nonneg hx.1 (by exact_mod_cast Nat.zero_le _), Int.le_trans (Int.ediv_le_self _ hx.1) hx.2⟩
  have := bits_mask .u8 8 (by decide) (fun n h0 h1 => wraps_u8 n h0 h1) 1 (by omega) (x / 2 ^ m) q.1 (by omega)
  rw [e1]
  simpa using this
/-- The samples so far: the first i ones, k bits of the next, and 0. -/
def partL (s : ByteArray) (n D i k : Nat) : List Int := (List.range n).map fun j => if j < i then valF (tbit s) (j * D) D else if j = i then valF (tbit s) (i * D) k else 0
theorem partL_len (s : ByteArray) (n D i k : Nat) : (partL s n D i k).length = n := by simp [partL]
theorem partL_get (s : ByteArray) (n D i k : Nat) (h : i < n) : rd (partL s n D i k) i = valF (tbit s) (i * D) k := by
  rw [rd_at _ _ (by rw [partL_len]; exact h)]; simp [partL]
theorem partL_set (s : ByteArray) (n D i k : Nat) (h : i < n) : (partL s n D i k).set i (2 * valF (tbit s) (i * D) k + tbit s (i * D + k)) = partL s n D i (k + 1) := by
  apply List.ext_getElem?
  intro j
  by_cases e : j = i
  · subst e
    rw [List.getElem?_set_self (by rw [partL_len]; exact h)]
    simp [partL, h, valF]
  · rw [List.getElem?_set_ne (by omega)]
    simp only [partL, List.getElem?_map]
    by_cases hj : j < n
    · rw [List.getElem?_range hj]; simp [e]
    · rw [List.getElem?_eq_none (by simp; omega)]; rfl
theorem partL_next (s : ByteArray) (n D i : Nat) : partL s n D i D = partL s n D (i + 1) 0 := by
  unfold partL
  apply List.map_congr_left
  intro j _
  by_cases h1 : j < i
  · rw [if_pos h1, if_pos (by omega)]
  · rw [if_neg h1]
    by_cases h2 : j = i
    · rw [if_pos h2, if_pos (by omega), h2]
    · rw [if_neg h2, if_neg (by omega)]
      split <;> simp [valF]
theorem partL_zero (s : ByteArray) (n D : Nat) : partL s n D 0 0 = List.replicate n 0 := by
  apply List.ext_getElem (by simp [partL])
  intro j h1 h2
  simp only [partL, List.getElem_map, List.getElem_range, List.getElem_replicate]
  rw [if_neg (by omega)]
  split <;> rfl
theorem partL_all (s : ByteArray) (n D k : Nat) : partL s n D n k = unpackL s n D := by
  unfold partL unpackL
  apply List.map_congr_left
  intro j hj
  rw [if_pos (by simpa using hj)]
theorem impl_UnpackRow_l1 (s : ByteArray) (n D : Nat) (hD : 1 ≤ D ∧ D ≤ 16) (hn : n ≤ 96) (hs : s.size = upN (n * D)) (i : Nat) (hi : i < n) (r : Nat) : ∀ (k : Nat), r ≤ D → r < k →
    impl_UnpackRow.l1 k s D (partL s n D i (D - r)) i n i D ((D - r : Nat) : Int) = impl_UnpackRow.l0 (k - r - 1) s D (partL s n D (i + 1) 0) n (i + 1 : Nat) := by
  have top : (i + 1) * D ≤ n * D := Nat.mul_le_mul_right _ hi
  have lim : n * D ≤ 96 * 16 := Nat.mul_le_mul hn hD.2
  have topi : (i + 1) * D = i * D + D := Nat.succ_mul _ _
  induction r with
  | zero =>
    intro k hr hk
    obtain ⟨k, rfl⟩ : ∃ m, k = m + 1 := ⟨k - 1, by omega⟩
    simp only [impl_UnpackRow.l1]
    rw [if_neg (by omega), w64 (by omega) (by omega), Nat.sub_zero, partL_next]
    rfl
  | succ r ih =>
    intro k hr hk
    obtain ⟨k, rfl⟩ : ∃ m, k = m + 1 := ⟨k - 1, by omega⟩
    obtain ⟨c, hc⟩ : ∃ c, c = D - (r + 1) := ⟨_, rfl⟩
    rw [← hc]
    have t8 : (i * D + c) / 8 < s.size := by rw [hs]; unfold upN; omega
    have iD : (i : Int) * (D : Int) = ((i * D : Nat) : Int) := by push_cast; rfl
    have ix : Int.tdiv ((i * D : Nat) + (c : Int)) 8 = ((i * D + c) / 8 : Nat) := by rw [Int.tdiv_eq_ediv_of_nonneg (by omega)]; omega
    have rx : Int.tmod ((i * D : Nat) + (c : Int)) 8 = ((i * D + c) % 8 : Nat) := by rw [Int.tmod_eq_emod_of_nonneg (by omega)]; omega
    have bb := bt_range s ((((i * D + c) / 8 : Nat)) : Int)
    obtain ⟨m, hm⟩ : ∃ m, m = 7 - (i * D + c) % 8 := ⟨_, rfl⟩
    have e := shr_and_u8 (bt s ((((i * D + c) / 8 : Nat)) : Int)) bb m (by omega)
    have e2 : bt s ((((i * D + c) / 8 : Nat)) : Int) / 2 ^ m % 2 = tbit s (i * D + c) := by unfold tbit; rw [hm]
    have vb := valF_bd (tbit_bd s) (i * D) c
    have pw := pow16 (k := c) (by omega)
    have tb := tbit_bd s (i * D + c)
    simp only [impl_UnpackRow.l1]
    rw [iD, w64 (x := ((i * D : Nat) : Int)) (by omega) (by omega), w64 (x := ((i * D : Nat) : Int) + c) (by omega) (by omega), ix, rx, w64 (x := (((i * D + c) / 8 : Nat) : Int)) (by omega) (by omega), show (7 : Int) - (((i * D + c) % 8 : Nat) : Int) = (m : Int) by omega, w64 (x := (m : Int)) (by omega) (by omega), if_pos (by omega), if_pos (by omega), partL_len, if_pos (by omega), if_pos (by omega), if_pos (by omega), if_pos (by omega), partL_get s n D i c hi, e, e2, w64 (x := tbit s (i * D + c)) (by omega) (by omega), w64 (x := 2 * valF (tbit s) (i * D) c) (by omega) (by omega), w64 (x := 2 * valF (tbit s) (i * D) c + tbit s (i * D + c)) (by omega) (by omega), w64 (x := (c : Int) + 1) (by omega) (by omega), Int.toNat_natCast, partL_set s n D i c hi]
    have st := ih k (by omega) (by omega)
    rw [show D - r = c + 1 by omega] at st
    push_cast at st ⊢
    rw [st, show k - r - 1 = k + 1 - (r + 1) - 1 by omega]
theorem impl_UnpackRow_l0 (s : ByteArray) (n D : Nat) (hD : 1 ≤ D ∧ D ≤ 16) (hn : n ≤ 96) (hs : s.size = upN (n * D)) (d : Nat) : ∀ (k i : Nat), i ≤ n → n - i = d → d * 20 + 1 ≤ k →
    impl_UnpackRow.l0 k s D (partL s n D i 0) n i = some (unpackL s n D, true) := by
  induction d with
  | zero =>
    intro k i hi hd hk
    obtain ⟨k, rfl⟩ : ∃ m, k = m + 1 := ⟨k - 1, by omega⟩
    obtain rfl : i = n := by omega
    simp only [impl_UnpackRow.l0]
    rw [if_neg (by omega), partL_all]
  | succ d ih =>
    intro k i hi hd hk
    obtain ⟨k, rfl⟩ : ∃ m, k = m + 1 := ⟨k - 1, by omega⟩
    have s1 := impl_UnpackRow_l1 s n D hD hn hs i (by omega) D k (by omega) (by omega)
    rw [Nat.sub_self] at s1
    simp only [impl_UnpackRow.l0]
    rw [if_pos (by omega)]
    exact s1.trans (ih (k - D - 1) (i + 1) (by omega) (by omega) (by omega))
theorem impl_UnpackRow_eq (s : ByteArray) (hs : s.size ≤ 140737488351232) (n d : Int) (k : Nat) (hk : 2500 ≤ k) : impl_UnpackRow.f k s n d = some (unpackRow s n d) := by
  unfold impl_UnpackRow.f unpackRow
  rw [impl_isDepth_eq, impl_within_eq]
  simp only [Option.bind_some]
  obtain ⟨k, rfl⟩ : ∃ m, k = m + 1 := ⟨k - 1, by omega⟩
  have no : impl_UnpackRow.j0 (k + 1) s n d true = some ([], false) := by simp [impl_UnpackRow.j0]
  change (if depthB d = true then _ else _) = _
  rw [no]
  by_cases hd : depthB d = true
  · obtain ⟨D, rfl, hD⟩ := depthB_nat hd
    by_cases hc : countB n = true
    · have hc' := hc
      simp only [countB, Bool.and_eq_true, decide_eq_true_eq] at hc'
      obtain ⟨m, rfl⟩ := Int.eq_ofNat_of_zero_le hc'.1
      have lim : m * D ≤ 96 * 16 := Nat.mul_le_mul (by omega) (by omega)
      have mD : (m : Int) * (D : Int) = ((m * D : Nat) : Int) := by push_cast; rfl
      have cb : countB (m : Int) = true := hc
      unfold countB at hc
      rw [if_pos hd, if_pos hc, mD, w64 (x := ((m * D : Nat) : Int)) (by omega) (by omega), impl_up_eq' _ (by omega), hd, cb]
      simp only [Bool.true_and, Bool.and_self, Int.toNat_natCast, Option.bind_some]
      by_cases hz : s.size = upN (m * D)
      · rw [if_pos (by simp [hz]), hz]
        simp only [impl_UnpackRow.j0]
        rw [if_neg (by simp), if_pos (by omega), if_pos (by omega), Int.toNat_natCast, ← partL_zero s m D]
        exact impl_UnpackRow_l0 s m D (by omega) (by omega) hz m k 0 (by omega) (by omega) (by omega)
      · rw [if_neg (by simp [hz])]
        have ne : ((s.size : Int) != ((upN (m * D) : Nat) : Int)) = true := by simp; omega
        rw [ne, no]
    · have hc' : countB n = false := by simpa using hc
      unfold countB at hc
      rw [if_pos hd, if_neg hc, hc']
      simp
  · rw [if_neg hd]
    simp [hd]

theorem impl_ChannelsOf_eq (k : Nat) (hk : 1 ≤ k) (c : Int) : impl_ChannelsOf.f k c = some (chan c) := by
  obtain ⟨k, rfl⟩ : ∃ m, k = m + 1 := ⟨k - 1, by omega⟩
  simp only [impl_ChannelsOf.f, impl_ChannelsOf.j0, chan]
  by_cases h0 : c = 0
  · simp [h0]
  · by_cases h3 : c = 3
    · simp [h3]
    · by_cases h2 : c = 2
      · simp [h2]
      · by_cases h4 : c = 4
        · simp [h4]
        · simp [h0, h3, h2, h4]; repeat (first | split | rfl)

theorem impl_unitOf_eq (c d : Int) (hd : depthB d = true) (k : Nat) (hk : 1 ≤ k) : impl_unitOf.f k c d = some (unitV c d) := by
  have b := unit_bd (c := c) hd
  unfold impl_unitOf.f
  rw [impl_ChannelsOf_eq k hk]
  simp only [Option.bind_some]
  rw [w64 (x := chan c * d) (by omega) (by omega), Int.tdiv_eq_ediv_of_nonneg b.1, w64 (by omega) (by omega)]
  rfl
theorem rep_zero (n : Nat) : Go.Lib.repeatL [(0 : UInt8)] n = List.replicate n 0 := by
  induction n with
  | zero => rfl
  | succ n ih => simp [Go.Lib.repeatL, ih, List.replicate_succ]
theorem impl_noughts_eq (n : Nat) (hn : n ≤ 1000000) : impl_noughts.f (n : Int) = some (zeroS n) := by
  unfold impl_noughts.f strings_Repeat.f
  rw [if_pos (by omega), if_pos (by omega), if_pos (by
    rw [show (⟨#[0]⟩ : ByteArray).size = 1 from rfl, Int.toNat_natCast]; omega)]
  simp only [Option.bind_some, Int.toNat_natCast]
  congr 1
  apply ByteArray.ext
  apply Array.ext'
  unfold zeroS
  rw [strOfNums_data]
  simp only
  rw [rep_zero]
  simp

theorem impl_readRows_l0 (s : ByteArray) (hs : s.size ≤ 1048576) (w h c d : Int) (hw : 0 ≤ w ∧ w ≤ 24) (hh : 0 ≤ h ∧ h ≤ 24) (hd : depthB d = true) (rb : Nat) (hrb : rb ≤ 200) (r : Nat) : ∀ (k j pos : Nat) (above : ByteArray) (out : List Int), (j : Int) + r = h → pos + r * (1 + rb) ≤ s.size → out.length ≤ 96 * j → r + 3000 ≤ k →
    impl_readRows.l0 k (s.extract pos s.size) rb above h j w h c d out = some (match readR s w c d rb r pos above out with | some o => (w, h, c, d, o, s.extract (pos + r * (1 + rb)) s.size, true) | none => (0, 0, 0, 0, [], ⟨#[]⟩, false)) := by
  have cb := chan_bd c
  have wc := mul_bd hw.1 hw.2 cb.1 cb.2
  induction r with
  | zero =>
    intro k j pos above out hj hp ho hk
    obtain ⟨k, rfl⟩ : ∃ m, k = m + 1 := ⟨k - 1, by omega⟩
    rw [impl_readRows.l0, if_neg (by omega)]
    simp [readR]
  | succ r ih =>
    intro k j pos above out hj hp ho hk
    obtain ⟨k, rfl⟩ : ∃ m, k = m + 1 := ⟨k - 1, by omega⟩
    rw [Nat.succ_mul] at hp
    have hp1 : pos + 1 + rb ≤ s.size := by
      generalize r * (1 + rb) = z at hp
      omega
    have sz := b_size s pos (by omega)
    have e0 : bt (s.extract pos s.size) 0 = bt s (pos : Int) := by
      have := b_bt s pos s.size 0 (by omega)
      simpa using this
    have e1 : (s.extract pos s.size).extract 1 (1 + rb) = s.extract (pos + 1) (pos + 1 + rb) := by rw [b_cut s pos 1 (1 + rb) (by omega), Nat.add_assoc]
    have e2 : (s.extract pos s.size).extract (1 + rb) (s.size - pos) = s.extract (pos + 1 + rb) s.size := by
      rw [b_cut s pos (1 + rb) (s.size - pos) (by omega), show pos + (s.size - pos) = s.size from by omega, Nat.add_assoc]
    have en : (1 + (rb : Int)) = ((1 + rb : Nat) : Int) := by push_cast; rfl
    rw [impl_readRows.l0, if_pos (by omega), if_pos (by omega), w64 (x := 1 + (rb : Int)) (by omega) (by omega), if_pos (by omega), if_pos (by omega), impl_unitOf_eq c d hd k (by omega), Option.bind_some, en, Int.toNat_natCast, wbt, e0, e1, impl_UnfilterRow_eq _ _ _ _ k (by omega), Option.bind_some, readR]
    have us := unfilterRow_size (bt s (pos : Int)) (s.extract (pos + 1) (pos + 1 + rb)) above (unitV c d)
    generalize unfilterRow (bt s (pos : Int)) (s.extract (pos + 1) (pos + 1 + rb)) above (unitV c d) = row at us ⊢
    by_cases hr : row.2 = true
    · have ul := unpackRow_len row.1 (w * chan c) d
      rw [if_pos hr, if_pos hr, impl_ChannelsOf_eq k (by omega), Option.bind_some, w64 (x := w * chan c) (by omega) (by omega), impl_UnpackRow_eq _ (by omega) _ _ k (by omega), Option.bind_some, if_pos (by omega), if_pos (by omega), sz, e2, w64 (x := (j : Int) + 1) (by omega) (by omega)]
      have st := ih k (j + 1) (pos + 1 + rb) row.1 (out ++ (unpackRow row.1 (w * chan c) d).1) (by omega) (by generalize r * (1 + rb) = z at hp ⊢; omega) (by rw [List.length_append]; omega) (by omega)
      push_cast at st
      rw [st, Nat.succ_mul, show pos + (r * (1 + rb) + (1 + rb)) = pos + 1 + rb + r * (1 + rb) from by generalize r * (1 + rb) = z; omega]
    · rw [if_neg hr, if_neg hr]

theorem impl_isSide_eq (n : Int) : impl_isSide.f n = some (sideB n) := by simp [impl_isSide.f, impl_within_eq, sideB]

theorem impl_DepthOk_eq (k : Nat) (hk : 1 ≤ k) (c d : Int) : impl_DepthOk.f k c d = some (dok c d) := by
  have h8 : (if d = 8 then some true else some (d == 16)) = some (bigD d) := by unfold bigD; by_cases h : d = 8 <;> simp [h]
  simp only [impl_DepthOk.f, impl_isDepth_eq, impl_ChannelsOf_eq k hk, Option.bind_some, dok, h8]
  by_cases h0 : c = 0
  · simp [h0]
  by_cases h3 : c = 3
  · subst h3
    simp only [show ¬ ((3 : Int) = 0) by decide, if_true, if_false]
    unfold smallD bigD
    by_cases h1 : d = 1
    · simp [h1]
    by_cases h2 : d = 2
    · simp [h2]
    by_cases h4 : d = 4
    · simp [h4]
    by_cases h8 : d = 8
    · simp [h8]
    by_cases h16 : d = 16
    · simp [h16]
    · simp [h1, h2, h4, h8, h16]
  · simp only [h0, h3, chan, if_false]
    by_cases h2 : c = 2
    · simp [h2]
    by_cases h4 : c = 4
    · simp [h4]
    by_cases h6 : c = 6
    · simp [h6]
    · simp [h2, h4, h6]

theorem impl_up_eq (n : Int) (h : 0 ≤ n) (h' : n ≤ 9223372036854775800) : impl_up.f n = some (upB n) := by unfold impl_up.f; rw [upB_w n h h']
theorem impl_RowBytes_eq (k : Nat) (hk : 2 ≤ k) (w c d : Int) : impl_RowBytes.f k w c d = some (rowBytes w c d) := by
  obtain ⟨k, rfl⟩ : ∃ m, k = m + 2 := ⟨k - 2, by omega⟩
  unfold impl_RowBytes.f rowBytes
  simp only [impl_isSide_eq, impl_DepthOk_eq (k + 2) (by omega), Option.bind_some]
  by_cases h : sideB w = true
  · by_cases h' : dok c d = true
    · have b := row_bd h h'
      simp only [h, h', if_true, Bool.not_true, Bool.and_self, impl_RowBytes.j0]
      rw [if_neg (by decide), impl_ChannelsOf_eq (k + 1) (by omega)]
      simp only [Option.bind_some]
      rw [w64 (x := w * chan c) (by omega) (by omega), w64 (x := w * chan c * d) (by omega) (by omega), impl_up_eq _ (by omega) (by omega)]
      rfl
    · simp [h, h', impl_RowBytes.j0]
  · simp [h, impl_RowBytes.j0]

theorem impl_PassStep_eq (p : Int) : impl_PassStep.f p = some (pstep p) := by unfold impl_PassStep.f pstep; repeat (first | rfl | split)
theorem cnt_quot {n x d : Int} (hd : power2 d) (h0 : 0 ≤ x) (h1 : x ≤ 4) (h2 : x ≤ d) (hn : 1 ≤ n) (hn' : n ≤ 24) : wrap64 (Int.tdiv (wrap64 (wrap64 (wrap64 (n - x) + d) - 1)) d) = (n - x + d - 1) / d ∧ (cnt n x d = 0 ↔ (n - x + d - 1) / d < 1) ∧ (cnt n x d ≠ 0 → cnt n x d = (n - x + d - 1) / d) := by
  have hd2 : 1 ≤ d ∧ d ≤ 8 := by unfold power2 at hd; omega
  rw [w64 (x := n - x) (by omega) (by omega), w64 (x := n - x + d) (by omega) (by omega), w64 (x := n - x + d - 1) (by omega) (by omega), Int.tdiv_eq_ediv_of_nonneg (by omega)]
  have q : 0 ≤ (n - x + d - 1) / d ∧ (n - x + d - 1) / d ≤ 40 := by rcases hd with rfl | rfl | rfl | rfl <;> omega
  refine ⟨w64 (by omega) (by omega), ?_, ?_⟩
  · unfold cnt
    rcases hd with rfl | rfl | rfl | rfl <;> split <;> omega
  · unfold cnt
    split
    · intro _; rfl
    · intro h; exact absurd rfl h
theorem impl_PassSize_eq (k : Nat) (hk : 1 ≤ k) (w h p : Int) : impl_PassSize.f k w h p = some (psize w h p) := by
  obtain ⟨k, rfl⟩ : ∃ m, k = m + 1 := ⟨k - 1, by omega⟩
  unfold impl_PassSize.f psize
  simp only [impl_isSide_eq, impl_within_eq, Option.bind_some]
  change (if sideB w = true then (if sideB h = true then impl_PassSize.j0 (k + 1) w h p (!(passB p)) else impl_PassSize.j0 (k + 1) w h p true) else impl_PassSize.j0 (k + 1) w h p true) = _
  have yes : impl_PassSize.j0 (k + 1) w h p true = some (0, 0) := by simp [impl_PassSize.j0]
  rw [yes]
  by_cases hw : sideB w = true
  · by_cases hh : sideB h = true
    · by_cases hp : passB p = true
      · have b := pstep_bd hp
        have bw := (sideB_iff w).1 hw
        have bh := (sideB_iff h).1 hh
        have q1 := cnt_quot (n := w) b.2.2.2.2.1 b.1 b.2.1 b.2.2.2.2.2.2.1 bw.1 bw.2
        have q2 := cnt_quot (n := h) b.2.2.2.2.2.1 b.2.2.1 b.2.2.2.1 b.2.2.2.2.2.2.2 bh.1 bh.2
        have n1 : (pstep p).2.2.1 ≠ 0 := by have := b.2.2.2.2.1; unfold power2 at this; omega
        have n2 : (pstep p).2.2.2 ≠ 0 := by have := b.2.2.2.2.2.1; unfold power2 at this; omega
        simp only [hw, hh, hp, if_true, Bool.not_true, Bool.and_self, impl_PassSize.j0, impl_PassStep_eq, Option.bind_some]
        rw [if_neg (by decide), if_neg n1, if_neg n2, q1.1, q2.1]
        by_cases h1 : cnt w (pstep p).1 (pstep p).2.2.1 = 0
        · rw [if_pos (q1.2.1.1 h1), if_pos (.inl h1)]
        · rw [if_neg (fun c => h1 (q1.2.1.2 c))]
          by_cases h2 : cnt h (pstep p).2.1 (pstep p).2.2.2 = 0
          · rw [if_pos (q2.2.1.1 h2), if_pos (.inr h2)]
          · rw [if_neg (fun c => h2 (q2.2.1.2 c)), if_neg (by omega), q1.2.2 h1, q2.2.2 h2]
      · simp [hw, hh, hp, yes]
    · simp [hw, hh]
  · simp [hw]

def pieceI (a : Int × Int) : S138 := ⟨a.1, a.2⟩
theorem rd_piece (xs : List (Int × Int)) (i : Nat) (h : i < xs.length) : rd_T138 (xs.map pieceI) i = pieceI xs[i] := by
  simp [rd_T138, List.getD, h]
theorem impl_piecesOf_l0 (w h : Int) (n : Nat) : ∀ (k p : Nat), p + n = 7 → n + 2 < k → impl_piecesOf.l0 k w h (((List.range p).map (fun (p : Nat) => psize w h p)).map pieceI) p = some (((List.range 7).map (fun (p : Nat) => psize w h p)).map pieceI) := by
  induction n with
  | zero =>
    intro k p hp hk
    obtain ⟨k, rfl⟩ : ∃ m, k = m + 1 := ⟨k - 1, by omega⟩
    obtain rfl : p = 7 := by omega
    simp only [impl_piecesOf.l0]
    rw [if_neg (by omega)]
  | succ n ih =>
    intro k p hp hk
    obtain ⟨k, rfl⟩ : ∃ m, k = m + 1 := ⟨k - 1, by omega⟩
    have st := ih k (p + 1) (by omega) (by omega)
    simp only [impl_piecesOf.l0]
    rw [if_pos (by omega), impl_PassSize_eq k (by omega)]
    simp only [Option.bind_some]
    rw [if_pos (by simp; omega), w64 (x := (p : Int) + 1) (by omega) (by omega)]
    rw [List.range_succ, List.map_append, List.map_append] at st
    push_cast at st
    exact st
theorem impl_piecesOf_eq (w h : Int) (lace : Bool) (k : Nat) (hk : 10 ≤ k) : impl_piecesOf.f k w h lace = some ((pieces w h lace).map pieceI) := by
  unfold impl_piecesOf.f pieces
  cases lace with
  | true => simp only [if_true]; exact impl_piecesOf_l0 w h 7 k 0 (by omega) (by omega)
  | false => rfl
theorem impl_ScanBytes_l0 (c d : Int) (xs : List (Int × Int)) (hx : xs.length ≤ 7) (hb : ∀ a ∈ xs, pieceB a) (n : Nat) : ∀ (k i : Nat) (m : Int), i ≤ xs.length → xs.length - i = n → n + 3 < k → 0 ≤ m → m ≤ i * 4632 → impl_ScanBytes.l0 k c d m (xs.map pieceI) xs.length i = some (m + piecesN c d (xs.drop i)) := by
  induction n with
  | zero =>
    intro k i m hi hn hk h0 h1
    obtain ⟨k, rfl⟩ : ∃ m, k = m + 1 := ⟨k - 1, by omega⟩
    simp only [impl_ScanBytes.l0]
    rw [if_neg (by omega), List.drop_eq_nil_of_le (by omega)]
    simp [piecesN]
  | succ n ih =>
    intro k i m hi hn hk h0 h1
    obtain ⟨k, rfl⟩ : ∃ m, k = m + 1 := ⟨k - 1, by omega⟩
    have lt : i < xs.length := by omega
    have b := hb _ (List.getElem_mem lt)
    have pb := pieceN_bd c d b
    have rb := rowBytes_bd xs[i].1 c d
    simp only [impl_ScanBytes.l0]
    rw [if_pos (by omega), if_pos (by omega), if_pos (by simp; omega), rd_piece xs i lt, impl_RowBytes_eq k (by omega)]
    simp only [Option.bind_some, pieceI]
    rw [w64 (x := 1 + rowBytes xs[i].1 c d) (by omega) (by omega)]
    rw [show xs[i].2 * (1 + rowBytes xs[i].1 c d) = pieceN c d xs[i] from rfl, w64 (x := pieceN c d xs[i]) (by omega) (by omega), w64 (x := m + pieceN c d xs[i]) (by omega) (by omega), w64 (x := (i : Int) + 1) (by omega) (by omega), piecesN_drop c d xs i lt]
    have st := ih k (i + 1) (m + pieceN c d xs[i]) (by omega) (by omega) (by omega) (by omega) (by push_cast; omega)
    push_cast at st
    rw [← Int.add_assoc]
    exact st
theorem impl_ScanBytes_eq (w h c d : Int) (lace : Bool) (k : Nat) (hk : 30 ≤ k) : impl_ScanBytes.f k w h c d lace = some (scanBytes w h c d lace) := by
  obtain ⟨k, rfl⟩ : ∃ m, k = m + 1 := ⟨k - 1, by omega⟩
  have no : impl_ScanBytes.j0 (k + 1) w h c d lace true = some 0 := by simp [impl_ScanBytes.j0]
  unfold impl_ScanBytes.f scanBytes
  rw [impl_isSide_eq, impl_isSide_eq, impl_DepthOk_eq _ (by omega)]
  simp only [Option.bind_some]
  cases hw : sideB w with
  | false => simp [no]
  | true =>
    cases hh : sideB h with
    | false => simp [no]
    | true =>
      cases hd : dok c d with
      | false => simp [no]
      | true =>
        simp only [if_true, Bool.not_true, Bool.and_self, impl_ScanBytes.j0, Bool.false_eq_true, if_false]
        rw [impl_piecesOf_eq w h lace k (by omega)]
        simp only [Option.bind_some]
        have R := impl_ScanBytes_l0 c d (pieces w h lace) (pieces_len w h lace) (pieces_bd hw hh lace) (pieces w h lace).length k 0 0 (by omega) (by omega) (by have := pieces_len w h lace; omega) (by omega) (by omega)
        rw [List.length_map]
        simpa using R

/-- Each place belongs to a pass. -/
theorem rowPl_mem (b dx : Int) (n : Nat) : ∀ i : Nat, i < n → ∀ b : Int, b + i * dx ∈ rowPl b dx n := by
  induction n with
  | zero => intro i hi; omega
  | succ n ih =>
    intro i hi b
    rcases i with _ | i
    · simp [rowPl]
    · have := ih i (by omega) (b + dx)
      rw [rowPl]
      refine List.mem_cons_of_mem _ ?_
      rw [show b + ((i + 1 : Nat) : Int) * dx = b + dx + i * dx from by push_cast; rw [Int.add_mul]; omega]
      exact this
theorem gridPl_mem (W dx dy x : Int) (w : Nat) (n : Nat) : ∀ (j i : Nat) (r : Int), j < n → i < w → (r + j * dy) * W + x + i * dx ∈ gridPl W dx dy x w n r := by
  induction n with
  | zero => intro j i r hj; omega
  | succ n ih =>
    intro j i r hj hi
    rw [gridPl]
    rcases j with _ | j
    · refine List.mem_append.2 (.inl ?_)
      have := rowPl_mem 0 dx w i hi (r * W + x)
      simpa using this
    · refine List.mem_append.2 (.inr ?_)
      have := ih j i (r + dy) (by omega) hi
      rw [show r + ((j + 1 : Nat) : Int) * dy = r + dy + j * dy from by push_cast; rw [Int.add_mul]; omega]
      exact this
theorem cnt_of {n x d c : Int} (hd : power2 d) (hx : 0 ≤ x) (hc : x ≤ c) (hn : c < n) (hm : c % d = x % d) : ∃ i : Nat, c = x + i * d ∧ (i : Int) < cnt n x d := by
  refine ⟨((c - x) / d).toNat, ?_, ?_⟩
  · rcases hd with rfl | rfl | rfl | rfl <;> omega
  · unfold cnt
    rw [if_pos (by omega)]
    rcases hd with rfl | rfl | rfl | rfl <;> omega
theorem pass_of (r c : Int) (hr : 0 ≤ r) (hc : 0 ≤ c) : ∃ p : Nat, p < 7 ∧ (pstep p).1 ≤ c ∧ c % (pstep p).2.2.1 = (pstep p).1 % (pstep p).2.2.1 ∧ (pstep p).2.1 ≤ r ∧ r % (pstep p).2.2.2 = (pstep p).2.1 % (pstep p).2.2.2 := by
  by_cases h6 : r % 2 = 1
  · exact ⟨6, by omega, by simp [pstep]; omega⟩
  · by_cases h5 : c % 2 = 1
    · exact ⟨5, by omega, by simp [pstep]; omega⟩
    · by_cases h4 : r % 4 = 2
      · exact ⟨4, by omega, by simp [pstep]; omega⟩
      · by_cases h3 : c % 4 = 2
        · exact ⟨3, by omega, by simp [pstep]; omega⟩
        · by_cases h2 : r % 8 = 4
          · exact ⟨2, by omega, by simp [pstep]; omega⟩
          · by_cases h1 : c % 8 = 4
            · exact ⟨1, by omega, by simp [pstep]; omega⟩
            · exact ⟨0, by omega, by simp [pstep]; omega⟩
def placesL (w h p : Int) : List Int := gridPl w (pstep p).2.2.1 (pstep p).2.2.2 (pstep p).1 (psize w h p).1.toNat (psize w h p).2.toNat (pstep p).2.1
theorem place_in {w h a : Int} (hw : sideB w = true) (hh : sideB h = true) (ha : 0 ≤ a ∧ a < w * h) : ∃ p : Nat, p < 7 ∧ a ∈ placesL w h p := by
  have hw' := (sideB_iff w).mp hw
  have hh' := (sideB_iff h).mp hh
  have e := Int.mul_ediv_add_emod a w
  have m0 := Int.emod_nonneg a (show w ≠ 0 by omega)
  have m1 := Int.emod_lt_of_pos a (show 0 < w by omega)
  have r0 : 0 ≤ a / w := Int.ediv_nonneg ha.1 (by omega)
  have r1 : a / w < h := Int.ediv_lt_of_lt_mul (by omega) (by rw [Int.mul_comm]; exact ha.2)
  obtain ⟨p, hp, x1, x2, y1, y2⟩ := pass_of (a / w) (a % w) r0 m0
  have pb := passB_nat hp
  have b := pstep_bd pb
  obtain ⟨i, hi, hi2⟩ := cnt_of b.2.2.2.2.1 b.1 x1 m1 x2
  obtain ⟨j, hj, hj2⟩ := cnt_of b.2.2.2.2.2.1 b.2.2.1 y1 r1 y2
  refine ⟨p, hp, ?_⟩
  unfold placesL
  rw [← grid_eq hw hh pb]
  have q := gridPl_mem w (pstep p).2.2.1 (pstep p).2.2.2 (pstep p).1 (cnt w (pstep p).1 (pstep p).2.2.1).toNat (cnt h (pstep p).2.1 (pstep p).2.2.2).toNat j i (pstep p).2.1 (by omega) (by omega)
  rw [← hj, Int.add_assoc, ← hi, Int.mul_comm] at q
  rw [e] at q
  exact q
/-- The passes have all the pixels together. -/
theorem cnt_two {n x d : Int} (hn : 1 ≤ n) (hx : 0 ≤ x) : (d = 4 ∨ d = 2 ∨ d = 1) → x < d → cnt n x (2 * d) + cnt n (x + d) (2 * d) = cnt n x d := by
  intro hd hx2
  unfold cnt
  rcases hd with rfl | rfl | rfl <;> (repeat' split) <;> omega
theorem cnt_one {n : Int} (hn : 1 ≤ n) : cnt n 0 1 = n := by
  unfold cnt; rw [if_pos (by omega)]; omega
def pixN (w h : Int) (p : Nat) : Int := (psize w h p).1 * (psize w h p).2
theorem pixN_eq {w h : Int} (hw : sideB w = true) (hh : sideB h = true) (p : Nat) (hp : p < 7) : pixN w h p = cnt w (pstep p).1 (pstep p).2.2.1 * cnt h (pstep p).2.1 (pstep p).2.2.2 := by
  unfold pixN
  rcases psize_eq hw hh (passB_nat hp) with e | ⟨e, z | z⟩
  · rw [e]
  · rw [e, z]; simp
  · rw [e, z]; simp
theorem pixN_sum {w h : Int} (hw : sideB w = true) (hh : sideB h = true) : pixN w h 0 + pixN w h 1 + pixN w h 2 + pixN w h 3 + pixN w h 4 + pixN w h 5 + pixN w h 6 = w * h := by
  have hw' := (sideB_iff w).mp hw
  have hh' := (sideB_iff h).mp hh
  rw [pixN_eq hw hh 0 (by omega), pixN_eq hw hh 1 (by omega), pixN_eq hw hh 2 (by omega), pixN_eq hw hh 3 (by omega), pixN_eq hw hh 4 (by omega), pixN_eq hw hh 5 (by omega), pixN_eq hw hh 6 (by omega)]
  show cnt w 0 8 * cnt h 0 8 + cnt w 4 8 * cnt h 0 8 + cnt w 0 4 * cnt h 4 8 + cnt w 2 4 * cnt h 0 4 + cnt w 0 2 * cnt h 2 4 + cnt w 1 2 * cnt h 0 2 + cnt w 0 1 * cnt h 1 2 = w * h
  have a1 := cnt_two (n := w) (x := 0) (d := 4) (by omega) (by omega) (by omega) (by omega)
  have a2 := cnt_two (n := w) (x := 0) (d := 2) (by omega) (by omega) (by omega) (by omega)
  have a3 := cnt_two (n := w) (x := 0) (d := 1) (by omega) (by omega) (by omega) (by omega)
  have b1 := cnt_two (n := h) (x := 0) (d := 4) (by omega) (by omega) (by omega) (by omega)
  have b2 := cnt_two (n := h) (x := 0) (d := 2) (by omega) (by omega) (by omega) (by omega)
  have b3 := cnt_two (n := h) (x := 0) (d := 1) (by omega) (by omega) (by omega) (by omega)
  have c1 := cnt_one (n := w) (by omega)
  have c2 := cnt_one (n := h) (by omega)
  simp only [Int.mul_one, Int.zero_add, Int.reduceMul] at a1 a2 a3 b1 b2 b3
  rw [← Int.add_mul, a1, ← Int.mul_add, b1, ← Int.add_mul, a2, ← Int.mul_add, b2, ← Int.add_mul, a3, ← Int.mul_add, b3, c1, c2]

theorem cpy_len {α : Type} (xs : List α) (l n : Nat) (ys : List α) (h : l + n ≤ xs.length) : (cpy xs l n ys).length = xs.length := by
  unfold cpy
  rw [List.length_append, List.length_append, List.length_take, List.length_take, List.length_drop]
  omega
theorem cpy_at {α : Type} (xs : List α) (l n : Nat) (ys : List α) (h : l + n ≤ xs.length) (hy : n ≤ ys.length) (t : Nat) : (cpy xs l n ys)[t]? = if l ≤ t ∧ t < l + n then ys[t - l]? else xs[t]? := by
  unfold cpy
  have l1 : (xs.take l).length = l := by rw [List.length_take]; omega
  have l2 : (ys.take n).length = n := by rw [List.length_take]; omega
  rw [Nat.min_eq_right hy]
  by_cases h1 : t < l
  · rw [if_neg (by omega), List.append_assoc, List.getElem?_append_left (by omega), List.getElem?_take, if_pos h1]
  · by_cases h2 : t < l + n
    · rw [if_pos (by omega), List.append_assoc, List.getElem?_append_right (by omega), l1, List.getElem?_append_left (by omega), List.getElem?_take, if_pos (by omega)]
    · rw [if_neg (by omega), List.getElem?_append_right (by rw [List.length_append]; omega), List.length_append, l1, l2, List.getElem?_drop]
      congr 1
      omega
def scatF (n : Nat) (src : List Int) : List Int → Nat → List Int → List Int
  | [], _, out => out
  | a :: P, i, out => scatF n src P (i + 1) (cpy out (a.toNat * n) n (src.drop (i * n)))
theorem scatF_len (n : Nat) (src : List Int) (P : List Int) : ∀ (i : Nat) (out : List Int), (∀ a ∈ P, a.toNat * n + n ≤ out.length) → (scatF n src P i out).length = out.length := by
  induction P with
  | nil => intro i out _; rfl
  | cons a P ih =>
    intro i out h
    have e := cpy_len out (a.toNat * n) n (src.drop (i * n)) (h a (List.mem_cons_self ..))
    rw [scatF, ih (i + 1) _ (fun b hb => by rw [e]; exact h b (List.mem_cons_of_mem _ hb)), e]
theorem flat_at (f : Int → List Int) (n : Nat) (P : List Int) (hf : ∀ a ∈ P, (f a).length = n) : ∀ (i s : Nat) (hi : i < P.length), s < n → (P.flatMap f)[i * n + s]? = (f P[i])[s]? := by
  induction P with
  | nil => intro i s hi; cases hi
  | cons a P ih =>
    intro i s hi hs
    have ha := hf a (List.mem_cons_self ..)
    rw [List.flatMap_cons]
    rcases i with _ | i
    · rw [Nat.zero_mul, Nat.zero_add, List.getElem?_append_left (by omega)]; rfl
    · rw [List.getElem?_append_right (by rw [Nat.succ_mul]; omega), ha, show (i + 1) * n + s - n = i * n + s from by rw [Nat.succ_mul]; omega, ih (fun b hb => hf b (List.mem_cons_of_mem _ hb)) i s (by simpa using hi) hs]
      rfl
/-- What is put at its places back from its samples agrees with the whole there, and as before elsewhere. -/
theorem scatF_good (xs : List Int) (n : Nat) (P0 : List Int) (hb : ∀ a ∈ P0, 0 ≤ a ∧ a.toNat * n + n ≤ xs.length) (m : Nat) : ∀ (i : Nat) (out : List Int), i + m = P0.length → out.length = xs.length →
    (∀ t : Nat, out[t]? = xs[t]? → (scatF n (P0.flatMap (smp xs n)) (P0.drop i) i out)[t]? = xs[t]?) ∧ (∀ a ∈ P0.drop i, ∀ t : Nat, a.toNat * n ≤ t → t < a.toNat * n + n → (scatF n (P0.flatMap (smp xs n)) (P0.drop i) i out)[t]? = xs[t]?) := by
  have sl : ∀ a ∈ P0, (smp xs n a).length = n := by
    intro a ha
    have q := hb a ha
    have e : a * (n : Int) + n = ((a.toNat * n + n : Nat) : Int) := by push_cast; rw [Int.toNat_of_nonneg q.1]
    rw [smp_len xs n a (by omega) q.1 (by omega)]; omega
  have fl : (P0.flatMap (smp xs n)).length = P0.length * n := by
    clear hb
    induction P0 with
    | nil => simp
    | cons a P ih =>
      rw [List.flatMap_cons, List.length_append, ih (fun b hb => sl b (List.mem_cons_of_mem _ hb)), sl a (List.mem_cons_self ..), List.length_cons, Nat.succ_mul]
      omega
  induction m with
  | zero =>
    intro i out hi ho
    rw [List.drop_eq_nil_of_le (by omega)]
    exact ⟨fun t h => h, fun a ha => by cases ha⟩
  | succ m ih =>
    intro i out hi ho
    have lt : i < P0.length := by omega
    have q := hb _ (List.getElem_mem lt)
    have fle : i * n + n ≤ P0.length * n := by
      rw [← Nat.succ_mul]; exact Nat.mul_le_mul_right _ lt
    have ce := cpy_len out (P0[i].toNat * n) n ((P0.flatMap (smp xs n)).drop (i * n)) (by rw [ho]; exact q.2)
    have ca := cpy_at out (P0[i].toNat * n) n ((P0.flatMap (smp xs n)).drop (i * n)) (by rw [ho]; exact q.2) (by rw [List.length_drop, fl]; omega)
    have blk : ∀ t : Nat, P0[i].toNat * n ≤ t → t < P0[i].toNat * n + n → (cpy out (P0[i].toNat * n) n ((P0.flatMap (smp xs n)).drop (i * n)))[t]? = xs[t]? := by
      intro t h1 h2
      rw [ca t, if_pos ⟨h1, h2⟩, List.getElem?_drop, flat_at (smp xs n) n P0 sl i _ lt (by omega)]
      unfold smp
      have e0 : (P0[i] * (n : Int)).toNat = P0[i].toNat * n := by
        have e : P0[i] * (n : Int) = ((P0[i].toNat * n : Nat) : Int) := by push_cast; rw [Int.toNat_of_nonneg q.1]
        rw [e]; omega
      have e1 : (P0[i] * (n : Int) + n).toNat = P0[i].toNat * n + n := by
        have e : P0[i] * (n : Int) = ((P0[i].toNat * n : Nat) : Int) := by push_cast; rw [Int.toNat_of_nonneg q.1]
        rw [e]; omega
      rw [e0, e1, List.getElem?_drop, List.getElem?_take, if_pos (by omega)]
      congr 1
      omega
    obtain ⟨s1, s2⟩ := ih (i + 1) _ (by omega) (by rw [ce]; exact ho)
    rw [List.drop_eq_getElem_cons lt, scatF]
    have keep : ∀ t : Nat, out[t]? = xs[t]? → (cpy out (P0[i].toNat * n) n ((P0.flatMap (smp xs n)).drop (i * n)))[t]? = xs[t]? := by
      intro t h
      by_cases c : P0[i].toNat * n ≤ t ∧ t < P0[i].toNat * n + n
      · exact blk t c.1 c.2
      · rw [ca t, if_neg c]; exact h
    refine ⟨fun t h => s1 t (keep t h), fun a ha t h1 h2 => ?_⟩
    rcases List.mem_cons.1 ha with rfl | ha
    · exact s1 t (blk t h1 h2)
    · exact s2 a ha t h1 h2
def scatAll (w h : Int) (n : Nat) (ps : List S29) : Nat → Nat → List Int → List Int
  | 0, _, out => out
  | r + 1, p, out => scatAll w h n ps r (p + 1) (scatF n (rd_T29 ps (p : Int)).f4 (placesL w h p) 0 out)
theorem places_bd {w h : Int} (hw : sideB w = true) (hh : sideB h = true) (n : Nat) (p : Nat) (hp : p < 7) : ∀ a ∈ placesL w h p, 0 ≤ a ∧ a.toNat * n + n ≤ (w * h).toNat * n := by
  intro a ha
  have g := grid_bd hw hh (passB_nat hp) a ha
  refine ⟨g.1, ?_⟩
  rw [← Nat.succ_mul]
  exact Nat.mul_le_mul_right _ (by omega)
theorem passesL_at (w h c d : Int) (xs : List Int) (p : Nat) (hp : p < 7) : rd_T29 (passesL w h c d xs) (p : Int) = passL w h c d xs p := by
  simp [rd_T29, passesL, List.getD, hp]
theorem scatAll_len {w h : Int} (hw : sideB w = true) (hh : sideB h = true) (n : Nat) (ps : List S29) (r : Nat) : ∀ (p : Nat) (out : List Int), p + r = 7 → out.length = (w * h).toNat * n → (scatAll w h n ps r p out).length = out.length := by
  induction r with
  | zero => intro p out _ _; rfl
  | succ r ih =>
    intro p out hp ho
    have e := scatF_len n (rd_T29 ps (p : Int)).f4 (placesL w h p) 0 out (fun a ha => by rw [ho]; exact (places_bd hw hh n p (by omega) a ha).2)
    rw [scatAll, ih (p + 1) _ (by omega) (by rw [e]; exact ho), e]
theorem scatAll_good {w h c d : Int} (hw : sideB w = true) (hh : sideB h = true) (xs : List Int) (n : Nat) (hn : chan c = n) (hl : xs.length = (w * h).toNat * n) (r : Nat) : ∀ (p : Nat) (out : List Int), p + r = 7 → out.length = xs.length →
    (∀ t : Nat, out[t]? = xs[t]? → (scatAll w h n (passesL w h c d xs) r p out)[t]? = xs[t]?) ∧ (∀ q : Nat, p ≤ q → q < 7 → ∀ a ∈ placesL w h q, ∀ t : Nat, a.toNat * n ≤ t → t < a.toNat * n + n → (scatAll w h n (passesL w h c d xs) r p out)[t]? = xs[t]?) := by
  induction r with
  | zero => intro p out hp ho; exact ⟨fun t h => h, fun q h1 h2 => by omega⟩
  | succ r ih =>
    intro p out hp ho
    have pb := places_bd hw hh n p (by omega)
    have f4 : (passL w h c d xs p).f4 = (placesL w h p).flatMap (smp xs (n : Int)) := by rw [← hn]; rfl
    have e := scatF_len n (passL w h c d xs p).f4 (placesL w h p) 0 out (fun a ha => by rw [ho, hl]; exact (pb a ha).2)
    rw [f4] at e
    obtain ⟨g1, g2⟩ := scatF_good xs n (placesL w h p) (fun a ha => by rw [hl]; exact pb a ha) (placesL w h p).length 0 out (by omega) ho
    rw [List.drop_zero] at g1 g2
    obtain ⟨s1, s2⟩ := ih (p + 1) (scatF n ((placesL w h p).flatMap (smp xs (n : Int))) (placesL w h p) 0 out) (by omega) (by rw [e]; exact ho)
    rw [scatAll, passesL_at w h c d xs p (by omega), f4]
    refine ⟨fun t h => s1 t (g1 t h), fun q h1 h2 a ha t h3 h4 => ?_⟩
    by_cases c : q = p
    · subst c; exact s1 t (g2 a ha t h3 h4)
    · exact s2 q (by omega) h2 a ha t h3 h4
/-- The passes put back are the raster. -/
theorem scatAll_back {w h c d : Int} {xs : List Int} (ok : rasterOk w h c d xs = true) (out : List Int) (ho : out.length = xs.length) : scatAll w h (chan c).toNat (passesL w h c d xs) 7 0 out = xs := by
  simp only [rasterOk, Bool.and_eq_true, decide_eq_true_eq] at ok
  obtain ⟨⟨⟨⟨hw, hh⟩, hdk⟩, hl⟩, hall⟩ := ok
  have bd := wh_bd (c := c) hw hh
  have cb := chan_bd c
  obtain ⟨n, hn⟩ := Int.eq_ofNat_of_zero_le cb.1
  have hl2 : xs.length = (w * h).toNat * n := by
    have : (xs.length : Int) = (((w * h).toNat * n : Nat) : Int) := by rw [hl, hn]; push_cast; rw [Int.toNat_of_nonneg bd.1]
    omega
  rw [hn, Int.toNat_natCast]
  have g := (scatAll_good (c := c) (d := d) hw hh xs n hn hl2 7 0 out (by omega) ho).2
  have e := scatAll_len hw hh n (passesL w h c d xs) 7 0 out (by omega) (by rw [ho, hl2])
  apply List.ext_getElem?
  intro t
  by_cases ht : t < xs.length
  · have np : 0 < n := by
      rcases Nat.eq_zero_or_pos n with z | z
      · rw [z, Nat.mul_zero] at hl2; omega
      · exact z
    have d1 := Nat.div_add_mod t n
    have d2 := Nat.mod_lt t np
    have d3 : t / n < (w * h).toNat := Nat.div_lt_of_lt_mul (by rw [hl2, Nat.mul_comm] at ht; exact ht)
    obtain ⟨p, hp, hm⟩ := place_in (a := ((t / n : Nat) : Int)) hw hh ⟨Int.natCast_nonneg _, by have := Int.ofNat_lt.2 d3; rw [Int.toNat_of_nonneg bd.1] at this; exact this⟩
    refine g p (by omega) hp _ hm t ?_ ?_
    · rw [Int.toNat_natCast, Nat.mul_comm]; omega
    · rw [Int.toNat_natCast, Nat.mul_comm]; omega
  · rw [List.getElem?_eq_none (by omega), List.getElem?_eq_none (by omega)]

theorem shl_one (n : Int) (h0 : 0 ≤ n) (h62 : n ≤ 62) : shl .i64 1 n = p2 n := by
  have b1 := p2_pos n
  have b2 := p2_62 h62
  unfold shl
  rw [show min n.toNat IntKind.i64.bits = n.toNat by simp [IntKind.bits]; omega, Int.one_mul, IntKind.wrap_i64]
  show (p2 n + 9223372036854775808) % 18446744073709551616 - 9223372036854775808 = p2 n
  omega
theorem impl_powerOf_eq (n : Int) : impl_powerOf.f n = some (if 0 ≤ n ∧ n ≤ 62 then p2 n else 0) := by
  unfold impl_powerOf.f
  rw [impl_within_eq]
  simp only [Option.bind_some]
  by_cases h0 : 0 ≤ n
  · by_cases h1 : n ≤ 62
    · simp [h0, h1, shl_one n h0 h1]
    · simp [h0, h1]
  · simp [h0]

theorem impl_samplesOk_l0 (n : Int) (h0 : 0 ≤ n) (h1 : n ≤ 62) (xs : List Int) (hx : xs.length ≤ 9223372036854775807) (d : Nat) : ∀ (k i : Nat), i ≤ xs.length → xs.length - i = d → d < k → impl_samplesOk.l0 k n xs xs.length i = some ((xs.drop i).all (inB (p2 n - 1))) := by
  induction d with
  | zero =>
    intro k i hi hd hk
    obtain ⟨k, rfl⟩ : ∃ m, k = m + 1 := ⟨k - 1, by omega⟩
    simp only [impl_samplesOk.l0]
    rw [if_neg (by omega), drop_all_end _ _ _ (by omega)]
  | succ d ih =>
    intro k i hi hd hk
    obtain ⟨k, rfl⟩ : ∃ m, k = m + 1 := ⟨k - 1, by omega⟩
    have lt : i < xs.length := by omega
    have b1 := p2_pos n
    have b2 := p2_62 h1
    simp only [impl_samplesOk.l0, impl_powerOf_eq, Option.bind_some]
    rw [if_pos (by omega), if_pos (by omega), if_pos (by omega), if_pos ⟨h0, h1⟩, w64 (x := p2 n - 1) (by omega) (by omega), impl_within_eq, rd_at xs i lt, w64 (by omega) (by omega), drop_all _ _ _ lt]
    simp only [Option.bind_some]
    have step := ih k (i + 1) (by omega) (by omega) (by omega)
    push_cast at step
    rw [step]
    unfold inB
    cases (decide (0 ≤ xs[i]) && decide (xs[i] ≤ p2 n - 1)) <;> simp
theorem impl_samplesOk_eq (n : Int) (h0 : 0 ≤ n) (h1 : n ≤ 62) (xs : List Int) (hx : xs.length ≤ 9223372036854775807) (k : Nat) (hk : xs.length < k) : impl_samplesOk.f k xs n = some (xs.all (inB (p2 n - 1))) := by
  unfold impl_samplesOk.f
  have := impl_samplesOk_l0 n h0 h1 xs hx xs.length k 0 (by omega) (by omega) hk
  simpa using this

theorem impl_RasterOk_eq (w h c d : Int) (xs : List Int) (hx : xs.length ≤ 9223372036854775807) (k : Nat) (hk : xs.length + 3 ≤ k) : impl_RasterOk.f k w h c d xs = some (rasterOk w h c d xs) := by
  obtain ⟨k, rfl⟩ : ∃ m, k = m + 1 := ⟨k - 1, by omega⟩
  have no : impl_RasterOk.j0 (k + 1) true w h c d xs = some false := by simp [impl_RasterOk.j0]
  unfold impl_RasterOk.f rasterOk
  simp only [impl_isSide_eq, impl_DepthOk_eq (k + 1) (by omega), Option.bind_some, no]
  by_cases hw : sideB w = true
  · by_cases hh : sideB h = true
    · by_cases hd : dok c d = true
      · have b := wh_bd (c := c) hw hh
        have bd := dok_bd hd
        simp only [hw, hh, hd, if_true, Bool.true_and, Bool.not_true, impl_RasterOk.j0]
        rw [if_neg (by decide), impl_ChannelsOf_eq k (by omega)]
        simp only [Option.bind_some]
        rw [w64 (x := w * h) (by omega) (by omega), w64 (x := w * h * chan c) (by omega) (by omega), impl_samplesOk_eq d (by omega) (by omega) xs hx k (by omega)]
        by_cases hl : (xs.length : Int) = w * h * chan c
        · simp [hl]
        · simp [hl]
      · simp [hw, hh, hd, no]
    · simp [hw, hh]
  · simp [hw]

theorem impl_pixels_l1 {dx : Int} (hd : power2 dx) (w h x dy r : Int) (hw : 1 ≤ w ∧ w ≤ 24) (hr : 0 ≤ r ∧ r ≤ 24) (m : Nat) : ∀ (k : Nat) (acc : List Int) (c : Int), 0 ≤ c → (m : Int) = cnt w c dx → acc.length + m ≤ 1000000 → (hdy : 0 ≤ dy ∧ dy ≤ 8) →
    impl_pixelsOf.l1 (k + m + 1) w h x dx dy acc r c = impl_pixelsOf.l0 k w h x dx dy (acc ++ rowPl (r * w + c) dx m) (r + dy) := by
  induction m with
  | zero =>
    intro k acc c hc hm ha hdy
    have ge : ¬ c < w := by
      intro lt
      have := cnt_step hd lt
      have : 0 ≤ cnt w (c + dx) dx := by
        have h0 : 0 ≤ c + dx := by rcases hd with rfl | rfl | rfl | rfl <;> omega
        exact (cnt_bd hd h0 hw.2).1
      omega
    simp only [Nat.add_zero, impl_pixelsOf.l1]
    rw [if_neg ge, w64 (x := r + dy) (by omega) (by omega)]
    simp [rowPl]
  | succ m ih =>
    intro k acc c hc hm ha hdy
    have lt : c < w := by
      by_cases h : c < w
      · exact h
      · rw [cnt_done h] at hm; omega
    have st := cnt_step hd lt
    have hdx : 0 ≤ dx ∧ dx ≤ 8 := by rcases hd with rfl | rfl | rfl | rfl <;> omega
    have b := mul_bd hr.1 hr.2 (show 0 ≤ w by omega) hw.2
    obtain ⟨K, hK⟩ : ∃ K, K = k + m + 1 := ⟨_, rfl⟩
    rw [show k + (m + 1) + 1 = K + 1 from by omega]
    simp only [impl_pixelsOf.l1]
    rw [if_pos lt, if_pos (by omega), w64 (x := r * w) (by omega) (by omega), w64 (x := r * w + c) (by omega) (by omega), w64 (x := c + dx) (by omega) (by omega),
      hK, ih k _ (c + dx) (by omega) (by push_cast at hm; omega) (by simp; omega) hdy]
    simp [rowPl, Int.add_assoc]
theorem impl_pixels_l0 {dx dy : Int} (hd : power2 dx) (he : power2 dy) (w h x : Int) (hw : 1 ≤ w ∧ w ≤ 24) (hh : h ≤ 24) (hx : 0 ≤ x) (n : Nat) : ∀ (k : Nat) (acc : List Int) (r : Int), 0 ≤ r → (n : Int) = cnt h r dy → acc.length + 24 * n ≤ 1000000 → n * 26 + 1 ≤ k →
    impl_pixelsOf.l0 k w h x dx dy acc r = some (acc ++ gridPl w dx dy x (cnt w x dx).toNat n r) := by
  have hdy : 0 ≤ dy ∧ dy ≤ 8 := by rcases he with rfl | rfl | rfl | rfl <;> omega
  have cb := cnt_bd (n := w) hd hx hw.2
  induction n with
  | zero =>
    intro k acc r hr hn ha hk
    obtain ⟨k, rfl⟩ : ∃ m, k = m + 1 := ⟨k - 1, by omega⟩
    have ge : ¬ r < h := by
      intro lt
      have := cnt_step he lt
      have : 0 ≤ cnt h (r + dy) dy := (cnt_bd he (by omega) hh).1
      omega
    simp only [impl_pixelsOf.l0]
    rw [if_neg ge]; simp [gridPl]
  | succ n ih =>
    intro k acc r hr hn ha hk
    obtain ⟨k, rfl⟩ : ∃ m, k = m + (cnt w x dx).toNat + 1 + 1 := ⟨k - (cnt w x dx).toNat - 2, by omega⟩
    have lt : r < h := by
      by_cases h2 : r < h
      · exact h2
      · rw [cnt_done h2] at hn; omega
    have st := cnt_step he lt
    simp only [impl_pixelsOf.l0]
    rw [if_pos lt, impl_pixels_l1 hd w h x dy r hw (by omega) _ k acc x hx (by omega) (by omega) hdy,
      ih k _ (r + dy) (by omega) (by push_cast at hn; omega) (by rw [List.length_append, rowPl_len]; omega) (by omega)]
    simp [gridPl]
theorem impl_pixelsOf_eq {w h p : Int} (hw : sideB w = true) (hh : sideB h = true) (hp : passB p = true) (k : Nat) (hk : 700 ≤ k) :
    impl_pixelsOf.f k w h p = some (gridPl w (pstep p).2.2.1 (pstep p).2.2.2 (pstep p).1 (psize w h p).1.toNat (psize w h p).2.toNat (pstep p).2.1) := by
  unfold impl_pixelsOf.f
  rw [impl_PassStep_eq]
  simp only [Option.bind_some]
  have b := pstep_bd hp
  have hw' := (sideB_iff w).mp hw
  have hh' := (sideB_iff h).mp hh
  have b2 := cnt_bd (n := h) b.2.2.2.2.2.1 b.2.2.1 hh'.2
  rw [impl_pixels_l0 b.2.2.2.2.1 b.2.2.2.2.2.1 w h _ hw' hh'.2 b.1 (cnt h (pstep p).2.1 (pstep p).2.2.2).toNat k [] _ b.2.2.1 (by omega) (by simp; omega) (by omega), grid_eq hw hh hp]
  rfl
theorem impl_passes_l1 (x4 : List S29) (n p : Int) (P : List Int) (w h c d : Int) (xs : List Int) (z0 z1 z2 z3 : Int) (hx4 : x4.length ≤ 7) (hp : 0 ≤ p ∧ p ≤ 7) (hn : 0 ≤ n ∧ n ≤ 4) (hxs : xs.length ≤ 2304) (hP : P.length ≤ 576) (hb : ∀ a ∈ P, 0 ≤ a ∧ 0 ≤ a * n ∧ a * n + n ≤ xs.length) (m : Nat) : ∀ (k i : Nat) (acc : List Int), i ≤ P.length → P.length - i = m → acc.length + 4 * m ≤ 1000000 →
    impl_PassesOf.l1 (k + m + 1) x4 n p P P.length i w h c d xs z0 z1 z2 z3 acc = impl_PassesOf.l0 k (x4 ++ [⟨z0, z1, z2, z3, acc ++ (P.drop i).flatMap (smp xs n)⟩]) n (p + 1) w h c d xs := by
  induction m with
  | zero =>
    intro k i acc hi hm ha
    simp only [Nat.add_zero, impl_PassesOf.l1]
    rw [if_neg (by omega), if_pos (by omega), w64 (x := p + 1) (by omega) (by omega), List.drop_eq_nil_of_le (by omega)]
    simp
  | succ m ih =>
    intro k i acc hi hm ha
    have hi' : i < P.length := by omega
    have e : rd P i = P[i] := rd_at P i hi'
    obtain ⟨b1, b2, b3⟩ := hb P[i] (List.getElem_mem hi')
    have b4 : P[i] ≤ 1000000 ∨ n = 0 := by
      by_cases z : n = 0
      · exact Or.inr z
      · left
        have := Int.mul_le_mul_of_nonneg_left (show 1 ≤ n by omega) b1
        omega
    have b5 : P[i] * n + n = (P[i] + 1) * n := by rw [Int.add_mul, Int.one_mul]
    have wq : wrap64 (wrap64 (P[i] + 1) * n) = P[i] * n + n := by
      rcases b4 with b4 | z
      · rw [w64 (x := P[i] + 1) (by omega) (by omega), b5, w64 (by omega) (by omega)]
      · rw [z]; simp [wrap64]
    obtain ⟨K, hK⟩ : ∃ K, K = k + m + 1 := ⟨_, rfl⟩
    rw [show k + (m + 1) + 1 = K + 1 from by omega]
    simp only [impl_PassesOf.l1]
    have ll : acc.length + ((xs.take (P[i] * n + n).toNat).drop (P[i] * n).toNat).length < 17592186044416 := by
      simp only [List.length_drop, List.length_take]; omega
    have sl : (smp xs n P[i]).length = n.toNat := smp_len xs n _ hn.1 b1 b3
    rw [if_pos (by omega), if_pos (by omega), if_pos (by omega), e, w64 (x := P[i] * n) (by omega) (by omega), wq, if_pos b2, if_pos (by omega), if_pos b3, if_pos ll,
      w64 (x := (i : Int) + 1) (by omega) (by omega)]
    have q := ih k (i + 1) (acc ++ smp xs n P[i]) (by omega) (by omega) (by rw [List.length_append, sl]; omega)
    push_cast at q
    rw [show ((xs.take (P[i] * n + n).toNat).drop (P[i] * n).toNat) = smp xs n P[i] from rfl, hK, q, List.drop_eq_getElem_cons hi', List.flatMap_cons, List.append_assoc]
theorem passes_ar {q k P : Nat} (h : (q + 1) * 600 + 800 ≤ k + P + 1 + 1) (hP : P ≤ 576) : q * 600 + 800 ≤ k := by
  rw [Nat.succ_mul] at h
  generalize q * 600 = z at h ⊢
  omega
theorem impl_passes_l0 (w h c d : Int) (xs : List Int) (ok : rasterOk w h c d xs = true) (q : Nat) : ∀ (k p : Nat) (x4 : List S29), p + q = 7 → x4.length ≤ p → q * 600 + 800 ≤ k →
    impl_PassesOf.l0 k x4 (chan c) p w h c d xs = some (x4 ++ (List.range' p q).map (fun p : Nat => passL w h c d xs p), true) := by
  have ok2 := ok
  simp only [rasterOk, Bool.and_eq_true, decide_eq_true_eq] at ok2
  obtain ⟨⟨⟨⟨hw, hh⟩, hdk⟩, hl⟩, hall⟩ := ok2
  have bd := wh_bd (c := c) hw hh
  have cb := chan_bd c
  induction q with
  | zero =>
    intro k p x4 hp hx hk
    obtain ⟨k, rfl⟩ : ∃ m, k = m + 1 := ⟨k - 1, by omega⟩
    simp only [impl_PassesOf.l0]
    rw [if_neg (by omega)]; simp
  | succ q ih =>
    intro k p x4 hp hx hk
    have hp7 : p < 7 := by omega
    have pb := passB_nat hp7
    have sb := psize_bd hw hh pb
    have gb := grid_bd hw hh pb
    have gl := gridPl_len w (pstep p).2.2.1 (pstep p).2.2.2 (pstep p).1 (psize w h p).1.toNat (psize w h p).2.toNat (pstep p).2.1
    obtain ⟨k, rfl⟩ : ∃ m, k = m + 1 := ⟨k - 1, by omega⟩
    simp only [impl_PassesOf.l0]
    rw [if_pos (by omega), impl_PassSize_eq k (by omega), impl_pixelsOf_eq hw hh pb k (by omega)]
    simp only [Option.bind_some]
    have pl : passL w h c d xs p = ⟨(psize w h p).1, (psize w h p).2, c, d, [] ++ ((gridPl w (pstep p).2.2.1 (pstep p).2.2.2 (pstep p).1 (psize w h p).1.toNat (psize w h p).2.toNat (pstep p).2.1).drop 0).flatMap (smp xs (chan c))⟩ := rfl
    generalize hP : gridPl w (pstep p).2.2.1 (pstep p).2.2.2 (pstep p).1 (psize w h p).1.toNat (psize w h p).2.toNat (pstep p).2.1 = P at gb gl pl ⊢
    have hPl : P.length ≤ 576 := by
      rw [gl]
      exact Nat.mul_le_mul (show (psize w h p).1.toNat ≤ 24 by omega) (show (psize w h p).2.toNat ≤ 24 by omega)
    obtain ⟨k, rfl⟩ : ∃ m, k = m + P.length + 1 := ⟨k - P.length - 1, by omega⟩
    have s1 := impl_passes_l1 x4 (chan c) p P w h c d xs (psize w h p).1 (psize w h p).2 c d (by omega) (by omega) (by omega) (by omega) hPl (fun a ha => ⟨(gb a ha).1, plc_bd (gb a ha) (by omega) hl⟩) P.length k 0 [] (by omega) (by omega) (by simp; omega)
    rw [show ((0 : Nat) : Int) = 0 from rfl] at s1
    rw [s1, ← pl]
    have s2 := ih k (p + 1) (x4 ++ [passL w h c d xs p]) (by omega) (by rw [List.length_append]; exact Nat.add_le_add_right hx 1) (passes_ar hk hPl)
    push_cast at s2
    rw [s2, List.range'_succ]
    simp
theorem impl_PassesOf_eq (w h c d : Int) (xs : List Int) (hx : xs.length ≤ 9223372036854775807) (k : Nat) (hk : 6000 ≤ k) (hk2 : xs.length + 3 ≤ k) :
    impl_PassesOf.f k w h c d xs = some (if rasterOk w h c d xs then (passesL w h c d xs, true) else ([], false)) := by
  unfold impl_PassesOf.f
  rw [impl_RasterOk_eq w h c d xs hx k hk2]
  simp only [Option.bind_some]
  by_cases ok : rasterOk w h c d xs = true
  · rw [if_pos ok, if_pos ok, impl_ChannelsOf_eq k (by omega)]
    simp only [Option.bind_some]
    have := impl_passes_l0 w h c d xs ok 7 k 0 [] (by omega) (by simp) (by omega)
    rw [show ((0 : Nat) : Int) = 0 from rfl] at this
    rw [this]; rfl
  · rw [if_neg ok, if_neg ok]

theorem slices_Equal_l0 (xs ys : List Int) (hl : xs.length = ys.length) (hx : xs.length ≤ 1000000000) (d : Nat) : ∀ (k i : Nat), i ≤ xs.length → xs.length - i = d → d < k → slices_Equal_int_int.l0 k xs ys xs.length i = some (decide (xs.drop i = ys.drop i)) := by
  induction d with
  | zero =>
    intro k i hi hd hk
    obtain ⟨k, rfl⟩ : ∃ m, k = m + 1 := ⟨k - 1, by omega⟩
    rw [slices_Equal_int_int.l0, if_neg (by omega), List.drop_eq_nil_of_le (by omega), List.drop_eq_nil_of_le (by omega)]
    rfl
  | succ d ih =>
    intro k i hi hd hk
    obtain ⟨k, rfl⟩ : ∃ m, k = m + 1 := ⟨k - 1, by omega⟩
    have lx : i < xs.length := by omega
    have ly : i < ys.length := by omega
    have st := ih k (i + 1) (by omega) (by omega) (by omega)
    push_cast at st
    rw [slices_Equal_int_int.l0, if_pos (by omega), if_pos (by omega), if_pos (by omega), if_pos (by omega), rd_at xs i lx, rd_at ys i ly, w64 (by omega) (by omega), List.drop_eq_getElem_cons lx, List.drop_eq_getElem_cons ly]
    by_cases h : xs[i] = ys[i]
    · rw [if_pos h, st]
      congr 1
      rw [decide_eq_decide]
      exact ⟨fun q => by rw [h, q], fun q => (List.cons.inj q).2⟩
    · rw [if_neg h]
      congr 1
      exact (decide_eq_false (fun q => h (List.cons.inj q).1)).symm
theorem slices_Equal_eq (xs ys : List Int) (hx : xs.length ≤ 1000000000) (k : Nat) (hk : xs.length < k) : slices_Equal_int_int.f k xs ys = some (decide (xs = ys)) := by
  unfold slices_Equal_int_int.f
  by_cases h : xs.length = ys.length
  · rw [if_pos (by omega)]
    have := slices_Equal_l0 xs ys h hx xs.length k 0 (by omega) (by omega) hk
    rw [show ((0 : Nat) : Int) = 0 from rfl] at this
    simpa using this
  · rw [if_neg (by omega)]
    congr 1
    exact (decide_eq_false (fun q => h (by rw [q]))).symm
def rastEq (a b : S29) : Bool := decide (a.f0 = b.f0) && decide (a.f1 = b.f1) && decide (a.f2 = b.f2) && decide (a.f3 = b.f3) && decide (a.f4 = b.f4)
theorem rastEq_iff (a b : S29) : rastEq a b = true ↔ a = b := by
  cases a; cases b
  simp [rastEq, and_assoc]
theorem impl_sameRaster_eq (a b : S29) (hx : a.f4.length ≤ 1000000000) (k : Nat) (hk : a.f4.length < k) : impl_sameRaster.f k a.f0 a.f1 a.f2 a.f3 a.f4 b.f0 b.f1 b.f2 b.f3 b.f4 = some (rastEq a b) := by
  unfold impl_sameRaster.f rastEq
  by_cases h0 : a.f0 = b.f0
  · by_cases h1 : a.f1 = b.f1
    · by_cases h2 : a.f2 = b.f2
      · by_cases h3 : a.f3 = b.f3
        · rw [if_pos h0, if_pos h1, if_pos h2, if_pos h3, slices_Equal_eq _ _ hx k hk]; simp [h0, h1, h2, h3]
        · rw [if_pos h0, if_pos h1, if_pos h2, if_neg h3]; simp [h3]
      · rw [if_pos h0, if_pos h1, if_neg h2]; simp [h2]
    · rw [if_pos h0, if_neg h1]; simp [h1]
  · rw [if_neg h0]; simp [h0]
def rastsEq : List S29 → List S29 → Bool
  | [], [] => true
  | a :: ls, b :: bs => rastEq a b && rastsEq ls bs
  | _, _ => false
theorem rastsEq_iff (ls : List S29) : ∀ bs, rastsEq ls bs = true ↔ ls = bs := by
  induction ls with
  | nil => intro bs; cases bs <;> simp [rastsEq]
  | cons a ls ih => intro bs; cases bs <;> simp [rastsEq, rastEq_iff, ih]
theorem rd_Rast (ps : List S29) (i : Nat) (h : i < ps.length) : rd_T29 ps (i : Int) = ps[i] := by simp [rd_T29, List.getD, h]
theorem impl_EqRasters_l0 (ls bs : List S29) (hl : ls.length = bs.length) (ha : ls.length ≤ 1000) (hx : ∀ a ∈ ls, a.f4.length ≤ 5000) (d : Nat) : ∀ (k i : Nat), i ≤ ls.length → ls.length - i = d → d + 6000 ≤ k → impl_Raster.l0 k bs ls ls.length i = some (rastsEq (ls.drop i) (bs.drop i)) := by
  induction d with
  | zero =>
    intro k i hi hd hk
    obtain ⟨k, rfl⟩ : ∃ m, k = m + 1 := ⟨k - 1, by omega⟩
    rw [impl_Raster.l0, if_neg (by omega), List.drop_eq_nil_of_le (by omega), List.drop_eq_nil_of_le (by omega)]
    rfl
  | succ d ih =>
    intro k i hi hd hk
    obtain ⟨k, rfl⟩ : ∃ m, k = m + 1 := ⟨k - 1, by omega⟩
    have lx : i < ls.length := by omega
    have ly : i < bs.length := by omega
    have z := hx _ (List.getElem_mem lx)
    have st := ih k (i + 1) (by omega) (by omega) (by omega)
    push_cast at st
    rw [impl_Raster.l0, if_pos (by omega), if_pos (by omega), if_pos (by omega), if_pos (by omega), rd_Rast ls i lx, rd_Rast bs i ly, impl_sameRaster_eq _ _ (by omega) k (by omega), Option.bind_some, w64 (by omega) (by omega), List.drop_eq_getElem_cons lx, List.drop_eq_getElem_cons ly, rastsEq]
    by_cases h : rastEq ls[i] bs[i] = true
    · rw [if_pos h, st, h, Bool.true_and]
    · rw [if_neg h, Bool.eq_false_iff.mpr h, Bool.false_and]
theorem impl_EqRasters_eq (ls bs : List S29) (ha : ls.length ≤ 1000) (hx : ∀ a ∈ ls, a.f4.length ≤ 5000) (k : Nat) (hk : 8000 ≤ k) : impl_Raster.f k ls bs () = some (rastsEq ls bs) := by
  unfold impl_Raster.f
  by_cases h : ls.length = bs.length
  · rw [if_pos (by omega)]
    have := impl_EqRasters_l0 ls bs h ha hx ls.length k 0 (by omega) (by omega) (by omega)
    rw [show ((0 : Nat) : Int) = 0 from rfl] at this
    simpa using this
  · rw [if_neg (by omega)]
    congr 1
    have : rastsEq ls bs ≠ true := fun q => h (by rw [(rastsEq_iff ls bs).1 q])
    exact (Bool.eq_false_iff.mpr this).symm

theorem impl_From_l1 (w h : Int) (n : Nat) (hn4 : n ≤ 4) (ps : List S29) (p : Nat) (hp : p < 7) (P : List Int) (hP : P.length ≤ 576) (L : Nat) (hL : L ≤ 2304) (hb : ∀ a ∈ P, 0 ≤ a ∧ a ≤ 1000 ∧ a.toNat * n + n ≤ L) (src : List Int) (hs : src.length = P.length * n) (z0 z1 z2 z3 y0 y1 y2 y3 : Int) (m : Nat) : ∀ (k i : Nat) (out : List Int), i + m = P.length → out.length = L →
    impl_FromPasses.l1 (k + m + 1) w h ps n ps 7 p P P.length i z0 z1 z2 z3 out y0 y1 y2 y3 src = impl_FromPasses.l0 k w h ps n ps 7 (p + 1 : Nat) z0 z1 z2 z3 (scatF n src (P.drop i) i out) := by
  induction m with
  | zero =>
    intro k i out hi ho
    rw [Nat.add_zero, impl_FromPasses.l1, if_neg (by omega), w64 (x := (p : Int) + 1) (by omega) (by omega), List.drop_eq_nil_of_le (by omega)]
    rfl
  | succ m ih =>
    intro k i out hi ho
    have lt : i < P.length := by omega
    have q := hb _ (List.getElem_mem lt)
    have e0 : P[i] * (n : Int) = ((P[i].toNat * n : Nat) : Int) := by push_cast; rw [Int.toNat_of_nonneg q.1]
    have e1 : (P[i] + 1) * (n : Int) = ((P[i].toNat * n + n : Nat) : Int) := by rw [Int.add_mul, Int.one_mul, e0]; push_cast; rfl
    have e2 : (i : Int) * (n : Int) = ((i * n : Nat) : Int) := by push_cast; rfl
    have b2 : i * n ≤ P.length * n := Nat.mul_le_mul_right _ (by omega)
    have b3 : P.length * n ≤ 576 * 4 := Nat.mul_le_mul hP hn4
    have cl := cpy_len out (P[i].toNat * n) n (src.drop (i * n)) (by rw [ho]; exact q.2.2)
    obtain ⟨K, hK⟩ : ∃ K, K = k + m + 1 := ⟨_, rfl⟩
    have cut : ((out.take (P[i].toNat * n + n)).drop (P[i].toNat * n)).length = n := by rw [List.length_drop, List.length_take]; omega
    have st := ih k (i + 1) (cpy out (P[i].toNat * n) n (src.drop (i * n))) (by omega) (by rw [cl]; exact ho)
    rw [show k + (m + 1) + 1 = K + 1 from by omega, impl_FromPasses.l1, if_pos (by omega), if_pos (by omega), if_pos (by omega), rd_at P i lt, w64 (x := P[i] + 1) (by omega) (by omega), e1, e0, e2,
      w64 (x := ((P[i].toNat * n : Nat) : Int)) (by omega) (by omega), w64 (x := ((P[i].toNat * n + n : Nat) : Int)) (by omega) (by omega), w64 (x := ((i * n : Nat) : Int)) (by omega) (by omega), w64 (x := (i : Int) + 1) (by omega) (by omega),
      Int.toNat_natCast, Int.toNat_natCast, Int.toNat_natCast, cut, if_pos (by omega), if_pos (by omega), if_pos (by omega), if_pos (by omega), if_pos (by omega), hK]
    push_cast at st
    rw [st, List.drop_eq_getElem_cons lt, scatF]
    push_cast
    rfl
/-- All the passes' lengths are right. -/
def lensOk (w h : Int) (n : Nat) (ps : List S29) : Prop := ∀ p : Nat, p < 7 → (rd_T29 ps (p : Int)).f4.length = (placesL w h p).length * n
theorem places_len {w h : Int} (hw : sideB w = true) (hh : sideB h = true) (p : Nat) (hp : p < 7) : (placesL w h p).length ≤ 576 := by
  have sb := psize_bd hw hh (passB_nat hp)
  unfold placesL
  rw [gridPl_len]
  exact Nat.mul_le_mul (show (psize w h p).1.toNat ≤ 24 by omega) (show (psize w h p).2.toNat ≤ 24 by omega)
theorem impl_From_l0 {w h : Int} (hw : sideB w = true) (hh : sideB h = true) (n : Nat) (hn4 : n ≤ 4) (ps : List S29) (h7 : ps.length = 7) (lo : lensOk w h n ps) (c d : Int) (r : Nat) : ∀ (k p : Nat) (out : List Int), p + r = 7 → out.length = (w * h).toNat * n → r * 600 + 9000 ≤ k →
    ∃ q, 8000 ≤ q ∧ impl_FromPasses.l0 k w h ps n ps 7 p w h c d out = impl_FromPasses.l0 (q + 1) w h ps n ps 7 7 w h c d (scatAll w h n ps r p out) := by
  induction r with
  | zero =>
    intro k p out hp ho hk
    obtain ⟨k, rfl⟩ : ∃ m, k = m + 1 := ⟨k - 1, by omega⟩
    refine ⟨k, by omega, ?_⟩
    rw [show p = 7 from by omega]
    rfl
  | succ r ih =>
    intro k p out hp ho hk
    have hp7 : p < 7 := by omega
    have pl := places_len hw hh p hp7
    have pb := places_bd hw hh n p hp7
    have gb := fun a ha => grid_bd hw hh (passB_nat hp7) a ha
    have hw' := (sideB_iff w).mp hw
    have hh' := (sideB_iff h).mp hh
    have wb := mul_bd (a := w) (b := h) (m := 24) (n := 24) (by omega) (by omega) (by omega) (by omega)
    have lp := lo p hp7
    have nb : (placesL w h p).length * n ≤ 576 * 4 := Nat.mul_le_mul pl hn4
    have Lb : (w * h).toNat * n ≤ 576 * 4 := Nat.mul_le_mul (by omega) hn4
    have el : ((placesL w h p).length : Int) * (n : Int) = (((placesL w h p).length * n : Nat) : Int) := by push_cast; rfl
    have hk1 : (placesL w h p).length + 2 ≤ k ∧ r * 600 + 9000 ≤ k - (placesL w h p).length - 2 := by
      rw [Nat.succ_mul] at hk
      generalize r * 600 = z at hk ⊢
      omega
    obtain ⟨K, rfl⟩ : ∃ m, k = m + (placesL w h p).length + 1 + 1 := ⟨k - (placesL w h p).length - 2, by omega⟩
    have hK : r * 600 + 9000 ≤ K := by
      have := hk1.2
      generalize r * 600 = z at this ⊢
      omega
    have hK2 : 9000 ≤ K := Nat.le_trans (Nat.le_add_left _ _) hK
    have s1 := impl_From_l1 w h n hn4 ps p hp7 (placesL w h p) pl ((w * h).toNat * n) (by omega) (fun a ha => ⟨(pb a ha).1, by have := gb a ha; omega, (pb a ha).2⟩) (rd_T29 ps (p : Int)).f4 lp w h c d (rd_T29 ps (p : Int)).f0 (rd_T29 ps (p : Int)).f1 (rd_T29 ps (p : Int)).f2 (rd_T29 ps (p : Int)).f3 (placesL w h p).length K 0 out (by omega) ho
    rw [show ((0 : Nat) : Int) = 0 from rfl] at s1
    rw [impl_FromPasses.l0, if_pos (by omega), if_pos (by omega), if_pos (by rw [h7]; omega), impl_pixelsOf_eq hw hh (passB_nat hp7) _ (by omega), Option.bind_some]
    rw [show gridPl w (pstep (p : Int)).2.2.1 (pstep (p : Int)).2.2.2 (pstep (p : Int)).1 (psize w h (p : Int)).1.toNat (psize w h (p : Int)).2.toNat (pstep (p : Int)).2.1 = placesL w h p from rfl, el, w64 (by omega) (by omega), if_pos (by rw [lp]), s1]
    have e := scatF_len n (rd_T29 ps (p : Int)).f4 (placesL w h p) 0 out (fun a ha => by rw [ho]; exact (pb a ha).2)
    rw [List.drop_zero]
    obtain ⟨q, hq, eq⟩ := ih K (p + 1) (scatF n (rd_T29 ps (p : Int)).f4 (placesL w h p) 0 out) (by omega) (by rw [e]; exact ho) hK
    exact ⟨q, hq, eq⟩
theorem passes_lens {w h c d : Int} {xs : List Int} (ok : rasterOk w h c d xs = true) : lensOk w h (chan c).toNat (passesL w h c d xs) := by
  intro p hp
  simp only [rasterOk, Bool.and_eq_true, decide_eq_true_eq] at ok
  obtain ⟨⟨⟨⟨hw, hh⟩, hdk⟩, hl⟩, hall⟩ := ok
  have cb := chan_bd c
  have gb := grid_bd hw hh (passB_nat hp)
  rw [passesL_at w h c d xs p hp]
  show ((placesL w h p).flatMap (smp xs (chan c))).length = _
  have fl : ∀ P : List Int, (∀ a ∈ P, 0 ≤ a ∧ a * chan c + chan c ≤ xs.length) → (P.flatMap (smp xs (chan c))).length = P.length * (chan c).toNat := by
    intro P
    induction P with
    | nil => intro _; simp
    | cons a P ih =>
      intro hb
      have q := hb a (List.mem_cons_self ..)
      rw [List.flatMap_cons, List.length_append, ih fun b hb' => hb b (List.mem_cons_of_mem _ hb'), smp_len xs (chan c) a cb.1 q.1 q.2, List.length_cons, Nat.succ_mul]
      omega
  exact fl _ fun a ha => ⟨(gb a ha).1, (plc_bd (gb a ha) cb.1 hl).2⟩
/-- The passes of a raster, put together, are the raster. -/
theorem impl_From_passes {w h c d : Int} {xs : List Int} (ok : rasterOk w h c d xs = true) (k : Nat) (hk : 15000 ≤ k) : impl_FromPasses.f k w h (passesL w h c d xs) = some (w, h, c, d, xs, true) := by
  have ok2 := ok
  simp only [rasterOk, Bool.and_eq_true, decide_eq_true_eq] at ok2
  obtain ⟨⟨⟨⟨hw, hh⟩, hdk⟩, hl⟩, hall⟩ := ok2
  have bd := wh_bd (c := c) hw hh
  have cb := chan_bd c
  have h7 : (passesL w h c d xs).length = 7 := by simp [passesL]
  unfold impl_FromPasses.f
  rw [impl_isSide_eq, Option.bind_some, hw, if_pos rfl, impl_isSide_eq, Option.bind_some, hh, if_pos rfl, h7]
  obtain ⟨k, rfl⟩ : ∃ m, k = m + 1 := ⟨k - 1, by omega⟩
  have r0 : rd_T29 (passesL w h c d xs) 0 = passL w h c d xs 0 := passesL_at w h c d xs 0 (by omega)
  rw [impl_FromPasses.j0, if_neg (by decide), h7, if_pos (by omega), r0]
  show (impl_ChannelsOf.f k c).bind _ = _
  obtain ⟨n, hn⟩ := Int.eq_ofNat_of_zero_le cb.1
  rw [impl_ChannelsOf_eq k (by omega), Option.bind_some, w64 (x := w * h) (by omega) (by omega), w64 (x := w * h * chan c) (by omega) (by omega), if_pos (by omega), if_pos (by omega), ← hl, Int.toNat_natCast]
  have lo := passes_lens ok
  rw [hn, Int.toNat_natCast] at lo
  have hl2 : xs.length = (w * h).toNat * n := by
    have : (xs.length : Int) = (((w * h).toNat * n : Nat) : Int) := by rw [hl, hn]; push_cast; rw [Int.toNat_of_nonneg bd.1]
    omega
  obtain ⟨q, hq, e⟩ := impl_From_l0 hw hh n (by omega) (passesL w h c d xs) h7 lo c d 7 k 0 (List.replicate xs.length 0) (by omega) (by rw [List.length_replicate, hl2]) (by omega)
  rw [show ((0 : Nat) : Int) = 0 from rfl] at e
  rw [hn]
  show impl_FromPasses.l0 k w h (passesL w h c d xs) n (passesL w h c d xs) 7 0 w h c d (List.replicate xs.length 0) = _
  rw [e]
  have back := scatAll_back ok (List.replicate xs.length 0) (by rw [List.length_replicate])
  rw [hn, Int.toNat_natCast] at back
  rw [back, impl_FromPasses.l0, if_neg (by omega), impl_PassesOf_eq w h c d xs (by omega) q (by omega) (by omega), if_pos ok, Option.bind_some, if_pos rfl,
    impl_EqRasters_eq _ _ (by rw [h7]; omega) (fun a ha => by
      simp only [passesL, List.mem_map, List.mem_range'_1] at ha
      obtain ⟨p, hp, rfl⟩ := ha
      have l := passes_lens ok p (by omega)
      rw [passesL_at w h c d xs p (by omega)] at l
      have pl := places_len hw hh p (by omega)
      have nb : (placesL w h p).length * (chan c).toNat ≤ 576 * 4 := Nat.mul_le_mul pl (by omega)
      omega) q (by omega), Option.bind_some, (rastsEq_iff _ _).2 rfl, if_pos rfl]

theorem impl_FilterRow_l0 (d : Int) (s t : ByteArray) (u : Nat) (hu : 1 ≤ u ∧ u ≤ 8) (hs : s.size = t.size) (hs2 : s.size ≤ 200) (n : Nat) : ∀ (k i : Nat), i ≤ s.size → s.size - i = n → n + 15 < k → impl_FilterRow.l0 k d u (bytesOf s) (bytesOf t) (filtL d s t u i) s.size i = some (strOfNums (filtL d s t u s.size), true) := by
  have hl := bytesOf_len s
  induction n with
  | zero =>
    intro k i hi hn hk
    obtain ⟨k, rfl⟩ : ∃ m, k = m + 1 := ⟨k - 1, by omega⟩
    obtain rfl : i = s.size := by omega
    simp only [impl_FilterRow.l0]
    rw [if_neg (by omega)]
  | succ n ih =>
    intro k i hi hn hk
    obtain ⟨k, rfl⟩ : ∃ m, k = m + 1 := ⟨k - 1, by omega⟩
    have lt : i < s.size := by omega
    have b := bt_range s i
    have y := says_bd (d := d) (bytesOf_Bytes s) t u i
    have st := ih k (i + 1) (by omega) (by omega) (by omega)
    push_cast at st
    simp only [impl_FilterRow.l0]
    rw [if_pos (by omega), if_pos (by omega), if_pos (by omega), impl_foretold_eq d _ (bytesOf_Bytes s) t (by omega) u i hu (by omega) (by omega) k (by omega)]
    simp only [Option.bind_some]
    rw [if_pos (by rw [filtL_len]; omega), rd_bytesOf, w64 (x := (i : Int) + 1) (by omega) (by omega), show (bt s i - says d (bytesOf s) t u i % 256) % 256 = (bt s i - says d (bytesOf s) t u i) % 256 by omega, ← filtL_succ]
    exact st
theorem impl_FilterRow_eq (d : Int) (s t : ByteArray) (u : Int) (k : Nat) (hk : 300 ≤ k) : impl_FilterRow.f k d s t u = some (filterRow d s t u) := by
  unfold impl_FilterRow.f filterRow
  rw [impl_filterOk_eq]
  simp only [Option.bind_some]
  by_cases h : filterB d s t u = true
  · rw [if_pos h, if_pos h]
    have q := (filterB_iff d s t u).mp h
    obtain ⟨n, rfl⟩ := Int.eq_ofNat_of_zero_le (show 0 ≤ u by omega)
    have := impl_FilterRow_l0 d s t n (by omega) (by omega) (by omega) s.size k 0 (by omega) (by omega) (by omega)
    rw [if_pos (by omega), if_pos (by omega), Int.toNat_natCast, bytesOf_len]
    exact this
  · rw [if_neg h, if_neg h]

theorem impl_RowWeight_l0 (s : ByteArray) (hs : s.size ≤ 200) (d : Nat) : ∀ (k n : Nat), n ≤ s.size → s.size - n = d → d < k → impl_RowWeight.l0 k s (weigh s n) s.size n = some (weigh s s.size) := by
  induction d with
  | zero =>
    intro k n hn hd hk
    obtain ⟨k, rfl⟩ : ∃ m, k = m + 1 := ⟨k - 1, by omega⟩
    obtain rfl : n = s.size := by omega
    simp only [impl_RowWeight.l0]
    rw [if_neg (by omega)]
  | succ d ih =>
    intro k n hn hd hk
    obtain ⟨k, rfl⟩ : ∃ m, k = m + 1 := ⟨k - 1, by omega⟩
    have hb := bt_range s n
    have hw := weigh_bd s (n + 1)
    have step := ih k (n + 1) (by omega) (by omega) (by omega)
    have hl := mn_light (bt s n) hb.1 hb.2
    simp only [weigh] at step hw
    simp only [impl_RowWeight.l0]
    rw [if_pos (by omega), if_pos (by omega), if_pos (by omega), wbt, w64 (x := 256 - bt s n) (by omega) (by omega), hl, w64 (x := weigh s n + lightOf (bt s n)) (by omega) (by omega), w64 (x := (n : Int) + 1) (by omega) (by omega)]
    exact step
theorem impl_RowWeight_eq (s : ByteArray) (k : Nat) (hk : 201 ≤ k) : impl_RowWeight.f k s = some (if s.size ≤ 200 then weigh s s.size else -1) := by
  unfold impl_RowWeight.f
  by_cases h : s.size ≤ 200
  · rw [if_neg (by omega), if_pos h]
    exact impl_RowWeight_l0 s h s.size k 0 (by omega) (by omega) (by omega)
  · rw [if_pos (by omega), if_neg h]

theorem impl_best_l0v (s t : ByteArray) (u : Int) (r : Nat) : ∀ (k i : Nat) (b w : Int), i + r = 5 → r + 400 < k → impl_BestFilter.l0 k s t u b w i = some (bestV s t u r i b w) := by
  induction r with
  | zero =>
    intro k i b w hi hk
    obtain ⟨k, rfl⟩ : ∃ m, k = m + 1 := ⟨k - 1, by omega⟩
    simp only [impl_BestFilter.l0]; rw [if_neg (by omega)]; rfl
  | succ r ih =>
    intro k i b w hi hk
    obtain ⟨k, rfl⟩ : ∃ m, k = m + 1 := ⟨k - 1, by omega⟩
    have sz := filterRow_size i s t u
    have st := fun b w => ih k (i + 1) b w (by omega) (by omega)
    push_cast at st
    simp only [impl_BestFilter.l0, bestV]
    rw [if_pos (by omega), impl_FilterRow_eq _ s t u k (by omega), w64 (x := (i : Int) + 1) (by omega) (by omega), Option.bind_some]
    by_cases h : (filterRow i s t u).2 = true
    · rw [if_pos h, if_pos h]
      generalize (filterRow i s t u).1 = z at sz ⊢
      rw [impl_RowWeight_eq z k (by omega)]
      simp only [Option.bind_some]
      rw [show (if z.size ≤ 200 then weigh z z.size else -1) = wtR z from rfl]
      by_cases h2 : w < 0
      · rw [if_pos h2, if_pos h2]; exact st _ _
      · rw [if_neg h2, if_neg h2]
        by_cases h3 : wtR z < w
        · rw [if_pos h3, if_pos h3]; exact st _ _
        · rw [if_neg h3, if_neg h3]; exact st _ _
    · rw [if_neg h, if_neg h]
theorem impl_BestFilter_val (s t : ByteArray) (u : Int) (k : Nat) (hk : 500 ≤ k) : impl_BestFilter.f k s t u = some (bestV s t u 5 0 0 (-1)) := by
  have := impl_best_l0v s t u 5 k 0 0 (-1) (by omega) (by omega)
  rw [show ((0 : Nat) : Int) = 0 from rfl] at this
  exact this

/-- The first t bits alone. -/
def upto (f : Nat → Int) (t u : Nat) : Int := if u < t then f u else 0
theorem upto_bits {f : Nat → Int} (h : isBits f) (t : Nat) : isBits (upto f t) := fun u => by
  unfold upto; have := h u; split <;> omega
theorem upto_succ (f : Nat → Int) (t u : Nat) : upto f (t + 1) u = if u = t then f t else upto f t u := by
  unfold upto
  by_cases h : u = t
  · subst h; simp
  · rw [if_neg h]
    by_cases h2 : u < t
    · rw [if_pos (by omega), if_pos h2]
    · rw [if_neg (by omega), if_neg h2]
theorem byteV_other (f : Nat → Int) (t j : Nat) (h : j ≠ t / 8) : byteV (upto f (t + 1)) j = byteV (upto f t) j := by
  unfold byteV
  simp only [upto_succ]
  rw [if_neg (by omega), if_neg (by omega), if_neg (by omega), if_neg (by omega), if_neg (by omega), if_neg (by omega), if_neg (by omega), if_neg (by omega)]
/-- A bit put into its byte: there was none. -/
theorem byteV_or {f : Nat → Int} (hf : isBits f) (t : Nat) : Go.bits .or .u8 (byteV (upto f t) (t / 8)) (f t * 2 ^ (7 - t % 8)) = byteV (upto f (t + 1)) (t / 8) := by
  have hb := byteV_bd (upto_bits hf t) (t / 8)
  have ft := hf t
  have u8 : ∀ n : Int, 0 ≤ n → n < 2 ^ 8 → IntKind.u8.wrap n = n := wraps_u8
  obtain ⟨q, m, rfl, hm⟩ : ∃ q m, t = 8 * q + m ∧ m < 8 := ⟨t / 8, t % 8, by omega, by omega⟩
  have e1 : (8 * q + m) / 8 = q := by omega
  have e2 : (8 * q + m) % 8 = m := by omega
  rw [e1] at hb ⊢
  rw [e2]
  have past : ∀ u, 8 * q + m ≤ u → upto f (8 * q + m) u = 0 := fun u hu => by unfold upto; rw [if_neg (by omega)]
  have key : byteV (upto f (8 * q + m)) q % 2 ^ (8 - m) = 0 ∧ byteV (upto f (8 * q + m + 1)) q = byteV (upto f (8 * q + m)) q + f (8 * q + m) * 2 ^ (7 - m) := by
    unfold byteV
    simp only [upto_succ]
    have : m = 0 ∨ m = 1 ∨ m = 2 ∨ m = 3 ∨ m = 4 ∨ m = 5 ∨ m = 6 ∨ m = 7 := by omega
    rcases this with rfl | rfl | rfl | rfl | rfl | rfl | rfl | rfl
    all_goals
      try rw [past (8 * q) (by omega)]
      try rw [past (8 * q + 1) (by omega)]
      try rw [past (8 * q + 2) (by omega)]
      try rw [past (8 * q + 3) (by omega)]
      try rw [past (8 * q + 4) (by omega)]
      try rw [past (8 * q + 5) (by omega)]
      try rw [past (8 * q + 6) (by omega)]
      rw [past (8 * q + 7) (by omega)]
      simp
      try omega
  have hlt : f (8 * q + m) * 2 ^ (7 - m) < 2 ^ (8 - m) ∧ f (8 * q + m) * 2 ^ (7 - m) < 2 ^ 8 ∧ 0 ≤ f (8 * q + m) * 2 ^ (7 - m) := by
    have : m = 0 ∨ m = 1 ∨ m = 2 ∨ m = 3 ∨ m = 4 ∨ m = 5 ∨ m = 6 ∨ m = 7 := by omega
    rcases this with rfl | rfl | rfl | rfl | rfl | rfl | rfl | rfl <;> simp at ft ⊢ <;> omega
  rw [bits_join .u8 8 (by decide) u8 (8 - m) _ _ hb.1 key.1 (by omega) hlt.2.2 hlt.1 hlt.2.1, key.2]
theorem bytesV_set {f : Nat → Int} (hf : isBits f) (N t : Nat) (h : t / 8 < N) : (bytesV (upto f t) N).set (t / 8) (Go.bits .or .u8 (byteV (upto f t) (t / 8)) (f t * 2 ^ (7 - t % 8))) = bytesV (upto f (t + 1)) N := by
  rw [byteV_or hf]
  apply List.ext_getElem?
  intro j
  by_cases e : j = t / 8
  · subst e
    rw [List.getElem?_set_self (by rw [bytesV_len]; exact h)]
    simp [bytesV, h]
  · rw [List.getElem?_set_ne (by omega)]
    simp only [bytesV, List.getElem?_map]
    by_cases hj : j < N
    · rw [List.getElem?_range hj]
      simp only [Option.map_some]
      rw [byteV_other f t j e]
    · rw [List.getElem?_eq_none (by simp; omega)]; rfl
theorem bytesV_zero (f : Nat → Int) (N : Nat) : bytesV (upto f 0) N = List.replicate N 0 := by
  have e : ∀ u, upto f 0 u = 0 := fun u => by unfold upto; rw [if_neg (by omega)]
  apply List.ext_getElem (by simp [bytesV])
  intro j h1 h2
  simp [bytesV, byteV, e]
theorem bytesV_all (xs : List Int) (D N : Nat) : bytesV (upto (bitF xs D) (xs.length * D)) N = bytesV (bitF xs D) N := by
  have e : upto (bitF xs D) (xs.length * D) = bitF xs D := by
    funext u
    unfold upto
    split
    · rfl
    · rw [bitF_past xs D u (by omega)]
  rw [e]
theorem impl_bit (x : Int) (hx : 0 ≤ x ∧ x ≤ 1000000) (c m : Nat) (hc : c ≤ 15) (hm : m ≤ 7) : shl .u8 ((Go.bits .and .i64 (shr .i64 x (c : Int)) 1) % 256) (m : Int) = x / 2 ^ c % 2 * 2 ^ m := by
  have e1 : shr .i64 x (c : Int) = x / 2 ^ c := by
    unfold shr
    rw [show min (c : Int).toNat IntKind.i64.bits = c by simp [IntKind.bits]; omega]
  have b := p2_pos (c : Int)
  have q : 0 ≤ x / 2 ^ c ∧ x / 2 ^ c ≤ 1000000 := ⟨Int.ediv_nonneg hx.1 (by exact_mod_cast Nat.zero_le _), Int.le_trans (Int.ediv_le_self _ hx.1) hx.2⟩
  have e2 : Go.bits .and .i64 (x / 2 ^ c) 1 = x / 2 ^ c % 2 := by
    have := bits_mask .i64 62 (by decide) (fun n h0 h1 => by rw [IntKind.wrap_i64]; omega) 1 (by omega) (x / 2 ^ c) q.1 (by omega)
    simpa using this
  rw [e1, e2]
  unfold shl
  rw [show min (m : Int).toNat IntKind.u8.bits = m by simp [IntKind.bits]; omega, IntKind.wrap_u8, show x / 2 ^ c % 2 % 256 = x / 2 ^ c % 2 by omega]
  have hb : 0 ≤ x / 2 ^ c % 2 ∧ x / 2 ^ c % 2 ≤ 1 := by omega
  have : m = 0 ∨ m = 1 ∨ m = 2 ∨ m = 3 ∨ m = 4 ∨ m = 5 ∨ m = 6 ∨ m = 7 := by omega
  rcases this with rfl | rfl | rfl | rfl | rfl | rfl | rfl | rfl <;> simp <;> omega
theorem impl_PackRow_l1 (xs : List Int) (D : Nat) (hD : 1 ≤ D ∧ D ≤ 16) (i : Nat) (hi : i < xs.length) (hn : xs.length ≤ 96) (hx : 0 ≤ xs[i] ∧ xs[i] ≤ 1000000) (r : Nat) : ∀ (k : Nat), r ≤ D → r < k →
    impl_PackRow.l1 k D (bytesV (upto (bitF xs D) (i * D + (D - r))) (upN (xs.length * D))) i xs[i] xs xs.length i D ((D - r : Nat) : Int) = impl_PackRow.l0 (k - r - 1) D (bytesV (upto (bitF xs D) ((i + 1) * D)) (upN (xs.length * D))) xs xs.length (i + 1 : Nat) := by
  have top : (i + 1) * D ≤ xs.length * D := Nat.mul_le_mul_right _ hi
  have lim : xs.length * D ≤ 96 * 16 := Nat.mul_le_mul hn hD.2
  have topi : (i + 1) * D = i * D + D := Nat.succ_mul _ _
  induction r with
  | zero =>
    intro k hr hk
    obtain ⟨k, rfl⟩ : ∃ m, k = m + 1 := ⟨k - 1, by omega⟩
    simp only [impl_PackRow.l1]
    rw [if_neg (by omega), w64 (by omega) (by omega), Nat.sub_zero, ← topi]
    rfl
  | succ r ih =>
    intro k hr hk
    obtain ⟨k, rfl⟩ : ∃ m, k = m + 1 := ⟨k - 1, by omega⟩
    obtain ⟨c, hc⟩ : ∃ c, c = D - (r + 1) := ⟨_, rfl⟩
    rw [← hc]
    have q := bitF_at xs D i c hi (by omega)
    have t8 : (i * D + c) / 8 < upN (xs.length * D) := by unfold upN; omega
    have iD : (i : Int) * (D : Int) = ((i * D : Nat) : Int) := by push_cast; rfl
    have ix : Int.tdiv ((i * D : Nat) + (c : Int)) 8 = ((i * D + c) / 8 : Nat) := by rw [Int.tdiv_eq_ediv_of_nonneg (by omega)]; omega
    have rx : Int.tmod ((i * D : Nat) + (c : Int)) 8 = ((i * D + c) % 8 : Nat) := by rw [Int.tmod_eq_emod_of_nonneg (by omega)]; omega
    have bit := impl_bit xs[i] hx (D - 1 - c) (7 - (i * D + c) % 8) (by omega) (by omega)
    rw [← q] at bit
    simp only [impl_PackRow.l1]
    rw [iD, w64 (x := ((i * D : Nat) : Int)) (by omega) (by omega), w64 (x := ((i * D : Nat) : Int) + c) (by omega) (by omega), ix, rx, w64 (x := (((i * D + c) / 8 : Nat) : Int)) (by omega) (by omega), w64 (x := (D : Int) - 1) (by omega) (by omega), w64 (x := (D : Int) - 1 - c) (by omega) (by omega), w64 (x := 7 - (((i * D + c) % 8 : Nat) : Int)) (by omega) (by omega), w64 (x := (c : Int) + 1) (by omega) (by omega)]
    rw [if_pos (by omega), if_pos (by omega), bytesV_len, if_pos (by omega), if_pos (by omega), if_pos (by omega), show (D : Int) - 1 - (c : Int) = ((D - 1 - c : Nat) : Int) by omega, show (7 : Int) - (((i * D + c) % 8 : Nat) : Int) = ((7 - (i * D + c) % 8 : Nat) : Int) by omega, bit, bytesV_get _ _ _ t8, Int.toNat_natCast, bytesV_set (bitF_bd xs D) _ _ t8]
    have e := ih k (by omega) (by omega)
    rw [show D - r = c + 1 by omega, ← Nat.add_assoc] at e
    push_cast at e ⊢
    rw [e, show k - r - 1 = k + 1 - (r + 1) - 1 by omega]
theorem impl_PackRow_l0 (xs : List Int) (D : Nat) (hD : 1 ≤ D ∧ D ≤ 16) (hn : xs.length ≤ 96) (ha : ∀ x ∈ xs, 0 ≤ x ∧ x ≤ 1000000) (d : Nat) : ∀ (k i : Nat), i ≤ xs.length → xs.length - i = d → d * 20 + 1 ≤ k →
    impl_PackRow.l0 k D (bytesV (upto (bitF xs D) (i * D)) (upN (xs.length * D))) xs xs.length i = some (strOfNums (bytesV (bitF xs D) (upN (xs.length * D))), true) := by
  induction d with
  | zero =>
    intro k i hi hd hk
    obtain ⟨k, rfl⟩ : ∃ m, k = m + 1 := ⟨k - 1, by omega⟩
    obtain rfl : i = xs.length := by omega
    simp only [impl_PackRow.l0]
    rw [if_neg (by omega), bytesV_all]
  | succ d ih =>
    intro k i hi hd hk
    obtain ⟨k, rfl⟩ : ∃ m, k = m + 1 := ⟨k - 1, by omega⟩
    have lt : i < xs.length := by omega
    have s1 := impl_PackRow_l1 xs D hD i lt hn (ha _ (List.getElem_mem lt)) D k (by omega) (by omega)
    rw [Nat.sub_self, Nat.add_zero] at s1
    simp only [impl_PackRow.l0]
    rw [if_pos (by omega), if_pos (by omega), if_pos (by omega), rd_at xs i lt]
    exact s1.trans (ih (k - D - 1) (i + 1) (by omega) (by omega) (by omega))
theorem all_inB {m : Int} {xs : List Int} (h : xs.all (inB m) = true) : ∀ x ∈ xs, 0 ≤ x ∧ x ≤ m := by
  intro x hx
  have := List.all_eq_true.1 h x hx
  simpa [inB] using this
theorem impl_PackRow_eq (xs : List Int) (hx : xs.length ≤ 9223372036854775807) (d : Int) (k : Nat) (hk : 5000 ≤ k) : impl_PackRow.f k xs d = some (packRow xs d) := by
  unfold impl_PackRow.f packRow
  rw [impl_isDepth_eq]
  simp only [Option.bind_some]
  change (if depthB d = true then _ else _) = _
  obtain ⟨k, rfl⟩ : ∃ m, k = m + 1 := ⟨k - 1, by omega⟩
  have no : impl_PackRow.j0 (k + 1) xs d true = some (⟨#[]⟩, false) := by simp [impl_PackRow.j0]
  by_cases hd : depthB d = true
  · obtain ⟨D, rfl, hD⟩ := depthB_nat hd
    rw [if_pos hd, no]
    by_cases hn : xs.length ≤ 96
    · have lim : xs.length * D ≤ 96 * 16 := Nat.mul_le_mul hn (by omega)
      have b16 := p2_16 (n := (D : Int)) (by omega)
      rw [if_neg (by omega), impl_samplesOk_eq (D : Int) (by omega) (by omega) xs hx _ (by omega)]
      simp only [Option.bind_some, hd, hn, decide_true, Bool.true_and, Int.toNat_natCast]
      by_cases ha : xs.all (inB (p2 D - 1)) = true
      · have ha' := all_inB ha
        have iD : (xs.length : Int) * (D : Int) = ((xs.length * D : Nat) : Int) := by push_cast; rfl
        rw [ha]
        simp only [impl_PackRow.j0, Bool.not_true]
        rw [if_neg (by decide), if_pos trivial, iD, w64 (by omega) (by omega), impl_up_eq' _ (by omega)]
        simp only [Option.bind_some, Int.toNat_natCast]
        rw [if_pos (by omega), if_pos (by unfold upN; omega), ← bytesV_zero (bitF xs D)]
        have R := impl_PackRow_l0 xs D (by omega) hn (fun x hx => by have := ha' x hx; omega) xs.length k 0 (by omega) (by omega) (by omega)
        rw [Nat.zero_mul] at R
        exact R
      · have ha' : xs.all (inB (p2 D - 1)) = false := by simpa using ha
        rw [ha', Bool.not_false, no]; rfl
    · rw [if_pos (by omega)]
      simp [hn]
  · rw [if_neg hd, no]
    simp [hd]

theorem impl_rows_l0 {w h c d : Int} {xs : List Int} (ok : PieceOk w h c d xs) (n : Nat) : ∀ (k j : Nat) (acc : List ByteArray), (j : Int) + n = h → acc.length ≤ j → n + 6000 ≤ k →
    impl_rowsOf.l0 k acc (w * chan c) h j w h c d xs = some (acc ++ rowsL xs (w * chan c) d j n) := by
  have b := piece_bd ok
  have hh := ok.hh
  induction n with
  | zero =>
    intro k j acc hj ha hk
    obtain ⟨k, rfl⟩ : ∃ m, k = m + 1 := ⟨k - 1, by omega⟩
    simp only [impl_rowsOf.l0]
    rw [if_neg (by omega)]; simp [rowsL]
  | succ n ih =>
    intro k j acc hj ha hk
    obtain ⟨k, rfl⟩ : ∃ m, k = m + 1 := ⟨k - 1, by omega⟩
    have p := piece_at ok j (by omega)
    have e : ((j : Int) + 1) * (w * chan c) = (j : Int) * (w * chan c) + w * chan c := by rw [Int.add_mul, Int.one_mul]
    have sl := smp_len xs (w * chan c) j b.1 (by omega) p.2
    simp only [impl_rowsOf.l0]
    rw [if_pos (by omega), w64 (x := (j : Int) * (w * chan c)) (by omega) (by omega), w64 (x := (j : Int) + 1) (by omega) (by omega), w64 (x := ((j : Int) + 1) * (w * chan c)) (by omega) (by omega), e, if_pos p.1, if_pos (by omega), if_pos p.2,
      show ((xs.take ((j : Int) * (w * chan c) + w * chan c).toNat).drop ((j : Int) * (w * chan c)).toNat) = smp xs (w * chan c) j from rfl,
      impl_PackRow_eq _ (by omega) d k (by omega)]
    simp only [Option.bind_some]
    rw [if_pos (by omega)]
    have q := ih k (j + 1) (acc ++ [(packRow (smp xs (w * chan c) j) d).1]) (by omega) (by rw [List.length_append]; exact Nat.add_le_add_right ha 1) (by omega)
    push_cast at q
    rw [q]
    simp [rowsL, rowS, List.range'_succ]
theorem impl_rowsOf_eq {w h c d : Int} {xs : List Int} (ok : PieceOk w h c d xs) (k : Nat) (hk : 6100 ≤ k) : impl_rowsOf.f k w h c d xs = some (rowsL xs (w * chan c) d 0 h.toNat) := by
  have b := piece_bd ok
  have hh := ok.hh
  unfold impl_rowsOf.f
  rw [impl_ChannelsOf_eq k (by omega)]
  simp only [Option.bind_some]
  rw [w64 (x := w * chan c) (by omega) (by omega)]
  have := impl_rows_l0 ok h.toNat k 0 [] (by omega) (by simp) (by omega)
  rw [show ((0 : Nat) : Int) = 0 from rfl] at this
  rw [this]; rfl
theorem impl_scan_l0 (m u : Int) (rows : List ByteArray) (hr : rows.length ≤ 24) (Z : Nat) (hZ : Z ≤ 1000) (hz : ∀ r ∈ rows, r.size = Z) (n : Nat) : ∀ (k i : Nat) (xs : List Int) (above ab2 : ByteArray), i ≤ rows.length → rows.length - i = n → xs.length + 201 * n ≤ 1000000 → n * 2 + 1000 ≤ k →
    (ab2 = if i = 0 then zeroS Z else above) →
    impl_scanRows.l0 k m (strOfNums xs) u above rows rows.length i = some (strOfNums (xs ++ scanL m u (rows.drop i) ab2)) := by
  induction n with
  | zero =>
    intro k i xs above ab2 hi hn hx hk hab
    obtain ⟨k, rfl⟩ : ∃ m, k = m + 1 := ⟨k - 1, by omega⟩
    simp only [impl_scanRows.l0]
    rw [if_neg (by omega), List.drop_eq_nil_of_le (by omega)]
    simp [scanL]
  | succ n ih =>
    intro k i xs above ab2 hi hn hx hk hab
    obtain ⟨k, rfl⟩ : ∃ m, k = m + 1 + 1 := ⟨k - 2, by omega⟩
    have hi' : i < rows.length := by omega
    have e : rdOf ByteArray.empty rows (i : Int) = rows[i] := by simp [rdOf, List.getD, hi']
    have zi : rows[i].size = Z := hz _ (List.getElem_mem hi')
    have core : impl_scanRows.j1 (k + 1) m (strOfNums xs) u ab2 rows[i] rows rows.length i = some (strOfNums (xs ++ scanL m u (rows.drop i) ab2)) := by
      simp only [impl_scanRows.j1]
      rw [List.drop_eq_getElem_cons hi']
      simp only [scanL]
      by_cases h5 : m = 5
      · rw [if_pos h5, if_pos h5, impl_BestFilter_val _ _ _ k (by omega)]
        simp only [Option.bind_some]
        rw [show (bestV rows[i] ab2 u 5 0 0 (-1)).1 = bestF rows[i] ab2 u from rfl, impl_FilterRow_eq _ _ _ _ k (by omega)]
        generalize bestF rows[i] ab2 u = f
        have sz := filterRow_size f rows[i] ab2 u
        simp only [Option.bind_some, impl_byteText.f]
        have q := ih k (i + 1) (xs ++ ([f % 256] ++ bytesOf (filterRow f rows[i] ab2 u).1)) rows[i] rows[i] (by omega) (by omega) (by simp only [List.length_append, List.length_cons, List.length_nil, bytesOf_len]; omega) (by omega) (by simp)
        push_cast at q
        rw [if_pos (by rw [strOfNums_size]; simp; omega), if_pos (by rw [ByteArray.size_append, strOfNums_size, strOfNums_size]; simp; omega), w64 (x := (i : Int) + 1) (by omega) (by omega), strApp, q]
        simp
      · rw [if_neg h5, if_neg h5, impl_FilterRow_eq _ _ _ _ k (by omega)]
        have sz := filterRow_size m rows[i] ab2 u
        simp only [Option.bind_some, impl_byteText.f]
        have q := ih k (i + 1) (xs ++ ([m % 256] ++ bytesOf (filterRow m rows[i] ab2 u).1)) rows[i] rows[i] (by omega) (by omega) (by simp only [List.length_append, List.length_cons, List.length_nil, bytesOf_len]; omega) (by omega) (by simp)
        push_cast at q
        rw [if_pos (by rw [strOfNums_size]; simp; omega), if_pos (by rw [ByteArray.size_append, strOfNums_size, strOfNums_size]; simp; omega), w64 (x := (i : Int) + 1) (by omega) (by omega), strApp, q]
        simp
    rw [impl_scanRows.l0, if_pos (by omega), if_pos (by omega), if_pos (by omega), e]
    by_cases h0 : i = 0
    · rw [if_pos (by omega), zi, impl_noughts_eq Z (by omega)]
      rw [if_pos h0] at hab
      simp only [Option.bind_some]
      rw [← hab]; exact core
    · rw [if_neg (by omega)]
      rw [if_neg h0] at hab
      rw [← hab]; exact core
theorem impl_scanRows_eq {w h c d : Int} {xs : List Int} (ok : PieceOk w h c d xs) (m : Int) (k : Nat) (hk : 7000 ≤ k) : impl_scanRows.f k w h c d xs m = some (strOfNums (pieceL w h c d xs m)) := by
  have hh := ok.hh
  have z := piece_Z ok
  unfold impl_scanRows.f
  rw [impl_unitOf_eq c d ok.hd k (by omega), Option.bind_some, impl_rowsOf_eq ok k (by omega), Option.bind_some]
  have rl := rowsL_len xs (w * chan c) d 0 h.toNat
  have q := impl_scan_l0 m (unitV c d) (rowsL xs (w * chan c) d 0 h.toNat) (by omega) (upN ((w * chan c).toNat * d.toNat)) (by unfold upN; omega) (piece_mem ok) h.toNat k 0 [] ⟨#[]⟩ _ (by omega) (by omega) (by simp; omega) (by omega) rfl
  rw [show ((0 : Nat) : Int) = 0 from rfl] at q
  exact q

theorem impl_ScanOf_l0 (m : Int) (ps : List S29) (ok : PartsOk ps) (n : Nat) : ∀ (k i : Nat) (ys : List Int), i ≤ ps.length → ps.length - i = n → ys.length + 5000 * n ≤ 1000000 → 7000 + n ≤ k →
    impl_ScanOf.l0 k m (strOfNums ys) ps ps.length i = some (strOfNums (ys ++ (ps.drop i).flatMap (pieceT m)), true) := by
  have pl := ok.1
  induction n with
  | zero =>
    intro k i ys hi hn hy hk
    obtain ⟨k, rfl⟩ : ∃ m, k = m + 1 := ⟨k - 1, by omega⟩
    simp only [impl_ScanOf.l0]
    rw [if_neg (by omega), List.drop_eq_nil_of_le (by omega)]; simp
  | succ n ih =>
    intro k i ys hi hn hy hk
    obtain ⟨k, rfl⟩ : ∃ m, k = m + 1 := ⟨k - 1, by omega⟩
    have hk7 : 7000 ≤ k ∧ 7000 + n ≤ k := by clear hy; omega
    have hi' : i < ps.length := by clear hy; omega
    have e : rd_T29 ps (i : Int) = ps[i] := by simp [rd_T29, List.getD, hi']
    have po := ok.2 _ (List.getElem_mem hi')
    have pn := parts_ar hy (piece_len po m)
    rw [impl_ScanOf.l0, if_pos (by omega), if_pos (by omega), if_pos (by omega), e, impl_scanRows_eq po m k hk7.1, Option.bind_some, if_pos (by rw [strOfNums_size, strOfNums_size]; exact Nat.le_trans pn.1 (by decide)), w64 (x := (i : Int) + 1) (by omega) (by omega), str_append]
    have q := ih k (i + 1) (ys ++ pieceT m ps[i]) (by omega) (by omega) (by rw [List.length_append]; exact pn.2) hk7.2
    push_cast at q
    rw [show pieceL ps[i].f0 ps[i].f1 ps[i].f2 ps[i].f3 ps[i].f4 m = pieceT m ps[i] from rfl, q, List.drop_eq_getElem_cons hi', List.flatMap_cons, List.append_assoc]
theorem impl_ScanOf_eq (w h c d : Int) (xs : List Int) (lace : Bool) (m : Int) (hx : xs.length ≤ 9223372036854775807) (k : Nat) (hk : 8000 ≤ k) (hk2 : xs.length + 3 ≤ k) : impl_ScanOf.f k w h c d xs lace m = some (scanV w h c d xs lace m) := by
  unfold impl_ScanOf.f scanV
  rw [impl_RasterOk_eq w h c d xs hx k hk2, Option.bind_some]
  have j1 : ∀ b : Bool, b = true → impl_ScanOf.j0 k lace m b w h c d xs = some (⟨#[]⟩, false) := by
    intro b hb
    obtain ⟨k, rfl⟩ : ∃ m, k = m + 1 := ⟨k - 1, by omega⟩
    simp only [impl_ScanOf.j0]
    rw [if_pos hb]
  by_cases ok : rasterOk w h c d xs = true
  · rw [if_pos ok, impl_within_eq, Option.bind_some, ok, Bool.true_and]
    by_cases hm : (decide (0 ≤ m) && decide (m ≤ 5)) = true
    · rw [hm, if_pos rfl]
      have po := parts_ok ok lace
      obtain ⟨k, rfl⟩ : ∃ m, k = m + 1 := ⟨k - 1, by omega⟩
      simp only [impl_ScanOf.j0]
      rw [if_neg (by decide)]
      unfold partsL at po ⊢
      by_cases hl : lace = true
      · rw [if_pos hl] at po
        rw [if_pos hl, if_pos hl, impl_PassesOf_eq w h c d xs hx k (by omega) (by have := (piece_bd (raster_piece ok)).2.2; omega), if_pos ok, Option.bind_some]
        have q := impl_ScanOf_l0 m _ po 7 k 0 [] (by omega) (by simp [passesL]) (by simp) (by omega)
        rw [show ((0 : Nat) : Int) = 0 from rfl, ← str_nil] at q
        exact q
      · rw [if_neg hl, if_neg hl, impl_scanRows_eq (raster_piece ok) m k (by omega), Option.bind_some]
        simp [pieceT]
    · rw [if_neg hm, Bool.eq_false_iff.mpr hm]
      exact j1 _ rfl
  · rw [if_neg ok, j1 _ rfl, Bool.eq_false_iff.mpr ok]
    rfl

theorem impl_readRows_eq {w h c d : Int} {xs : List Int} (ok : PieceOk w h c d xs) (hk : dok c d = true) (m : Int) (hm : 0 ≤ m ∧ m ≤ 5) (s : ByteArray) (hs1 : s.size ≤ 1048576) (A B : List Int) (hs : bytesOf s = A ++ (pieceL w h c d xs m ++ B)) (k : Nat) (hkk : 4000 ≤ k) :
    impl_readRows.f k (s.extract A.length s.size) w h c d [] = some (w, h, c, d, xs, s.extract (A.length + (pieceL w h c d xs m).length) s.size, true) := by
  have hh := ok.hh
  have z := piece_Z ok
  have up := rowBytes_up ok hk
  have pl := pieceL_exact ok m hm
  have sl := bytesOf_len s
  have tot : s.size = A.length + ((pieceL w h c d xs m).length + B.length) := by rw [← sl, hs, List.length_append, List.length_append]
  unfold impl_readRows.f
  rw [impl_RowBytes_eq k (by omega), Option.bind_some, up, impl_noughts_eq _ (by unfold upN; omega), Option.bind_some]
  have q := impl_readRows_l0 s hs1 w h c d ok.hw hh ok.hd (upN ((w * chan c).toNat * d.toNat)) (by unfold upN; omega) h.toNat k 0 A.length (zeroS (upN ((w * chan c).toNat * d.toNat))) [] (by omega) (by rw [← pl]; omega) (by simp) (by omega)
  rw [show ((0 : Nat) : Int) = 0 from rfl] at q
  rw [q, readR_scan ok m hm s h.toNat 0 A.length (zeroS (upN ((w * chan c).toNat * d.toNat))) [] A B (by omega) (by unfold zeroS; rw [strOfNums_size, List.length_replicate]) hs rfl, List.nil_append, piece_all ok, pl]
theorem impl_ScanRead_l0 (W H c d : Int) (lace : Bool) (hk : dok c d = true) (ps : List S29) (ok : PartsOk ps) (hc : ∀ p ∈ ps, p.f2 = c ∧ p.f3 = d) (m : Int) (hm : 0 ≤ m ∧ m ≤ 5) (s : ByteArray) (hs1 : s.size ≤ 1048576) (hs : bytesOf s = ps.flatMap (pieceT m)) (r : Nat) : ∀ (k i : Nat), i + r = ps.length → 20000 + r ≤ k →
    ∃ q, 20000 ≤ q ∧ ∃ rest, impl_ScanRead.l0 k (s.extract ((ps.take i).flatMap (pieceT m)).length s.size) W H c d lace (ps.take i) ((ps.map fun p => (p.f0, p.f1)).map pieceI) ps.length i = impl_ScanRead.l0 q rest W H c d lace ps ((ps.map fun p => (p.f0, p.f1)).map pieceI) ps.length ps.length := by
  have p7 := ok.1
  induction r with
  | zero =>
    intro k i hi hk'
    refine ⟨k, by omega, s.extract ((ps.take i).flatMap (pieceT m)).length s.size, ?_⟩
    rw [show i = ps.length from by omega, List.take_length]
  | succ r ih =>
    intro k i hi hk'
    obtain ⟨k, rfl⟩ : ∃ m, k = m + 1 := ⟨k - 1, by omega⟩
    have lt : i < ps.length := by omega
    have po := ok.2 _ (List.getElem_mem lt)
    have pc := hc _ (List.getElem_mem lt)
    have hl : ((ps.map fun p => (p.f0, p.f1)).map pieceI).length = ps.length := by simp
    have rp := rd_piece (ps.map fun p => (p.f0, p.f1)) i (by simpa using lt)
    rw [List.getElem_map] at rp
    have sp : bytesOf s = (ps.take i).flatMap (pieceT m) ++ (pieceL ps[i].f0 ps[i].f1 c d ps[i].f4 m ++ (ps.drop (i + 1)).flatMap (pieceT m)) := by
      have e : ps = ps.take i ++ (ps[i] :: ps.drop (i + 1)) := by rw [← List.drop_eq_getElem_cons lt, List.take_append_drop]
      rw [hs]
      conv => lhs; rw [e]
      rw [List.flatMap_append, List.flatMap_cons]
      unfold pieceT
      rw [pc.1, pc.2]
    rw [pc.1, pc.2] at po
    have rr := impl_readRows_eq po hk m hm s hs1 _ _ sp k (by omega)
    rw [impl_ScanRead.l0, if_pos (by omega), if_pos (by omega), if_pos (by rw [hl]; omega), rp]
    simp only [pieceI]
    rw [rr, Option.bind_some]
    simp only [if_true]
    rw [if_pos (by rw [List.length_take]; omega), w64 (x := (i : Int) + 1) (by omega) (by omega)]
    obtain ⟨q, hq, rest, e⟩ := ih k (i + 1) (by omega) (by omega)
    refine ⟨q, hq, rest, ?_⟩
    have t1 : ps.take (i + 1) = ps.take i ++ [⟨ps[i].f0, ps[i].f1, c, d, ps[i].f4⟩] := by
      rw [List.take_succ_eq_append_getElem lt]
      congr 2
      have := pc.1; have := pc.2
      cases h : ps[i]
      simp_all
    have t2 : ((ps.take (i + 1)).flatMap (pieceT m)).length = ((ps.take i).flatMap (pieceT m)).length + (pieceL ps[i].f0 ps[i].f1 c d ps[i].f4 m).length := by
      rw [t1, List.flatMap_append, List.length_append]
      simp [pieceT]
    rw [t2, t1] at e
    push_cast at e
    exact e

theorem parts_size {c d : Int} (hk : dok c d = true) (m : Int) (hm : 0 ≤ m ∧ m ≤ 5) (ps : List S29) (ok : ∀ p ∈ ps, PieceOk p.f0 p.f1 p.f2 p.f3 p.f4) (hc : ∀ p ∈ ps, p.f2 = c ∧ p.f3 = d) : ((ps.flatMap (pieceT m)).length : Int) = piecesN c d (ps.map fun p => (p.f0, p.f1)) := by
  induction ps with
  | nil => rfl
  | cons p ps ih =>
    have po := ok p (List.mem_cons_self ..)
    have pc := hc p (List.mem_cons_self ..)
    rw [pc.1, pc.2] at po
    have pl := pieceL_exact po m hm
    have up := rowBytes_up po hk
    have h0 := po.hh
    rw [List.flatMap_cons, List.length_append, List.map_cons, piecesN, ← ih (fun q hq => ok q (List.mem_cons_of_mem _ hq)) (fun q hq => hc q (List.mem_cons_of_mem _ hq))]
    unfold pieceN pieceT
    rw [pc.1, pc.2, pl, up]
    push_cast
    rw [Int.toNat_of_nonneg h0.1]
theorem parts_cd (w h c d : Int) (xs : List Int) (lace : Bool) : ∀ p ∈ partsL w h c d xs lace, p.f2 = c ∧ p.f3 = d := by
  intro p hp
  unfold partsL at hp
  split at hp
  · simp only [passesL, List.mem_map] at hp
    obtain ⟨i, _, rfl⟩ := hp
    exact ⟨rfl, rfl⟩
  · rw [List.mem_singleton] at hp
    subst hp
    exact ⟨rfl, rfl⟩
theorem scan_pos {w h c d : Int} {xs : List Int} (ok : rasterOk w h c d xs = true) (lace : Bool) : 0 < piecesN c d (pieces w h lace) := by
  have ok2 := ok
  simp only [rasterOk, Bool.and_eq_true, decide_eq_true_eq] at ok2
  obtain ⟨⟨⟨⟨hw, hh⟩, hdk⟩, hl⟩, hall⟩ := ok2
  have hw' := (sideB_iff w).mp hw
  have hh' := (sideB_iff h).mp hh
  have nn : ∀ ps : List (Int × Int), (∀ a ∈ ps, pieceB a) → 0 ≤ piecesN c d ps := by
    intro ps
    induction ps with
    | nil => intro _; exact Int.le_refl _
    | cons a ps ih =>
      intro hb
      have := (pieceN_bd c d (hb a (List.mem_cons_self ..))).1
      have := ih fun b hb' => hb b (List.mem_cons_of_mem _ hb')
      rw [piecesN]; omega
  have pb := pieces_bd hw hh lace
  have one : ∀ a : Int × Int, 1 ≤ a.2 → 1 ≤ pieceN c d a := by
    intro a ha
    have r := (rowBytes_bd a.1 c d).1
    unfold pieceN
    have := Int.mul_le_mul ha (show 1 ≤ 1 + rowBytes a.1 c d by omega) (by omega) (by omega)
    omega
  unfold pieces at pb ⊢
  by_cases hl : lace = true
  · rw [if_pos hl] at pb ⊢
    rw [show (List.range 7).map (fun (p : Nat) => psize w h p) = psize w h (0 : Nat) :: (List.range' 1 6).map (fun (p : Nat) => psize w h p) from rfl] at pb ⊢
    rw [piecesN]
    have r := nn _ fun a ha => pb a (List.mem_cons_of_mem _ ha)
    have e : psize w h ((0 : Nat) : Int) = (cnt w 0 8, cnt h 0 8) := by
      rcases psize_eq hw hh (passB_nat (p := 0) (by omega)) with e | ⟨e, z | z⟩
      · exact e
      · exfalso
        have : cnt w 0 8 = 0 := z
        unfold cnt at this
        rw [if_pos (by omega)] at this
        omega
      · exfalso
        have : cnt h 0 8 = 0 := z
        unfold cnt at this
        rw [if_pos (by omega)] at this
        omega
    have o := one (psize w h ((0 : Nat) : Int)) (by
      rw [e]
      show 1 ≤ cnt h 0 8
      unfold cnt
      rw [if_pos (by omega)]
      omega)
    omega
  · rw [if_neg hl, piecesN, piecesN]
    have o := one (w, h) (by show 1 ≤ h; omega)
    omega

theorem and_bd (x : Int) (m : Nat) (hm : m < 9223372036854775808) : 0 ≤ Go.bits .and .i64 x m ∧ Go.bits .and .i64 x m ≤ m := by
  unfold Go.bits
  simp only [IntKind.wrap_i64]
  have h : (BitVec.ofInt IntKind.i64.bits x &&& BitVec.ofInt IntKind.i64.bits (m : Int)).toNat ≤ m := by
    rw [BitVec.toNat_and]
    refine Nat.le_trans Nat.and_le_right ?_
    rw [BitVec.ofInt_natCast, BitVec.toNat_ofNat]
    exact Nat.mod_le _ _
  omega
theorem and_255 (x : Int) : 0 ≤ Go.bits .and .i64 x 255 ∧ Go.bits .and .i64 x 255 ≤ 255 := and_bd x 255 (by omega)
theorem spec_l01New_l0 (l : List Int) (hl : l.length ≤ 1048576) (d : Nat) : ∀ (k i : Nat) (h : Int), i ≤ l.length → l.length - i = d → d < k → ∃ h', spec_l01New.l0 k l h i = some (l, 0, h') := by
  induction d with
  | zero =>
    intro k i h hi hd hk
    obtain ⟨k, rfl⟩ : ∃ m, k = m + 1 := ⟨k - 1, by omega⟩
    exact ⟨h, by simp only [spec_l01New.l0]; rw [if_neg (by omega)]⟩
  | succ d ih =>
    intro k i h hi hd hk
    obtain ⟨k, rfl⟩ : ∃ m, k = m + 1 := ⟨k - 1, by omega⟩
    simp only [spec_l01New.l0]
    rw [if_pos (by omega)]
    by_cases h4 : (i : Int) < 4000
    · rw [if_pos h4, if_pos (by omega), w64 (x := (i : Int) + 1) (by omega) (by omega)]
      exact ih k (i + 1) _ (by omega) (by omega) (by omega)
    · rw [if_neg h4]; exact ⟨h, rfl⟩
theorem spec_l01New_eq (l : List Int) (hl : l.length ≤ 1048576) (k : Nat) (hk : l.length < k) : ∃ h, spec_l01New.f k l = some (l, 0, h) := by
  unfold spec_l01New.f
  exact spec_l01New_l0 l hl l.length k 0 _ (by omega) (by omega) hk
/-- A cursor's place. -/
def Cur (l : List Int) (i : Int) : Prop := l.length ≤ 1048576 ∧ 0 ≤ i ∧ i ≤ l.length
theorem cur_new {l : List Int} (hl : l.length ≤ 1048576) : Cur l 0 := ⟨hl, by omega, by omega⟩
theorem spec_l01Byte_eq {l : List Int} {i : Int} (hc : Cur l i) (h : Int) : ∃ x i' h', spec_l01Byte.f l i h = some (x, i', h') ∧ 0 ≤ x ∧ x ≤ 255 ∧ Cur l i' := by
  obtain ⟨hl, h0, h1⟩ := hc
  unfold spec_l01Byte.f
  by_cases hi : i < l.length
  · rw [if_pos hi, if_pos h0, w64 (x := i + 1) (by omega) (by omega)]
    exact ⟨_, _, _, rfl, (and_255 _).1, (and_255 _).2, hl, by omega, by omega⟩
  · rw [if_neg hi]
    exact ⟨_, _, _, rfl, (and_255 _).1, (and_255 _).2, hl, h0, h1⟩
theorem spec_l01Below_eq {l : List Int} {i : Int} (hc : Cur l i) (h : Int) (n : Int) : ∃ x i' h', spec_l01Below.f l i h n = some (x, i', h') ∧ 0 ≤ x ∧ (0 < n → x < n) ∧ (n ≤ 0 → x = 0) ∧ Cur l i' := by
  unfold spec_l01Below.f
  by_cases h0 : n ≤ 0
  · rw [if_pos h0]
    exact ⟨_, _, _, rfl, by omega, by omega, fun _ => rfl, hc⟩
  · rw [if_neg h0]
    have tm : ∀ y : Int, 0 ≤ y → 0 ≤ Int.tmod y n ∧ Int.tmod y n < n := fun y hy => ⟨Int.tmod_nonneg _ hy, Int.tmod_lt_of_pos _ (by omega)⟩
    by_cases h1 : n ≤ 256
    · rw [if_pos h1]
      obtain ⟨x, i1, h1', e1, a1, b1, c1⟩ := spec_l01Byte_eq hc h
      rw [e1]
      simp only [Option.bind_some]
      rw [if_neg (by omega)]
      exact ⟨_, _, _, rfl, (tm x a1).1, fun _ => (tm x a1).2, by omega, c1⟩
    · rw [if_neg h1]
      obtain ⟨x, i1, h1', e1, a1, b1, c1⟩ := spec_l01Byte_eq hc h
      rw [e1]; simp only [Option.bind_some]
      obtain ⟨y, i2, h2', e2, a2, b2, c2⟩ := spec_l01Byte_eq c1 h1'
      rw [e2]; simp only [Option.bind_some]
      obtain ⟨z, i3, h3', e3, a3, b3, c3⟩ := spec_l01Byte_eq c2 h2'
      rw [e3]; simp only [Option.bind_some]
      obtain ⟨u, i4, h4', e4, a4, b4, c4⟩ := spec_l01Byte_eq c3 h3'
      rw [e4]; simp only [Option.bind_some]
      rw [if_neg (by omega), w64 (x := x * 16777216) (by omega) (by omega), w64 (x := y * 65536) (by omega) (by omega), w64 (x := x * 16777216 + y * 65536) (by omega) (by omega), w64 (x := z * 256) (by omega) (by omega), w64 (x := x * 16777216 + y * 65536 + z * 256) (by omega) (by omega), w64 (x := x * 16777216 + y * 65536 + z * 256 + u) (by omega) (by omega)]
      exact ⟨_, _, _, rfl, (tm _ (by omega)).1, fun _ => (tm _ (by omega)).2, by omega, c4⟩

theorem spec_l01PickInt_eq {l : List Int} {i : Int} (hc : Cur l i) (h : Int) (xs : List Int) (hx : xs ≠ []) : ∃ x i' h', spec_l01PickInt.f l i h xs = some (x, i', h') ∧ x ∈ xs ∧ Cur l i' := by
  unfold spec_l01PickInt.f
  obtain ⟨x, i1, h1, e1, a1, b1, _, c1⟩ := spec_l01Below_eq hc h (xs.length : Int)
  have hp : 0 < xs.length := List.length_pos_iff.2 hx
  have b := b1 (by omega)
  rw [e1]; simp only [Option.bind_some]
  rw [if_pos a1, if_pos b]
  obtain ⟨m, rfl⟩ := Int.eq_ofNat_of_zero_le a1
  refine ⟨_, _, _, rfl, ?_, c1⟩
  rw [rd_at xs m (by omega)]
  exact List.getElem_mem _

def depB (d : Int) : Int := if 0 ≤ d ∧ d ≤ 16 then d else 0
theorem depB_bd (d : Int) : 0 ≤ depB d ∧ depB d ≤ 16 := by unfold depB; split <;> omega
def clearOk (d c t : Int) (xs : List Int) : Bool :=
  if c = 3 then decide ((xs.length : Int) ≤ t) && xs.all (inB 255)
  else if xs.length = 0 then true
  else if c = 0 then decide (xs.length = 1) && xs.all (inB (p2 (depB d) - 1))
  else if c = 2 then decide (xs.length = 3) && xs.all (inB (p2 (depB d) - 1)) else false

theorem spec_l12Color_eq {l : List Int} {i : Int} (hc : Cur l i) (h : Int) : ∃ c i' h', spec_l12Color.f l i h = some (c, i', h') ∧ c ∈ [(0 : Int), 2, 3, 4, 6] ∧ Cur l i' := by
  unfold spec_l12Color.f
  obtain ⟨x, i1, h1, e1, hm, c1⟩ := spec_l01PickInt_eq hc h [0, 2, 3, 4, 6] (by simp)
  rw [e1]; exact ⟨_, _, _, rfl, hm, c1⟩
theorem dok_8 {c : Int} (hm : c ∈ [(0 : Int), 2, 3, 4, 6]) : dok c 8 = true := by
  simp only [List.mem_cons, List.not_mem_nil, or_false] at hm
  rcases hm with rfl | rfl | rfl | rfl | rfl <;> decide
theorem spec_l12DepthOf_l0 {l : List Int} {i : Int} (hc : Cur l i) (h c : Int) (hm : c ∈ [(0 : Int), 2, 3, 4, 6]) (d : Nat) : ∀ (k q : Nat) (xs : List Int), q + d = 17 → d < k → xs.length ≤ q → (∀ x ∈ xs, dok c x = true) → (xs ≠ [] ∨ q ≤ 8) → ∃ x i' h', spec_l12DepthOf.l0 k c xs q l i h = some (x, i', h') ∧ dok c x = true ∧ Cur l i' := by
  induction d with
  | zero =>
    intro k q xs hd hk hx ha hn
    obtain ⟨k, rfl⟩ : ∃ m, k = m + 1 := ⟨k - 1, by omega⟩
    simp only [spec_l12DepthOf.l0]
    rw [if_neg (by omega)]
    obtain ⟨x, i1, h1, e1, hx', c1⟩ := spec_l01PickInt_eq hc h xs (by rcases hn with hn | hn; exact hn; omega)
    rw [e1]; exact ⟨_, _, _, rfl, ha x hx', c1⟩
  | succ d ih =>
    intro k q xs hd hk hx ha hn
    obtain ⟨k, rfl⟩ : ∃ m, k = m + 1 := ⟨k - 1, by omega⟩
    simp only [spec_l12DepthOf.l0]
    rw [if_pos (by omega), spec_DepthOk_eq k (by omega)]
    simp only [Option.bind_some]
    rw [w64 (x := (q : Int) + 1) (by omega) (by omega)]
    by_cases b : dok c q = true
    · rw [if_pos b, if_pos (by omega)]
      have := ih k (q + 1) (xs ++ [(q : Int)]) (by omega) (by omega) (by simp; omega) (by intro x hx'; rcases List.mem_append.1 hx' with h' | h'; exact ha x h'; simp at h'; rw [h']; exact b) (.inl (by simp))
      push_cast at this
      exact this
    · rw [if_neg b]
      have := ih k (q + 1) xs (by omega) (by omega) (by omega) ha (by
        rcases hn with hn | hn
        · exact .inl hn
        · by_cases e : q = 8
          · subst e; exact absurd (dok_8 hm) b
          · exact .inr (by omega))
      push_cast at this
      exact this
theorem spec_l12DepthOf_eq {l : List Int} {i : Int} (hc : Cur l i) (h c : Int) (hm : c ∈ [(0 : Int), 2, 3, 4, 6]) (k : Nat) (hk : 16 < k) : ∃ x i' h', spec_l12DepthOf.f k l i h c = some (x, i', h') ∧ Cur l i' := by
  unfold spec_l12DepthOf.f
  obtain ⟨x, i', h', e, _, c'⟩ := spec_l12DepthOf_l0 hc h c hm 16 k 1 [] (by omega) hk (by simp) (by simp) (.inr (by omega))
  exact ⟨x, i', h', e, c'⟩

theorem spec_ChannelsOf_eq (k : Nat) (hk : 1 ≤ k) (c : Int) : spec_ChannelsOf.f k c = some (chan c) := by
  obtain ⟨k, rfl⟩ : ∃ m, k = m + 1 := ⟨k - 1, by omega⟩
  simp only [spec_ChannelsOf.f, spec_ChannelsOf.j0, chan]
  by_cases h0 : c = 0
  · simp [h0]
  · by_cases h3 : c = 3
    · simp [h3]
    · simp [h0, h3]; repeat (first | split | rfl)

theorem spec_l01Pow_l0 (n : Int) (h62 : n ≤ 62) (d : Nat) : ∀ (k : Nat) (i : Int), 0 ≤ i → i ≤ n → n - i = d → d < k → spec_l01Pow.l0 k n (p2 i) i = some (p2 n) := by
  induction d with
  | zero =>
    intro k i h0 h1 hd hk
    obtain ⟨k, rfl⟩ : ∃ m, k = m + 1 := ⟨k - 1, by omega⟩
    obtain rfl : i = n := by omega
    simp only [spec_l01Pow.l0]
    rw [if_neg (by omega)]
  | succ d ih =>
    intro k i h0 h1 hd hk
    obtain ⟨k, rfl⟩ : ∃ m, k = m + 1 := ⟨k - 1, by omega⟩
    have b1 := p2_pos (i + 1)
    have b2 := p2_62 (n := i + 1) (by omega)
    have e := p2_succ i h0
    simp only [spec_l01Pow.l0]
    rw [if_pos (by omega), ← e, w64 (x := p2 (i + 1)) (by omega) (by omega), w64 (x := i + 1) (by omega) (by omega)]
    exact ih k (i + 1) (by omega) (by omega) (by omega) (by omega)
theorem spec_l01Pow_eq (k : Nat) (n : Int) (h62 : n ≤ 62) (hk : 64 ≤ k) : spec_l01Pow.f k n = some (p2 n) := by
  unfold spec_l01Pow.f
  by_cases h0 : 0 ≤ n
  · exact spec_l01Pow_l0 n h62 n.toNat k 0 (by omega) h0 (by omega) (by omega)
  · obtain ⟨k, rfl⟩ : ∃ m, k = m + 1 := ⟨k - 1, by omega⟩
    simp only [spec_l01Pow.l0]
    rw [if_neg (by omega)]
    have : n.toNat = 0 := by omega
    unfold p2; rw [this]; rfl

/-- A drawn raster is one. -/
theorem spec_l12DepthOf_ok {l : List Int} {i : Int} (hc : Cur l i) (h c : Int) (hm : c ∈ [(0 : Int), 2, 3, 4, 6]) (k : Nat) (hk : 16 < k) : ∃ x i' h', spec_l12DepthOf.f k l i h c = some (x, i', h') ∧ dok c x = true ∧ Cur l i' := by
  unfold spec_l12DepthOf.f
  exact spec_l12DepthOf_l0 hc h c hm 16 k 1 [] (by omega) hk (by simp) (by simp) (.inr (by omega))
theorem third_bd (p : Int) (h : 1 ≤ p) : 0 ≤ Int.tdiv p 3 ∧ Int.tdiv p 3 ≤ p - 1 := by
  rw [Int.tdiv_eq_ediv_of_nonneg (by omega)]; omega
theorem spec_l12Right_l0 {l : List Int} (m w h c d : Int) (hw : 1 ≤ w ∧ w ≤ 24) (hh : 1 ≤ h ∧ h ≤ 24) (hd : 1 ≤ d ∧ d ≤ 16) (N : Nat) (hN : (N : Int) = w * h * chan c) (q : Nat) : ∀ (k : Nat) (xs : List Int) (i g : Int), Cur l i → xs.length + q = N → q + 100 ≤ k → xs.all (inB (p2 d - 1)) = true →
    ∃ ys i' g', spec_l12Right.l0 k m xs.length l i g w h c d xs = some (w, h, c, d, ys, i', g') ∧ ys.length = N ∧ ys.all (inB (p2 d - 1)) = true := by
  have cb := chan_bd c
  have b1 := mul_bd (a := w) (b := h) (m := 24) (n := 24) (by omega) (by omega) (by omega) (by omega)
  have b2 := mul_bd b1.1 b1.2 cb.1 cb.2
  have pp := p2_pos d
  have p6 := p2_62 (n := d) (by omega)
  induction q with
  | zero =>
    intro k xs i g hc hx hk ha
    obtain ⟨k, rfl⟩ : ∃ m, k = m + 1 := ⟨k - 1, by omega⟩
    rw [spec_l12Right.l0, spec_ChannelsOf_eq k (by omega), Option.bind_some, w64 (x := w * h) (by omega) (by omega), w64 (x := w * h * chan c) (by omega) (by omega), if_neg (by omega)]
    exact ⟨_, _, _, rfl, by omega, ha⟩
  | succ q ih =>
    intro k xs i g hc hx hk ha
    obtain ⟨k, rfl⟩ : ∃ m, k = m + 1 := ⟨k - 1, by omega⟩
    obtain ⟨x, i1, g1, e1, a1, a2, _, c1⟩ := spec_l01Below_eq hc g (p2 d)
    have st := fun (v i g : Int) (hv : inB (p2 d - 1) v = true) (hc : Cur l i) => ih k (xs ++ [v]) i g hc (by rw [List.length_append]; simp only [List.length_cons, List.length_nil]; omega) (by omega) (by rw [List.all_append, ha]; simp [hv])
    simp only [List.length_append, List.length_cons, List.length_nil] at st
    push_cast at st
    rw [spec_l12Right.l0, spec_ChannelsOf_eq k (by omega), Option.bind_some, w64 (x := w * h) (by omega) (by omega), w64 (x := w * h * chan c) (by omega) (by omega), if_pos (by omega), spec_l01Pow_eq k d (by omega) (by omega), Option.bind_some, e1, Option.bind_some]
    have hx1 : inB (p2 d - 1) x = true := by unfold inB; simp; have := a2 (by omega); omega
    by_cases h4 : m < 4
    · rw [if_pos h4, Option.bind_some, Option.bind_some]
      have t3 := third_bd (p2 d) pp
      obtain ⟨y, i2, g2, e2, hy, c2⟩ := spec_l01PickInt_eq c1 g1 [0, wrap64 (p2 d - 1), wrap64 (Int.tdiv (p2 d) 3), 0] (by simp)
      simp only
      rw [e2, Option.bind_some, if_pos (by omega), w64 (x := (xs.length : Int) + 1) (by omega) (by omega)]
      have hy1 : inB (p2 d - 1) y = true := by
        rw [w64 (x := p2 d - 1) (by omega) (by omega), w64 (x := Int.tdiv (p2 d) 3) (by omega) (by omega)] at hy
        simp only [List.mem_cons, List.not_mem_nil, or_false] at hy
        unfold inB
        simp
        omega
      exact st y i2 g2 hy1 c2
    · rw [if_neg h4, if_pos (by omega), w64 (x := (xs.length : Int) + 1) (by omega) (by omega)]
      exact st x i1 g1 hx1 c1
theorem spec_l12Most_eq (l : List Int) (hl : l.length ≤ 1048576) : ∃ m, spec_l12Most.f l = some m ∧ 3 ≤ m ∧ m ≤ 9 := by
  unfold spec_l12Most.f
  rw [w64 (x := (l.length : Int) / 40) (by omega) (by omega), w64 (by omega) (by omega)]
  by_cases h : 3 + (l.length : Int) / 40 > 9
  · rw [if_pos h]; exact ⟨9, rfl, by omega, by omega⟩
  · rw [if_neg h]; exact ⟨_, rfl, by omega, by omega⟩
theorem spec_DrawRaster_eq (l : List Int) (hl : l.length ≤ 1048576) (k : Nat) (hk : l.length + 3000 < k) : ∃ w h c d xs, spec_DrawRaster.f k l = some (w, h, c, d, xs) ∧ rasterOk w h c d xs = true := by
  unfold spec_DrawRaster.f
  obtain ⟨g0, e0⟩ := spec_l01New_eq l hl k (by omega)
  obtain ⟨m, em, m1, m2⟩ := spec_l12Most_eq l hl
  rw [e0, Option.bind_some, em, Option.bind_some]
  unfold spec_l12Right.f
  obtain ⟨w, i1, g1, e1, a1, b1, _, c1⟩ := spec_l01Below_eq (cur_new hl) g0 m
  simp only
  rw [e1, Option.bind_some]
  obtain ⟨h, i2, g2, e2, a2, b2, _, c2⟩ := spec_l01Below_eq c1 g1 m
  simp only
  rw [e2, Option.bind_some]
  obtain ⟨c, i3, g3, e3, a3, c3⟩ := spec_l12Color_eq c2 g2
  simp only
  rw [e3, Option.bind_some]
  obtain ⟨d, i4, g4, e4, a4, c4⟩ := spec_l12DepthOf_ok c3 g3 c a3 k (by omega)
  simp only
  rw [e4, Option.bind_some]
  obtain ⟨n, i5, g5, e5, a5, b5, _, c5⟩ := spec_l01Below_eq c4 g4 5
  simp only
  rw [e5, Option.bind_some]
  have b1' := b1 (by omega)
  have b2' := b2 (by omega)
  have hd := depth_bd (dok_depth a4)
  have cb := chan_bd c
  simp only
  rw [w64 (x := 1 + w) (by omega) (by omega), w64 (x := 1 + h) (by omega) (by omega)]
  have q1 := mul_bd (a := 1 + w) (b := 1 + h) (m := 24) (n := 24) (by omega) (by omega) (by omega) (by omega)
  have q2 := mul_bd q1.1 q1.2 cb.1 cb.2
  obtain ⟨N, hN⟩ := Int.eq_ofNat_of_zero_le q2.1
  obtain ⟨ys, i6, g6, e6, l6, al6⟩ := spec_l12Right_l0 (l := l) (wrap64 (1 + n)) (1 + w) (1 + h) c d (by omega) (by omega) hd N (by omega) N k [] i5 g5 c5 (by simp) (by omega) (by simp)
  rw [show (([] : List Int).length : Int) = 0 from rfl] at e6
  rw [e6, Option.bind_some]
  refine ⟨_, _, _, _, _, rfl, ?_⟩
  simp only [rasterOk, Bool.and_eq_true, decide_eq_true_eq, sideB_iff]
  exact ⟨⟨⟨⟨by omega, by omega⟩, a4⟩, by omega⟩, al6⟩

theorem laws_sameInts_l0 (xs : List Int) (hx : xs.length ≤ 1000000000) (d : Nat) : ∀ (k i : Nat), i ≤ xs.length → xs.length - i = d → d < k → laws_sameInts.l0 k xs xs i = some true := by
  induction d with
  | zero =>
    intro k i hi hd hk
    obtain ⟨k, rfl⟩ : ∃ m, k = m + 1 := ⟨k - 1, by omega⟩
    rw [laws_sameInts.l0, if_neg (by omega)]
  | succ d ih =>
    intro k i hi hd hk
    obtain ⟨k, rfl⟩ : ∃ m, k = m + 1 := ⟨k - 1, by omega⟩
    have st := ih k (i + 1) (by omega) (by omega) (by omega)
    push_cast at st
    rw [laws_sameInts.l0, if_pos (by omega), if_pos (by omega), if_pos (by omega), if_pos rfl, w64 (by omega) (by omega), st]
theorem laws_sameRaster_refl (w h c d : Int) (xs : List Int) (hx : xs.length ≤ 1000000000) (k : Nat) (hk : xs.length < k) : laws_sameRaster.f k w h c d xs w h c d xs = some true := by
  unfold laws_sameRaster.f laws_sameInts.f
  have := laws_sameInts_l0 xs hx xs.length k 0 (by omega) (by omega) hk
  rw [show ((0 : Nat) : Int) = 0 from rfl] at this
  rw [if_pos rfl, if_pos rfl, if_pos rfl, if_pos rfl, if_pos rfl, this]
  rfl

theorem laws_big_eq (l : List Int) : laws_big.f l = some (decide (1048576 < l.length)) := by
  unfold laws_big.f
  congr 1
  rw [Bool.eq_iff_iff]; simp; omega

theorem scanL_Bytes (m u : Int) (rs : List ByteArray) : ∀ above, Bytes (scanL m u rs above) := by
  induction rs with
  | nil => intro above x hx; cases hx
  | cons r rs ih =>
    intro above x hx
    rw [scanL] at hx
    rcases List.mem_cons.1 hx with rfl | hx
    · omega
    · rcases List.mem_append.1 hx with hx | hx
      · exact bytesOf_Bytes _ x hx
      · exact ih r x hx
theorem impl_ScanRead_back {w h c d : Int} {xs : List Int} (ok : rasterOk w h c d xs = true) (lace : Bool) (m : Int) (hm : 0 ≤ m ∧ m ≤ 5) (k : Nat) (hk : 60000 ≤ k) :
    impl_ScanRead.f k (strOfNums ((partsL w h c d xs lace).flatMap (pieceT m))) w h c d lace = some (w, h, c, d, xs, 0) ∧ ((strOfNums ((partsL w h c d xs lace).flatMap (pieceT m))).size : Int) = scanBytes w h c d lace ∧ 0 < scanBytes w h c d lace ∧ (strOfNums ((partsL w h c d xs lace).flatMap (pieceT m))).size ≤ 40000 := by
  have ok2 := ok
  simp only [rasterOk, Bool.and_eq_true, decide_eq_true_eq] at ok2
  obtain ⟨⟨⟨⟨hw, hh⟩, hdk⟩, hl⟩, hall⟩ := ok2
  have po := parts_ok ok lace
  have pc := parts_cd w h c d xs lace
  have sz := parts_size hdk m hm _ po.2 pc
  have pp := parts_pieces w h c d xs lace
  rw [pp] at sz
  have pos := scan_pos ok lace
  have sb : scanBytes w h c d lace = piecesN c d (pieces w h lace) := by unfold scanBytes; rw [hw, hh, hdk, if_pos (by rfl)]
  have hb : bytesOf (strOfNums ((partsL w h c d xs lace).flatMap (pieceT m))) = (partsL w h c d xs lace).flatMap (pieceT m) := by
    apply bytesOf_str'
    intro x hx
    obtain ⟨p, _, hp⟩ := List.mem_flatMap.1 hx
    exact scanL_Bytes _ _ _ _ x hp
  have lim : ((partsL w h c d xs lace).flatMap (pieceT m)).length ≤ 40000 := by
    have g : ∀ ps : List S29, (∀ p ∈ ps, PieceOk p.f0 p.f1 p.f2 p.f3 p.f4) → (ps.flatMap (pieceT m)).length ≤ 4824 * ps.length := by
      intro ps
      induction ps with
      | nil => intro _; simp
      | cons p ps ih =>
        intro hb
        have a := piece_len (hb p (List.mem_cons_self ..)) m
        have b := ih fun q hq => hb q (List.mem_cons_of_mem _ hq)
        rw [List.flatMap_cons, List.length_append, List.length_cons]
        unfold pieceT at b ⊢
        omega
    have := g _ po.2
    have := po.1
    omega
  have ssz : (strOfNums ((partsL w h c d xs lace).flatMap (pieceT m))).size = ((partsL w h c d xs lace).flatMap (pieceT m)).length := strOfNums_size _
  refine ⟨?_, by rw [ssz, sz, sb], by rw [sb]; exact pos, by rw [ssz]; exact lim⟩
  obtain ⟨s, hs⟩ : ∃ s, s = strOfNums ((partsL w h c d xs lace).flatMap (pieceT m)) := ⟨_, rfl⟩
  rw [← hs] at hb ssz ⊢
  unfold impl_ScanRead.f
  rw [impl_ScanBytes_eq w h c d lace k (by omega), Option.bind_some, sb, if_neg (by omega)]
  obtain ⟨k, rfl⟩ : ∃ m, k = m + 1 := ⟨k - 1, by omega⟩
  rw [impl_ScanRead.j0, if_neg (by rw [ssz, sz]; simp), impl_piecesOf_eq w h lace k (by omega), Option.bind_some, ← pp]
  obtain ⟨q, hq, rest, e⟩ := impl_ScanRead_l0 w h c d lace hdk (partsL w h c d xs lace) po pc m hm s (by omega) hb (partsL w h c d xs lace).length k 0 (by omega) (by have := po.1; omega)
  simp only [List.take_zero, List.flatMap_nil, List.length_nil, b_all] at e
  rw [show ((0 : Nat) : Int) = 0 from rfl] at e
  have ln : (((partsL w h c d xs lace).map fun p => (p.f0, p.f1)).map pieceI).length = (partsL w h c d xs lace).length := by simp
  rw [ln, e]
  obtain ⟨q, rfl⟩ : ∃ m, q = m + 1 := ⟨q - 1, by omega⟩
  rw [impl_ScanRead.l0, if_neg (by omega)]
  by_cases hlc : lace = true
  · rw [if_pos hlc]
    unfold partsL
    rw [if_pos hlc, impl_From_passes ok q (by omega)]
    rfl
  · rw [if_neg hlc]
    unfold partsL
    rw [if_neg hlc, if_pos (by simp)]
    rfl
theorem impl_ScanRead_long {w h c d : Int} (lace : Bool) (s : ByteArray) (hs : (s.size : Int) ≠ scanBytes w h c d lace) (k : Nat) (hk : 100 ≤ k) : impl_ScanRead.f k s w h c d lace = some (0, 0, 0, 0, [], 1) := by
  obtain ⟨k, rfl⟩ : ∃ m, k = m + 1 := ⟨k - 1, by omega⟩
  have j1 : ∀ b, b = true → impl_ScanRead.j0 (k + 1) s w h c d lace b = some (0, 0, 0, 0, [], 1) := fun b hb => by rw [impl_ScanRead.j0, if_pos hb]
  unfold impl_ScanRead.f
  rw [impl_ScanBytes_eq w h c d lace _ (by omega), Option.bind_some]
  by_cases h0 : scanBytes w h c d lace = 0
  · rw [if_pos h0]; exact j1 _ rfl
  · rw [if_neg h0]; exact j1 _ (by simpa using hs)
theorem FnScans_l1 {w h c d : Int} {xs : List Int} (ok : rasterOk w h c d xs = true) (m : Int) (hm : 0 ≤ m ∧ m ≤ 5) (r : Nat) : ∀ (k i : Nat), i + r = 2 → 70000 + 3 * r ≤ k → ∃ q, k ≤ q + 3 * r + 1 ∧ laws_FnScans.l1 k m i w h c d xs = laws_FnScans.l0 q (m + 1) w h c d xs := by
  have ok2 := ok
  simp only [rasterOk, Bool.and_eq_true, decide_eq_true_eq] at ok2
  obtain ⟨⟨⟨⟨hw, hh⟩, hdk⟩, hl⟩, hall⟩ := ok2
  have bd := wh_bd (c := c) hw hh
  induction r with
  | zero =>
    intro k i hi hk
    obtain ⟨k, rfl⟩ : ∃ m, k = m + 1 := ⟨k - 1, by omega⟩
    refine ⟨k, by omega, ?_⟩
    rw [laws_FnScans.l1, if_neg (by omega), w64 (by omega) (by omega)]
  | succ r ih =>
    intro k i hi hk
    obtain ⟨k, rfl⟩ : ∃ m, k = m + 1 + 1 := ⟨k - 2, by omega⟩
    obtain ⟨b1, b2, b3, b4⟩ := impl_ScanRead_back ok ((i : Int) == 1) m hm (k + 1) (by omega)
    have sv : scanV w h c d xs ((i : Int) == 1) m = (strOfNums ((partsL w h c d xs ((i : Int) == 1)).flatMap (pieceT m)), true) := by
      unfold scanV
      rw [ok, if_pos (by simp; omega)]
    rw [laws_FnScans.l1, if_pos (by omega), impl_ScanOf_eq w h c d xs _ m (by omega) (k + 1) (by omega) (by omega), Option.bind_some, sv]
    simp only
    rw [b1, Option.bind_some, if_pos rfl]
    simp only
    rw [if_pos trivial, laws_sameRaster_refl w h c d xs (by omega) (k + 1) (by omega), Option.bind_some, if_pos rfl, impl_ScanBytes_eq w h c d _ (k + 1) (by omega), Option.bind_some, b2]
    rw [laws_FnScans.j2, if_neg (by simp), if_pos (by omega), impl_ScanRead_long _ _ (by rw [ByteArray.size_append, show (⟨#[120]⟩ : ByteArray).size = 1 from rfl]; push_cast; omega) k (by omega), Option.bind_some]
    simp only
    rw [if_pos trivial, w64 (by omega) (by omega)]
    obtain ⟨q, hq, e⟩ := ih k (i + 1) (by omega) (by omega)
    push_cast at e
    exact ⟨q, by omega, e⟩
theorem FnScans_l0 {w h c d : Int} {xs : List Int} (ok : rasterOk w h c d xs = true) (r : Nat) : ∀ (k m : Nat), m + r = 6 → 70100 + 20 * r ≤ k → laws_FnScans.l0 k m w h c d xs = some true := by
  induction r with
  | zero =>
    intro k m hm hk
    obtain ⟨k, rfl⟩ : ∃ m, k = m + 1 := ⟨k - 1, by omega⟩
    rw [laws_FnScans.l0, if_neg (by omega)]
  | succ r ih =>
    intro k m hm hk
    obtain ⟨k, rfl⟩ : ∃ m, k = m + 1 := ⟨k - 1, by omega⟩
    obtain ⟨q, hq, e⟩ := FnScans_l1 ok m (by omega) 2 k 0 (by omega) (by omega)
    rw [show ((0 : Nat) : Int) = 0 from rfl] at e
    rw [laws_FnScans.l0, if_pos (by omega), e]
    have := ih q (m + 1) (by omega) (by omega)
    push_cast at this
    exact this
theorem FnScans : laws_FnScans.Pure := by
  intro l _ _ _
  obtain ⟨k, hk⟩ : ∃ k : Nat, k = 5000000 := ⟨_, rfl⟩
  refine ⟨k, ?_⟩
  unfold laws_FnScans.f
  rw [laws_big_eq, Option.bind_some]
  by_cases hb : 1048576 < l.length
  · rw [if_pos (by simpa using hb)]
  · rw [if_neg (by simpa using hb)]
    obtain ⟨w, h, c, d, xs, e, ok⟩ := spec_DrawRaster_eq l (by omega) k (by omega)
    rw [e, Option.bind_some]
    have := FnScans_l0 ok 6 k 0 (by omega) (by omega)
    exact this

end Go.Proofs.Ytajnobmnkbkkgaa.Pure
