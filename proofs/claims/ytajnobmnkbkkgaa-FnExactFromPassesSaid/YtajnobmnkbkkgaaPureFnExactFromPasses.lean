/- For every input that FromPasses is given by the law FnExactFromPasses the law holds: FromPasses answers as the reference model does, leaves its argument alone, and its answer is its own. -/
import Derived.Test.YtajnobmnkbkkgaaPFnExactFromPassesx13
set_option linter.unusedVariables false
set_option linter.unusedSimpArgs false
namespace Go.Proofs.Ytajnobmnkbkkgaa.Pure
open Go.RowKit Go.Proofs.Ytajnobmnkbkkgaa.PFnExactFromPasses Go.Proofs.YtajnobmnkbkkgaaW.PrintWords Go.Proofs.YtajnobmnkbkkgaaW.PrintLast
open Go.Proofs.YtajnobmnkbkkgaaW.PrintMore (cpy)

theorem w64 {x : Int} (h : -9223372036854775808 ≤ x) (h' : x ≤ 9223372036854775807) : wrap64 x = x := by unfold wrap64; omega
theorem wf_i64 {a : Int} (h : (Lit.int .i64 a).wf = true) : -9223372036854775808 ≤ a ∧ a ≤ 9223372036854775807 := by
  simpa [Lit.wf, IntKind.min, IntKind.max, IntKind.signed, IntKind.bits] using h
theorem wbt (s : ByteArray) (i : Int) : wrap64 (bt s i) = bt s i := w64 (by have := bt_range s i; omega) (by have := bt_range s i; omega)

def pstep (p : Int) : Int × Int × Int × Int := if p = 0 then (0, 0, 8, 8) else if p = 1 then (4, 0, 8, 8) else if p = 2 then (0, 4, 4, 8) else if p = 3 then (2, 0, 4, 4) else if p = 4 then (0, 2, 2, 4) else if p = 5 then (1, 0, 2, 2) else if p = 6 then (0, 1, 1, 2) else (0, 0, 0, 0)
def passB (p : Int) : Bool := decide (0 ≤ p) && decide (p ≤ 6)
theorem passB_iff (p : Int) : passB p = true ↔ 0 ≤ p ∧ p ≤ 6 := by simp [passB]
/-- How many of the places x, x + d, .. are below n. -/
def cnt (n x d : Int) : Int := if x < n then (n - x + d - 1) / d else 0
def power2 (d : Int) : Prop := d = 1 ∨ d = 2 ∨ d = 4 ∨ d = 8
theorem cnt_step {n x d : Int} (hd : power2 d) (h : x < n) : cnt n x d = 1 + cnt n (x + d) d := by
  unfold cnt
  rw [if_pos h]
  rcases hd with rfl | rfl | rfl | rfl <;> split <;> omega
theorem cnt_done {n x d : Int} (h : ¬ x < n) : cnt n x d = 0 := if_neg h
theorem cnt_bd {n x d : Int} (hd : power2 d) (h0 : 0 ≤ x) (hn : n ≤ 24) : 0 ≤ cnt n x d ∧ cnt n x d ≤ 24 := by
  unfold cnt
  rcases hd with rfl | rfl | rfl | rfl <;> split <;> omega
theorem pstep_bd {p : Int} (h : passB p = true) : 0 ≤ (pstep p).1 ∧ (pstep p).1 ≤ 4 ∧ 0 ≤ (pstep p).2.1 ∧ (pstep p).2.1 ≤ 4 ∧ power2 (pstep p).2.2.1 ∧ power2 (pstep p).2.2.2 ∧ (pstep p).1 ≤ (pstep p).2.2.1 ∧ (pstep p).2.1 ≤ (pstep p).2.2.2 := by
  rw [passB_iff] at h
  have : p = 0 ∨ p = 1 ∨ p = 2 ∨ p = 3 ∨ p = 4 ∨ p = 5 ∨ p = 6 := by omega
  unfold power2
  rcases this with rfl | rfl | rfl | rfl | rfl | rfl | rfl <;> decide

def sideB (n : Int) : Bool := decide (1 ≤ n) && decide (n ≤ 24)
theorem sideB_iff (n : Int) : sideB n = true ↔ 1 ≤ n ∧ n ≤ 24 := by simp [sideB]

def psize (w h p : Int) : Int × Int :=
  if sideB w && sideB h && passB p then
    if cnt w (pstep p).1 (pstep p).2.2.1 = 0 ∨ cnt h (pstep p).2.1 (pstep p).2.2.2 = 0 then (0, 0) else (cnt w (pstep p).1 (pstep p).2.2.1, cnt h (pstep p).2.1 (pstep p).2.2.2)
  else (0, 0)

def smallD (d : Int) : Bool := d == 1 || d == 2 || d == 4
def bigD (d : Int) : Bool := d == 8 || d == 16
def dok (c d : Int) : Bool := if c = 0 then smallD d || bigD d else if c = 3 then smallD d || d == 8 else if c = 2 then bigD d else if c = 4 then bigD d else if c = 6 then bigD d else false
theorem some_or (a b : Bool) : (if a = true then some true else some b) = some (a || b) := by cases a <;> rfl
theorem spec_DepthOk_eq (k : Nat) (hk : 1 ≤ k) (c d : Int) : spec_DepthOk.f k c d = some (dok c d) := by
  obtain ⟨k, rfl⟩ : ∃ m, k = m + 1 := ⟨k - 1, by omega⟩
  have e : ∀ x : Bool, spec_DepthOk.j0 (k + 1) c d x = some (if c = 0 then x || bigD d else if c = 3 then x || d == 8 else if c = 2 then bigD d else if c = 4 then bigD d else if c = 6 then bigD d else false) := by
    intro x
    have h8 : (if d = 8 then some true else some (d == 16)) = some (bigD d) := by unfold bigD; by_cases h : d = 8 <;> simp [h]
    simp only [spec_DepthOk.j0, h8, some_or]
    repeat (first | rfl | split)
  simp only [spec_DepthOk.f, e, dok, smallD]
  by_cases h1 : d = 1
  · simp [h1]
  by_cases h2 : d = 2
  · simp [h2]
  · have e1 : (d == 1) = false := by simpa using h1
    have e2 : (d == 2) = false := by simpa using h2
    simp only [h1, h2, e1, e2, if_false, Bool.false_or]

def chan (c : Int) : Int := if c = 0 then 1 else if c = 3 then 1 else if c = 2 then 3 else if c = 4 then 2 else if c = 6 then 4 else 0

def p2 (n : Int) : Int := 2 ^ n.toNat
theorem p2_nat (n : Nat) : p2 n = ((2 ^ n : Nat) : Int) := by simp [p2]
theorem p2_succ (n : Int) (h : 0 ≤ n) : p2 (n + 1) = 2 * p2 n := by
  obtain ⟨m, rfl⟩ := Int.eq_ofNat_of_zero_le h
  have : ((m : Int) + 1) = ((m + 1 : Nat) : Int) := by omega
  rw [this, p2_nat, p2_nat, Nat.pow_succ]; push_cast; omega
theorem p2_zero : p2 0 = 1 := rfl
theorem p2_pos (n : Int) : 1 ≤ p2 n := by
  unfold p2
  have h := Nat.one_le_two_pow (n := n.toNat)
  exact_mod_cast h
theorem p2_le {m n : Int} (h : m ≤ n) : p2 m ≤ p2 n := by
  unfold p2
  have h := Nat.pow_le_pow_right (n := 2) (by decide) (show m.toNat ≤ n.toNat by omega)
  exact_mod_cast h
theorem p2_62 {n : Int} (h : n ≤ 62) : p2 n ≤ 4611686018427387904 := p2_le (n := 62) h
theorem p2_16 {n : Int} (h : n ≤ 16) : p2 n ≤ 65536 := p2_le (n := 16) h

theorem rd_at (xs : List Int) (i : Nat) (h : i < xs.length) : rd xs i = xs[i] := by simp [rd, List.getD, h]
def inB (m x : Int) : Bool := decide (0 ≤ x) && decide (x ≤ m)
theorem drop_all (p : Int → Bool) (xs : List Int) (i : Nat) (h : i < xs.length) : (xs.drop i).all p = (p xs[i] && (xs.drop (i + 1)).all p) := by
  rw [List.drop_eq_getElem_cons h]; rfl
theorem drop_all_end (p : Int → Bool) (xs : List Int) (i : Nat) (h : xs.length ≤ i) : (xs.drop i).all p = true := by
  rw [List.drop_eq_nil_of_le h]; rfl

def upB (n : Int) : Int := (n + 7) / 8
theorem upB_w (n : Int) (h : 0 ≤ n) (h' : n ≤ 9223372036854775800) : wrap64 (Int.tdiv (wrap64 (n + 7)) 8) = upB n := by
  unfold upB
  rw [w64 (x := n + 7) (by omega) (by omega), Int.tdiv_eq_ediv_of_nonneg (by omega), w64 (by omega) (by omega)]
theorem chan_bd (c : Int) : 0 ≤ chan c ∧ chan c ≤ 4 := by unfold chan; repeat (first | omega | split)
theorem dok_bd {c d : Int} (h : dok c d = true) : 1 ≤ d ∧ d ≤ 16 ∧ 1 ≤ chan c := by
  have hs : ∀ d : Int, smallD d = true → 1 ≤ d ∧ d ≤ 4 := by intro d h; simp [smallD] at h; omega
  have hb : ∀ d : Int, bigD d = true → 8 ≤ d ∧ d ≤ 16 := by intro d h; simp [bigD] at h; omega
  unfold dok at h
  unfold chan
  split at h
  · rename_i e; simp only [e, if_true, Bool.or_eq_true] at h ⊢
    rcases h with h | h
    · have := hs d h; omega
    · have := hb d h; omega
  · rename_i e0
    simp only [e0, if_false]
    split at h
    · rename_i e; simp only [e, if_true, Bool.or_eq_true, beq_iff_eq] at h ⊢
      rcases h with h | h
      · have := hs d h; omega
      · omega
    · rename_i e3
      simp only [e3, if_false]
      split at h
      · rename_i e; simp only [e, if_true]; have := hb d h; omega
      · rename_i e2
        simp only [e2, if_false]
        split at h
        · rename_i e; simp only [e, if_true]; have := hb d h; omega
        · rename_i e4
          simp only [e4, if_false]
          split at h
          · rename_i e; simp only [e, if_true]; have := hb d h; omega
          · cases h
theorem mul_bd {a b : Int} {m n : Int} (ha : 0 ≤ a) (ha' : a ≤ m) (hb : 0 ≤ b) (hb' : b ≤ n) : 0 ≤ a * b ∧ a * b ≤ m * n :=
  ⟨Int.mul_nonneg ha hb, Int.mul_le_mul ha' hb' hb (by omega)⟩
/-- How many bytes a row has. -/
def rowBytes (w c d : Int) : Int := if sideB w && dok c d then upB (w * chan c * d) else 0
theorem row_bd {w c d : Int} (h : sideB w = true) (h' : dok c d = true) : 0 ≤ w * chan c ∧ w * chan c ≤ 96 ∧ 0 ≤ w * chan c * d ∧ w * chan c * d ≤ 1536 := by
  rw [sideB_iff] at h
  have h2 := dok_bd h'
  have h3 := chan_bd c
  have h4 := mul_bd (a := w) (b := chan c) (m := 24) (n := 4) (by omega) (by omega) (by omega) (by omega)
  have h5 := mul_bd (a := w * chan c) (b := d) (m := 96) (n := 16) (by omega) (by omega) (by omega) (by omega)
  omega

def rasterOk (w h c d : Int) (xs : List Int) : Bool := sideB w && sideB h && dok c d && decide ((xs.length : Int) = w * h * chan c) && xs.all (inB (p2 d - 1))
theorem wh_bd {w h c : Int} (hw : sideB w = true) (hh : sideB h = true) : 0 ≤ w * h ∧ w * h ≤ 576 ∧ 0 ≤ w * h * chan c ∧ w * h * chan c ≤ 2304 := by
  rw [sideB_iff] at hw hh
  have h3 := chan_bd c
  have h4 := mul_bd (a := w) (b := h) (m := 24) (n := 24) (by omega) (by omega) (by omega) (by omega)
  have h5 := mul_bd (a := w * h) (b := chan c) (m := 576) (n := 4) (by omega) (by omega) (by omega) (by omega)
  omega

/-- The samples of one place: n of them from place a * n on. -/
def smp (xs : List Int) (n a : Int) : List Int := (xs.take (a * n + n).toNat).drop (a * n).toNat
theorem smp_len (xs : List Int) (n a : Int) (hn : 0 ≤ n) (ha : 0 ≤ a) (h : a * n + n ≤ xs.length) : (smp xs n a).length = n.toNat := by
  have := Int.mul_nonneg ha hn
  simp only [smp, List.length_drop, List.length_take]; omega
theorem plc_bd {a WH n L : Int} (ha : 0 ≤ a ∧ a < WH) (hn : 0 ≤ n) (hL : L = WH * n) : 0 ≤ a * n ∧ a * n + n ≤ L := by
  have p := Int.mul_le_mul_of_nonneg_right (show a + 1 ≤ WH by omega) hn
  have p2 := Int.mul_nonneg ha.1 hn
  rw [Int.add_mul] at p
  omega

def rowPl (b dx : Int) : Nat → List Int
  | 0 => []
  | n + 1 => b :: rowPl (b + dx) dx n
def gridPl (W dx dy x : Int) (w : Nat) : Nat → Int → List Int
  | 0, _ => []
  | n + 1, r => rowPl (r * W + x) dx w ++ gridPl W dx dy x w n (r + dy)
theorem rowPl_len (b dx : Int) (n : Nat) : (rowPl b dx n).length = n := by
  induction n generalizing b with
  | zero => rfl
  | succ n ih => simp [rowPl, ih]
theorem gridPl_len (W dx dy x : Int) (w n : Nat) (r : Int) : (gridPl W dx dy x w n r).length = w * n := by
  induction n generalizing r with
  | zero => simp [gridPl]
  | succ n ih => simp [gridPl, ih, rowPl_len, Nat.mul_succ]; omega
theorem gridPl_zero (W dx dy x : Int) (n : Nat) (r : Int) : gridPl W dx dy x 0 n r = [] := by
  induction n generalizing r with
  | zero => rfl
  | succ n ih => simp [gridPl, ih, rowPl]
theorem rowPl_bd {dx : Int} (hd : power2 dx) (W : Int) (hW : W ≤ 24) (n : Nat) : ∀ (c R : Int), 0 ≤ c → (n : Int) = cnt W c dx → ∀ a ∈ rowPl (R + c) dx n, R ≤ a ∧ a < R + W := by
  induction n with
  | zero => intro c R _ _ a ha; cases ha
  | succ n ih =>
    intro c R hc hn a ha
    have lt : c < W := by
      by_cases h : c < W
      · exact h
      · rw [cnt_done h] at hn; omega
    have st := cnt_step hd lt
    have hd0 : 0 ≤ dx := by rcases hd with rfl | rfl | rfl | rfl <;> omega
    rcases List.mem_cons.mp ha with rfl | ha
    · omega
    · rw [Int.add_assoc] at ha
      exact ih (c + dx) R (by omega) (by push_cast at hn; omega) a ha
theorem gridPl_bd {dx dy : Int} (hd : power2 dx) (he : power2 dy) (W H x : Int) (hx : 0 ≤ x) (hW0 : 0 ≤ W) (hW : W ≤ 24) (w : Nat) (hw : (w : Int) = cnt W x dx) (n : Nat) : ∀ (r : Int), 0 ≤ r → (n : Int) = cnt H r dy → ∀ a ∈ gridPl W dx dy x w n r, 0 ≤ a ∧ a < W * H := by
  induction n with
  | zero => intro r _ _ a ha; cases ha
  | succ n ih =>
    intro r hr hn a ha
    have lt : r < H := by
      by_cases h : r < H
      · exact h
      · rw [cnt_done h] at hn; omega
    have st := cnt_step he lt
    have hd0 : 0 ≤ dy := by rcases he with rfl | rfl | rfl | rfl <;> omega
    rcases List.mem_append.mp ha with ha | ha
    · have q := rowPl_bd hd W hW w x (r * W) hx hw a ha
      have p := Int.mul_le_mul_of_nonneg_right (show r + 1 ≤ H by omega) hW0
      have p2 := Int.mul_nonneg hr hW0
      rw [Int.add_mul, Int.mul_comm H W] at p
      omega
    · exact ih (r + dy) (by omega) (by push_cast at hn; omega) a ha
/-- The p-th pass of a raster. -/
def passL (w h c d : Int) (xs : List Int) (p : Int) : S29 :=
  ⟨(psize w h p).1, (psize w h p).2, c, d, (gridPl w (pstep p).2.2.1 (pstep p).2.2.2 (pstep p).1 (psize w h p).1.toNat (psize w h p).2.toNat (pstep p).2.1).flatMap (smp xs (chan c))⟩
def passesL (w h c d : Int) (xs : List Int) : List S29 := (List.range' 0 7).map fun p : Nat => passL w h c d xs p
theorem psize_eq {w h p : Int} (hw : sideB w = true) (hh : sideB h = true) (hp : passB p = true) :
    (psize w h p = (cnt w (pstep p).1 (pstep p).2.2.1, cnt h (pstep p).2.1 (pstep p).2.2.2)) ∨ (psize w h p = (0, 0) ∧ (cnt w (pstep p).1 (pstep p).2.2.1 = 0 ∨ cnt h (pstep p).2.1 (pstep p).2.2.2 = 0)) := by
  unfold psize
  rw [if_pos (by rw [hw, hh, hp]; rfl)]
  split
  · right; exact ⟨rfl, by assumption⟩
  · left; rfl
theorem psize_bd {w h p : Int} (hw : sideB w = true) (hh : sideB h = true) (hp : passB p = true) : 0 ≤ (psize w h p).1 ∧ (psize w h p).1 ≤ 24 ∧ 0 ≤ (psize w h p).2 ∧ (psize w h p).2 ≤ 24 := by
  have b := pstep_bd hp
  rw [sideB_iff] at hw hh
  have b1 := cnt_bd (n := w) b.2.2.2.2.1 b.1 hw.2
  have b2 := cnt_bd (n := h) b.2.2.2.2.2.1 b.2.2.1 hh.2
  rcases psize_eq ((sideB_iff w).mpr hw) ((sideB_iff h).mpr hh) hp with e | e
  · rw [e]; simp only; omega
  · rw [e.1]; simp only; omega
/-- The places of a pass, told by counts alone. -/
theorem grid_eq {w h p : Int} (hw : sideB w = true) (hh : sideB h = true) (hp : passB p = true) (W dx dy x r : Int) :
    gridPl W dx dy x (cnt w (pstep p).1 (pstep p).2.2.1).toNat (cnt h (pstep p).2.1 (pstep p).2.2.2).toNat r = gridPl W dx dy x (psize w h p).1.toNat (psize w h p).2.toNat r := by
  rcases psize_eq hw hh hp with e | ⟨e, z | z⟩
  · rw [e]
  · rw [e, z]; exact (gridPl_zero ..).trans rfl
  · rw [e, z]; rfl
theorem grid_bd {w h p : Int} (hw : sideB w = true) (hh : sideB h = true) (hp : passB p = true) :
    ∀ a ∈ gridPl w (pstep p).2.2.1 (pstep p).2.2.2 (pstep p).1 (psize w h p).1.toNat (psize w h p).2.toNat (pstep p).2.1, 0 ≤ a ∧ a < w * h := by
  have b := pstep_bd hp
  have hw' := (sideB_iff w).mp hw
  have hh' := (sideB_iff h).mp hh
  have b1 := cnt_bd (n := w) b.2.2.2.2.1 b.1 hw'.2
  have b2 := cnt_bd (n := h) b.2.2.2.2.2.1 b.2.2.1 hh'.2
  rw [← grid_eq hw hh hp]
  exact gridPl_bd b.2.2.2.2.1 b.2.2.2.2.2.1 w h _ b.1 (by omega) hw'.2 _ (by omega) _ _ b.2.2.1 (by omega)
theorem passB_nat {p : Nat} (h : p < 7) : passB (p : Int) = true := by rw [passB_iff]; omega

/-- Each place belongs to a pass. -/
theorem rowPl_mem (b dx : Int) (n : Nat) : ∀ i : Nat, i < n → ∀ b : Int, b + i * dx ∈ rowPl b dx n := by
  induction n with
  | zero => intro i hi; omega
  | succ n ih =>
    intro i hi b
    rcases i with _ | i
    · simp [rowPl]
    · have := ih i (by omega) (b + dx)
      rw [rowPl]
      refine List.mem_cons_of_mem _ ?_
      rw [show b + ((i + 1 : Nat) : Int) * dx = b + dx + i * dx from by push_cast; rw [Int.add_mul]; omega]
      exact this
theorem gridPl_mem (W dx dy x : Int) (w : Nat) (n : Nat) : ∀ (j i : Nat) (r : Int), j < n → i < w → (r + j * dy) * W + x + i * dx ∈ gridPl W dx dy x w n r := by
  induction n with
  | zero => intro j i r hj; omega
  | succ n ih =>
    intro j i r hj hi
    rw [gridPl]
    rcases j with _ | j
    · refine List.mem_append.2 (.inl ?_)
      have := rowPl_mem 0 dx w i hi (r * W + x)
      simpa using this
    · refine List.mem_append.2 (.inr ?_)
      have := ih j i (r + dy) (by omega) hi
      rw [show r + ((j + 1 : Nat) : Int) * dy = r + dy + j * dy from by push_cast; rw [Int.add_mul]; omega]
      exact this
theorem cnt_of {n x d c : Int} (hd : power2 d) (hx : 0 ≤ x) (hc : x ≤ c) (hn : c < n) (hm : c % d = x % d) : ∃ i : Nat, c = x + i * d ∧ (i : Int) < cnt n x d := by
  refine ⟨((c - x) / d).toNat, ?_, ?_⟩
  · rcases hd with rfl | rfl | rfl | rfl <;> omega
  · unfold cnt
    rw [if_pos (by omega)]
    rcases hd with rfl | rfl | rfl | rfl <;> omega
theorem pass_of (r c : Int) (hr : 0 ≤ r) (hc : 0 ≤ c) : ∃ p : Nat, p < 7 ∧ (pstep p).1 ≤ c ∧ c % (pstep p).2.2.1 = (pstep p).1 % (pstep p).2.2.1 ∧ (pstep p).2.1 ≤ r ∧ r % (pstep p).2.2.2 = (pstep p).2.1 % (pstep p).2.2.2 := by
  by_cases h6 : r % 2 = 1
  · exact ⟨6, by omega, by simp [pstep]; omega⟩
  · by_cases h5 : c % 2 = 1
    · exact ⟨5, by omega, by simp [pstep]; omega⟩
    · by_cases h4 : r % 4 = 2
      · exact ⟨4, by omega, by simp [pstep]; omega⟩
      · by_cases h3 : c % 4 = 2
        · exact ⟨3, by omega, by simp [pstep]; omega⟩
        · by_cases h2 : r % 8 = 4
          · exact ⟨2, by omega, by simp [pstep]; omega⟩
          · by_cases h1 : c % 8 = 4
            · exact ⟨1, by omega, by simp [pstep]; omega⟩
            · exact ⟨0, by omega, by simp [pstep]; omega⟩
def placesL (w h p : Int) : List Int := gridPl w (pstep p).2.2.1 (pstep p).2.2.2 (pstep p).1 (psize w h p).1.toNat (psize w h p).2.toNat (pstep p).2.1
theorem place_in {w h a : Int} (hw : sideB w = true) (hh : sideB h = true) (ha : 0 ≤ a ∧ a < w * h) : ∃ p : Nat, p < 7 ∧ a ∈ placesL w h p := by
  have hw' := (sideB_iff w).mp hw
  have hh' := (sideB_iff h).mp hh
  have e := Int.mul_ediv_add_emod a w
  have m0 := Int.emod_nonneg a (show w ≠ 0 by omega)
  have m1 := Int.emod_lt_of_pos a (show 0 < w by omega)
  have r0 : 0 ≤ a / w := Int.ediv_nonneg ha.1 (by omega)
  have r1 : a / w < h := Int.ediv_lt_of_lt_mul (by omega) (by rw [Int.mul_comm]; exact ha.2)
  obtain ⟨p, hp, x1, x2, y1, y2⟩ := pass_of (a / w) (a % w) r0 m0
  have pb := passB_nat hp
  have b := pstep_bd pb
  obtain ⟨i, hi, hi2⟩ := cnt_of b.2.2.2.2.1 b.1 x1 m1 x2
  obtain ⟨j, hj, hj2⟩ := cnt_of b.2.2.2.2.2.1 b.2.2.1 y1 r1 y2
  refine ⟨p, hp, ?_⟩
  unfold placesL
  rw [← grid_eq hw hh pb]
  have q := gridPl_mem w (pstep p).2.2.1 (pstep p).2.2.2 (pstep p).1 (cnt w (pstep p).1 (pstep p).2.2.1).toNat (cnt h (pstep p).2.1 (pstep p).2.2.2).toNat j i (pstep p).2.1 (by omega) (by omega)
  rw [← hj, Int.add_assoc, ← hi, Int.mul_comm] at q
  rw [e] at q
  exact q
/-- The passes have all the pixels together. -/
theorem cnt_two {n x d : Int} (hn : 1 ≤ n) (hx : 0 ≤ x) : (d = 4 ∨ d = 2 ∨ d = 1) → x < d → cnt n x (2 * d) + cnt n (x + d) (2 * d) = cnt n x d := by
  intro hd hx2
  unfold cnt
  rcases hd with rfl | rfl | rfl <;> (repeat' split) <;> omega
theorem cnt_one {n : Int} (hn : 1 ≤ n) : cnt n 0 1 = n := by
  unfold cnt; rw [if_pos (by omega)]; omega
def pixN (w h : Int) (p : Nat) : Int := (psize w h p).1 * (psize w h p).2
theorem pixN_eq {w h : Int} (hw : sideB w = true) (hh : sideB h = true) (p : Nat) (hp : p < 7) : pixN w h p = cnt w (pstep p).1 (pstep p).2.2.1 * cnt h (pstep p).2.1 (pstep p).2.2.2 := by
  unfold pixN
  rcases psize_eq hw hh (passB_nat hp) with e | ⟨e, z | z⟩
  · rw [e]
  · rw [e, z]; simp
  · rw [e, z]; simp
theorem pixN_sum {w h : Int} (hw : sideB w = true) (hh : sideB h = true) : pixN w h 0 + pixN w h 1 + pixN w h 2 + pixN w h 3 + pixN w h 4 + pixN w h 5 + pixN w h 6 = w * h := by
  have hw' := (sideB_iff w).mp hw
  have hh' := (sideB_iff h).mp hh
  rw [pixN_eq hw hh 0 (by omega), pixN_eq hw hh 1 (by omega), pixN_eq hw hh 2 (by omega), pixN_eq hw hh 3 (by omega), pixN_eq hw hh 4 (by omega), pixN_eq hw hh 5 (by omega), pixN_eq hw hh 6 (by omega)]
  show cnt w 0 8 * cnt h 0 8 + cnt w 4 8 * cnt h 0 8 + cnt w 0 4 * cnt h 4 8 + cnt w 2 4 * cnt h 0 4 + cnt w 0 2 * cnt h 2 4 + cnt w 1 2 * cnt h 0 2 + cnt w 0 1 * cnt h 1 2 = w * h
  have a1 := cnt_two (n := w) (x := 0) (d := 4) (by omega) (by omega) (by omega) (by omega)
  have a2 := cnt_two (n := w) (x := 0) (d := 2) (by omega) (by omega) (by omega) (by omega)
  have a3 := cnt_two (n := w) (x := 0) (d := 1) (by omega) (by omega) (by omega) (by omega)
  have b1 := cnt_two (n := h) (x := 0) (d := 4) (by omega) (by omega) (by omega) (by omega)
  have b2 := cnt_two (n := h) (x := 0) (d := 2) (by omega) (by omega) (by omega) (by omega)
  have b3 := cnt_two (n := h) (x := 0) (d := 1) (by omega) (by omega) (by omega) (by omega)
  have c1 := cnt_one (n := w) (by omega)
  have c2 := cnt_one (n := h) (by omega)
  simp only [Int.mul_one, Int.zero_add, Int.reduceMul] at a1 a2 a3 b1 b2 b3
  rw [← Int.add_mul, a1, ← Int.mul_add, b1, ← Int.add_mul, a2, ← Int.mul_add, b2, ← Int.add_mul, a3, ← Int.mul_add, b3, c1, c2]

theorem cpy_len {α : Type} (xs : List α) (l n : Nat) (ys : List α) (h : l + n ≤ xs.length) : (cpy xs l n ys).length = xs.length := by
  unfold cpy
  rw [List.length_append, List.length_append, List.length_take, List.length_take, List.length_drop]
  omega
theorem cpy_at {α : Type} (xs : List α) (l n : Nat) (ys : List α) (h : l + n ≤ xs.length) (hy : n ≤ ys.length) (t : Nat) : (cpy xs l n ys)[t]? = if l ≤ t ∧ t < l + n then ys[t - l]? else xs[t]? := by
  unfold cpy
  have l1 : (xs.take l).length = l := by rw [List.length_take]; omega
  have l2 : (ys.take n).length = n := by rw [List.length_take]; omega
  rw [Nat.min_eq_right hy]
  by_cases h1 : t < l
  · rw [if_neg (by omega), List.append_assoc, List.getElem?_append_left (by omega), List.getElem?_take, if_pos h1]
  · by_cases h2 : t < l + n
    · rw [if_pos (by omega), List.append_assoc, List.getElem?_append_right (by omega), l1, List.getElem?_append_left (by omega), List.getElem?_take, if_pos (by omega)]
    · rw [if_neg (by omega), List.getElem?_append_right (by rw [List.length_append]; omega), List.length_append, l1, l2, List.getElem?_drop]
      congr 1
      omega
def scatF (n : Nat) (src : List Int) : List Int → Nat → List Int → List Int
  | [], _, out => out
  | a :: P, i, out => scatF n src P (i + 1) (cpy out (a.toNat * n) n (src.drop (i * n)))
theorem scatF_len (n : Nat) (src : List Int) (P : List Int) : ∀ (i : Nat) (out : List Int), (∀ a ∈ P, a.toNat * n + n ≤ out.length) → (scatF n src P i out).length = out.length := by
  induction P with
  | nil => intro i out _; rfl
  | cons a P ih =>
    intro i out h
    have e := cpy_len out (a.toNat * n) n (src.drop (i * n)) (h a (List.mem_cons_self ..))
    rw [scatF, ih (i + 1) _ (fun b hb => by rw [e]; exact h b (List.mem_cons_of_mem _ hb)), e]
theorem flat_at (f : Int → List Int) (n : Nat) (P : List Int) (hf : ∀ a ∈ P, (f a).length = n) : ∀ (i s : Nat) (hi : i < P.length), s < n → (P.flatMap f)[i * n + s]? = (f P[i])[s]? := by
  induction P with
  | nil => intro i s hi; cases hi
  | cons a P ih =>
    intro i s hi hs
    have ha := hf a (List.mem_cons_self ..)
    rw [List.flatMap_cons]
    rcases i with _ | i
    · rw [Nat.zero_mul, Nat.zero_add, List.getElem?_append_left (by omega)]; rfl
    · rw [List.getElem?_append_right (by rw [Nat.succ_mul]; omega), ha, show (i + 1) * n + s - n = i * n + s from by rw [Nat.succ_mul]; omega, ih (fun b hb => hf b (List.mem_cons_of_mem _ hb)) i s (by simpa using hi) hs]
      rfl
/-- What is put at its places back from its samples agrees with the whole there, and as before elsewhere. -/
theorem scatF_good (xs : List Int) (n : Nat) (P0 : List Int) (hb : ∀ a ∈ P0, 0 ≤ a ∧ a.toNat * n + n ≤ xs.length) (m : Nat) : ∀ (i : Nat) (out : List Int), i + m = P0.length → out.length = xs.length →
    (∀ t : Nat, out[t]? = xs[t]? → (scatF n (P0.flatMap (smp xs n)) (P0.drop i) i out)[t]? = xs[t]?) ∧ (∀ a ∈ P0.drop i, ∀ t : Nat, a.toNat * n ≤ t → t < a.toNat * n + n → (scatF n (P0.flatMap (smp xs n)) (P0.drop i) i out)[t]? = xs[t]?) := by
  have sl : ∀ a ∈ P0, (smp xs n a).length = n := by
    intro a ha
    have q := hb a ha
    have e : a * (n : Int) + n = ((a.toNat * n + n : Nat) : Int) := by push_cast; rw [Int.toNat_of_nonneg q.1]
    rw [smp_len xs n a (by omega) q.1 (by omega)]; omega
  have fl : (P0.flatMap (smp xs n)).length = P0.length * n := by
    clear hb
    induction P0 with
    | nil => simp
    | cons a P ih =>
      rw [List.flatMap_cons, List.length_append, ih (fun b hb => sl b (List.mem_cons_of_mem _ hb)), sl a (List.mem_cons_self ..), List.length_cons, Nat.succ_mul]
      omega
  induction m with
  | zero =>
    intro i out hi ho
    rw [List.drop_eq_nil_of_le (by omega)]
    exact ⟨fun t h => h, fun a ha => by cases ha⟩
  | succ m ih =>
    intro i out hi ho
    have lt : i < P0.length := by omega
    have q := hb _ (List.getElem_mem lt)
    have fle : i * n + n ≤ P0.length * n := by
      rw [← Nat.succ_mul]; exact Nat.mul_le_mul_right _ lt
    have ce := cpy_len out (P0[i].toNat * n) n ((P0.flatMap (smp xs n)).drop (i * n)) (by rw [ho]; exact q.2)
    have ca := cpy_at out (P0[i].toNat * n) n ((P0.flatMap (smp xs n)).drop (i * n)) (by rw [ho]; exact q.2) (by rw [List.length_drop, fl]; omega)
    have blk : ∀ t : Nat, P0[i].toNat * n ≤ t → t < P0[i].toNat * n + n → (cpy out (P0[i].toNat * n) n ((P0.flatMap (smp xs n)).drop (i * n)))[t]? = xs[t]? := by
      intro t h1 h2
      rw [ca t, if_pos ⟨h1, h2⟩, List.getElem?_drop, flat_at (smp xs n) n P0 sl i _ lt (by omega)]
      unfold smp
      have e0 : (P0[i] * (n : Int)).toNat = P0[i].toNat * n := by
        have e : P0[i] * (n : Int) = ((P0[i].toNat * n : Nat) : Int) := by push_cast; rw [Int.toNat_of_nonneg q.1]
        rw [e]; omega
      have e1 : (P0[i] * (n : Int) + n).toNat = P0[i].toNat * n + n := by
        have e : P0[i] * (n : Int) = ((P0[i].toNat * n : Nat) : Int) := by push_cast; rw [Int.toNat_of_nonneg q.1]
        rw [e]; omega
      rw [e0, e1, List.getElem?_drop, List.getElem?_take, if_pos (by omega)]
      congr 1
      omega
    obtain ⟨s1, s2⟩ := ih (i + 1) _ (by omega) (by rw [ce]; exact ho)
    rw [List.drop_eq_getElem_cons lt, scatF]
    have keep : ∀ t : Nat, out[t]? = xs[t]? → (cpy out (P0[i].toNat * n) n ((P0.flatMap (smp xs n)).drop (i * n)))[t]? = xs[t]? := by
      intro t h
      by_cases c : P0[i].toNat * n ≤ t ∧ t < P0[i].toNat * n + n
      · exact blk t c.1 c.2
      · rw [ca t, if_neg c]; exact h
    refine ⟨fun t h => s1 t (keep t h), fun a ha t h1 h2 => ?_⟩
    rcases List.mem_cons.1 ha with rfl | ha
    · exact s1 t (blk t h1 h2)
    · exact s2 a ha t h1 h2
def scatAll (w h : Int) (n : Nat) (ps : List S29) : Nat → Nat → List Int → List Int
  | 0, _, out => out
  | r + 1, p, out => scatAll w h n ps r (p + 1) (scatF n (rd_T29 ps (p : Int)).f4 (placesL w h p) 0 out)
theorem places_bd {w h : Int} (hw : sideB w = true) (hh : sideB h = true) (n : Nat) (p : Nat) (hp : p < 7) : ∀ a ∈ placesL w h p, 0 ≤ a ∧ a.toNat * n + n ≤ (w * h).toNat * n := by
  intro a ha
  have g := grid_bd hw hh (passB_nat hp) a ha
  refine ⟨g.1, ?_⟩
  rw [← Nat.succ_mul]
  exact Nat.mul_le_mul_right _ (by omega)
theorem passesL_at (w h c d : Int) (xs : List Int) (p : Nat) (hp : p < 7) : rd_T29 (passesL w h c d xs) (p : Int) = passL w h c d xs p := by
  simp [rd_T29, passesL, List.getD, hp]
theorem scatAll_len {w h : Int} (hw : sideB w = true) (hh : sideB h = true) (n : Nat) (ps : List S29) (r : Nat) : ∀ (p : Nat) (out : List Int), p + r = 7 → out.length = (w * h).toNat * n → (scatAll w h n ps r p out).length = out.length := by
  induction r with
  | zero => intro p out _ _; rfl
  | succ r ih =>
    intro p out hp ho
    have e := scatF_len n (rd_T29 ps (p : Int)).f4 (placesL w h p) 0 out (fun a ha => by rw [ho]; exact (places_bd hw hh n p (by omega) a ha).2)
    rw [scatAll, ih (p + 1) _ (by omega) (by rw [e]; exact ho), e]
theorem scatAll_good {w h c d : Int} (hw : sideB w = true) (hh : sideB h = true) (xs : List Int) (n : Nat) (hn : chan c = n) (hl : xs.length = (w * h).toNat * n) (r : Nat) : ∀ (p : Nat) (out : List Int), p + r = 7 → out.length = xs.length →
    (∀ t : Nat, out[t]? = xs[t]? → (scatAll w h n (passesL w h c d xs) r p out)[t]? = xs[t]?) ∧ (∀ q : Nat, p ≤ q → q < 7 → ∀ a ∈ placesL w h q, ∀ t : Nat, a.toNat * n ≤ t → t < a.toNat * n + n → (scatAll w h n (passesL w h c d xs) r p out)[t]? = xs[t]?) := by
  induction r with
  | zero => intro p out hp ho; exact ⟨fun t h => h, fun q h1 h2 => by omega⟩
  | succ r ih =>
    intro p out hp ho
    have pb := places_bd hw hh n p (by omega)
    have f4 : (passL w h c d xs p).f4 = (placesL w h p).flatMap (smp xs (n : Int)) := by rw [← hn]; rfl
    have e := scatF_len n (passL w h c d xs p).f4 (placesL w h p) 0 out (fun a ha => by rw [ho, hl]; exact (pb a ha).2)
    rw [f4] at e
    obtain ⟨g1, g2⟩ := scatF_good xs n (placesL w h p) (fun a ha => by rw [hl]; exact pb a ha) (placesL w h p).length 0 out (by omega) ho
    rw [List.drop_zero] at g1 g2
    obtain ⟨s1, s2⟩ := ih (p + 1) (scatF n ((placesL w h p).flatMap (smp xs (n : Int))) (placesL w h p) 0 out) (by omega) (by rw [e]; exact ho)
    rw [scatAll, passesL_at w h c d xs p (by omega), f4]
    refine ⟨fun t h => s1 t (g1 t h), fun q h1 h2 a ha t h3 h4 => ?_⟩
    by_cases c : q = p
    · subst c; exact s1 t (g2 a ha t h3 h4)
    · exact s2 q (by omega) h2 a ha t h3 h4
/-- The passes put back are the raster. -/
theorem scatAll_back {w h c d : Int} {xs : List Int} (ok : rasterOk w h c d xs = true) (out : List Int) (ho : out.length = xs.length) : scatAll w h (chan c).toNat (passesL w h c d xs) 7 0 out = xs := by
  simp only [rasterOk, Bool.and_eq_true, decide_eq_true_eq] at ok
  obtain ⟨⟨⟨⟨hw, hh⟩, hdk⟩, hl⟩, hall⟩ := ok
  have bd := wh_bd (c := c) hw hh
  have cb := chan_bd c
  obtain ⟨n, hn⟩ := Int.eq_ofNat_of_zero_le cb.1
  have hl2 : xs.length = (w * h).toNat * n := by
    have : (xs.length : Int) = (((w * h).toNat * n : Nat) : Int) := by rw [hl, hn]; push_cast; rw [Int.toNat_of_nonneg bd.1]
    omega
  rw [hn, Int.toNat_natCast]
  have g := (scatAll_good (c := c) (d := d) hw hh xs n hn hl2 7 0 out (by omega) ho).2
  have e := scatAll_len hw hh n (passesL w h c d xs) 7 0 out (by omega) (by rw [ho, hl2])
  apply List.ext_getElem?
  intro t
  by_cases ht : t < xs.length
  · have np : 0 < n := by
      rcases Nat.eq_zero_or_pos n with z | z
      · rw [z, Nat.mul_zero] at hl2; omega
      · exact z
    have d1 := Nat.div_add_mod t n
    have d2 := Nat.mod_lt t np
    have d3 : t / n < (w * h).toNat := Nat.div_lt_of_lt_mul (by rw [hl2, Nat.mul_comm] at ht; exact ht)
    obtain ⟨p, hp, hm⟩ := place_in (a := ((t / n : Nat) : Int)) hw hh ⟨Int.natCast_nonneg _, by have := Int.ofNat_lt.2 d3; rw [Int.toNat_of_nonneg bd.1] at this; exact this⟩
    refine g p (by omega) hp _ hm t ?_ ?_
    · rw [Int.toNat_natCast, Nat.mul_comm]; omega
    · rw [Int.toNat_natCast, Nat.mul_comm]; omega
  · rw [List.getElem?_eq_none (by omega), List.getElem?_eq_none (by omega)]

theorem slices_Equal_l0 (xs ys : List Int) (hl : xs.length = ys.length) (hx : xs.length ≤ 1000000000) (d : Nat) : ∀ (k i : Nat), i ≤ xs.length → xs.length - i = d → d < k → slices_Equal_int_int.l0 k xs ys xs.length i = some (decide (xs.drop i = ys.drop i)) := by
  induction d with
  | zero =>
    intro k i hi hd hk
    obtain ⟨k, rfl⟩ : ∃ m, k = m + 1 := ⟨k - 1, by omega⟩
    rw [slices_Equal_int_int.l0, if_neg (by omega), List.drop_eq_nil_of_le (by omega), List.drop_eq_nil_of_le (by omega)]
    rfl
  | succ d ih =>
    intro k i hi hd hk
    obtain ⟨k, rfl⟩ : ∃ m, k = m + 1 := ⟨k - 1, by omega⟩
    have lx : i < xs.length := by omega
    have ly : i < ys.length := by omega
    have st := ih k (i + 1) (by omega) (by omega) (by omega)
    push_cast at st
    rw [slices_Equal_int_int.l0, if_pos (by omega), if_pos (by omega), if_pos (by omega), if_pos (by omega), rd_at xs i lx, rd_at ys i ly, w64 (by omega) (by omega), List.drop_eq_getElem_cons lx, List.drop_eq_getElem_cons ly]
    by_cases h : xs[i] = ys[i]
    · rw [if_pos h, st]
      congr 1
      rw [decide_eq_decide]
      exact ⟨fun q => by rw [h, q], fun q => (List.cons.inj q).2⟩
    · rw [if_neg h]
      congr 1
      exact (decide_eq_false (fun q => h (List.cons.inj q).1)).symm
theorem slices_Equal_eq (xs ys : List Int) (hx : xs.length ≤ 1000000000) (k : Nat) (hk : xs.length < k) : slices_Equal_int_int.f k xs ys = some (decide (xs = ys)) := by
  unfold slices_Equal_int_int.f
  by_cases h : xs.length = ys.length
  · rw [if_pos (by omega)]
    have := slices_Equal_l0 xs ys h hx xs.length k 0 (by omega) (by omega) hk
    rw [show ((0 : Nat) : Int) = 0 from rfl] at this
    simpa using this
  · rw [if_neg (by omega)]
    congr 1
    exact (decide_eq_false (fun q => h (by rw [q]))).symm

theorem rd_Rast (ps : List S29) (i : Nat) (h : i < ps.length) : rd_T29 ps (i : Int) = ps[i] := by simp [rd_T29, List.getD, h]

def rastEq (a b : S29) : Bool := decide (a.f0 = b.f0) && decide (a.f1 = b.f1) && decide (a.f2 = b.f2) && decide (a.f3 = b.f3) && decide (a.f4 = b.f4)
theorem rastEq_iff (a b : S29) : rastEq a b = true ↔ a = b := by
  cases a; cases b
  simp [rastEq, and_assoc]
theorem impl_sameRaster_eq (a b : S29) (hx : a.f4.length ≤ 1000000000) (k : Nat) (hk : a.f4.length < k) : impl_sameRaster.f k a.f0 a.f1 a.f2 a.f3 a.f4 b.f0 b.f1 b.f2 b.f3 b.f4 = some (rastEq a b) := by
  unfold impl_sameRaster.f rastEq
  by_cases h0 : a.f0 = b.f0
  · by_cases h1 : a.f1 = b.f1
    · by_cases h2 : a.f2 = b.f2
      · by_cases h3 : a.f3 = b.f3
        · rw [if_pos h0, if_pos h1, if_pos h2, if_pos h3, slices_Equal_eq _ _ hx k hk]; simp [h0, h1, h2, h3]
        · rw [if_pos h0, if_pos h1, if_pos h2, if_neg h3]; simp [h3]
      · rw [if_pos h0, if_pos h1, if_neg h2]; simp [h2]
    · rw [if_pos h0, if_neg h1]; simp [h1]
  · rw [if_neg h0]; simp [h0]
def rastsEq : List S29 → List S29 → Bool
  | [], [] => true
  | a :: ls, b :: bs => rastEq a b && rastsEq ls bs
  | _, _ => false
theorem rastsEq_iff (ls : List S29) : ∀ bs, rastsEq ls bs = true ↔ ls = bs := by
  induction ls with
  | nil => intro bs; cases bs <;> simp [rastsEq]
  | cons a ls ih => intro bs; cases bs <;> simp [rastsEq, rastEq_iff, ih]
theorem impl_EqRasters_l0 (ls bs : List S29) (hl : ls.length = bs.length) (ha : ls.length ≤ 1000) (hx : ∀ a ∈ ls, a.f4.length ≤ 5000) (d : Nat) : ∀ (k i : Nat), i ≤ ls.length → ls.length - i = d → d + 6000 ≤ k → impl_Raster.l0 k bs ls ls.length i = some (rastsEq (ls.drop i) (bs.drop i)) := by
  induction d with
  | zero =>
    intro k i hi hd hk
    obtain ⟨k, rfl⟩ : ∃ m, k = m + 1 := ⟨k - 1, by omega⟩
    rw [impl_Raster.l0, if_neg (by omega), List.drop_eq_nil_of_le (by omega), List.drop_eq_nil_of_le (by omega)]
    rfl
  | succ d ih =>
    intro k i hi hd hk
    obtain ⟨k, rfl⟩ : ∃ m, k = m + 1 := ⟨k - 1, by omega⟩
    have lx : i < ls.length := by omega
    have ly : i < bs.length := by omega
    have z := hx _ (List.getElem_mem lx)
    have st := ih k (i + 1) (by omega) (by omega) (by omega)
    push_cast at st
    rw [impl_Raster.l0, if_pos (by omega), if_pos (by omega), if_pos (by omega), if_pos (by omega), rd_Rast ls i lx, rd_Rast bs i ly, impl_sameRaster_eq _ _ (by omega) k (by omega), Option.bind_some, w64 (by omega) (by omega), List.drop_eq_getElem_cons lx, List.drop_eq_getElem_cons ly, rastsEq]
    by_cases h : rastEq ls[i] bs[i] = true
    · rw [if_pos h, st, h, Bool.true_and]
    · rw [if_neg h, Bool.eq_false_iff.mpr h, Bool.false_and]
theorem impl_EqRasters_eq (ls bs : List S29) (ha : ls.length ≤ 1000) (hx : ∀ a ∈ ls, a.f4.length ≤ 5000) (k : Nat) (hk : 8000 ≤ k) : impl_Raster.f k ls bs () = some (rastsEq ls bs) := by
  unfold impl_Raster.f
  by_cases h : ls.length = bs.length
  · rw [if_pos (by omega)]
    have := impl_EqRasters_l0 ls bs h ha hx ls.length k 0 (by omega) (by omega) (by omega)
    rw [show ((0 : Nat) : Int) = 0 from rfl] at this
    simpa using this
  · rw [if_neg (by omega)]
    congr 1
    have : rastsEq ls bs ≠ true := fun q => h (by rw [(rastsEq_iff ls bs).1 q])
    exact (Bool.eq_false_iff.mpr this).symm

/-- All the passes' lengths from p on, r of them, are right. -/
def lensB (w h : Int) (n : Nat) (ps : List S29) (p r : Nat) : Bool := (List.range' p r).all fun q => decide ((rd_T29 ps ((q : Nat) : Int)).f4.length = (placesL w h q).length * n)
theorem lensB_succ (w h : Int) (n : Nat) (ps : List S29) (p r : Nat) : lensB w h n ps p (r + 1) = (decide ((rd_T29 ps ((p : Nat) : Int)).f4.length = (placesL w h p).length * n) && lensB w h n ps (p + 1) r) := by
  simp [lensB, List.range'_succ]
def fromZ : Int × Int × Int × Int × List Int × Bool := (0, 0, 0, 0, [], false)
def fromOut (w h : Int) (ps : List S29) : List Int := scatAll w h (chan (rd_T29 ps 0).f2).toNat ps 7 0 (List.replicate ((w * h).toNat * (chan (rd_T29 ps 0).f2).toNat) 0)
def fromOk (w h : Int) (ps : List S29) : Bool := sideB w && sideB h && decide (ps.length = 7) && lensB w h (chan (rd_T29 ps 0).f2).toNat ps 0 7 && rasterOk w h (rd_T29 ps 0).f2 (rd_T29 ps 0).f3 (fromOut w h ps) && rastsEq (passesL w h (rd_T29 ps 0).f2 (rd_T29 ps 0).f3 (fromOut w h ps)) ps
/-- What FromPasses answers. -/
def fromV (w h : Int) (ps : List S29) : Int × Int × Int × Int × List Int × Bool :=
  if fromOk w h ps = true then (w, h, (rd_T29 ps 0).f2, (rd_T29 ps 0).f3, fromOut w h ps, true) else fromZ
theorem rowPl_at (dx : Int) (n : Nat) : ∀ (i : Nat) (b : Int), i < n → (rowPl b dx n)[i]? = some (b + i * dx) := by
  induction n with
  | zero => intro i b hi; omega
  | succ n ih =>
    intro i b hi
    rcases i with _ | i
    · simp [rowPl]
    · rw [rowPl, List.getElem?_cons_succ, ih i (b + dx) (by omega)]
      congr 1
      push_cast; rw [Int.add_mul]; omega
theorem gridPl_at (W dx dy x : Int) (w : Nat) (n : Nat) : ∀ (j i : Nat) (r : Int), j < n → i < w → (gridPl W dx dy x w n r)[j * w + i]? = some ((r + j * dy) * W + x + i * dx) := by
  induction n with
  | zero => intro j i r hj; omega
  | succ n ih =>
    intro j i r hj hi
    rw [gridPl]
    rcases j with _ | j
    · rw [Nat.zero_mul, Nat.zero_add, List.getElem?_append_left (by rw [rowPl_len]; exact hi), rowPl_at dx w i _ hi]
      simp
    · rw [List.getElem?_append_right (by rw [rowPl_len, Nat.succ_mul]; omega), rowPl_len, show (j + 1) * w + i - w = j * w + i from by rw [Nat.succ_mul]; omega, ih j i (r + dy) (by omega) hi]
      congr 1
      rw [show r + dy + (j : Int) * dy = r + ((j + 1 : Nat) : Int) * dy from by push_cast; rw [Int.add_mul]; omega]
/-- A cut that is copied in, one more. -/
theorem cpy_zero (xs : List Int) (l : Nat) (ys : List Int) (hl : l ≤ xs.length) : cpy xs l 0 ys = xs := by
  apply List.ext_getElem?
  intro t
  rw [cpy_at xs l 0 ys (by omega) (by omega) t, if_neg (by omega)]
theorem cpy_succ (xs : List Int) (l s : Nat) (ys : List Int) (h : l + s < xs.length) (hy : s < ys.length) : cpy xs l (s + 1) ys = (cpy xs l s ys).set (l + s) ys[s] := by
  apply List.ext_getElem?
  intro t
  have e := cpy_len xs l s ys (by omega)
  rw [cpy_at xs l (s + 1) ys (by omega) (by omega) t]
  by_cases c : t = l + s
  · subst c
    rw [if_pos (by omega), List.getElem?_set_self (by omega), show l + s - l = s from by omega, List.getElem?_eq_getElem hy]
  · rw [List.getElem?_set_ne (by omega), cpy_at xs l s ys (by omega) (by omega) t]
    by_cases c2 : l ≤ t ∧ t < l + s
    · rw [if_pos (by omega), if_pos c2]
    · rw [if_neg (by omega), if_neg c2]

theorem impl_within_eq (a b c : Int) : impl_within.f a b c = some (decide (b ≤ a) && decide (a ≤ c)) := by
  unfold impl_within.f
  by_cases h : b ≤ a <;> simp [h]

theorem impl_isSide_eq (n : Int) : impl_isSide.f n = some (sideB n) := by simp [impl_isSide.f, impl_within_eq, sideB]

theorem impl_PassStep_eq (p : Int) : impl_PassStep.f p = some (pstep p) := by unfold impl_PassStep.f pstep; repeat (first | rfl | split)
theorem cnt_quot {n x d : Int} (hd : power2 d) (h0 : 0 ≤ x) (h1 : x ≤ 4) (h2 : x ≤ d) (hn : 1 ≤ n) (hn' : n ≤ 24) : wrap64 (Int.tdiv (wrap64 (wrap64 (wrap64 (n - x) + d) - 1)) d) = (n - x + d - 1) / d ∧ (cnt n x d = 0 ↔ (n - x + d - 1) / d < 1) ∧ (cnt n x d ≠ 0 → cnt n x d = (n - x + d - 1) / d) := by
  have hd2 : 1 ≤ d ∧ d ≤ 8 := by unfold power2 at hd; omega
  rw [w64 (x := n - x) (by omega) (by omega), w64 (x := n - x + d) (by omega) (by omega), w64 (x := n - x + d - 1) (by omega) (by omega), Int.tdiv_eq_ediv_of_nonneg (by omega)]
  have q : 0 ≤ (n - x + d - 1) / d ∧ (n - x + d - 1) / d ≤ 40 := by rcases hd with rfl | rfl | rfl | rfl <;> omega
  refine ⟨w64 (by omega) (by omega), ?_, ?_⟩
  · unfold cnt
    rcases hd with rfl | rfl | rfl | rfl <;> split <;> omega
  · unfold cnt
    split
    · intro _; rfl
    · intro h; exact absurd rfl h
theorem impl_PassSize_eq (k : Nat) (hk : 1 ≤ k) (w h p : Int) : impl_PassSize.f k w h p = some (psize w h p) := by
  obtain ⟨k, rfl⟩ : ∃ m, k = m + 1 := ⟨k - 1, by omega⟩
  unfold impl_PassSize.f psize
  simp only [impl_isSide_eq, impl_within_eq, Option.bind_some]
  change (if sideB w = true then (if sideB h = true then impl_PassSize.j0 (k + 1) w h p (!(passB p)) else impl_PassSize.j0 (k + 1) w h p true) else impl_PassSize.j0 (k + 1) w h p true) = _
  have yes : impl_PassSize.j0 (k + 1) w h p true = some (0, 0) := by simp [impl_PassSize.j0]
  rw [yes]
  by_cases hw : sideB w = true
  · by_cases hh : sideB h = true
    · by_cases hp : passB p = true
      · have b := pstep_bd hp
        have bw := (sideB_iff w).1 hw
        have bh := (sideB_iff h).1 hh
        have q1 := cnt_quot (n := w) b.2.2.2.2.1 b.1 b.2.1 b.2.2.2.2.2.2.1 bw.1 bw.2
        have q2 := cnt_quot (n := h) b.2.2.2.2.2.1 b.2.2.1 b.2.2.2.1 b.2.2.2.2.2.2.2 bh.1 bh.2
        have n1 : (pstep p).2.2.1 ≠ 0 := by have := b.2.2.2.2.1; unfold power2 at this; omega
        have n2 : (pstep p).2.2.2 ≠ 0 := by have := b.2.2.2.2.2.1; unfold power2 at this; omega
        simp only [hw, hh, hp, if_true, Bool.not_true, Bool.and_self, impl_PassSize.j0, impl_PassStep_eq, Option.bind_some]
        rw [if_neg (by decide), if_neg n1, if_neg n2, q1.1, q2.1]
        by_cases h1 : cnt w (pstep p).1 (pstep p).2.2.1 = 0
        · rw [if_pos (q1.2.1.1 h1), if_pos (.inl h1)]
        · rw [if_neg (fun c => h1 (q1.2.1.2 c))]
          by_cases h2 : cnt h (pstep p).2.1 (pstep p).2.2.2 = 0
          · rw [if_pos (q2.2.1.1 h2), if_pos (.inr h2)]
          · rw [if_neg (fun c => h2 (q2.2.1.2 c)), if_neg (by omega), q1.2.2 h1, q2.2.2 h2]
      · simp [hw, hh, hp, yes]
    · simp [hw, hh]
  · simp [hw]

theorem impl_ChannelsOf_eq (k : Nat) (hk : 1 ≤ k) (c : Int) : impl_ChannelsOf.f k c = some (chan c) := by
  obtain ⟨k, rfl⟩ : ∃ m, k = m + 1 := ⟨k - 1, by omega⟩
  simp only [impl_ChannelsOf.f, impl_ChannelsOf.j0, chan]
  by_cases h0 : c = 0
  · simp [h0]
  · by_cases h3 : c = 3
    · simp [h3]
    · by_cases h2 : c = 2
      · simp [h2]
      · by_cases h4 : c = 4
        · simp [h4]
        · simp [h0, h3, h2, h4]; repeat (first | split | rfl)

theorem impl_isDepth_eq (d : Int) : impl_isDepth.f d = some (smallD d || bigD d) := by
  simp only [impl_isDepth.f, smallD, bigD]
  by_cases h1 : d = 1
  · simp [h1]
  by_cases h2 : d = 2
  · simp [h2]
  by_cases h4 : d = 4
  · simp [h4]
  by_cases h8 : d = 8
  · simp [h8]
  · have e1 : (d == 1) = false := by simpa using h1
    have e2 : (d == 2) = false := by simpa using h2
    have e4 : (d == 4) = false := by simpa using h4
    have e8 : (d == 8) = false := by simpa using h8
    simp only [h1, h2, h4, h8, e1, e2, e4, e8, if_false, Bool.false_or]

theorem impl_DepthOk_eq (k : Nat) (hk : 1 ≤ k) (c d : Int) : impl_DepthOk.f k c d = some (dok c d) := by
  have h8 : (if d = 8 then some true else some (d == 16)) = some (bigD d) := by unfold bigD; by_cases h : d = 8 <;> simp [h]
  simp only [impl_DepthOk.f, impl_isDepth_eq, impl_ChannelsOf_eq k hk, Option.bind_some, dok, h8]
  by_cases h0 : c = 0
  · simp [h0]
  by_cases h3 : c = 3
  · subst h3
    simp only [show ¬ ((3 : Int) = 0) by decide, if_true, if_false]
    unfold smallD bigD
    by_cases h1 : d = 1
    · simp [h1]
    by_cases h2 : d = 2
    · simp [h2]
    by_cases h4 : d = 4
    · simp [h4]
    by_cases h8 : d = 8
    · simp [h8]
    by_cases h16 : d = 16
    · simp [h16]
    · simp [h1, h2, h4, h8, h16]
  · simp only [h0, h3, chan, if_false]
    by_cases h2 : c = 2
    · simp [h2]
    by_cases h4 : c = 4
    · simp [h4]
    by_cases h6 : c = 6
    · simp [h6]
    · simp [h2, h4, h6]

theorem shl_one (n : Int) (h0 : 0 ≤ n) (h62 : n ≤ 62) : shl .i64 1 n = p2 n := by
  have b1 := p2_pos n
  have b2 := p2_62 h62
  unfold shl
  rw [show min n.toNat IntKind.i64.bits = n.toNat by simp [IntKind.bits]; omega, Int.one_mul, IntKind.wrap_i64]
  show (p2 n + 9223372036854775808) % 18446744073709551616 - 9223372036854775808 = p2 n
  omega
theorem impl_powerOf_eq (n : Int) : impl_powerOf.f n = some (if 0 ≤ n ∧ n ≤ 62 then p2 n else 0) := by
  unfold impl_powerOf.f
  rw [impl_within_eq]
  simp only [Option.bind_some]
  by_cases h0 : 0 ≤ n
  · by_cases h1 : n ≤ 62
    · simp [h0, h1, shl_one n h0 h1]
    · simp [h0, h1]
  · simp [h0]

theorem impl_samplesOk_l0 (n : Int) (h0 : 0 ≤ n) (h1 : n ≤ 62) (xs : List Int) (hx : xs.length ≤ 9223372036854775807) (d : Nat) : ∀ (k i : Nat), i ≤ xs.length → xs.length - i = d → d < k → impl_samplesOk.l0 k n xs xs.length i = some ((xs.drop i).all (inB (p2 n - 1))) := by
  induction d with
  | zero =>
    intro k i hi hd hk
    obtain ⟨k, rfl⟩ : ∃ m, k = m + 1 := ⟨k - 1, by omega⟩
    simp only [impl_samplesOk.l0]
    rw [if_neg (by omega), drop_all_end _ _ _ (by omega)]
  | succ d ih =>
    intro k i hi hd hk
    obtain ⟨k, rfl⟩ : ∃ m, k = m + 1 := ⟨k - 1, by omega⟩
    have lt : i < xs.length := by omega
    have b1 := p2_pos n
    have b2 := p2_62 h1
    simp only [impl_samplesOk.l0, impl_powerOf_eq, Option.bind_some]
    rw [if_pos (by omega), if_pos (by omega), if_pos (by omega), if_pos ⟨h0, h1⟩, w64 (x := p2 n - 1) (by omega) (by omega), impl_within_eq, rd_at xs i lt, w64 (by omega) (by omega), drop_all _ _ _ lt]
    simp only [Option.bind_some]
    have step := ih k (i + 1) (by omega) (by omega) (by omega)
    push_cast at step
    rw [step]
    unfold inB
    cases (decide (0 ≤ xs[i]) && decide (xs[i] ≤ p2 n - 1)) <;> simp
theorem impl_samplesOk_eq (n : Int) (h0 : 0 ≤ n) (h1 : n ≤ 62) (xs : List Int) (hx : xs.length ≤ 9223372036854775807) (k : Nat) (hk : xs.length < k) : impl_samplesOk.f k xs n = some (xs.all (inB (p2 n - 1))) := by
  unfold impl_samplesOk.f
  have := impl_samplesOk_l0 n h0 h1 xs hx xs.length k 0 (by omega) (by omega) hk
  simpa using this

theorem impl_RasterOk_eq (w h c d : Int) (xs : List Int) (hx : xs.length ≤ 9223372036854775807) (k : Nat) (hk : xs.length + 3 ≤ k) : impl_RasterOk.f k w h c d xs = some (rasterOk w h c d xs) := by
  obtain ⟨k, rfl⟩ : ∃ m, k = m + 1 := ⟨k - 1, by omega⟩
  have no : impl_RasterOk.j0 (k + 1) true w h c d xs = some false := by simp [impl_RasterOk.j0]
  unfold impl_RasterOk.f rasterOk
  simp only [impl_isSide_eq, impl_DepthOk_eq (k + 1) (by omega), Option.bind_some, no]
  by_cases hw : sideB w = true
  · by_cases hh : sideB h = true
    · by_cases hd : dok c d = true
      · have b := wh_bd (c := c) hw hh
        have bd := dok_bd hd
        simp only [hw, hh, hd, if_true, Bool.true_and, Bool.not_true, impl_RasterOk.j0]
        rw [if_neg (by decide), impl_ChannelsOf_eq k (by omega)]
        simp only [Option.bind_some]
        rw [w64 (x := w * h) (by omega) (by omega), w64 (x := w * h * chan c) (by omega) (by omega), impl_samplesOk_eq d (by omega) (by omega) xs hx k (by omega)]
        by_cases hl : (xs.length : Int) = w * h * chan c
        · simp [hl]
        · simp [hl]
      · simp [hw, hh, hd, no]
    · simp [hw, hh]
  · simp [hw]

theorem impl_pixels_l1 {dx : Int} (hd : power2 dx) (w h x dy r : Int) (hw : 1 ≤ w ∧ w ≤ 24) (hr : 0 ≤ r ∧ r ≤ 24) (m : Nat) : ∀ (k : Nat) (acc : List Int) (c : Int), 0 ≤ c → (m : Int) = cnt w c dx → acc.length + m ≤ 1000000 → (hdy : 0 ≤ dy ∧ dy ≤ 8) →
    impl_pixelsOf.l1 (k + m + 1) w h x dx dy acc r c = impl_pixelsOf.l0 k w h x dx dy (acc ++ rowPl (r * w + c) dx m) (r + dy) := by
  induction m with
  | zero =>
    intro k acc c hc hm ha hdy
    have ge : ¬ c < w := by
      intro lt
      have := cnt_step hd lt
      have : 0 ≤ cnt w (c + dx) dx := by
        have h0 : 0 ≤ c + dx := by rcases hd with rfl | rfl | rfl | rfl <;> omega
        exact (cnt_bd hd h0 hw.2).1
      omega
    simp only [Nat.add_zero, impl_pixelsOf.l1]
    rw [if_neg ge, w64 (x := r + dy) (by omega) (by omega)]
    simp [rowPl]
  | succ m ih =>
    intro k acc c hc hm ha hdy
    have lt : c < w := by
      by_cases h : c < w
      · exact h
      · rw [cnt_done h] at hm; omega
    have st := cnt_step hd lt
    have hdx : 0 ≤ dx ∧ dx ≤ 8 := by rcases hd with rfl | rfl | rfl | rfl <;> omega
    have b := mul_bd hr.1 hr.2 (show 0 ≤ w by omega) hw.2
    obtain ⟨K, hK⟩ : ∃ K, K = k + m + 1 := ⟨_, rfl⟩
    rw [show k + (m + 1) + 1 = K + 1 from by omega]
    simp only [impl_pixelsOf.l1]
    rw [if_pos lt, if_pos (by omega), w64 (x := r * w) (by omega) (by omega), w64 (x := r * w + c) (by omega) (by omega), w64 (x := c + dx) (by omega) (by omega),
      hK, ih k _ (c + dx) (by omega) (by push_cast at hm; omega) (by simp; omega) hdy]
    simp [rowPl, Int.add_assoc]
theorem impl_pixels_l0 {dx dy : Int} (hd : power2 dx) (he : power2 dy) (w h x : Int) (hw : 1 ≤ w ∧ w ≤ 24) (hh : h ≤ 24) (hx : 0 ≤ x) (n : Nat) : ∀ (k : Nat) (acc : List Int) (r : Int), 0 ≤ r → (n : Int) = cnt h r dy → acc.length + 24 * n ≤ 1000000 → n * 26 + 1 ≤ k →
    impl_pixelsOf.l0 k w h x dx dy acc r = some (acc ++ gridPl w dx dy x (cnt w x dx).toNat n r) := by
  have hdy : 0 ≤ dy ∧ dy ≤ 8 := by rcases he with rfl | rfl | rfl | rfl <;> omega
  have cb := cnt_bd (n := w) hd hx hw.2
  induction n with
  | zero =>
    intro k acc r hr hn ha hk
    obtain ⟨k, rfl⟩ : ∃ m, k = m + 1 := ⟨k - 1, by omega⟩
    have ge : ¬ r < h := by
      intro lt
      have := cnt_step he lt
      have : 0 ≤ cnt h (r + dy) dy := (cnt_bd he (by omega) hh).1
      omega
    simp only [impl_pixelsOf.l0]
    rw [if_neg ge]; simp [gridPl]
  | succ n ih =>
    intro k acc r hr hn ha hk
    obtain ⟨k, rfl⟩ : ∃ m, k = m + (cnt w x dx).toNat + 1 + 1 := ⟨k - (cnt w x dx).toNat - 2, by omega⟩
    have lt : r < h := by
      by_cases h2 : r < h
      · exact h2
      · rw [cnt_done h2] at hn; omega
    have st := cnt_step he lt
    simp only [impl_pixelsOf.l0]
    rw [if_pos lt, impl_pixels_l1 hd w h x dy r hw (by omega) _ k acc x hx (by omega) (by omega) hdy,
      ih k _ (r + dy) (by omega) (by push_cast at hn; omega) (by rw [List.length_append, rowPl_len]; omega) (by omega)]
    simp [gridPl]
theorem impl_pixelsOf_eq {w h p : Int} (hw : sideB w = true) (hh : sideB h = true) (hp : passB p = true) (k : Nat) (hk : 700 ≤ k) :
    impl_pixelsOf.f k w h p = some (gridPl w (pstep p).2.2.1 (pstep p).2.2.2 (pstep p).1 (psize w h p).1.toNat (psize w h p).2.toNat (pstep p).2.1) := by
  unfold impl_pixelsOf.f
  rw [impl_PassStep_eq]
  simp only [Option.bind_some]
  have b := pstep_bd hp
  have hw' := (sideB_iff w).mp hw
  have hh' := (sideB_iff h).mp hh
  have b2 := cnt_bd (n := h) b.2.2.2.2.2.1 b.2.2.1 hh'.2
  rw [impl_pixels_l0 b.2.2.2.2.1 b.2.2.2.2.2.1 w h _ hw' hh'.2 b.1 (cnt h (pstep p).2.1 (pstep p).2.2.2).toNat k [] _ b.2.2.1 (by omega) (by simp; omega) (by omega), grid_eq hw hh hp]
  rfl
theorem impl_passes_l1 (x4 : List S29) (n p : Int) (P : List Int) (w h c d : Int) (xs : List Int) (z0 z1 z2 z3 : Int) (hx4 : x4.length ≤ 7) (hp : 0 ≤ p ∧ p ≤ 7) (hn : 0 ≤ n ∧ n ≤ 4) (hxs : xs.length ≤ 2304) (hP : P.length ≤ 576) (hb : ∀ a ∈ P, 0 ≤ a ∧ 0 ≤ a * n ∧ a * n + n ≤ xs.length) (m : Nat) : ∀ (k i : Nat) (acc : List Int), i ≤ P.length → P.length - i = m → acc.length + 4 * m ≤ 1000000 →
    impl_PassesOf.l1 (k + m + 1) x4 n p P P.length i w h c d xs z0 z1 z2 z3 acc = impl_PassesOf.l0 k (x4 ++ [⟨z0, z1, z2, z3, acc ++ (P.drop i).flatMap (smp xs n)⟩]) n (p + 1) w h c d xs := by
  induction m with
  | zero =>
    intro k i acc hi hm ha
    simp only [Nat.add_zero, impl_PassesOf.l1]
    rw [if_neg (by omega), if_pos (by omega), w64 (x := p + 1) (by omega) (by omega), List.drop_eq_nil_of_le (by omega)]
    simp
  | succ m ih =>
    intro k i acc hi hm ha
    have hi' : i < P.length := by omega
    have e : rd P i = P[i] := rd_at P i hi'
    obtain ⟨b1, b2, b3⟩ := hb P[i] (List.getElem_mem hi')
    have b4 : P[i] ≤ 1000000 ∨ n = 0 := by
      by_cases z : n = 0
      · exact Or.inr z
      · left
        have := Int.mul_le_mul_of_nonneg_left (show 1 ≤ n by omega) b1
        omega
    have b5 : P[i] * n + n = (P[i] + 1) * n := by rw [Int.add_mul, Int.one_mul]
    have wq : wrap64 (wrap64 (P[i] + 1) * n) = P[i] * n + n := by
      rcases b4 with b4 | z
      · rw [w64 (x := P[i] + 1) (by omega) (by omega), b5, w64 (by omega) (by omega)]
      · rw [z]; simp [wrap64]
    obtain ⟨K, hK⟩ : ∃ K, K = k + m + 1 := ⟨_, rfl⟩
    rw [show k + (m + 1) + 1 = K + 1 from by omega]
    simp only [impl_PassesOf.l1]
    have ll : acc.length + ((xs.take (P[i] * n + n).toNat).drop (P[i] * n).toNat).length < 17592186044416 := by
      simp only [List.length_drop, List.length_take]; omega
    have sl : (smp xs n P[i]).length = n.toNat := smp_len xs n _ hn.1 b1 b3
    rw [if_pos (by omega), if_pos (by omega), if_pos (by omega), e, w64 (x := P[i] * n) (by omega) (by omega), wq, if_pos b2, if_pos (by omega), if_pos b3, if_pos ll,
      w64 (x := (i : Int) + 1) (by omega) (by omega)]
    have q := ih k (i + 1) (acc ++ smp xs n P[i]) (by omega) (by omega) (by rw [List.length_append, sl]; omega)
    push_cast at q
    rw [show ((xs.take (P[i] * n + n).toNat).drop (P[i] * n).toNat) = smp xs n P[i] from rfl, hK, q, List.drop_eq_getElem_cons hi', List.flatMap_cons, List.append_assoc]
theorem passes_ar {q k P : Nat} (h : (q + 1) * 600 + 800 ≤ k + P + 1 + 1) (hP : P ≤ 576) : q * 600 + 800 ≤ k := by
  rw [Nat.succ_mul] at h
  generalize q * 600 = z at h ⊢
  omega
theorem impl_passes_l0 (w h c d : Int) (xs : List Int) (ok : rasterOk w h c d xs = true) (q : Nat) : ∀ (k p : Nat) (x4 : List S29), p + q = 7 → x4.length ≤ p → q * 600 + 800 ≤ k →
    impl_PassesOf.l0 k x4 (chan c) p w h c d xs = some (x4 ++ (List.range' p q).map (fun p : Nat => passL w h c d xs p), true) := by
  have ok2 := ok
  simp only [rasterOk, Bool.and_eq_true, decide_eq_true_eq] at ok2
  obtain ⟨⟨⟨⟨hw, hh⟩, hdk⟩, hl⟩, hall⟩ := ok2
  have bd := wh_bd (c := c) hw hh
  have cb := chan_bd c
  induction q with
  | zero =>
    intro k p x4 hp hx hk
    obtain ⟨k, rfl⟩ : ∃ m, k = m + 1 := ⟨k - 1, by omega⟩
    simp only [impl_PassesOf.l0]
    rw [if_neg (by omega)]; simp
  | succ q ih =>
    intro k p x4 hp hx hk
    have hp7 : p < 7 := by omega
    have pb := passB_nat hp7
    have sb := psize_bd hw hh pb
    have gb := grid_bd hw hh pb
    have gl := gridPl_len w (pstep p).2.2.1 (pstep p).2.2.2 (pstep p).1 (psize w h p).1.toNat (psize w h p).2.toNat (pstep p).2.1
    obtain ⟨k, rfl⟩ : ∃ m, k = m + 1 := ⟨k - 1, by omega⟩
    simp only [impl_PassesOf.l0]
    rw [if_pos (by omega), impl_PassSize_eq k (by omega), impl_pixelsOf_eq hw hh pb k (by omega)]
    simp only [Option.bind_some]
    have pl : passL w h c d xs p = ⟨(psize w h p).1, (psize w h p).2, c, d, [] ++ ((gridPl w (pstep p).2.2.1 (pstep p).2.2.2 (pstep p).1 (psize w h p).1.toNat (psize w h p).2.toNat (pstep p).2.1).drop 0).flatMap (smp xs (chan c))⟩ := rfl
    generalize hP : gridPl w (pstep p).2.2.1 (pstep p).2.2.2 (pstep p).1 (psize w h p).1.toNat (psize w h p).2.toNat (pstep p).2.1 = P at gb gl pl ⊢
    have hPl : P.length ≤ 576 := by
      rw [gl]
      exact Nat.mul_le_mul (show (psize w h p).1.toNat ≤ 24 by omega) (show (psize w h p).2.toNat ≤ 24 by omega)
    obtain ⟨k, rfl⟩ : ∃ m, k = m + P.length + 1 := ⟨k - P.length - 1, by omega⟩
    have s1 := impl_passes_l1 x4 (chan c) p P w h c d xs (psize w h p).1 (psize w h p).2 c d (by omega) (by omega) (by omega) (by omega) hPl (fun a ha => ⟨(gb a ha).1, plc_bd (gb a ha) (by omega) hl⟩) P.length k 0 [] (by omega) (by omega) (by simp; omega)
    rw [show ((0 : Nat) : Int) = 0 from rfl] at s1
    rw [s1, ← pl]
    have s2 := ih k (p + 1) (x4 ++ [passL w h c d xs p]) (by omega) (by rw [List.length_append]; exact Nat.add_le_add_right hx 1) (passes_ar hk hPl)
    push_cast at s2
    rw [s2, List.range'_succ]
    simp
theorem impl_PassesOf_eq (w h c d : Int) (xs : List Int) (hx : xs.length ≤ 9223372036854775807) (k : Nat) (hk : 6000 ≤ k) (hk2 : xs.length + 3 ≤ k) :
    impl_PassesOf.f k w h c d xs = some (if rasterOk w h c d xs then (passesL w h c d xs, true) else ([], false)) := by
  unfold impl_PassesOf.f
  rw [impl_RasterOk_eq w h c d xs hx k hk2]
  simp only [Option.bind_some]
  by_cases ok : rasterOk w h c d xs = true
  · rw [if_pos ok, if_pos ok, impl_ChannelsOf_eq k (by omega)]
    simp only [Option.bind_some]
    have := impl_passes_l0 w h c d xs ok 7 k 0 [] (by omega) (by simp) (by omega)
    rw [show ((0 : Nat) : Int) = 0 from rfl] at this
    rw [this]; rfl
  · rw [if_neg ok, if_neg ok]

def lensOk (w h : Int) (n : Nat) (ps : List S29) : Prop := ∀ p : Nat, p < 7 → (rd_T29 ps (p : Int)).f4.length = (placesL w h p).length * n
theorem places_len {w h : Int} (hw : sideB w = true) (hh : sideB h = true) (p : Nat) (hp : p < 7) : (placesL w h p).length ≤ 576 := by
  have sb := psize_bd hw hh (passB_nat hp)
  unfold placesL
  rw [gridPl_len]
  exact Nat.mul_le_mul (show (psize w h p).1.toNat ≤ 24 by omega) (show (psize w h p).2.toNat ≤ 24 by omega)
theorem passes_lens {w h c d : Int} {xs : List Int} (ok : rasterOk w h c d xs = true) : lensOk w h (chan c).toNat (passesL w h c d xs) := by
  intro p hp
  simp only [rasterOk, Bool.and_eq_true, decide_eq_true_eq] at ok
  obtain ⟨⟨⟨⟨hw, hh⟩, hdk⟩, hl⟩, hall⟩ := ok
  have cb := chan_bd c
  have gb := grid_bd hw hh (passB_nat hp)
  rw [passesL_at w h c d xs p hp]
  show ((placesL w h p).flatMap (smp xs (chan c))).length = _
  have fl : ∀ P : List Int, (∀ a ∈ P, 0 ≤ a ∧ a * chan c + chan c ≤ xs.length) → (P.flatMap (smp xs (chan c))).length = P.length * (chan c).toNat := by
    intro P
    induction P with
    | nil => intro _; simp
    | cons a P ih =>
      intro hb
      have q := hb a (List.mem_cons_self ..)
      rw [List.flatMap_cons, List.length_append, ih fun b hb' => hb b (List.mem_cons_of_mem _ hb'), smp_len xs (chan c) a cb.1 q.1 q.2, List.length_cons, Nat.succ_mul]
      omega
  exact fl _ fun a ha => ⟨(gb a ha).1, (plc_bd (gb a ha) cb.1 hl).2⟩
theorem passesL_lens {w h c d : Int} {xs : List Int} (ok : rasterOk w h c d xs = true) : ∀ a ∈ passesL w h c d xs, a.f4.length ≤ 5000 := by
  intro a ha
  have ok2 := ok
  simp only [rasterOk, Bool.and_eq_true, decide_eq_true_eq] at ok2
  obtain ⟨⟨⟨⟨hw, hh⟩, hdk⟩, hl⟩, hall⟩ := ok2
  have cb := chan_bd c
  simp only [passesL, List.mem_map, List.mem_range'_1] at ha
  obtain ⟨p, hp, rfl⟩ := ha
  have l := passes_lens ok p (by omega)
  rw [passesL_at w h c d xs p (by omega)] at l
  have pl := places_len hw hh p (by omega)
  have nb : (placesL w h p).length * (chan c).toNat ≤ 576 * 4 := Nat.mul_le_mul pl (by omega)
  omega

theorem impl_From_l1 (w h : Int) (n : Nat) (hn4 : n ≤ 4) (ps : List S29) (p : Nat) (hp : p < 7) (P : List Int) (hP : P.length ≤ 576) (L : Nat) (hL : L ≤ 2304) (hb : ∀ a ∈ P, 0 ≤ a ∧ a ≤ 1000 ∧ a.toNat * n + n ≤ L) (src : List Int) (hs : src.length = P.length * n) (z0 z1 z2 z3 y0 y1 y2 y3 : Int) (m : Nat) : ∀ (k i : Nat) (out : List Int), i + m = P.length → out.length = L →
    impl_FromPasses.l1 (k + m + 1) w h ps n ps 7 p P P.length i z0 z1 z2 z3 out y0 y1 y2 y3 src = impl_FromPasses.l0 k w h ps n ps 7 (p + 1 : Nat) z0 z1 z2 z3 (scatF n src (P.drop i) i out) := by
  induction m with
  | zero =>
    intro k i out hi ho
    rw [Nat.add_zero, impl_FromPasses.l1, if_neg (by omega), w64 (x := (p : Int) + 1) (by omega) (by omega), List.drop_eq_nil_of_le (by omega)]
    rfl
  | succ m ih =>
    intro k i out hi ho
    have lt : i < P.length := by omega
    have q := hb _ (List.getElem_mem lt)
    have e0 : P[i] * (n : Int) = ((P[i].toNat * n : Nat) : Int) := by push_cast; rw [Int.toNat_of_nonneg q.1]
    have e1 : (P[i] + 1) * (n : Int) = ((P[i].toNat * n + n : Nat) : Int) := by rw [Int.add_mul, Int.one_mul, e0]; push_cast; rfl
    have e2 : (i : Int) * (n : Int) = ((i * n : Nat) : Int) := by push_cast; rfl
    have b2 : i * n ≤ P.length * n := Nat.mul_le_mul_right _ (by omega)
    have b3 : P.length * n ≤ 576 * 4 := Nat.mul_le_mul hP hn4
    have cl := cpy_len out (P[i].toNat * n) n (src.drop (i * n)) (by rw [ho]; exact q.2.2)
    obtain ⟨K, hK⟩ : ∃ K, K = k + m + 1 := ⟨_, rfl⟩
    have cut : ((out.take (P[i].toNat * n + n)).drop (P[i].toNat * n)).length = n := by rw [List.length_drop, List.length_take]; omega
    have st := ih k (i + 1) (cpy out (P[i].toNat * n) n (src.drop (i * n))) (by omega) (by rw [cl]; exact ho)
    rw [show k + (m + 1) + 1 = K + 1 from by omega, impl_FromPasses.l1, if_pos (by omega), if_pos (by omega), if_pos (by omega), rd_at P i lt, w64 (x := P[i] + 1) (by omega) (by omega), e1, e0, e2,
      w64 (x := ((P[i].toNat * n : Nat) : Int)) (by omega) (by omega), w64 (x := ((P[i].toNat * n + n : Nat) : Int)) (by omega) (by omega), w64 (x := ((i * n : Nat) : Int)) (by omega) (by omega), w64 (x := (i : Int) + 1) (by omega) (by omega),
      Int.toNat_natCast, Int.toNat_natCast, Int.toNat_natCast, cut, if_pos (by omega), if_pos (by omega), if_pos (by omega), if_pos (by omega), if_pos (by omega), hK]
    push_cast at st
    rw [st, List.drop_eq_getElem_cons lt, scatF]
    push_cast
    rfl
/-- All the passes' lengths are right. -/
theorem impl_From_l0 {w h : Int} (hw : sideB w = true) (hh : sideB h = true) (n : Nat) (hn4 : n ≤ 4) (ps : List S29) (h7 : ps.length = 7) (lo : lensOk w h n ps) (c d : Int) (r : Nat) : ∀ (k p : Nat) (out : List Int), p + r = 7 → out.length = (w * h).toNat * n → r * 600 + 9000 ≤ k →
    ∃ q, 8000 ≤ q ∧ impl_FromPasses.l0 k w h ps n ps 7 p w h c d out = impl_FromPasses.l0 (q + 1) w h ps n ps 7 7 w h c d (scatAll w h n ps r p out) := by
  induction r with
  | zero =>
    intro k p out hp ho hk
    obtain ⟨k, rfl⟩ : ∃ m, k = m + 1 := ⟨k - 1, by omega⟩
    refine ⟨k, by omega, ?_⟩
    rw [show p = 7 from by omega]
    rfl
  | succ r ih =>
    intro k p out hp ho hk
    have hp7 : p < 7 := by omega
    have pl := places_len hw hh p hp7
    have pb := places_bd hw hh n p hp7
    have gb := fun a ha => grid_bd hw hh (passB_nat hp7) a ha
    have hw' := (sideB_iff w).mp hw
    have hh' := (sideB_iff h).mp hh
    have wb := mul_bd (a := w) (b := h) (m := 24) (n := 24) (by omega) (by omega) (by omega) (by omega)
    have lp := lo p hp7
    have nb : (placesL w h p).length * n ≤ 576 * 4 := Nat.mul_le_mul pl hn4
    have Lb : (w * h).toNat * n ≤ 576 * 4 := Nat.mul_le_mul (by omega) hn4
    have el : ((placesL w h p).length : Int) * (n : Int) = (((placesL w h p).length * n : Nat) : Int) := by push_cast; rfl
    have hk1 : (placesL w h p).length + 2 ≤ k ∧ r * 600 + 9000 ≤ k - (placesL w h p).length - 2 := by
      rw [Nat.succ_mul] at hk
      generalize r * 600 = z at hk ⊢
      omega
    obtain ⟨K, rfl⟩ : ∃ m, k = m + (placesL w h p).length + 1 + 1 := ⟨k - (placesL w h p).length - 2, by omega⟩
    have hK : r * 600 + 9000 ≤ K := by
      have := hk1.2
      generalize r * 600 = z at this ⊢
      omega
    have hK2 : 9000 ≤ K := Nat.le_trans (Nat.le_add_left _ _) hK
    have s1 := impl_From_l1 w h n hn4 ps p hp7 (placesL w h p) pl ((w * h).toNat * n) (by omega) (fun a ha => ⟨(pb a ha).1, by have := gb a ha; omega, (pb a ha).2⟩) (rd_T29 ps (p : Int)).f4 lp w h c d (rd_T29 ps (p : Int)).f0 (rd_T29 ps (p : Int)).f1 (rd_T29 ps (p : Int)).f2 (rd_T29 ps (p : Int)).f3 (placesL w h p).length K 0 out (by omega) ho
    rw [show ((0 : Nat) : Int) = 0 from rfl] at s1
    rw [impl_FromPasses.l0, if_pos (by omega), if_pos (by omega), if_pos (by rw [h7]; omega), impl_pixelsOf_eq hw hh (passB_nat hp7) _ (by omega), Option.bind_some]
    rw [show gridPl w (pstep (p : Int)).2.2.1 (pstep (p : Int)).2.2.2 (pstep (p : Int)).1 (psize w h (p : Int)).1.toNat (psize w h (p : Int)).2.toNat (pstep (p : Int)).2.1 = placesL w h p from rfl, el, w64 (by omega) (by omega), if_pos (by rw [lp]), s1]
    have e := scatF_len n (rd_T29 ps (p : Int)).f4 (placesL w h p) 0 out (fun a ha => by rw [ho]; exact (pb a ha).2)
    rw [List.drop_zero]
    obtain ⟨q, hq, eq⟩ := ih K (p + 1) (scatF n (rd_T29 ps (p : Int)).f4 (placesL w h p) 0 out) (by omega) (by rw [e]; exact ho) hK
    exact ⟨q, hq, eq⟩
/-- The passes of a raster, put together, are the raster. -/
theorem impl_From_passes {w h c d : Int} {xs : List Int} (ok : rasterOk w h c d xs = true) (k : Nat) (hk : 15000 ≤ k) : impl_FromPasses.f k w h (passesL w h c d xs) = some (w, h, c, d, xs, true) := by
  have ok2 := ok
  simp only [rasterOk, Bool.and_eq_true, decide_eq_true_eq] at ok2
  obtain ⟨⟨⟨⟨hw, hh⟩, hdk⟩, hl⟩, hall⟩ := ok2
  have bd := wh_bd (c := c) hw hh
  have cb := chan_bd c
  have h7 : (passesL w h c d xs).length = 7 := by simp [passesL]
  unfold impl_FromPasses.f
  rw [impl_isSide_eq, Option.bind_some, hw, if_pos rfl, impl_isSide_eq, Option.bind_some, hh, if_pos rfl, h7]
  obtain ⟨k, rfl⟩ : ∃ m, k = m + 1 := ⟨k - 1, by omega⟩
  have r0 : rd_T29 (passesL w h c d xs) 0 = passL w h c d xs 0 := passesL_at w h c d xs 0 (by omega)
  rw [impl_FromPasses.j0, if_neg (by decide), h7, if_pos (by omega), r0]
  show (impl_ChannelsOf.f k c).bind _ = _
  obtain ⟨n, hn⟩ := Int.eq_ofNat_of_zero_le cb.1
  rw [impl_ChannelsOf_eq k (by omega), Option.bind_some, w64 (x := w * h) (by omega) (by omega), w64 (x := w * h * chan c) (by omega) (by omega), if_pos (by omega), if_pos (by omega), ← hl, Int.toNat_natCast]
  have lo := passes_lens ok
  rw [hn, Int.toNat_natCast] at lo
  have hl2 : xs.length = (w * h).toNat * n := by
    have : (xs.length : Int) = (((w * h).toNat * n : Nat) : Int) := by rw [hl, hn]; push_cast; rw [Int.toNat_of_nonneg bd.1]
    omega
  obtain ⟨q, hq, e⟩ := impl_From_l0 hw hh n (by omega) (passesL w h c d xs) h7 lo c d 7 k 0 (List.replicate xs.length 0) (by omega) (by rw [List.length_replicate, hl2]) (by omega)
  rw [show ((0 : Nat) : Int) = 0 from rfl] at e
  rw [hn]
  show impl_FromPasses.l0 k w h (passesL w h c d xs) n (passesL w h c d xs) 7 0 w h c d (List.replicate xs.length 0) = _
  rw [e]
  have back := scatAll_back ok (List.replicate xs.length 0) (by rw [List.length_replicate])
  rw [hn, Int.toNat_natCast] at back
  rw [back, impl_FromPasses.l0, if_neg (by omega), impl_PassesOf_eq w h c d xs (by omega) q (by omega) (by omega), if_pos ok, Option.bind_some, if_pos rfl,
    impl_EqRasters_eq _ _ (by rw [h7]; omega) (fun a ha => by
      simp only [passesL, List.mem_map, List.mem_range'_1] at ha
      obtain ⟨p, hp, rfl⟩ := ha
      have l := passes_lens ok p (by omega)
      rw [passesL_at w h c d xs p (by omega)] at l
      have pl := places_len hw hh p (by omega)
      have nb : (placesL w h p).length * (chan c).toNat ≤ 576 * 4 := Nat.mul_le_mul pl (by omega)
      omega) q (by omega), Option.bind_some, (rastsEq_iff _ _).2 rfl, if_pos rfl]

theorem impl_From_l0g {w h : Int} (hw : sideB w = true) (hh : sideB h = true) (n : Nat) (hn4 : n ≤ 4) (ps : List S29) (h7 : ps.length = 7) (hsm : ∀ a ∈ ps, a.f4.length ≤ 9223372036854775807) (c d : Int) (r : Nat) : ∀ (k p : Nat) (out : List Int), p + r = 7 → out.length = (w * h).toNat * n → r * 600 + 9000 ≤ k →
    ∃ q, 8000 ≤ q ∧ impl_FromPasses.l0 k w h ps n ps 7 p w h c d out = if lensB w h n ps p r = true then impl_FromPasses.l0 (q + 1) w h ps n ps 7 7 w h c d (scatAll w h n ps r p out) else some fromZ := by
  induction r with
  | zero =>
    intro k p out hp ho hk
    obtain ⟨k, rfl⟩ : ∃ m, k = m + 1 := ⟨k - 1, by omega⟩
    refine ⟨k, by omega, ?_⟩
    rw [show p = 7 from by omega, show lensB w h n ps 7 0 = true from rfl, if_pos rfl]
    rfl
  | succ r ih =>
    intro k p out hp ho hk
    have hp7 : p < 7 := by omega
    have pl := places_len hw hh p hp7
    have pb := places_bd hw hh n p hp7
    have gb := fun a ha => grid_bd hw hh (passB_nat hp7) a ha
    have hw' := (sideB_iff w).mp hw
    have hh' := (sideB_iff h).mp hh
    have wb := mul_bd (a := w) (b := h) (m := 24) (n := 24) (by omega) (by omega) (by omega) (by omega)
    have nb : (placesL w h p).length * n ≤ 576 * 4 := Nat.mul_le_mul pl hn4
    have Lb : (w * h).toNat * n ≤ 576 * 4 := Nat.mul_le_mul (by omega) hn4
    have el : ((placesL w h p).length : Int) * (n : Int) = (((placesL w h p).length * n : Nat) : Int) := by push_cast; rfl
    have hk1 : (placesL w h p).length + 2 ≤ k ∧ r * 600 + 9000 ≤ k - (placesL w h p).length - 2 := by
      rw [Nat.succ_mul] at hk
      generalize r * 600 = z at hk ⊢
      omega
    obtain ⟨K, rfl⟩ : ∃ m, k = m + (placesL w h p).length + 1 + 1 := ⟨k - (placesL w h p).length - 2, by omega⟩
    have hK : r * 600 + 9000 ≤ K := by
      have := hk1.2
      generalize r * 600 = z at this ⊢
      omega
    have hK2 : 9000 ≤ K := Nat.le_trans (Nat.le_add_left _ _) hK
    rw [impl_FromPasses.l0, if_pos (by omega), if_pos (by omega), if_pos (by rw [h7]; omega), impl_pixelsOf_eq hw hh (passB_nat hp7) _ (by omega), Option.bind_some]
    rw [show gridPl w (pstep (p : Int)).2.2.1 (pstep (p : Int)).2.2.2 (pstep (p : Int)).1 (psize w h (p : Int)).1.toNat (psize w h (p : Int)).2.toNat (pstep (p : Int)).2.1 = placesL w h p from rfl, el, w64 (by omega) (by omega), lensB_succ]
    by_cases lp : (rd_T29 ps (p : Int)).f4.length = (placesL w h p).length * n
    · have s1 := impl_From_l1 w h n hn4 ps p hp7 (placesL w h p) pl ((w * h).toNat * n) (by omega) (fun a ha => ⟨(pb a ha).1, by have := gb a ha; omega, (pb a ha).2⟩) (rd_T29 ps (p : Int)).f4 lp w h c d (rd_T29 ps (p : Int)).f0 (rd_T29 ps (p : Int)).f1 (rd_T29 ps (p : Int)).f2 (rd_T29 ps (p : Int)).f3 (placesL w h p).length K 0 out (by omega) ho
      rw [show ((0 : Nat) : Int) = 0 from rfl] at s1
      rw [if_pos (by rw [lp]), s1]
      have e := scatF_len n (rd_T29 ps (p : Int)).f4 (placesL w h p) 0 out (fun a ha => by rw [ho]; exact (pb a ha).2)
      rw [List.drop_zero]
      obtain ⟨q, hq, eq⟩ := ih K (p + 1) (scatF n (rd_T29 ps (p : Int)).f4 (placesL w h p) 0 out) (by omega) (by rw [e]; exact ho) hK
      refine ⟨q, hq, ?_⟩
      rw [decide_eq_true lp, Bool.true_and]
      exact eq
    · rw [if_neg (by omega), decide_eq_false lp, Bool.false_and]
      exact ⟨8000, by omega, (if_neg (by decide)).symm⟩
theorem fromOut_len {w h : Int} (hw : sideB w = true) (hh : sideB h = true) (ps : List S29) : (fromOut w h ps).length = (w * h).toNat * (chan (rd_T29 ps 0).f2).toNat := by
  unfold fromOut
  rw [scatAll_len hw hh _ ps 7 0 _ (by omega) (by rw [List.length_replicate]), List.length_replicate]
theorem impl_From_eq (w h : Int) (ps : List S29) (hsm : ∀ a ∈ ps, a.f4.length ≤ 9223372036854775807) (hln : ps.length ≤ 9223372036854775807) (k : Nat) (hk : 15000 ≤ k) : impl_FromPasses.f k w h ps = some (fromV w h ps) := by
  obtain ⟨k, rfl⟩ : ∃ m, k = m + 1 := ⟨k - 1, by omega⟩
  unfold impl_FromPasses.f fromV
  rw [impl_isSide_eq, Option.bind_some]
  by_cases hw : sideB w = true
  · rw [if_pos hw, impl_isSide_eq, Option.bind_some]
    by_cases hh : sideB h = true
    · rw [if_pos hh, impl_FromPasses.j0]
      by_cases h7 : ps.length = 7
      · have bd := wh_bd (c := (rd_T29 ps 0).f2) hw hh
        have cb := chan_bd (rd_T29 ps 0).f2
        rw [if_neg (by rw [h7]; decide), if_pos (by omega), impl_ChannelsOf_eq k (by omega), Option.bind_some]
        have fo := fromOut_len hw hh ps
        have fk : fromOk w h ps = (lensB w h (chan (rd_T29 ps 0).f2).toNat ps 0 7 && rasterOk w h (rd_T29 ps 0).f2 (rd_T29 ps 0).f3 (fromOut w h ps) && rastsEq (passesL w h (rd_T29 ps 0).f2 (rd_T29 ps 0).f3 (fromOut w h ps)) ps) := by
          unfold fromOk
          rw [hw, hh, decide_eq_true h7]; simp
        rw [fk]
        unfold fromOut at *
        obtain ⟨n, hn⟩ := Int.eq_ofNat_of_zero_le cb.1
        rw [hn, Int.toNat_natCast] at fo
        have whn : w * h * (n : Int) = (((w * h).toNat * n : Nat) : Int) := by push_cast; rw [Int.toNat_of_nonneg bd.1]
        have Lb : (w * h).toNat * n ≤ 576 * 4 := Nat.mul_le_mul (by omega) (by omega)
        rw [hn, Int.toNat_natCast, w64 (x := w * h) (by omega) (by omega), whn, w64 (by omega) (by omega), if_pos (by omega), Int.toNat_natCast, if_pos (by omega), h7]
        obtain ⟨q, hq, e⟩ := impl_From_l0g hw hh n (by omega) ps h7 hsm (rd_T29 ps 0).f2 (rd_T29 ps 0).f3 7 k 0 (List.replicate ((w * h).toNat * n) 0) (by omega) (by rw [List.length_replicate]) (by omega)
        rw [show ((0 : Nat) : Int) = 0 from rfl] at e
        rw [show ((7 : Nat) : Int) = 7 from rfl, e]
        generalize scatAll w h n ps 7 0 (List.replicate ((w * h).toNat * n) 0) = out at fo ⊢
        cases hl : lensB w h n ps 0 7 with
        | false => rw [if_neg (by decide), Bool.false_and, Bool.false_and, if_neg (by decide)]
        | true =>
          rw [if_pos rfl, Bool.true_and, impl_FromPasses.l0, if_neg (by omega), impl_PassesOf_eq w h _ _ out (by omega) q (by omega) (by omega), Option.bind_some]
          cases ok : rasterOk w h (rd_T29 ps 0).f2 (rd_T29 ps 0).f3 out with
          | false => simp [fromZ]
          | true =>
            have p7 : (passesL w h (rd_T29 ps 0).f2 (rd_T29 ps 0).f3 out).length = 7 := by simp [passesL]
            rw [if_pos rfl, if_pos rfl, Bool.true_and, impl_EqRasters_eq _ ps (by rw [p7]; omega) (passesL_lens ok) q (by omega), Option.bind_some]
            cases rastsEq (passesL w h (rd_T29 ps 0).f2 (rd_T29 ps 0).f3 out) ps with
            | false => rw [if_neg (by decide), if_neg (by decide)]; rfl
            | true => rw [if_pos rfl, if_pos rfl]
      · rw [if_pos (by simp only [bne_iff_ne]; omega)]
        have : fromOk w h ps = false := by unfold fromOk; rw [decide_eq_false h7]; simp
        rw [this]; rfl
    · rw [if_neg hh, impl_FromPasses.j0, if_pos rfl]
      have : fromOk w h ps = false := by unfold fromOk; rw [Bool.eq_false_iff.mpr hh]; simp
      rw [this]; rfl
  · rw [if_neg hw, impl_FromPasses.j0, if_pos rfl]
    have : fromOk w h ps = false := by unfold fromOk; rw [Bool.eq_false_iff.mpr hw]; simp
    rw [this]; rfl

theorem spec_l01In_eq (a b c : Int) : spec_l01In.f a b c = some (decide (b ≤ a) && decide (a ≤ c)) := by
  unfold spec_l01In.f
  by_cases h : b ≤ a <;> simp [h]

theorem spec_l12Side_eq (n : Int) : spec_l12Side.f n = some (sideB n) := by simp [spec_l12Side.f, spec_l01In_eq, sideB]

theorem spec_PassStep_eq (p : Int) : spec_PassStep.f p = some (pstep p) := by unfold spec_PassStep.f pstep; repeat (first | rfl | split)
theorem spec_l14Count_l0 {n d : Int} (hd : power2 d) (hn : n ≤ 24) (j : Nat) : ∀ (k : Nat) (m x : Int), 0 ≤ m → m ≤ x → x ≤ 100 → n - x ≤ j → j < k → spec_l14Count.l0 k n d m x = some (m + cnt n x d) := by
  induction j with
  | zero =>
    intro k m x h0 h1 h2 h3 h4
    obtain ⟨k, rfl⟩ : ∃ m, k = m + 1 := ⟨k - 1, by omega⟩
    simp only [spec_l14Count.l0]
    rw [if_neg (by omega), cnt_done (by omega), Int.add_zero]
  | succ j ih =>
    intro k m x h0 h1 h2 h3 h4
    obtain ⟨k, rfl⟩ : ∃ m, k = m + 1 := ⟨k - 1, by omega⟩
    have hd2 : 1 ≤ d ∧ d ≤ 8 := by unfold power2 at hd; omega
    simp only [spec_l14Count.l0]
    by_cases h : x < n
    · rw [if_pos h, w64 (x := m + 1) (by omega) (by omega), w64 (x := x + d) (by omega) (by omega), ih k (m + 1) (x + d) (by omega) (by omega) (by omega) (by omega) (by omega), cnt_step hd h]
      congr 1; omega
    · rw [if_neg h, cnt_done h, Int.add_zero]
theorem spec_l14Count_eq {n x d : Int} (hd : power2 d) (hn : n ≤ 24) (h0 : 0 ≤ x) (h1 : x ≤ 4) (k : Nat) (hk : 26 ≤ k) : spec_l14Count.f k n x d = some (cnt n x d) := by
  unfold spec_l14Count.f
  rw [spec_l14Count_l0 hd hn 25 k 0 x (by omega) h0 (by omega) (by omega) (by omega), Int.zero_add]
theorem spec_PassSize_eq (k : Nat) (hk : 27 ≤ k) (w h p : Int) : spec_PassSize.f k w h p = some (psize w h p) := by
  obtain ⟨k, rfl⟩ : ∃ m, k = m + 1 := ⟨k - 1, by omega⟩
  unfold spec_PassSize.f psize
  simp only [spec_l12Side_eq, spec_l01In_eq, Option.bind_some]
  change (if sideB w = true then (if sideB h = true then spec_PassSize.j0 (k + 1) w h p (!(passB p)) else spec_PassSize.j0 (k + 1) w h p true) else spec_PassSize.j0 (k + 1) w h p true) = _
  have yes : spec_PassSize.j0 (k + 1) w h p true = some (0, 0) := by simp [spec_PassSize.j0]
  rw [yes]
  by_cases hw : sideB w = true
  · by_cases hh : sideB h = true
    · by_cases hp : passB p = true
      · have b := pstep_bd hp
        have bw := (sideB_iff w).1 hw
        have bh := (sideB_iff h).1 hh
        simp only [hw, hh, hp, if_true, Bool.not_true, Bool.and_self, spec_PassSize.j0, spec_PassStep_eq, Option.bind_some]
        rw [if_neg (by decide), spec_l14Count_eq b.2.2.2.2.1 (by omega) b.1 b.2.1 k (by omega), spec_l14Count_eq b.2.2.2.2.2.1 (by omega) b.2.2.1 b.2.2.2.1 k (by omega)]
        simp only [Option.bind_some]
        by_cases h1 : cnt w (pstep p).1 (pstep p).2.2.1 = 0
        · simp [h1]
        · by_cases h2 : cnt h (pstep p).2.1 (pstep p).2.2.2 = 0
          · simp [h1, h2]
          · simp [h1, h2]
      · simp [hw, hh, hp, yes]
    · simp [hw, hh]
  · simp [hw]

theorem spec_ChannelsOf_eq (k : Nat) (hk : 1 ≤ k) (c : Int) : spec_ChannelsOf.f k c = some (chan c) := by
  obtain ⟨k, rfl⟩ : ∃ m, k = m + 1 := ⟨k - 1, by omega⟩
  simp only [spec_ChannelsOf.f, spec_ChannelsOf.j0, chan]
  by_cases h0 : c = 0
  · simp [h0]
  · by_cases h3 : c = 3
    · simp [h3]
    · simp [h0, h3]; repeat (first | split | rfl)

theorem spec_l01Pow_l0 (n : Int) (h62 : n ≤ 62) (d : Nat) : ∀ (k : Nat) (i : Int), 0 ≤ i → i ≤ n → n - i = d → d < k → spec_l01Pow.l0 k n (p2 i) i = some (p2 n) := by
  induction d with
  | zero =>
    intro k i h0 h1 hd hk
    obtain ⟨k, rfl⟩ : ∃ m, k = m + 1 := ⟨k - 1, by omega⟩
    obtain rfl : i = n := by omega
    simp only [spec_l01Pow.l0]
    rw [if_neg (by omega)]
  | succ d ih =>
    intro k i h0 h1 hd hk
    obtain ⟨k, rfl⟩ : ∃ m, k = m + 1 := ⟨k - 1, by omega⟩
    have b1 := p2_pos (i + 1)
    have b2 := p2_62 (n := i + 1) (by omega)
    have e := p2_succ i h0
    simp only [spec_l01Pow.l0]
    rw [if_pos (by omega), ← e, w64 (x := p2 (i + 1)) (by omega) (by omega), w64 (x := i + 1) (by omega) (by omega)]
    exact ih k (i + 1) (by omega) (by omega) (by omega) (by omega)
theorem spec_l01Pow_eq (k : Nat) (n : Int) (h62 : n ≤ 62) (hk : 64 ≤ k) : spec_l01Pow.f k n = some (p2 n) := by
  unfold spec_l01Pow.f
  by_cases h0 : 0 ≤ n
  · exact spec_l01Pow_l0 n h62 n.toNat k 0 (by omega) h0 (by omega) (by omega)
  · obtain ⟨k, rfl⟩ : ∃ m, k = m + 1 := ⟨k - 1, by omega⟩
    simp only [spec_l01Pow.l0]
    rw [if_neg (by omega)]
    have : n.toNat = 0 := by omega
    unfold p2; rw [this]; rfl

theorem spec_RasterOk_l0 (w h c d : Int) (hd2 : d ≤ 62) (xs : List Int) (hx : xs.length ≤ 9223372036854775807) (n : Nat) : ∀ (k i : Nat), i ≤ xs.length → xs.length - i = n → n + 64 < k → spec_RasterOk.l0 k i w h c d xs = some ((xs.drop i).all (inB (p2 d - 1))) := by
  induction n with
  | zero =>
    intro k i hi hd hk
    obtain ⟨k, rfl⟩ : ∃ m, k = m + 1 := ⟨k - 1, by omega⟩
    simp only [spec_RasterOk.l0]
    rw [if_neg (by omega), drop_all_end _ _ _ (by omega)]
  | succ n ih =>
    intro k i hi hd hk
    obtain ⟨k, rfl⟩ : ∃ m, k = m + 1 := ⟨k - 1, by omega⟩
    have lt : i < xs.length := by omega
    have b1 := p2_pos d
    have b2 := p2_62 hd2
    simp only [spec_RasterOk.l0]
    rw [if_pos (by omega), if_pos (by omega), spec_l01Pow_eq k d hd2 (by omega)]
    simp only [Option.bind_some]
    rw [w64 (x := p2 d - 1) (by omega) (by omega), spec_l01In_eq, rd_at xs i lt, w64 (by omega) (by omega), drop_all _ _ _ lt]
    simp only [Option.bind_some]
    have step := ih k (i + 1) (by omega) (by omega) (by omega)
    push_cast at step
    rw [step]
    unfold inB
    cases (decide (0 ≤ xs[i]) && decide (xs[i] ≤ p2 d - 1)) <;> simp
theorem spec_RasterOk_eq (w h c d : Int) (xs : List Int) (hx : xs.length ≤ 9223372036854775807) (k : Nat) (hk : xs.length + 70 ≤ k) : spec_RasterOk.f k w h c d xs = some (rasterOk w h c d xs) := by
  obtain ⟨k, rfl⟩ : ∃ m, k = m + 1 := ⟨k - 1, by omega⟩
  have no : spec_RasterOk.j0 (k + 1) true w h c d xs = some false := by simp [spec_RasterOk.j0]
  unfold spec_RasterOk.f rasterOk
  simp only [spec_l12Side_eq, spec_DepthOk_eq (k + 1) (by omega), spec_ChannelsOf_eq (k + 1) (by omega), Option.bind_some, no]
  by_cases hw : sideB w = true
  · by_cases hh : sideB h = true
    · by_cases hd : dok c d = true
      · have b := wh_bd (c := c) hw hh
        have bd := dok_bd hd
        simp only [hw, hh, hd, if_true, Bool.true_and]
        rw [w64 (x := w * h) (by omega) (by omega), w64 (x := w * h * chan c) (by omega) (by omega)]
        simp only [spec_RasterOk.j0]
        by_cases hl : (xs.length : Int) = w * h * chan c
        · have R := spec_RasterOk_l0 w h c d (by omega) xs hx xs.length k 0 (by omega) (by omega) (by omega)
          rw [if_neg (by simp [hl])]
          simpa [hl] using R
        · rw [if_pos (by simp [hl])]
          simp [hl]
      · simp [hw, hh, hd]
    · simp [hw, hh]
  · simp [hw]

theorem at_bd {r W c n H L : Int} (a : 0 ≤ r * W + c ∧ r * W + c < W * H) (hr : 0 ≤ r ∧ r ≤ 300) (hW : 0 ≤ W ∧ W ≤ 24) (hc : 0 ≤ c ∧ c ≤ 300) : 0 ≤ r * W ∧ r * W ≤ 7200 := by
  have := mul_bd hr.1 hr.2 hW.1 hW.2
  omega
theorem spec_passes_l2 (x3 : List S29) (n p : Int) (w h : Nat) (W H c d : Int) (xs : List Int) (x y dx dy j : Int) (z0 z1 z2 z3 : Int) (hx3 : x3.length ≤ 7) (hn : 0 ≤ n ∧ n ≤ 4) (hxs : xs.length ≤ 2304) (hw : w ≤ 24) (hW : 0 ≤ W ∧ W ≤ 24) (hx : 0 ≤ x ∧ x ≤ 4) (hy : 0 ≤ y ∧ y ≤ 4) (hdx : 0 ≤ dx ∧ dx ≤ 8) (hdy : 0 ≤ dy ∧ dy ≤ 8) (hj : 0 ≤ j ∧ j ≤ 23) (m : Nat) : ∀ (k i : Nat) (acc : List Int), i + m = w → acc.length + 4 * m ≤ 1000000 →
    (∀ a ∈ rowPl ((y + j * dy) * W + (x + i * dx)) dx m, 0 ≤ a ∧ 0 ≤ a * n ∧ a * n + n ≤ xs.length) →
    spec_l14Passes.l2 (k + m + 1) x3 n p w h x y dx dy j i W H c d xs z0 z1 z2 z3 acc = spec_l14Passes.l1 k x3 n p w h x y dx dy (j + 1) W H c d xs z0 z1 z2 z3 (acc ++ (rowPl ((y + j * dy) * W + (x + i * dx)) dx m).flatMap (smp xs n)) := by
  have b0 := mul_bd hj.1 hj.2 hdy.1 hdy.2
  have b1 := mul_bd (a := y + j * dy) (m := 300) (by omega) (by omega) hW.1 hW.2
  induction m with
  | zero =>
    intro k i acc hi ha hb
    simp only [Nat.add_zero, spec_l14Passes.l2]
    rw [if_neg (by omega), w64 (x := j + 1) (by omega) (by omega)]
    simp [rowPl]
  | succ m ih =>
    intro k i acc hi ha hb
    obtain ⟨K, hK⟩ : ∃ K, K = k + m + 1 := ⟨_, rfl⟩
    have b2 := mul_bd (a := (i : Int)) (m := 24) (by omega) (by omega) hdx.1 hdx.2
    obtain ⟨a0, a1, a2⟩ := hb _ (List.mem_cons_self ..)
    have rest := fun a ha => hb a (List.mem_cons_of_mem _ ha)
    have e1 : wrap64 (wrap64 (wrap64 (wrap64 (y + wrap64 (j * dy)) * W) + x) + wrap64 ((i : Int) * dx)) = (y + j * dy) * W + (x + i * dx) := by
      rw [w64 (x := j * dy) (by omega) (by omega), w64 (x := y + j * dy) (by omega) (by omega), w64 (x := (y + j * dy) * W) (by omega) (by omega), w64 (x := (y + j * dy) * W + x) (by omega) (by omega), w64 (x := (i : Int) * dx) (by omega) (by omega), w64 (by omega) (by omega), Int.add_assoc]
    rw [show k + (m + 1) + 1 = K + 1 from by omega]
    simp only [spec_l14Passes.l2]
    rw [if_pos (by omega), e1]
    have q := ih k (i + 1)
    rw [Int.add_assoc, show x + (i : Int) * dx + dx = x + ((i + 1 : Nat) : Int) * dx from by push_cast; rw [Int.add_mul]; omega] at rest
    simp only [rowPl]
    rw [Int.add_assoc, show x + (i : Int) * dx + dx = x + ((i + 1 : Nat) : Int) * dx from by push_cast; rw [Int.add_mul]; omega]
    generalize (y + j * dy) * W + (x + (i : Int) * dx) = A at a0 a1 a2 ⊢
    have ll : acc.length + ((xs.take (A * n + n).toNat).drop (A * n).toNat).length < 17592186044416 := by
      simp only [List.length_drop, List.length_take]; omega
    have sl : (smp xs n A).length = n.toNat := smp_len xs n _ hn.1 a0 a2
    rw [w64 (x := A * n) (by omega) (by omega), w64 (x := A * n + n) (by omega) (by omega), if_pos a1, if_pos (by omega), if_pos a2, if_pos ll, w64 (x := (i : Int) + 1) (by omega) (by omega)]
    rw [show ((xs.take (A * n + n).toNat).drop (A * n).toNat) = smp xs n A from rfl, hK]
    have q2 := q (acc ++ smp xs n A) (by omega) (by rw [List.length_append, sl]; omega) rest
    push_cast at q2
    rw [q2]
    simp
theorem spec_passes_l1 (x3 : List S29) (n p : Int) (w h : Nat) (W H c d : Int) (xs : List Int) (x y dx dy : Int) (z0 z1 z2 z3 : Int) (hx3 : x3.length ≤ 7) (hp : 0 ≤ p ∧ p ≤ 7) (hn : 0 ≤ n ∧ n ≤ 4) (hxs : xs.length ≤ 2304) (hw : w ≤ 24) (hh : h ≤ 24) (hW : 0 ≤ W ∧ W ≤ 24) (hx : 0 ≤ x ∧ x ≤ 4) (hy : 0 ≤ y ∧ y ≤ 4) (hdx : 0 ≤ dx ∧ dx ≤ 8) (hdy : 0 ≤ dy ∧ dy ≤ 8) (m : Nat) : ∀ (k j : Nat) (acc : List Int), j + m = h → acc.length + 100 * m ≤ 1000000 →
    (∀ a ∈ gridPl W dx dy x w m (y + j * dy), 0 ≤ a ∧ 0 ≤ a * n ∧ a * n + n ≤ xs.length) →
    spec_l14Passes.l1 (k + m * (w + 2) + 1) x3 n p w h x y dx dy j W H c d xs z0 z1 z2 z3 acc = spec_l14Passes.l0 k (x3 ++ [⟨z0, z1, z2, z3, acc ++ (gridPl W dx dy x w m (y + j * dy)).flatMap (smp xs n)⟩]) n (p + 1) W H c d xs := by
  induction m with
  | zero =>
    intro k j acc hj ha hb
    simp only [Nat.zero_mul, Nat.add_zero, spec_l14Passes.l1]
    rw [if_neg (by omega), if_pos (by omega), w64 (x := p + 1) (by omega) (by omega)]
    simp [gridPl]
  | succ m ih =>
    intro k j acc hj ha hb
    have b0 := mul_bd (a := (j : Int)) (m := 24) (by omega) (by omega) hdy.1 hdy.2
    rw [show k + (m + 1) * (w + 2) + 1 = (k + m * (w + 2) + 1 + w + 1) + 1 from by rw [Nat.succ_mul]; omega]
    simp only [spec_l14Passes.l1]
    rw [if_pos (by omega)]
    have s1 := spec_passes_l2 x3 n p w h W H c d xs x y dx dy j z0 z1 z2 z3 hx3 hn hxs hw hW hx hy hdx hdy (by omega) w (k + m * (w + 2) + 1) 0 acc (by omega) (by omega)
      (fun a ha => hb a (by simp only [gridPl]; exact List.mem_append.mpr (Or.inl (by simpa using ha))))
    rw [show ((0 : Nat) : Int) = 0 from rfl] at s1
    rw [s1]
    have rest := fun a ha => hb a (List.mem_append.mpr (Or.inr ha))
    rw [show y + (j : Int) * dy + dy = y + ((j + 1 : Nat) : Int) * dy from by push_cast; rw [Int.add_mul]; omega] at rest
    have fl : ∀ zs : List Int, (∀ a ∈ zs, 0 ≤ a ∧ 0 ≤ a * n ∧ a * n + n ≤ xs.length) → (zs.flatMap (smp xs n)).length ≤ 4 * zs.length := by
      intro zs
      induction zs with
      | nil => intro _; simp
      | cons z zs iz =>
        intro hz
        have q := iz fun a ha => hz a (List.mem_cons_of_mem _ ha)
        have q2 := hz z (List.mem_cons_self ..)
        rw [List.flatMap_cons, List.length_append, smp_len xs n z hn.1 q2.1 q2.2.2, List.length_cons]
        omega
    have f1 := fl (rowPl ((y + (j : Int) * dy) * W + (x + 0 * dx)) dx w) (fun a ha => hb a (List.mem_append.mpr (Or.inl (by simpa using ha))))
    rw [rowPl_len] at f1
    have s2 := ih k (j + 1) (acc ++ (rowPl ((y + (j : Int) * dy) * W + (x + 0 * dx)) dx w).flatMap (smp xs n)) (by omega) (by rw [List.length_append]; omega) rest
    push_cast at s2
    rw [s2]
    simp only [gridPl, List.flatMap_append, List.append_assoc]
    rw [show y + (j : Int) * dy + dy = y + ((j : Int) + 1) * dy from by rw [Int.add_mul]; omega]
    simp
theorem spec_passes_ar {q k w h : Nat} (hk : (q + 1) * 700 + 800 ≤ k + h * (w + 2) + 1 + 1) (hw : w ≤ 24) (hh : h ≤ 24) : q * 700 + 800 ≤ k := by
  have := Nat.mul_le_mul hh (show w + 2 ≤ 26 by omega)
  rw [Nat.succ_mul] at hk
  generalize q * 700 = z at hk ⊢
  omega
theorem spec_passes_l0 (w h c d : Int) (xs : List Int) (ok : rasterOk w h c d xs = true) (q : Nat) : ∀ (k p : Nat) (x3 : List S29), p + q = 7 → x3.length ≤ p → q * 700 + 800 ≤ k →
    spec_l14Passes.l0 k x3 (chan c) p w h c d xs = some (x3 ++ (List.range' p q).map fun p : Nat => passL w h c d xs p) := by
  have ok2 := ok
  simp only [rasterOk, Bool.and_eq_true, decide_eq_true_eq] at ok2
  obtain ⟨⟨⟨⟨hw, hh⟩, hdk⟩, hl⟩, hall⟩ := ok2
  have bd := wh_bd (c := c) hw hh
  have cb := chan_bd c
  have hw' := (sideB_iff w).mp hw
  induction q with
  | zero =>
    intro k p x3 hp hx hk
    obtain ⟨k, rfl⟩ : ∃ m, k = m + 1 := ⟨k - 1, by omega⟩
    simp only [spec_l14Passes.l0]
    rw [if_neg (by omega)]; simp
  | succ q ih =>
    intro k p x3 hp hx hk
    have hp7 : p < 7 := by omega
    have pb := passB_nat hp7
    have sb := psize_bd hw hh pb
    have gb := grid_bd hw hh pb
    have ps := pstep_bd pb
    have pdx : 0 ≤ (pstep p).2.2.1 ∧ (pstep p).2.2.1 ≤ 8 := by rcases ps.2.2.2.2.1 with e | e | e | e <;> rw [e] <;> omega
    have pdy : 0 ≤ (pstep p).2.2.2 ∧ (pstep p).2.2.2 ≤ 8 := by rcases ps.2.2.2.2.2.1 with e | e | e | e <;> rw [e] <;> omega
    obtain ⟨k, rfl⟩ : ∃ m, k = m + 1 := ⟨k - 1, by omega⟩
    simp only [spec_l14Passes.l0]
    rw [if_pos (by omega), spec_PassSize_eq k (by omega)]
    simp only [Option.bind_some]
    rw [spec_PassStep_eq]
    simp only [Option.bind_some]
    have pl : passL w h c d xs p = ⟨(psize w h p).1, (psize w h p).2, c, d, [] ++ (gridPl w (pstep p).2.2.1 (pstep p).2.2.2 (pstep p).1 (psize w h p).1.toNat (psize w h p).2.toNat ((pstep p).2.1 + ((0 : Nat) : Int) * (pstep p).2.2.2)).flatMap (smp xs (chan c))⟩ := by simp [passL]
    generalize hP1 : psize w h p = P1 at gb sb pl ⊢
    generalize hP2 : pstep p = P2 at gb pl ps pdx pdy ⊢
    obtain ⟨w1, h1⟩ := P1
    obtain ⟨x, y, dx, dy⟩ := P2
    simp only at gb sb pl ps pdx pdy ⊢
    obtain ⟨w2, rfl⟩ : ∃ n : Nat, w1 = n := ⟨w1.toNat, by omega⟩
    obtain ⟨h2, rfl⟩ : ∃ n : Nat, h1 = n := ⟨h1.toNat, by omega⟩
    simp only [Int.toNat_natCast] at gb pl
    have hm : h2 * (w2 + 2) ≤ 24 * 26 := Nat.mul_le_mul (by omega) (by omega)
    obtain ⟨k, rfl⟩ : ∃ m, k = m + h2 * (w2 + 2) + 1 := ⟨k - h2 * (w2 + 2) - 1, by omega⟩
    have s1 := spec_passes_l1 x3 (chan c) p w2 h2 w h c d xs x y dx dy w2 h2 c d (by omega) (by omega) (by omega) (by omega) (by omega) (by omega) (by omega) (by omega) (by omega) pdx pdy h2 k 0 [] (by omega) (by simp; omega)
      (fun a ha => by
        have g := gb a (by simpa using ha)
        exact ⟨g.1, plc_bd g (by omega) hl⟩)
    rw [← pl, show ((0 : Nat) : Int) = 0 from rfl] at s1
    rw [s1]
    have s2 := ih k (p + 1) (x3 ++ [passL w h c d xs p]) (by omega) (by rw [List.length_append]; exact Nat.add_le_add_right hx 1) (spec_passes_ar hk (by omega) (by omega))
    push_cast at s2
    rw [s2, List.range'_succ]
    simp
theorem spec_l14Passes_eq (w h c d : Int) (xs : List Int) (ok : rasterOk w h c d xs = true) (k : Nat) (hk : 6000 ≤ k) :
    spec_l14Passes.f k w h c d xs = some (passesL w h c d xs) := by
  unfold spec_l14Passes.f
  rw [spec_ChannelsOf_eq k (by omega)]
  simp only [Option.bind_some]
  have := spec_passes_l0 w h c d xs ok 7 k 0 [] (by omega) (by simp) (by omega)
  rw [show ((0 : Nat) : Int) = 0 from rfl] at this
  rw [this]; rfl

theorem spec_l14Same_l0 (a b : S29) (hl : a.f4.length = b.f4.length) (hx : a.f4.length ≤ 1000000000) (m : Nat) : ∀ (k i : Nat), i ≤ a.f4.length → a.f4.length - i = m → m < k → spec_l14Same.l0 k i a.f0 a.f1 a.f2 a.f3 a.f4 b.f0 b.f1 b.f2 b.f3 b.f4 = some (decide (a.f4.drop i = b.f4.drop i)) := by
  induction m with
  | zero =>
    intro k i hi hm hk
    obtain ⟨k, rfl⟩ : ∃ m, k = m + 1 := ⟨k - 1, by omega⟩
    rw [spec_l14Same.l0, if_neg (by omega), List.drop_eq_nil_of_le (by omega), List.drop_eq_nil_of_le (by omega)]
    simp
  | succ m ih =>
    intro k i hi hm hk
    obtain ⟨k, rfl⟩ : ∃ m, k = m + 1 := ⟨k - 1, by omega⟩
    have l1 : i < a.f4.length := by omega
    have l2 : i < b.f4.length := by omega
    rw [spec_l14Same.l0, if_pos (by omega), if_pos (by omega), if_pos (by omega), rd_at _ i l1, rd_at _ i l2, List.drop_eq_getElem_cons l1, List.drop_eq_getElem_cons l2]
    by_cases e : a.f4[i] = b.f4[i]
    · have st := ih k (i + 1) (by omega) (by omega) (by omega)
      push_cast at st
      rw [if_pos e, w64 (x := (i : Int) + 1) (by omega) (by omega), st]
      congr 1
      rw [decide_eq_decide, List.cons.injEq]
      simp only [e, true_and]
    · rw [if_neg e]
      congr 1
      exact (decide_eq_false (by rw [List.cons.injEq]; exact fun h => e h.1)).symm
theorem spec_l14Same_eq (a b : S29) (hx : a.f4.length ≤ 1000000000) (hy : b.f4.length ≤ 9223372036854775807) (k : Nat) (hk : a.f4.length + 1 < k) : spec_l14Same.f k a.f0 a.f1 a.f2 a.f3 a.f4 b.f0 b.f1 b.f2 b.f3 b.f4 = some (rastEq a b) := by
  obtain ⟨k, rfl⟩ : ∃ m, k = m + 1 := ⟨k - 1, by omega⟩
  unfold spec_l14Same.f rastEq
  by_cases e0 : a.f0 = b.f0
  · rw [if_pos e0, decide_eq_true e0]
    by_cases e1 : a.f1 = b.f1
    · rw [if_pos e1, decide_eq_true e1]
      by_cases e2 : a.f2 = b.f2
      · rw [if_pos e2, decide_eq_true e2]
        by_cases e3 : a.f3 = b.f3
        · rw [if_pos e3, decide_eq_true e3, spec_l14Same.j0]
          by_cases hl : a.f4.length = b.f4.length
          · have st := spec_l14Same_l0 a b hl hx a.f4.length k 0 (by omega) (by omega) (by omega)
            rw [show ((0 : Nat) : Int) = 0 from rfl] at st
            rw [if_neg (by simp only [bne_iff_ne, ne_eq, Decidable.not_not]; omega), st]
            simp
          · rw [if_pos (by simp only [bne_iff_ne]; omega)]
            have : a.f4 ≠ b.f4 := fun h => hl (by rw [h])
            simp [this]
        · rw [if_neg e3, decide_eq_false e3, spec_l14Same.j0, if_pos rfl]; simp
      · rw [if_neg e2, decide_eq_false e2, spec_l14Same.j0, if_pos rfl]; simp
    · rw [if_neg e1, decide_eq_false e1, spec_l14Same.j0, if_pos rfl]; simp
  · rw [if_neg e0, decide_eq_false e0, spec_l14Same.j0, if_pos rfl]; simp
/-- One place's samples put one by one. -/
theorem spec_From_row (w h : Int) (n a b L : Nat) (hn : 1 ≤ n ∧ n ≤ 4) (ha : 1 ≤ a ∧ a ≤ 24) (hb : b ≤ 24) (hw : 0 ≤ w ∧ w ≤ 24) (ps : List S29) (h7 : ps.length = 7) (p : Nat) (hp : p < 7) (x y dx dy c d : Int) (hx : 0 ≤ x ∧ x ≤ 4) (hy : 0 ≤ y ∧ y ≤ 4) (hdx : 0 ≤ dx ∧ dx ≤ 8) (hdy : 0 ≤ dy ∧ dy ≤ 8)
    (P : List Int) (hP : P.length = a * b) (hPi : ∀ i (hi : i < P.length), P[i] = (y + ((i / a : Nat) : Int) * dy) * w + x + ((i % a : Nat) : Int) * dx ∧ 0 ≤ P[i] ∧ P[i] ≤ 1000 ∧ P[i].toNat * n + n ≤ L) (hL : L ≤ 2304)
    (hs : (rd_T29 ps (p : Int)).f4.length = P.length * n) (i : Nat) (hi : i < P.length) (out : List Int) (ho : out.length = L) (r : Nat) : ∀ (k s : Nat), s + r = n →
    spec_FromPasses.l1 (k + r) w h ps n p a b x y dx dy ((i * n + s : Nat) : Int) w h c d (cpy out (P[i].toNat * n) s ((rd_T29 ps (p : Int)).f4.drop (i * n))) = spec_FromPasses.l1 k w h ps n p a b x y dx dy ((i * n + n : Nat) : Int) w h c d (cpy out (P[i].toNat * n) n ((rd_T29 ps (p : Int)).f4.drop (i * n))) := by
  have q := hPi i hi
  have i1 : i * n + n ≤ P.length * n := by rw [← Nat.succ_mul]; exact Nat.mul_le_mul_right _ hi
  have ab : a * b ≤ 24 * 24 := Nat.mul_le_mul ha.2 hb
  have abn : a * b * n ≤ 24 * 24 * 4 := Nat.mul_le_mul ab hn.2
  have hin : i * n ≤ 2304 := by rw [hP] at i1; omega
  have hj : i / a < b := by rw [Nat.div_lt_iff_lt_mul (by omega), Nat.mul_comm]; omega
  have hm : i % a < a := Nat.mod_lt _ (by omega)
  have fd : Int.tdiv (i : Int) (a : Int) = ((i / a : Nat) : Int) := by rw [Int.tdiv_eq_ediv_of_nonneg (by omega), ← Int.natCast_ediv]
  have fm : Int.tmod (i : Int) (a : Int) = ((i % a : Nat) : Int) := by rw [Int.tmod_eq_emod_of_nonneg (by omega), ← Int.natCast_emod]
  generalize i / a = J at q hj fd
  generalize i % a = M at q hm fm
  have b1 := mul_bd (a := ((J : Nat) : Int)) (b := dy) (m := 24) (n := 8) (by omega) (by omega) hdy.1 hdy.2
  have b2 := mul_bd (a := y + ((J : Nat) : Int) * dy) (b := w) (m := 196) (n := 24) (by omega) (by omega) hw.1 hw.2
  have b3 := mul_bd (a := ((M : Nat) : Int)) (b := dx) (m := 24) (n := 8) (by omega) (by omega) hdx.1 hdx.2
  have e0 : P[i] * (n : Int) = ((P[i].toNat * n : Nat) : Int) := by push_cast; rw [Int.toNat_of_nonneg q.2.1]
  have b4 : P[i].toNat * n ≤ 2304 := by omega
  generalize hsrc : (rd_T29 ps (p : Int)).f4 = src at hs ⊢
  induction r with
  | zero =>
    intro k s hs'
    rw [show s = n from by omega, Nat.add_zero]
  | succ r ih =>
    intro k s hs'
    have ed : Int.tdiv ((i * n + s : Nat) : Int) (n : Int) = (i : Int) := by
      rw [Int.tdiv_eq_ediv_of_nonneg (by omega), ← Int.natCast_ediv, Nat.mul_comm, Nat.mul_add_div (by omega), Nat.div_eq_of_lt (by omega), Nat.add_zero]
    have em : Int.tmod ((i * n + s : Nat) : Int) (n : Int) = (s : Int) := by
      rw [Int.tmod_eq_emod_of_nonneg (by omega), ← Int.natCast_emod, Nat.mul_comm, Nat.mul_add_mod, Nat.mod_eq_of_lt (by omega)]
    have cl := cpy_len out (P[i].toNat * n) s (src.drop (i * n)) (by omega)
    have cs := cpy_succ out (P[i].toNat * n) s (src.drop (i * n)) (by omega) (by rw [List.length_drop]; omega)
    have eab : (a : Int) * (b : Int) = ((a * b : Nat) : Int) := by push_cast; rfl
    have eabn : ((a * b : Nat) : Int) * (n : Int) = ((a * b * n : Nat) : Int) := by push_cast; rfl
    obtain ⟨K, hK⟩ : ∃ K, K = k + r := ⟨_, rfl⟩
    rw [show k + (r + 1) = K + 1 from by omega, spec_FromPasses.l1, eab, w64 (x := ((a * b : Nat) : Int)) (by omega) (by omega), eabn, w64 (x := ((a * b * n : Nat) : Int)) (by omega) (by omega), if_pos (by rw [hP] at i1; omega), if_neg (by omega), if_neg (by omega), if_pos (by omega), if_pos (by rw [h7]; omega), if_pos (by omega), hsrc, if_pos (by omega)]
    rw [ed, em, w64 (x := (i : Int)) (by omega) (by omega), fd, fm, w64 (x := ((J : Nat) : Int)) (by omega) (by omega), w64 (x := ((J : Nat) : Int) * dy) (by omega) (by omega), w64 (x := y + ((J : Nat) : Int) * dy) (by omega) (by omega), w64 (x := (y + ((J : Nat) : Int) * dy) * w) (by omega) (by omega),
      w64 (x := (y + ((J : Nat) : Int) * dy) * w + x) (by omega) (by omega), w64 (x := ((M : Nat) : Int) * dx) (by omega) (by omega), ← q.1, w64 (x := P[i]) (by omega) (by omega), e0, w64 (x := ((P[i].toNat * n : Nat) : Int)) (by omega) (by omega),
      show ((P[i].toNat * n : Nat) : Int) + (s : Int) = ((P[i].toNat * n + s : Nat) : Int) from by push_cast; rfl, w64 (x := ((P[i].toNat * n + s : Nat) : Int)) (by omega) (by omega), if_pos (by omega), if_pos (by omega), Int.toNat_natCast, rd_at src (i * n + s) (by omega), w64 (x := ((i * n + s : Nat) : Int) + 1) (by omega) (by omega)]
    have st := ih k (s + 1) (by omega)
    rw [cs, List.getElem_drop] at st
    subst hK
    rw [show ((i * n + s : Nat) : Int) + 1 = ((i * n + (s + 1) : Nat) : Int) from by push_cast; rfl]
    exact st

theorem spec_PassesOf_eq (w h c d : Int) (xs : List Int) (hx : xs.length ≤ 9223372036854775807) (k : Nat) (hk : 6000 ≤ k) (hk2 : xs.length + 70 ≤ k) : spec_PassesOf.f k w h c d xs = some (if rasterOk w h c d xs then (passesL w h c d xs, true) else ([], false)) := by
  unfold spec_PassesOf.f
  rw [spec_RasterOk_eq w h c d xs hx k hk2, Option.bind_some]
  cases ok : rasterOk w h c d xs with
  | true => rw [if_pos rfl, if_pos rfl, spec_l14Passes_eq w h c d xs ok k hk, Option.bind_some]
  | false => rw [if_neg (by decide), if_neg (by decide)]

theorem spec_From_l1 (w h : Int) (n a b L : Nat) (hn : 1 ≤ n ∧ n ≤ 4) (ha : a ≤ 24) (hb : b ≤ 24) (hw : 0 ≤ w ∧ w ≤ 24) (ps : List S29) (h7 : ps.length = 7) (p : Nat) (hp : p < 7) (x y dx dy c d : Int) (hx : 0 ≤ x ∧ x ≤ 4) (hy : 0 ≤ y ∧ y ≤ 4) (hdx : 0 ≤ dx ∧ dx ≤ 8) (hdy : 0 ≤ dy ∧ dy ≤ 8)
    (P : List Int) (hP : P.length = a * b) (hPi : ∀ i (hi : i < P.length), P[i] = (y + ((i / a : Nat) : Int) * dy) * w + x + ((i % a : Nat) : Int) * dx ∧ 0 ≤ P[i] ∧ P[i] ≤ 1000 ∧ P[i].toNat * n + n ≤ L) (hL : L ≤ 2304)
    (hs : (rd_T29 ps (p : Int)).f4.length = P.length * n) (m : Nat) : ∀ (k i : Nat) (out : List Int), i + m = P.length → out.length = L →
    spec_FromPasses.l1 (k + m * n + 1) w h ps n p a b x y dx dy ((i * n : Nat) : Int) w h c d out = spec_FromPasses.l0 k w h ps n ((p + 1 : Nat) : Int) w h c d (scatF n (rd_T29 ps (p : Int)).f4 (P.drop i) i out) := by
  have ab : a * b ≤ 24 * 24 := Nat.mul_le_mul ha hb
  have abn : a * b * n ≤ 24 * 24 * 4 := Nat.mul_le_mul ab hn.2
  have eab : (a : Int) * (b : Int) = ((a * b : Nat) : Int) := by push_cast; rfl
  have eabn : ((a * b : Nat) : Int) * (n : Int) = ((a * b * n : Nat) : Int) := by push_cast; rfl
  induction m with
  | zero =>
    intro k i out hi ho
    rw [Nat.zero_mul, Nat.add_zero, spec_FromPasses.l1, eab, w64 (x := ((a * b : Nat) : Int)) (by omega) (by omega), eabn, w64 (x := ((a * b * n : Nat) : Int)) (by omega) (by omega), if_neg (by rw [show i = a * b from by omega]; omega), w64 (x := (p : Int) + 1) (by omega) (by omega), List.drop_eq_nil_of_le (by omega)]
    rfl
  | succ m ih =>
    intro k i out hi ho
    have lt : i < P.length := by omega
    have a1 : 1 ≤ a := by
      rcases Nat.eq_zero_or_pos a with z | z
      · rw [z, Nat.zero_mul] at hP; omega
      · exact z
    have q := hPi i lt
    have st := spec_From_row w h n a b L hn ⟨a1, ha⟩ hb hw ps h7 p hp x y dx dy c d hx hy hdx hdy P hP hPi hL hs i lt out ho n (k + m * n + 1) 0 (by omega)
    rw [cpy_zero out _ _ (by omega), Nat.add_zero (i * n)] at st
    have cl := cpy_len out (P[i].toNat * n) n ((rd_T29 ps (p : Int)).f4.drop (i * n)) (by omega)
    have s2 := ih k (i + 1) (cpy out (P[i].toNat * n) n ((rd_T29 ps (p : Int)).f4.drop (i * n))) (by omega) (by rw [cl]; exact ho)
    rw [Nat.succ_mul] at s2
    rw [show k + (m + 1) * n + 1 = k + m * n + 1 + n from by rw [Nat.succ_mul]; omega, st, s2, List.drop_eq_getElem_cons lt, scatF]
theorem places_at {w h : Int} (p : Nat) (i : Nat) (hi : i < (placesL w h (p : Int)).length) : (placesL w h (p : Int))[i] = ((pstep (p : Int)).2.1 + ((i / (psize w h (p : Int)).1.toNat : Nat) : Int) * (pstep (p : Int)).2.2.2) * w + (pstep (p : Int)).1 + ((i % (psize w h (p : Int)).1.toNat : Nat) : Int) * (pstep (p : Int)).2.2.1 := by
  have l := hi
  unfold placesL at l ⊢
  rw [gridPl_len] at l
  have a1 : 1 ≤ (psize w h (p : Int)).1.toNat := by
    rcases Nat.eq_zero_or_pos (psize w h (p : Int)).1.toNat with z | z
    · rw [z, Nat.zero_mul] at l; omega
    · exact z
  have hj : i / (psize w h (p : Int)).1.toNat < (psize w h (p : Int)).2.toNat := by rw [Nat.div_lt_iff_lt_mul (by omega), Nat.mul_comm]; omega
  have g := gridPl_at w (pstep (p : Int)).2.2.1 (pstep (p : Int)).2.2.2 (pstep (p : Int)).1 (psize w h (p : Int)).1.toNat (psize w h (p : Int)).2.toNat (i / (psize w h (p : Int)).1.toNat) (i % (psize w h (p : Int)).1.toNat) (pstep (p : Int)).2.1 hj (Nat.mod_lt _ a1)
  rw [Nat.mul_comm (i / _), Nat.div_add_mod] at g
  exact (List.getElem?_eq_some_iff.1 g).2
theorem power2_bd {d : Int} (h : power2 d) : 0 ≤ d ∧ d ≤ 8 := by rcases h with rfl | rfl | rfl | rfl <;> omega
theorem spec_From_l0 {w h : Int} (hw : sideB w = true) (hh : sideB h = true) (n : Nat) (hn : 1 ≤ n ∧ n ≤ 4) (ps : List S29) (h7 : ps.length = 7) (c d : Int) (r : Nat) : ∀ (k p : Nat) (out : List Int), p + r = 7 → out.length = (w * h).toNat * n → r * 2400 + 9000 ≤ k →
    ∃ q, 8000 ≤ q ∧ spec_FromPasses.l0 k w h ps n p w h c d out = if lensB w h n ps p r = true then spec_FromPasses.l0 (q + 1) w h ps n 7 w h c d (scatAll w h n ps r p out) else some fromZ := by
  induction r with
  | zero =>
    intro k p out hp ho hk
    obtain ⟨k, rfl⟩ : ∃ m, k = m + 1 := ⟨k - 1, by omega⟩
    refine ⟨k, by omega, ?_⟩
    rw [show p = 7 from by omega, show lensB w h n ps 7 0 = true from rfl, if_pos rfl]
    rfl
  | succ r ih =>
    intro k p out hp ho hk
    have hp7 : p < 7 := by omega
    have pl := places_len hw hh p hp7
    have pb := places_bd hw hh n p hp7
    have gb := fun a ha => grid_bd hw hh (passB_nat hp7) a ha
    have hw' := (sideB_iff w).mp hw
    have hh' := (sideB_iff h).mp hh
    have wb := mul_bd (a := w) (b := h) (m := 24) (n := 24) (by omega) (by omega) (by omega) (by omega)
    have sb := psize_bd hw hh (passB_nat hp7)
    have tb := pstep_bd (passB_nat hp7)
    have nb : (placesL w h p).length * n ≤ 576 * 4 := Nat.mul_le_mul pl hn.2
    have Lb : (w * h).toNat * n ≤ 576 * 4 := Nat.mul_le_mul (by omega) hn.2
    have gl : (placesL w h p).length = (psize w h (p : Int)).1.toNat * (psize w h (p : Int)).2.toNat := by unfold placesL; rw [gridPl_len]
    have e1 : (psize w h (p : Int)).1 = (((psize w h (p : Int)).1.toNat : Nat) : Int) := (Int.toNat_of_nonneg sb.1).symm
    have e2 : (psize w h (p : Int)).2 = (((psize w h (p : Int)).2.toNat : Nat) : Int) := (Int.toNat_of_nonneg sb.2.2.1).symm
    have eab : (psize w h (p : Int)).1 * (psize w h (p : Int)).2 = (((placesL w h p).length : Nat) : Int) := by rw [gl]; push_cast; rw [← e1, ← e2]
    have el : ((placesL w h p).length : Int) * (n : Int) = (((placesL w h p).length * n : Nat) : Int) := by push_cast; rfl
    have hk1 : (placesL w h p).length * n + 2 ≤ k ∧ r * 2400 + 9000 ≤ k - (placesL w h p).length * n - 2 := by
      rw [Nat.succ_mul] at hk
      generalize r * 2400 = z at hk ⊢
      omega
    obtain ⟨K, rfl⟩ : ∃ m, k = m + (placesL w h p).length * n + 1 + 1 := ⟨k - (placesL w h p).length * n - 2, by omega⟩
    have hK : r * 2400 + 9000 ≤ K := by
      have := hk1.2
      generalize r * 2400 = z at this ⊢
      omega
    have hK2 : 9000 ≤ K := Nat.le_trans (Nat.le_add_left _ _) hK
    rw [spec_FromPasses.l0, if_pos (by omega), spec_PassSize_eq _ (by omega), Option.bind_some, spec_PassStep_eq, Option.bind_some, if_pos (by omega), if_pos (by rw [h7]; omega), eab, w64 (x := ((placesL w h p).length : Int)) (by omega) (by omega), el, w64 (by omega) (by omega), lensB_succ]
    by_cases lp : (rd_T29 ps (p : Int)).f4.length = (placesL w h p).length * n
    · have s1 := spec_From_l1 w h n (psize w h (p : Int)).1.toNat (psize w h (p : Int)).2.toNat ((w * h).toNat * n) hn (by omega) (by omega) ⟨by omega, hw'.2⟩ ps h7 p hp7 (pstep (p : Int)).1 (pstep (p : Int)).2.1 (pstep (p : Int)).2.2.1 (pstep (p : Int)).2.2.2 c d ⟨tb.1, tb.2.1⟩ ⟨tb.2.2.1, tb.2.2.2.1⟩ (power2_bd tb.2.2.2.2.1) (power2_bd tb.2.2.2.2.2.1)
        (placesL w h p) gl (fun i hi => ⟨places_at p i hi, (pb _ (List.getElem_mem hi)).1, by have := gb _ (List.getElem_mem hi); omega, (pb _ (List.getElem_mem hi)).2⟩) (by omega) lp (placesL w h p).length K 0 out (by omega) ho
      rw [Nat.zero_mul, show ((0 : Nat) : Int) = 0 from rfl, ← e1, ← e2, List.drop_zero] at s1
      rw [if_pos (by rw [lp]), s1]
      have e := scatF_len n (rd_T29 ps (p : Int)).f4 (placesL w h p) 0 out (fun a ha => by rw [ho]; exact (pb a ha).2)
      obtain ⟨q, hq, eq⟩ := ih K (p + 1) (scatF n (rd_T29 ps (p : Int)).f4 (placesL w h p) 0 out) (by omega) (by rw [e]; exact ho) hK
      refine ⟨q, hq, ?_⟩
      rw [decide_eq_true lp, Bool.true_and]
      exact eq
    · rw [if_neg (by omega), decide_eq_false lp, Bool.false_and]
      exact ⟨8000, by omega, (if_neg (by decide)).symm⟩
theorem spec_From_bad (ps qs : List S29) (i : Int) (z0 z1 z2 z3 : Int) (z4 : List Int) (k : Nat) (hk : 1 ≤ k) : spec_FromPasses.l2 k ps qs false i z0 z1 z2 z3 z4 = some fromZ := by
  obtain ⟨k, rfl⟩ : ∃ m, k = m + 1 := ⟨k - 1, by omega⟩
  rw [spec_FromPasses.l2]
  by_cases h : i < 7
  · rw [if_pos h, if_neg (by decide)]; rfl
  · rw [if_neg h, if_neg (by decide)]; rfl
theorem spec_From_l2 (ps qs : List S29) (h7 : ps.length = 7) (q7 : qs.length = 7) (hq : ∀ a ∈ qs, a.f4.length ≤ 5000) (hp : ∀ a ∈ ps, a.f4.length ≤ 9223372036854775807) (z0 z1 z2 z3 : Int) (z4 : List Int) (r : Nat) : ∀ (k i : Nat), i + r = 7 → r + 6000 ≤ k →
    spec_FromPasses.l2 k ps qs true i z0 z1 z2 z3 z4 = if rastsEq (qs.drop i) (ps.drop i) = true then some (z0, z1, z2, z3, z4, true) else some fromZ := by
  induction r with
  | zero =>
    intro k i hi hk
    obtain ⟨k, rfl⟩ : ∃ m, k = m + 1 := ⟨k - 1, by omega⟩
    rw [spec_FromPasses.l2, if_neg (by omega), if_pos rfl, List.drop_eq_nil_of_le (by omega), List.drop_eq_nil_of_le (by omega)]
    rfl
  | succ r ih =>
    intro k i hi hk
    obtain ⟨k, rfl⟩ : ∃ m, k = m + 1 := ⟨k - 1, by omega⟩
    have l1 : i < qs.length := by omega
    have l2 : i < ps.length := by omega
    have a1 := hq _ (List.getElem_mem l1)
    rw [spec_FromPasses.l2, if_pos (by omega), if_pos rfl, if_pos (by omega), if_pos (by omega), if_pos (by omega), rd_Rast qs i l1, rd_Rast ps i l2, spec_l14Same_eq _ _ (by omega) (hp _ (List.getElem_mem l2)) k (by omega), Option.bind_some, w64 (x := (i : Int) + 1) (by omega) (by omega), List.drop_eq_getElem_cons l1, List.drop_eq_getElem_cons l2]
    have st := ih k (i + 1) (by omega) (by omega)
    push_cast at st
    show _ = if (rastEq qs[i] ps[i] && rastsEq (qs.drop (i + 1)) (ps.drop (i + 1))) = true then _ else _
    cases rastEq qs[i] ps[i] with
    | true => rw [Bool.true_and]; exact st
    | false => rw [Bool.false_and, if_neg (by decide)]; exact spec_From_bad _ _ _ _ _ _ _ _ _ (by omega)
theorem spec_From_eq (w h : Int) (ps : List S29) (hsm : ∀ a ∈ ps, a.f4.length ≤ 9223372036854775807) (hln : ps.length ≤ 9223372036854775807) (k : Nat) (hk : 30000 ≤ k) : spec_FromPasses.f k w h ps = some (fromV w h ps) := by
  obtain ⟨k, rfl⟩ : ∃ m, k = m + 1 := ⟨k - 1, by omega⟩
  unfold spec_FromPasses.f fromV
  rw [spec_l12Side_eq, Option.bind_some]
  by_cases hw : sideB w = true
  · rw [if_pos hw, spec_l12Side_eq, Option.bind_some]
    by_cases hh : sideB h = true
    · rw [if_pos hh]
      by_cases h7 : ps.length = 7
      · have bd := wh_bd (c := (rd_T29 ps 0).f2) hw hh
        have cb := chan_bd (rd_T29 ps 0).f2
        rw [if_pos (by omega), if_pos (by omega), spec_DepthOk_eq _ (by omega), Option.bind_some, spec_FromPasses.j0]
        have fo := fromOut_len hw hh ps
        have fk : fromOk w h ps = (lensB w h (chan (rd_T29 ps 0).f2).toNat ps 0 7 && rasterOk w h (rd_T29 ps 0).f2 (rd_T29 ps 0).f3 (fromOut w h ps) && rastsEq (passesL w h (rd_T29 ps 0).f2 (rd_T29 ps 0).f3 (fromOut w h ps)) ps) := by
          unfold fromOk
          rw [hw, hh, decide_eq_true h7]; simp
        rw [fk]
        cases hd : dok (rd_T29 ps 0).f2 (rd_T29 ps 0).f3 with
        | false =>
          rw [show (!false) = true from rfl, if_pos rfl]
          have : rasterOk w h (rd_T29 ps 0).f2 (rd_T29 ps 0).f3 (fromOut w h ps) = false := by unfold rasterOk; rw [hd]; simp
          rw [this, Bool.and_false, Bool.false_and, if_neg (by decide)]; rfl
        | true =>
          have db := dok_bd hd
          rw [show (!true) = false from rfl, if_neg (by decide), if_pos (by omega), spec_ChannelsOf_eq k (by omega), Option.bind_some]
          unfold fromOut at *
          obtain ⟨n, hn⟩ := Int.eq_ofNat_of_zero_le cb.1
          rw [hn, Int.toNat_natCast] at fo
          have whn : w * h * (n : Int) = (((w * h).toNat * n : Nat) : Int) := by push_cast; rw [Int.toNat_of_nonneg bd.1]
          have Lb : (w * h).toNat * n ≤ 576 * 4 := Nat.mul_le_mul (by omega) (by omega)
          rw [hn, Int.toNat_natCast, w64 (x := w * h) (by omega) (by omega), whn, w64 (by omega) (by omega), if_pos (by omega), Int.toNat_natCast, if_pos (by omega)]
          obtain ⟨q, hq, e⟩ := spec_From_l0 hw hh n (by omega) ps h7 (rd_T29 ps 0).f2 (rd_T29 ps 0).f3 7 k 0 (List.replicate ((w * h).toNat * n) 0) (by omega) (by rw [List.length_replicate]) (by omega)
          rw [show ((0 : Nat) : Int) = 0 from rfl] at e
          rw [e]
          generalize scatAll w h n ps 7 0 (List.replicate ((w * h).toNat * n) 0) = out at fo ⊢
          cases hl : lensB w h n ps 0 7 with
          | false => rw [if_neg (by decide), Bool.false_and, Bool.false_and, if_neg (by decide)]
          | true =>
            rw [if_pos rfl, Bool.true_and, spec_FromPasses.l0, if_neg (by omega), spec_PassesOf_eq w h _ _ out (by omega) q (by omega) (by omega), Option.bind_some]
            cases ok : rasterOk w h (rd_T29 ps 0).f2 (rd_T29 ps 0).f3 out with
            | false =>
              rw [if_neg (by decide), Bool.false_and, if_neg (by decide)]
              exact spec_From_bad _ _ _ _ _ _ _ _ _ (by omega)
            | true =>
              have p7 : (passesL w h (rd_T29 ps 0).f2 (rd_T29 ps 0).f3 out).length = 7 := by simp [passesL]
              have st := spec_From_l2 ps _ h7 p7 (passesL_lens ok) hsm w h (rd_T29 ps 0).f2 (rd_T29 ps 0).f3 out 7 q 0 (by omega) (by omega)
              rw [show ((0 : Nat) : Int) = 0 from rfl, List.drop_zero, List.drop_zero] at st
              rw [if_pos rfl, Bool.true_and]
              show spec_FromPasses.l2 q ps _ true 0 w h _ _ out = _
              rw [st]
              split <;> rfl
      · rw [if_neg (by omega), spec_FromPasses.j0, if_pos rfl]
        have : fromOk w h ps = false := by unfold fromOk; rw [decide_eq_false h7]; simp
        rw [this]; rfl
    · rw [if_neg hh, spec_FromPasses.j0, if_pos rfl]
      have : fromOk w h ps = false := by unfold fromOk; rw [Bool.eq_false_iff.mpr hh]; simp
      rw [this]; rfl
  · rw [if_neg hw, spec_FromPasses.j0, if_pos rfl]
    have : fromOk w h ps = false := by unfold fromOk; rw [Bool.eq_false_iff.mpr hw]; simp
    rw [this]; rfl

theorem laws_markIntS_l0 (d : Nat) : ∀ (k i : Nat) (xs : List Int) (m : Int), i ≤ xs.length → xs.length - i = d → d < k → xs.length ≤ 1000000000 → 0 ≤ m → m + d ≤ 4000000000 →
    ∃ ys : List Int, laws_markIntS.l0 k xs m i = some (m + d, ys) ∧ ys.length = xs.length ∧ (∀ j : Nat, j < i → ys[j]? = xs[j]?) ∧ ∀ q, d < q → laws_heldIntS.l0 q ys m i = some (m + d) := by
  induction d with
  | zero =>
    intro k i xs m hi hd hk hx h0 hm
    obtain ⟨k, rfl⟩ : ∃ m, k = m + 1 := ⟨k - 1, by omega⟩
    refine ⟨xs, ?_, rfl, fun _ _ => rfl, fun q hq => ?_⟩
    · simp only [laws_markIntS.l0]
      rw [if_neg (by omega)]
      simp
    · obtain ⟨q, rfl⟩ : ∃ m, q = m + 1 := ⟨q - 1, by omega⟩
      simp only [laws_heldIntS.l0]
      rw [if_neg (by omega)]
      simp
  | succ d ih =>
    intro k i xs m hi hd hk hx h0 hm
    obtain ⟨k, rfl⟩ : ∃ m, k = m + 1 := ⟨k - 1, by omega⟩
    have lt : i < xs.length := by omega
    obtain ⟨ys, e1, e2, e3, e4⟩ := ih k (i + 1) (xs.set i m) (m + 1) (by simp; omega) (by simp; omega) (by omega) (by simpa using hx) (by omega) (by push_cast at hm; omega)
    refine ⟨ys, ?_, by simpa using e2, ?_, ?_⟩
    · simp only [laws_markIntS.l0]
      rw [if_pos (by omega), if_pos (by omega), w64 (x := m + 1) (by omega) (by omega), w64 (x := (i : Int) + 1) (by omega) (by omega)]
      simp only [Int.toNat_natCast]
      have e1' := e1
      push_cast at e1'
      rw [e1']
      congr 2; omega
    · intro j hj
      rw [e3 j (by omega), List.getElem?_set_ne (by omega)]
    · intro q hq
      obtain ⟨q, rfl⟩ : ∃ m, q = m + 1 := ⟨q - 1, by omega⟩
      have hl : i < ys.length := by rw [e2]; simpa using lt
      have hv : rd ys i = m := by
        rw [rd_at _ i hl]
        have := e3 i (by omega)
        rw [List.getElem?_set_self lt, List.getElem?_eq_getElem hl] at this
        exact Option.some.inj this
      simp only [laws_heldIntS.l0]
      rw [if_pos (by omega), if_pos (by omega), hv, w64 (x := m + 1) (by omega) (by omega), w64 (x := (i : Int) + 1) (by omega) (by omega)]
      simp only [if_true]
      have := e4 q (by omega)
      push_cast at this
      rw [this]
      congr 1; omega
theorem laws_mark_held_Int (xs : List Int) (hx : xs.length ≤ 1000000000) (m : Int) (h0 : 0 ≤ m) (hm : m ≤ 1000000000) (k q : Nat) (hk : xs.length < k) (hq : xs.length < q) :
    ∃ ys, laws_markIntS.f k xs m = some (m + (xs.length : Int), ys) ∧ laws_heldIntS.f q ys m = some (m + (xs.length : Int)) ∧ ys.length = xs.length := by
  obtain ⟨ys, h1, h3, _, h2⟩ := laws_markIntS_l0 xs.length k 0 xs m (by omega) (by omega) hk hx (by omega) (by omega)
  exact ⟨ys, h1, h2 q hq, h3⟩

theorem laws_toIntS_l0 (xs : List Int) (hx : xs.length ≤ 9223372036854775807) (d : Nat) : ∀ (k i : Nat) (ys : List Int), i ≤ xs.length → xs.length - i = d → d < k → ys.length = xs.length → (∀ j : Nat, j < i → ys[j]? = xs[j]?) → laws_toIntS.l0 k xs ys i = some xs := by
  induction d with
  | zero =>
    intro k i ys hi hd hk hl hy
    obtain ⟨k, rfl⟩ : ∃ m, k = m + 1 := ⟨k - 1, by omega⟩
    simp only [laws_toIntS.l0]
    rw [if_neg (by omega)]
    congr 1
    apply List.ext_getElem?
    intro j
    by_cases hj : j < i
    · exact hy j hj
    · rw [List.getElem?_eq_none (by omega), List.getElem?_eq_none (by omega)]
  | succ d ih =>
    intro k i ys hi hd hk hl hy
    obtain ⟨k, rfl⟩ : ∃ m, k = m + 1 := ⟨k - 1, by omega⟩
    have lt : i < xs.length := by omega
    simp only [laws_toIntS.l0]
    rw [if_pos (by omega), if_pos (by omega), if_pos (by omega), rd_at xs i lt, w64 (by omega) (by omega), Int.toNat_natCast]
    refine ih k (i + 1) (ys.set i xs[i]) (by omega) (by omega) (by omega) (by simpa using hl) (fun j hj => ?_)
    by_cases e : j = i
    · subst e
      rw [List.getElem?_set_self (by omega), List.getElem?_eq_getElem lt]
    · rw [List.getElem?_set_ne (by omega), hy j (by omega)]
theorem laws_toIntS_eq (xs : List Int) (hx : xs.length ≤ 1048576) (k : Nat) (hk : xs.length < k) : laws_toIntS.f k xs = some xs := by
  unfold laws_toIntS.f
  rw [if_pos (by omega), if_pos (by omega), Int.toNat_natCast]
  exact laws_toIntS_l0 xs (by omega) xs.length k 0 _ (by omega) (by omega) hk (by simp) (fun j hj => absurd hj (by omega))

theorem laws_eqIntS_l0 (xs : List Int) (hx : xs.length ≤ 9223372036854775807) (d : Nat) : ∀ (k i : Nat), i ≤ xs.length → xs.length - i = d → d < k → laws_eqIntS.l0 k xs xs i = some true := by
  induction d with
  | zero =>
    intro k i hi hd hk
    obtain ⟨k, rfl⟩ : ∃ m, k = m + 1 := ⟨k - 1, by omega⟩
    simp only [laws_eqIntS.l0]
    rw [if_neg (by omega)]
  | succ d ih =>
    intro k i hi hd hk
    obtain ⟨k, rfl⟩ : ∃ m, k = m + 1 := ⟨k - 1, by omega⟩
    simp only [laws_eqIntS.l0]
    rw [if_pos (by omega), if_pos (by omega), if_pos (by omega)]
    simp only [if_true]
    rw [w64 (by omega) (by omega)]
    exact ih k (i + 1) (by omega) (by omega) (by omega)
theorem laws_eqIntS_refl (xs : List Int) (hx : xs.length ≤ 9223372036854775807) (k : Nat) (hk : xs.length < k) : laws_eqIntS.f k xs xs = some true := by
  unfold laws_eqIntS.f
  rw [if_pos rfl]
  exact laws_eqIntS_l0 xs hx xs.length k 0 (by omega) (by omega) hk

theorem laws_szIntS_eq (xs : List Int) (hx : xs.length ≤ 9223372036854775807) (a : Int) (h0 : 0 ≤ a) (h1 : a ≤ 1048576) : laws_szIntS.f xs a = some (if a < xs.length then -1 else a - xs.length) := by
  unfold laws_szIntS.f
  rw [w64 (by omega) (by omega)]
  split
  · rw [if_pos (by omega)]
  · rw [if_neg (by omega)]

theorem laws_szRaster_eq (w h c d : Int) (xs : List Int) (hx : xs.length ≤ 9223372036854775807) (t : Int) (h0 : 0 ≤ t) (h1 : t ≤ 1048576) : laws_szRaster.f w h c d xs t = some (if t < xs.length then -1 else t - xs.length) := by
  unfold laws_szRaster.f
  rw [laws_szIntS_eq xs hx t h0 h1]
  simp only [Option.bind_some]
  by_cases hl : t < xs.length
  · rw [if_pos hl]; rfl
  · rw [if_neg hl, if_neg (by omega)]
theorem laws_toRaster_eq (w h c d : Int) (xs : List Int) (hx : xs.length ≤ 1048576) (k : Nat) (hk : xs.length < k) : laws_toRaster.f k w h c d xs = some (w, h, c, d, xs) := by
  unfold laws_toRaster.f
  rw [laws_toIntS_eq xs hx k hk]; rfl
theorem laws_eqRaster_refl (w h c d : Int) (xs : List Int) (hx : xs.length ≤ 1048576) (k : Nat) (hk : xs.length < k) : laws_eqRaster.f k w h c d xs w h c d xs = some true := by
  unfold laws_eqRaster.f
  rw [laws_eqIntS_refl xs (by omega) k hk]
  simp

def lenS (xs : List S29) : Nat := (xs.map fun x => x.f4.length).sum
theorem lenS_drop (xs : List S29) (i : Nat) (h : i < xs.length) : lenS (xs.drop i) = xs[i].f4.length + lenS (xs.drop (i + 1)) := by
  rw [List.drop_eq_getElem_cons h]; rfl
theorem drop_set_next {α : Type _} (xs : List α) (i : Nat) (v : α) : (xs.set i v).drop (i + 1) = xs.drop (i + 1) := by
  apply List.ext_getElem?
  intro j
  rw [List.getElem?_drop, List.getElem?_drop, List.getElem?_set_ne (by omega)]
theorem laws_eqRasterS_l0 (xs : List S29) (hx : xs.length ≤ 1048576) (d : Nat) : ∀ (k i : Nat), i ≤ xs.length → xs.length - i = d → lenS (xs.drop i) + d < k → lenS (xs.drop i) ≤ 1048576 → laws_eqRasterS.l0 k xs xs i = some true := by
  induction d with
  | zero =>
    intro k i hi hd hk hs
    obtain ⟨k, rfl⟩ : ∃ m, k = m + 1 := ⟨k - 1, by omega⟩
    simp only [laws_eqRasterS.l0]
    rw [if_neg (by omega)]
  | succ d ih =>
    intro k i hi hd hk hs
    obtain ⟨k, rfl⟩ : ∃ m, k = m + 1 := ⟨k - 1, by omega⟩
    have lt : i < xs.length := by omega
    have ls := lenS_drop xs i lt
    rw [ls] at hk hs
    simp only [laws_eqRasterS.l0]
    rw [if_pos (by omega), if_pos (by omega), if_pos (by omega), rd_Rast xs i lt, laws_eqRaster_refl _ _ _ _ _ (by omega) k (by omega), Option.bind_some, if_pos rfl, w64 (by omega) (by omega)]
    exact ih k (i + 1) (by omega) (by omega) (by omega) (by omega)
theorem laws_eqRasterS_refl (xs : List S29) (hx : xs.length ≤ 1048576) (hs : lenS xs ≤ 1048576) (k : Nat) (hk : lenS xs + xs.length < k) : laws_eqRasterS.f k xs xs = some true := by
  unfold laws_eqRasterS.f
  rw [if_pos rfl]
  exact laws_eqRasterS_l0 xs hx xs.length k 0 (by omega) (by omega) (by simpa using hk) (by simp only [List.drop_zero]; omega)

def toRast (x : S24) : S29 := ⟨x.f0, x.f1, x.f2, x.f3, x.f4⟩
theorem rd_LRast (xs : List S24) (i : Nat) (h : i < xs.length) : rd_T24 xs i = xs[i] := by
  simp [rd_T24, List.getD, h]
def lenL (xs : List S24) : Nat := (xs.map fun x => x.f4.length).sum
theorem lenL_drop (xs : List S24) (i : Nat) (h : i < xs.length) : lenL (xs.drop i) = xs[i].f4.length + lenL (xs.drop (i + 1)) := by
  rw [List.drop_eq_getElem_cons h]; rfl
theorem lenS_to (xs : List S24) : lenS (xs.map toRast) = lenL xs := by
  simp [lenS, lenL, toRast, Function.comp_def]
theorem laws_szRasterS_l0 (xs : List S24) (hx : xs.length ≤ 1048576) (hc : ∀ x ∈ xs, x.f4.length ≤ 9223372036854775807) (d : Nat) : ∀ (k i : Nat) (t : Int), i ≤ xs.length → xs.length - i = d → d < k → 0 ≤ t → t ≤ 1048576 →
    ∃ u, laws_szRasterS.l0 k xs t i = some u ∧ (0 ≤ u → u + lenL (xs.drop i) ≤ t) := by
  induction d with
  | zero =>
    intro k i t hi hd hk h0 h1
    obtain ⟨k, rfl⟩ : ∃ m, k = m + 1 := ⟨k - 1, by omega⟩
    simp only [laws_szRasterS.l0]
    rw [if_neg (by omega)]
    exact ⟨_, rfl, fun _ => by rw [List.drop_eq_nil_of_le (by omega)]; simp [lenL]⟩
  | succ d ih =>
    intro k i t hi hd hk h0 h1
    obtain ⟨k, rfl⟩ : ∃ m, k = m + 1 := ⟨k - 1, by omega⟩
    have lt : i < xs.length := by omega
    have c := hc _ (List.getElem_mem lt)
    simp only [laws_szRasterS.l0]
    rw [if_pos (by omega), if_pos (by omega), rd_LRast xs i lt, laws_szRaster_eq _ _ _ _ _ c t h0 h1, Option.bind_some]
    by_cases hl : t < (xs[i].f4.length : Int)
    · rw [if_pos hl, if_pos (by omega)]
      exact ⟨_, rfl, fun h => absurd h (by omega)⟩
    · rw [if_neg hl, if_neg (by omega), w64 (by omega) (by omega)]
      obtain ⟨v, e2, hv⟩ := ih k (i + 1) (t - xs[i].f4.length) (by omega) (by omega) (by omega) (by omega) (by omega)
      refine ⟨v, e2, fun h => ?_⟩
      have := hv h
      rw [lenL_drop xs i lt]
      push_cast
      omega
theorem laws_szRasterS_eq (xs : List S24) (hx : xs.length ≤ 9223372036854775807) (hc : ∀ x ∈ xs, x.f4.length ≤ 9223372036854775807) (t : Int) (h0 : 0 ≤ t) (h1 : t ≤ 1048576) (k : Nat) (hk : 1048580 ≤ k) :
    ∃ u, laws_szRasterS.f k xs t = some u ∧ (0 ≤ u → u + xs.length + lenL xs ≤ t) := by
  unfold laws_szRasterS.f
  rw [w64 (x := t - xs.length) (by omega) (by omega)]
  by_cases hl : t - (xs.length : Int) < 0
  · rw [if_pos hl]; exact ⟨_, rfl, fun h => absurd h (by omega)⟩
  · rw [if_neg hl]
    obtain ⟨u, e, hu⟩ := laws_szRasterS_l0 xs (by omega) hc xs.length k 0 (t - xs.length) (by omega) (by omega) (by omega) (by omega) (by omega)
    refine ⟨u, e, fun h => ?_⟩
    have := hu h
    simp only [List.drop_zero] at this
    omega
theorem laws_toRasterS_l0 (xs : List S24) (hx : xs.length ≤ 1048576) (hc : ∀ x ∈ xs, x.f4.length ≤ 1048576) (d : Nat) : ∀ (k i : Nat) (ys : List S29), i ≤ xs.length → xs.length - i = d → d + 1048578 < k → ys.length = xs.length → (∀ j : Nat, j < i → ys[j]? = (xs.map toRast)[j]?) → laws_toRasterS.l0 k xs ys i = some (xs.map toRast) := by
  induction d with
  | zero =>
    intro k i ys hi hd hk hl hy
    obtain ⟨k, rfl⟩ : ∃ m, k = m + 1 := ⟨k - 1, by omega⟩
    simp only [laws_toRasterS.l0]
    rw [if_neg (by omega)]
    congr 1
    apply List.ext_getElem?
    intro j
    by_cases hj : j < i
    · exact hy j hj
    · rw [List.getElem?_eq_none (by omega), List.getElem?_eq_none (by simp; omega)]
  | succ d ih =>
    intro k i ys hi hd hk hl hy
    obtain ⟨k, rfl⟩ : ∃ m, k = m + 1 := ⟨k - 1, by omega⟩
    have lt : i < xs.length := by omega
    have c := hc _ (List.getElem_mem lt)
    simp only [laws_toRasterS.l0]
    rw [if_pos (by omega), if_pos (by omega), rd_LRast xs i lt, laws_toRaster_eq _ _ _ _ _ c k (by omega), Option.bind_some]
    simp only
    rw [if_pos (by omega), w64 (by omega) (by omega), Int.toNat_natCast]
    refine ih k (i + 1) _ (by omega) (by omega) (by omega) (by simpa using hl) (fun j hj => ?_)
    by_cases e : j = i
    · subst e
      rw [List.getElem?_set_self (by omega), List.getElem?_map, List.getElem?_eq_getElem lt]
      rfl
    · rw [List.getElem?_set_ne (by omega), hy j (by omega)]
theorem laws_toRasterS_eq (xs : List S24) (hx : xs.length ≤ 1048576) (hc : ∀ x ∈ xs, x.f4.length ≤ 1048576) (k : Nat) (hk : xs.length + 1048578 < k) : laws_toRasterS.f k xs = some (xs.map toRast) := by
  unfold laws_toRasterS.f
  rw [if_pos (by omega), if_pos (by omega), Int.toNat_natCast]
  exact laws_toRasterS_l0 xs hx hc xs.length k 0 _ (by omega) (by omega) hk (by simp) (fun j hj => absurd hj (by omega))

/-- What is marked is held. -/
theorem laws_mark_held_Raster (a b c d : Int) (xs : List Int) (hx : xs.length ≤ 1000000000) (k : Nat) (hk : xs.length < k) :
    ∃ ys m, laws_markRaster.f k a b c d xs 1 = some (m, ys) ∧ 0 ≤ m ∧ ys.length = xs.length ∧ ∀ q, xs.length < q → laws_heldRaster.f q a b c d ys 1 = some m := by
  obtain ⟨ys, h1, h2, h3⟩ := laws_mark_held_Int xs hx 1 (by omega) (by omega) k (xs.length + 1) hk (by omega)
  refine ⟨ys, 1 + xs.length, ?_, by omega, h3, fun q hq => ?_⟩
  · unfold laws_markRaster.f
    rw [h1, Option.bind_some]
  · obtain ⟨zs, n1, n2, n3⟩ := laws_mark_held_Int xs hx 1 (by omega) (by omega) k q hk hq
    obtain rfl : ys = zs := by rw [h1] at n1; simpa using n1
    unfold laws_heldRaster.f
    rw [n2, Option.bind_some, if_neg (by omega)]

theorem laws_markRasterS_l0 (d : Nat) : ∀ (k i : Nat) (xs : List S29) (m : Int), i ≤ xs.length → xs.length - i = d → lenS (xs.drop i) + d < k → xs.length ≤ 1000000000 → 0 ≤ m → m + 4 * d + lenS (xs.drop i) ≤ 1000000000 →
    ∃ (ys : List S29) (r : Int), laws_markRasterS.l0 k xs m i = some (r, ys) ∧ m ≤ r ∧ ys.length = xs.length ∧ (∀ j : Nat, j < i → ys[j]? = xs[j]?) := by
  induction d with
  | zero =>
    intro k i xs m hi hd hk hx h0 hm
    obtain ⟨k, rfl⟩ : ∃ m, k = m + 1 := ⟨k - 1, by omega⟩
    refine ⟨xs, m, ?_, Int.le_refl _, rfl, fun _ _ => rfl⟩
    simp only [laws_markRasterS.l0]
    rw [if_neg (by omega)]
  | succ d ih =>
    intro k i xs m hi hd hk hx h0 hm
    obtain ⟨k, rfl⟩ : ∃ m, k = m + 1 := ⟨k - 1, by omega⟩
    have lt : i < xs.length := by omega
    have ls := lenS_drop xs i lt
    rw [ls] at hk hm
    push_cast at hm
    have g : ∀ (zs : List S29) (v : S29), i < zs.length → rd_T29 (zs.set i v) i = v := by
      intro zs v h
      rw [rd_Rast _ i (by simpa using h)]
      simp
    obtain ⟨zs, n1, n2, n3⟩ := laws_mark_held_Int xs[i].f4 (by omega) (m + 4) (by omega) (by omega) k (xs[i].f4.length + 1) (by omega) (by omega)
    have dn := drop_set_next xs i (⟨m, m + 1, m + 2, m + 3, zs⟩ : S29)
    obtain ⟨ys, r, e1, er, e2, e3⟩ := ih k (i + 1) (xs.set i ⟨m, m + 1, m + 2, m + 3, zs⟩) (m + 4 + xs[i].f4.length) (by simp; omega) (by simp; omega) (by rw [dn]; omega) (by simpa using hx) (by omega) (by rw [dn]; omega)
    refine ⟨ys, r, ?_, by omega, by simpa using e2, ?_⟩
    · simp only [laws_markRasterS.l0]
      rw [if_pos (by omega), if_pos (by omega), w64 (x := m + 1) (by omega) (by omega), w64 (x := m + 1 + 1) (by omega) (by omega), w64 (x := m + 1 + 1 + 1) (by omega) (by omega), w64 (x := m + 1 + 1 + 1 + 1) (by omega) (by omega), w64 (x := (i : Int) + 1) (by omega) (by omega)]
      simp only [Option.bind_some, Int.toNat_natCast]
      rw [g _ _ lt, g _ _ (by simpa using lt), g _ _ (by simpa using lt), g _ _ (by simpa using lt), rd_Rast xs i lt]
      simp only [List.set_set]
      rw [show m + 1 + 1 + 1 + 1 = m + 4 by omega, show m + 1 + 1 + 1 = m + 3 by omega, show m + 1 + 1 = m + 2 by omega, n1, Option.bind_some]
      have e1' := e1
      push_cast at e1'
      exact e1'
    · intro j hj
      rw [e3 j (by omega), List.getElem?_set_ne (by omega)]
theorem laws_mark_RasterS (xs : List S29) (hx : xs.length ≤ 1048576) (hs : lenS xs ≤ 1048576) (k : Nat) (hk : lenS xs + xs.length < k) :
    ∃ ys r, laws_markRasterS.f k xs 1 = some (r, ys) ∧ 1 ≤ r := by
  obtain ⟨ys, r, h1, h2, _, _⟩ := laws_markRasterS_l0 xs.length k 0 xs 1 (by omega) (by omega) (by simpa using hk) (by omega) (by omega) (by simp only [List.drop_zero]; omega)
  exact ⟨ys, r, h1, h2⟩

theorem fromV_len (w h : Int) (ps : List S29) : (fromV w h ps).2.2.2.2.1.length ≤ 100000 := by
  unfold fromV
  by_cases ok : fromOk w h ps = true
  · rw [if_pos ok]
    show (fromOut w h ps).length ≤ _
    simp only [fromOk, Bool.and_eq_true, decide_eq_true_eq] at ok
    obtain ⟨⟨⟨⟨⟨hw, hh⟩, _⟩, _⟩, _⟩, _⟩ := ok
    rw [fromOut_len hw hh]
    have hw' := (sideB_iff w).mp hw
    have hh' := (sideB_iff h).mp hh
    have wb := mul_bd (a := w) (b := h) (m := 24) (n := 24) (by omega) (by omega) (by omega) (by omega)
    have cb := chan_bd (rd_T29 ps 0).f2
    have := Nat.mul_le_mul (show (w * h).toNat ≤ 576 by omega) (show (chan (rd_T29 ps 0).f2).toNat ≤ 4 by omega)
    omega
  · rw [if_neg ok]
    simp [fromZ]
theorem FnExactFromPasses : ∀ (a0 : Int) (a1 : Int) (l2 : List S24), (Lit.int .i64 a0).wf = true → (Lit.int .i64 a1).wf = true → l2.length ≤ 9223372036854775807 → (∀ x ∈ l2, ((Lit.int .i64 x.f0).wf = true) ∧ ((Lit.int .i64 x.f1).wf = true) ∧ ((Lit.int .i64 x.f2).wf = true) ∧ ((Lit.int .i64 x.f3).wf = true) ∧ ((x.f4.length ≤ 9223372036854775807 ∧ ∀ yx ∈ x.f4, (Lit.int .i64 yx).wf = true))) → ∃ k, laws_FnExactFromPasses.f k a0 a1 l2 = some true := by
  intro w h l _ _ hl hc
  have hc1 := fun x hx => (hc x hx).2.2.2.2.1
  clear hc
  obtain ⟨k, hk⟩ : ∃ k : Nat, k = 5000000 := ⟨_, rfl⟩
  refine ⟨k, ?_⟩
  unfold laws_FnExactFromPasses.f
  obtain ⟨u, eu, hu⟩ := laws_szRasterS_eq l hl hc1 1048576 (by omega) (by omega) k (by omega)
  rw [eu, Option.bind_some]
  by_cases a : u < 0
  · rw [if_pos a]
  · rw [if_neg a]
    have hb := hu (by omega)
    have hc2 : ∀ x ∈ l, x.f4.length ≤ 1048576 := by
      intro x hx
      have : x.f4.length ≤ lenL l := by
        clear hu hb hc1 hl eu
        induction l with
        | nil => cases hx
        | cons y ys ih =>
          have e : lenL (y :: ys) = y.f4.length + lenL ys := rfl
          rcases List.mem_cons.mp hx with rfl | hx
          · omega
          · have := ih hx; omega
      omega
    have et := fun q (hq : 3000000 ≤ q) => laws_toRasterS_eq l (by omega) hc2 q (by omega)
    have el := lenS_to l
    have ml : (l.map toRast).length = l.length := List.length_map ..
    have hs : ∀ a ∈ l.map toRast, a.f4.length ≤ 9223372036854775807 := by
      intro a ha
      obtain ⟨x, hx, rfl⟩ := List.mem_map.mp ha
      exact hc1 x hx
    generalize l.map toRast = ps at et el ml hs
    have ei := fun q (hq : 3000000 ≤ q) => impl_From_eq w h ps hs (by omega) q (by omega)
    rw [et k (by omega), Option.bind_some, spec_From_eq w h ps hs (by omega) k (by omega), Option.bind_some, Option.bind_some, ei k (by omega), Option.bind_some]
    have vl := fromV_len w h ps
    generalize fromV w h ps = V at vl ei
    obtain ⟨v0, v1, v2, v3, v4, v5⟩ := V
    simp only at vl ei ⊢
    rw [laws_eqRaster_refl _ _ _ _ v4 (by omega) k (by omega), Option.bind_some, if_pos rfl]
    obtain ⟨k, rfl⟩ : ∃ m, k = m + 1 + 1 + 1 := ⟨k - 3, by omega⟩
    simp only [laws_FnExactFromPasses.j0]
    rw [if_neg (by simp), et _ (by omega), Option.bind_some, laws_eqRasterS_refl ps (by omega) (by omega) _ (by omega), Option.bind_some, if_pos rfl]
    obtain ⟨zs, r, n1, n2⟩ := laws_mark_RasterS ps (by omega) (by omega) (k + 1 + 1) (by omega)
    rw [n1, Option.bind_some]
    simp only
    rw [if_neg (by omega), laws_eqRaster_refl _ _ _ _ v4 (by omega) _ (by omega), Option.bind_some, if_pos rfl]
    simp only [laws_FnExactFromPasses.j1]
    rw [if_neg (by simp)]
    obtain ⟨ys, m, e1, e2, e3, e4⟩ := laws_mark_held_Raster v0 v1 v2 v3 v4 (by omega) (k + 1) (by omega)
    rw [e1, Option.bind_some]
    simp only
    rw [e4 (k + 1) (by omega), Option.bind_some, if_neg (by omega), if_pos rfl, et _ (by omega), Option.bind_some, ei (k + 1) (by omega), Option.bind_some]
    simp only
    rw [laws_eqRaster_refl _ _ _ _ v4 (by omega) _ (by omega), Option.bind_some, if_pos rfl]
    simp only [laws_FnExactFromPasses.j2]
    rw [if_neg (by simp), e4 k (by omega), Option.bind_some, if_neg (by omega), if_pos rfl]

end Go.Proofs.Ytajnobmnkbkkgaa.Pure
