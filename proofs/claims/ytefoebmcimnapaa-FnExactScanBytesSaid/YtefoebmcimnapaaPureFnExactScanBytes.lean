/- The law FnExactScanBytes as a statement over numbers and lists: for all numbers, the law's function returns true. -/
import Derived.Test.YtefoebmcimnapaaPFnExactScanBytesx4
set_option linter.unusedVariables false
set_option linter.unusedSimpArgs false
namespace Go.Proofs.Ytefoebmcimnapaa.Pure
open Go.RowKit Go.Proofs.Ytefoebmcimnapaa.PFnExactScanBytes Go.Proofs.YtefoebmcimnapaaW.PrintWords Go.Proofs.YtefoebmcimnapaaW.PrintLast

theorem w64 {x : Int} (h : -9223372036854775808 ≤ x) (h' : x ≤ 9223372036854775807) : wrap64 x = x := by unfold wrap64; omega
theorem wf_i64 {a : Int} (h : (Lit.int .i64 a).wf = true) : -9223372036854775808 ≤ a ∧ a ≤ 9223372036854775807 := by
  simpa [Lit.wf, IntKind.min, IntKind.max, IntKind.signed, IntKind.bits] using h
theorem wbt (s : ByteArray) (i : Int) : wrap64 (bt s i) = bt s i := w64 (by have := bt_range s i; omega) (by have := bt_range s i; omega)

def pstep (p : Int) : Int × Int × Int × Int := if p = 0 then (0, 0, 8, 8) else if p = 1 then (4, 0, 8, 8) else if p = 2 then (0, 4, 4, 8) else if p = 3 then (2, 0, 4, 4) else if p = 4 then (0, 2, 2, 4) else if p = 5 then (1, 0, 2, 2) else if p = 6 then (0, 1, 1, 2) else (0, 0, 0, 0)
def passB (p : Int) : Bool := decide (0 ≤ p) && decide (p ≤ 6)
theorem passB_iff (p : Int) : passB p = true ↔ 0 ≤ p ∧ p ≤ 6 := by simp [passB]
/-- How many of the places x, x + d, .. are below n. -/
def cnt (n x d : Int) : Int := if x < n then (n - x + d - 1) / d else 0
def power2 (d : Int) : Prop := d = 1 ∨ d = 2 ∨ d = 4 ∨ d = 8
theorem cnt_step {n x d : Int} (hd : power2 d) (h : x < n) : cnt n x d = 1 + cnt n (x + d) d := by
  unfold cnt
  rw [if_pos h]
  rcases hd with rfl | rfl | rfl | rfl <;> split <;> omega
theorem cnt_done {n x d : Int} (h : ¬ x < n) : cnt n x d = 0 := if_neg h
theorem cnt_bd {n x d : Int} (hd : power2 d) (h0 : 0 ≤ x) (hn : n ≤ 24) : 0 ≤ cnt n x d ∧ cnt n x d ≤ 24 := by
  unfold cnt
  rcases hd with rfl | rfl | rfl | rfl <;> split <;> omega
theorem pstep_bd {p : Int} (h : passB p = true) : 0 ≤ (pstep p).1 ∧ (pstep p).1 ≤ 4 ∧ 0 ≤ (pstep p).2.1 ∧ (pstep p).2.1 ≤ 4 ∧ power2 (pstep p).2.2.1 ∧ power2 (pstep p).2.2.2 ∧ (pstep p).1 ≤ (pstep p).2.2.1 ∧ (pstep p).2.1 ≤ (pstep p).2.2.2 := by
  rw [passB_iff] at h
  have : p = 0 ∨ p = 1 ∨ p = 2 ∨ p = 3 ∨ p = 4 ∨ p = 5 ∨ p = 6 := by omega
  unfold power2
  rcases this with rfl | rfl | rfl | rfl | rfl | rfl | rfl <;> decide

def sideB (n : Int) : Bool := decide (1 ≤ n) && decide (n ≤ 24)
theorem sideB_iff (n : Int) : sideB n = true ↔ 1 ≤ n ∧ n ≤ 24 := by simp [sideB]

def psize (w h p : Int) : Int × Int :=
  if sideB w && sideB h && passB p then
    if cnt w (pstep p).1 (pstep p).2.2.1 = 0 ∨ cnt h (pstep p).2.1 (pstep p).2.2.2 = 0 then (0, 0) else (cnt w (pstep p).1 (pstep p).2.2.1, cnt h (pstep p).2.1 (pstep p).2.2.2)
  else (0, 0)

def chan (c : Int) : Int := if c = 0 then 1 else if c = 3 then 1 else if c = 2 then 3 else if c = 4 then 2 else if c = 6 then 4 else 0

def smallD (d : Int) : Bool := d == 1 || d == 2 || d == 4
def bigD (d : Int) : Bool := d == 8 || d == 16
def dok (c d : Int) : Bool := if c = 0 then smallD d || bigD d else if c = 3 then smallD d || d == 8 else if c = 2 then bigD d else if c = 4 then bigD d else if c = 6 then bigD d else false
theorem some_or (a b : Bool) : (if a = true then some true else some b) = some (a || b) := by cases a <;> rfl
theorem spec_DepthOk_eq (k : Nat) (hk : 1 ≤ k) (c d : Int) : spec_DepthOk.f k c d = some (dok c d) := by
  obtain ⟨k, rfl⟩ : ∃ m, k = m + 1 := ⟨k - 1, by omega⟩
  have e : ∀ x : Bool, spec_DepthOk.j0 (k + 1) c d x = some (if c = 0 then x || bigD d else if c = 3 then x || d == 8 else if c = 2 then bigD d else if c = 4 then bigD d else if c = 6 then bigD d else false) := by
    intro x
    have h8 : (if d = 8 then some true else some (d == 16)) = some (bigD d) := by unfold bigD; by_cases h : d = 8 <;> simp [h]
    simp only [spec_DepthOk.j0, h8, some_or]
    repeat (first | rfl | split)
  simp only [spec_DepthOk.f, e, dok, smallD]
  by_cases h1 : d = 1
  · simp [h1]
  by_cases h2 : d = 2
  · simp [h2]
  · have e1 : (d == 1) = false := by simpa using h1
    have e2 : (d == 2) = false := by simpa using h2
    simp only [h1, h2, e1, e2, if_false, Bool.false_or]

def upB (n : Int) : Int := (n + 7) / 8
theorem upB_w (n : Int) (h : 0 ≤ n) (h' : n ≤ 9223372036854775800) : wrap64 (Int.tdiv (wrap64 (n + 7)) 8) = upB n := by
  unfold upB
  rw [w64 (x := n + 7) (by omega) (by omega), Int.tdiv_eq_ediv_of_nonneg (by omega), w64 (by omega) (by omega)]
theorem chan_bd (c : Int) : 0 ≤ chan c ∧ chan c ≤ 4 := by unfold chan; repeat (first | omega | split)
theorem dok_bd {c d : Int} (h : dok c d = true) : 1 ≤ d ∧ d ≤ 16 ∧ 1 ≤ chan c := by
  have hs : ∀ d : Int, smallD d = true → 1 ≤ d ∧ d ≤ 4 := by intro d h; simp [smallD] at h; omega
  have hb : ∀ d : Int, bigD d = true → 8 ≤ d ∧ d ≤ 16 := by intro d h; simp [bigD] at h; omega
  unfold dok at h
  unfold chan
  split at h
  · rename_i e; simp only [e, if_true, Bool.or_eq_true] at h ⊢
    rcases h with h | h
    · have := hs d h; omega
    · have := hb d h; omega
  · rename_i e0
    simp only [e0, if_false]
    split at h
    · rename_i e; simp only [e, if_true, Bool.or_eq_true, beq_iff_eq] at h ⊢
      rcases h with h | h
      · have := hs d h; omega
      · omega
    · rename_i e3
      simp only [e3, if_false]
      split at h
      · rename_i e; simp only [e, if_true]; have := hb d h; omega
      · rename_i e2
        simp only [e2, if_false]
        split at h
        · rename_i e; simp only [e, if_true]; have := hb d h; omega
        · rename_i e4
          simp only [e4, if_false]
          split at h
          · rename_i e; simp only [e, if_true]; have := hb d h; omega
          · cases h
theorem mul_bd {a b : Int} {m n : Int} (ha : 0 ≤ a) (ha' : a ≤ m) (hb : 0 ≤ b) (hb' : b ≤ n) : 0 ≤ a * b ∧ a * b ≤ m * n :=
  ⟨Int.mul_nonneg ha hb, Int.mul_le_mul ha' hb' hb (by omega)⟩
/-- How many bytes a row has. -/
def rowBytes (w c d : Int) : Int := if sideB w && dok c d then upB (w * chan c * d) else 0
theorem row_bd {w c d : Int} (h : sideB w = true) (h' : dok c d = true) : 0 ≤ w * chan c ∧ w * chan c ≤ 96 ∧ 0 ≤ w * chan c * d ∧ w * chan c * d ≤ 1536 := by
  rw [sideB_iff] at h
  have h2 := dok_bd h'
  have h3 := chan_bd c
  have h4 := mul_bd (a := w) (b := chan c) (m := 24) (n := 4) (by omega) (by omega) (by omega) (by omega)
  have h5 := mul_bd (a := w * chan c) (b := d) (m := 96) (n := 16) (by omega) (by omega) (by omega) (by omega)
  omega

theorem psize_bd (w h p : Int) : (0 ≤ (psize w h p).1 ∧ (psize w h p).1 ≤ 24) ∧ (0 ≤ (psize w h p).2 ∧ (psize w h p).2 ≤ 24) ∧ ((psize w h p).1 = 0 → (psize w h p).2 = 0) := by
  unfold psize
  split
  · rename_i q
    simp only [Bool.and_eq_true, sideB_iff] at q
    have b := pstep_bd q.2
    have c1 := cnt_bd (n := w) b.2.2.2.2.1 b.1 q.1.1.2
    have c2 := cnt_bd (n := h) b.2.2.2.2.2.1 b.2.2.1 q.1.2.2
    split
    · simp
    · rename_i n; exact ⟨c1, c2, fun e => absurd (Or.inl e) n⟩
  · simp
/-- The sizes of a raster's pieces. -/
def pieces (w h : Int) (lace : Bool) : List (Int × Int) := if lace then (List.range 7).map (fun (p : Nat) => psize w h p) else [(w, h)]
def pieceB (a : Int × Int) : Prop := (0 ≤ a.1 ∧ a.1 ≤ 24) ∧ (0 ≤ a.2 ∧ a.2 ≤ 24) ∧ (a.1 = 0 → a.2 = 0)
theorem pieces_bd {w h : Int} (hw : sideB w = true) (hh : sideB h = true) (lace : Bool) : ∀ a ∈ pieces w h lace, pieceB a := by
  intro a ha
  rw [sideB_iff] at hw hh
  unfold pieces at ha
  split at ha
  · obtain ⟨p, _, rfl⟩ := List.mem_map.1 ha
    exact psize_bd w h p
  · rw [List.mem_singleton.1 ha]
    exact ⟨⟨by show 0 ≤ w; omega, by show w ≤ 24; omega⟩, ⟨by show 0 ≤ h; omega, by show h ≤ 24; omega⟩, fun e => by have : w = 0 := e; omega⟩
theorem pieces_len (w h : Int) (lace : Bool) : (pieces w h lace).length ≤ 7 := by unfold pieces; split <;> simp
theorem rowBytes_bd (w c d : Int) : 0 ≤ rowBytes w c d ∧ rowBytes w c d ≤ 192 := by
  unfold rowBytes
  split
  · rename_i q
    simp only [Bool.and_eq_true] at q
    have := row_bd q.1 q.2
    unfold upB; omega
  · omega
def pieceN (c d : Int) (a : Int × Int) : Int := a.2 * (1 + rowBytes a.1 c d)
theorem pieceN_bd (c d : Int) {a : Int × Int} (h : pieceB a) : 0 ≤ pieceN c d a ∧ pieceN c d a ≤ 24 * 193 := by
  have r := rowBytes_bd a.1 c d
  exact mul_bd h.2.1.1 h.2.1.2 (by omega) (by omega)
def piecesN (c d : Int) : List (Int × Int) → Int
  | [] => 0
  | a :: r => pieceN c d a + piecesN c d r
theorem piecesN_drop (c d : Int) (xs : List (Int × Int)) (i : Nat) (h : i < xs.length) : piecesN c d (xs.drop i) = pieceN c d xs[i] + piecesN c d (xs.drop (i + 1)) := by
  rw [List.drop_eq_getElem_cons h]; rfl
def scanBytes (w h c d : Int) (lace : Bool) : Int := if sideB w && sideB h && dok c d then piecesN c d (pieces w h lace) else 0

theorem spec_l01In_eq (a b c : Int) : spec_l01In.f a b c = some (decide (b ≤ a) && decide (a ≤ c)) := by
  unfold spec_l01In.f
  by_cases h : b ≤ a <;> simp [h]

theorem spec_l12Side_eq (n : Int) : spec_l12Side.f n = some (sideB n) := by simp [spec_l12Side.f, spec_l01In_eq, sideB]

theorem spec_PassStep_eq (p : Int) : spec_PassStep.f p = some (pstep p) := by unfold spec_PassStep.f pstep; repeat (first | rfl | split)
theorem spec_l14Count_l0 {n d : Int} (hd : power2 d) (hn : n ≤ 24) (j : Nat) : ∀ (k : Nat) (m x : Int), 0 ≤ m → m ≤ x → x ≤ 100 → n - x ≤ j → j < k → spec_l14Count.l0 k n d m x = some (m + cnt n x d) := by
  induction j with
  | zero =>
    intro k m x h0 h1 h2 h3 h4
    obtain ⟨k, rfl⟩ : ∃ m, k = m + 1 := ⟨k - 1, by omega⟩
    simp only [spec_l14Count.l0]
    rw [if_neg (by omega), cnt_done (by omega), Int.add_zero]
  | succ j ih =>
    intro k m x h0 h1 h2 h3 h4
    obtain ⟨k, rfl⟩ : ∃ m, k = m + 1 := ⟨k - 1, by omega⟩
    have hd2 : 1 ≤ d ∧ d ≤ 8 := by unfold power2 at hd; omega
    simp only [spec_l14Count.l0]
    by_cases h : x < n
    · rw [if_pos h, w64 (x := m + 1) (by omega) (by omega), w64 (x := x + d) (by omega) (by omega), ih k (m + 1) (x + d) (by omega) (by omega) (by omega) (by omega) (by omega), cnt_step hd h]
      congr 1; omega
    · rw [if_neg h, cnt_done h, Int.add_zero]
theorem spec_l14Count_eq {n x d : Int} (hd : power2 d) (hn : n ≤ 24) (h0 : 0 ≤ x) (h1 : x ≤ 4) (k : Nat) (hk : 26 ≤ k) : spec_l14Count.f k n x d = some (cnt n x d) := by
  unfold spec_l14Count.f
  rw [spec_l14Count_l0 hd hn 25 k 0 x (by omega) h0 (by omega) (by omega) (by omega), Int.zero_add]
theorem spec_PassSize_eq (k : Nat) (hk : 27 ≤ k) (w h p : Int) : spec_PassSize.f k w h p = some (psize w h p) := by
  obtain ⟨k, rfl⟩ : ∃ m, k = m + 1 := ⟨k - 1, by omega⟩
  unfold spec_PassSize.f psize
  simp only [spec_l12Side_eq, spec_l01In_eq, Option.bind_some]
  change (if sideB w = true then (if sideB h = true then spec_PassSize.j0 (k + 1) w h p (!(passB p)) else spec_PassSize.j0 (k + 1) w h p true) else spec_PassSize.j0 (k + 1) w h p true) = _
  have yes : spec_PassSize.j0 (k + 1) w h p true = some (0, 0) := by simp [spec_PassSize.j0]
  rw [yes]
  by_cases hw : sideB w = true
  · by_cases hh : sideB h = true
    · by_cases hp : passB p = true
      · have b := pstep_bd hp
        have bw := (sideB_iff w).1 hw
        have bh := (sideB_iff h).1 hh
        simp only [hw, hh, hp, if_true, Bool.not_true, Bool.and_self, spec_PassSize.j0, spec_PassStep_eq, Option.bind_some]
        rw [if_neg (by decide), spec_l14Count_eq b.2.2.2.2.1 (by omega) b.1 b.2.1 k (by omega), spec_l14Count_eq b.2.2.2.2.2.1 (by omega) b.2.2.1 b.2.2.2.1 k (by omega)]
        simp only [Option.bind_some]
        by_cases h1 : cnt w (pstep p).1 (pstep p).2.2.1 = 0
        · simp [h1]
        · by_cases h2 : cnt h (pstep p).2.1 (pstep p).2.2.2 = 0
          · simp [h1, h2]
          · simp [h1, h2]
      · simp [hw, hh, hp, yes]
    · simp [hw, hh]
  · simp [hw]

theorem spec_ChannelsOf_eq (k : Nat) (hk : 1 ≤ k) (c : Int) : spec_ChannelsOf.f k c = some (chan c) := by
  obtain ⟨k, rfl⟩ : ∃ m, k = m + 1 := ⟨k - 1, by omega⟩
  simp only [spec_ChannelsOf.f, spec_ChannelsOf.j0, chan]
  by_cases h0 : c = 0
  · simp [h0]
  · by_cases h3 : c = 3
    · simp [h3]
    · simp [h0, h3]; repeat (first | split | rfl)

theorem spec_RowBytes_eq (k : Nat) (hk : 1 ≤ k) (w c d : Int) : spec_RowBytes.f k w c d = some (rowBytes w c d) := by
  unfold spec_RowBytes.f rowBytes
  simp only [spec_l12Side_eq, spec_DepthOk_eq k hk, spec_ChannelsOf_eq k hk, Option.bind_some]
  by_cases h : sideB w = true
  · by_cases h' : dok c d = true
    · have b := row_bd h h'
      rw [if_pos h, if_pos h', w64 (x := w * chan c) (by omega) (by omega), w64 (x := w * chan c * d) (by omega) (by omega), upB_w _ (by omega) (by omega)]
      simp [h, h']
    · simp [h, h']
  · simp [h]

def pieceS (a : Int × Int) : List Int := [a.1, a.2]
theorem rdL_piece (xs : List (Int × Int)) (i : Nat) (h : i < xs.length) : rd_L1 (xs.map pieceS) i = pieceS xs[i] := by
  simp [rd_L1, List.getD, h]
theorem spec_l15Sizes_l0 (w h : Int) (n : Nat) : ∀ (k p : Nat), p + n = 7 → n + 30 < k → spec_l15Sizes.l0 k w h (((List.range p).map (fun (p : Nat) => psize w h p)).map pieceS) p = some (((List.range 7).map (fun (p : Nat) => psize w h p)).map pieceS) := by
  induction n with
  | zero =>
    intro k p hp hk
    obtain ⟨k, rfl⟩ : ∃ m, k = m + 1 := ⟨k - 1, by omega⟩
    obtain rfl : p = 7 := by omega
    simp only [spec_l15Sizes.l0]
    rw [if_neg (by omega)]
  | succ n ih =>
    intro k p hp hk
    obtain ⟨k, rfl⟩ : ∃ m, k = m + 1 := ⟨k - 1, by omega⟩
    have st := ih k (p + 1) (by omega) (by omega)
    simp only [spec_l15Sizes.l0]
    rw [if_pos (by omega), spec_PassSize_eq k (by omega)]
    simp only [Option.bind_some]
    rw [if_pos (by simp; omega), w64 (x := (p : Int) + 1) (by omega) (by omega)]
    rw [List.range_succ, List.map_append, List.map_append] at st
    push_cast at st
    exact st
theorem spec_l15Sizes_eq (w h : Int) (lace : Bool) (k : Nat) (hk : 40 ≤ k) : spec_l15Sizes.f k w h lace = some ((pieces w h lace).map pieceS) := by
  unfold spec_l15Sizes.f pieces
  cases lace with
  | true => simp only [if_true]; exact spec_l15Sizes_l0 w h 7 k 0 (by omega) (by omega)
  | false => rfl
theorem spec_ScanBytes_l0 (c d : Int) (xs : List (Int × Int)) (hx : xs.length ≤ 7) (hb : ∀ a ∈ xs, pieceB a) (n : Nat) : ∀ (k i : Nat) (m : Int), i ≤ xs.length → xs.length - i = n → n + 3 < k → 0 ≤ m → m ≤ i * 4632 → spec_ScanBytes.l0 k c d m (xs.map pieceS) i = some (m + piecesN c d (xs.drop i)) := by
  induction n with
  | zero =>
    intro k i m hi hn hk h0 h1
    obtain ⟨k, rfl⟩ : ∃ m, k = m + 1 := ⟨k - 1, by omega⟩
    simp only [spec_ScanBytes.l0]
    rw [if_neg (by simp; omega), List.drop_eq_nil_of_le (by omega)]
    simp [piecesN]
  | succ n ih =>
    intro k i m hi hn hk h0 h1
    obtain ⟨k, rfl⟩ : ∃ m, k = m + 1 := ⟨k - 1, by omega⟩
    have lt : i < xs.length := by omega
    have b := hb _ (List.getElem_mem lt)
    have pb := pieceN_bd c d b
    have rb := rowBytes_bd xs[i].1 c d
    have e0 : rd (pieceS xs[i]) 0 = xs[i].1 := rfl
    have e1 : rd (pieceS xs[i]) 1 = xs[i].2 := rfl
    have el : (pieceS xs[i]).length = 2 := rfl
    simp only [spec_ScanBytes.l0]
    rw [if_pos (by simp; omega), if_pos (by omega), rdL_piece xs i lt, e0, e1, el, if_pos (by omega), w64 (x := (i : Int) + 1) (by omega) (by omega), piecesN_drop c d xs i lt]
    by_cases z : xs[i].1 > 0
    · rw [if_pos z, if_pos (by omega), spec_RowBytes_eq k (by omega)]
      simp only [Option.bind_some]
      rw [w64 (x := 1 + rowBytes xs[i].1 c d) (by omega) (by omega)]
      rw [show xs[i].2 * (1 + rowBytes xs[i].1 c d) = pieceN c d xs[i] from rfl, w64 (x := pieceN c d xs[i]) (by omega) (by omega), w64 (x := m + pieceN c d xs[i]) (by omega) (by omega)]
      have st := ih k (i + 1) (m + pieceN c d xs[i]) (by omega) (by omega) (by omega) (by omega) (by push_cast; omega)
      push_cast at st
      rw [← Int.add_assoc]
      exact st
    · rw [if_neg z]
      have z2 : pieceN c d xs[i] = 0 := by
        unfold pieceN
        rw [b.2.2 (by have := b.1.1; omega), Int.zero_mul]
      have st := ih k (i + 1) m (by omega) (by omega) (by omega) (by omega) (by push_cast; omega)
      push_cast at st
      rw [z2, Int.zero_add]
      exact st
theorem spec_ScanBytes_eq (w h c d : Int) (lace : Bool) (k : Nat) (hk : 50 ≤ k) : spec_ScanBytes.f k w h c d lace = some (scanBytes w h c d lace) := by
  obtain ⟨k, rfl⟩ : ∃ m, k = m + 1 := ⟨k - 1, by omega⟩
  have no : spec_ScanBytes.j0 (k + 1) w h c d lace true = some 0 := by simp [spec_ScanBytes.j0]
  unfold spec_ScanBytes.f scanBytes
  rw [spec_l12Side_eq, spec_l12Side_eq, spec_DepthOk_eq _ (by omega)]
  simp only [Option.bind_some]
  cases hw : sideB w with
  | false => simp [no]
  | true =>
    cases hh : sideB h with
    | false => simp [no]
    | true =>
      cases hd : dok c d with
      | false => simp [no]
      | true =>
        simp only [if_true, Bool.not_true, Bool.and_self, spec_ScanBytes.j0, Bool.false_eq_true, if_false]
        rw [spec_l15Sizes_eq w h lace k (by omega)]
        simp only [Option.bind_some]
        have R := spec_ScanBytes_l0 c d (pieces w h lace) (pieces_len w h lace) (pieces_bd hw hh lace) (pieces w h lace).length k 0 0 (by omega) (by omega) (by have := pieces_len w h lace; omega) (by omega) (by omega)
        simpa using R

theorem impl_within_eq (a b c : Int) : impl_within.f a b c = some (decide (b ≤ a) && decide (a ≤ c)) := by
  unfold impl_within.f
  by_cases h : b ≤ a <;> simp [h]

theorem impl_isSide_eq (n : Int) : impl_isSide.f n = some (sideB n) := by simp [impl_isSide.f, impl_within_eq, sideB]

theorem impl_PassStep_eq (p : Int) : impl_PassStep.f p = some (pstep p) := by unfold impl_PassStep.f pstep; repeat (first | rfl | split)
theorem cnt_quot {n x d : Int} (hd : power2 d) (h0 : 0 ≤ x) (h1 : x ≤ 4) (h2 : x ≤ d) (hn : 1 ≤ n) (hn' : n ≤ 24) : wrap64 (Int.tdiv (wrap64 (wrap64 (wrap64 (n - x) + d) - 1)) d) = (n - x + d - 1) / d ∧ (cnt n x d = 0 ↔ (n - x + d - 1) / d < 1) ∧ (cnt n x d ≠ 0 → cnt n x d = (n - x + d - 1) / d) := by
  have hd2 : 1 ≤ d ∧ d ≤ 8 := by unfold power2 at hd; omega
  rw [w64 (x := n - x) (by omega) (by omega), w64 (x := n - x + d) (by omega) (by omega), w64 (x := n - x + d - 1) (by omega) (by omega), Int.tdiv_eq_ediv_of_nonneg (by omega)]
  have q : 0 ≤ (n - x + d - 1) / d ∧ (n - x + d - 1) / d ≤ 40 := by rcases hd with rfl | rfl | rfl | rfl <;> omega
  refine ⟨w64 (by omega) (by omega), ?_, ?_⟩
  · unfold cnt
    rcases hd with rfl | rfl | rfl | rfl <;> split <;> omega
  · unfold cnt
    split
    · intro _; rfl
    · intro h; exact absurd rfl h
theorem impl_PassSize_eq (k : Nat) (hk : 1 ≤ k) (w h p : Int) : impl_PassSize.f k w h p = some (psize w h p) := by
  obtain ⟨k, rfl⟩ : ∃ m, k = m + 1 := ⟨k - 1, by omega⟩
  unfold impl_PassSize.f psize
  simp only [impl_isSide_eq, impl_within_eq, Option.bind_some]
  change (if sideB w = true then (if sideB h = true then impl_PassSize.j0 (k + 1) w h p (!(passB p)) else impl_PassSize.j0 (k + 1) w h p true) else impl_PassSize.j0 (k + 1) w h p true) = _
  have yes : impl_PassSize.j0 (k + 1) w h p true = some (0, 0) := by simp [impl_PassSize.j0]
  rw [yes]
  by_cases hw : sideB w = true
  · by_cases hh : sideB h = true
    · by_cases hp : passB p = true
      · have b := pstep_bd hp
        have bw := (sideB_iff w).1 hw
        have bh := (sideB_iff h).1 hh
        have q1 := cnt_quot (n := w) b.2.2.2.2.1 b.1 b.2.1 b.2.2.2.2.2.2.1 bw.1 bw.2
        have q2 := cnt_quot (n := h) b.2.2.2.2.2.1 b.2.2.1 b.2.2.2.1 b.2.2.2.2.2.2.2 bh.1 bh.2
        have n1 : (pstep p).2.2.1 ≠ 0 := by have := b.2.2.2.2.1; unfold power2 at this; omega
        have n2 : (pstep p).2.2.2 ≠ 0 := by have := b.2.2.2.2.2.1; unfold power2 at this; omega
        simp only [hw, hh, hp, if_true, Bool.not_true, Bool.and_self, impl_PassSize.j0, impl_PassStep_eq, Option.bind_some]
        rw [if_neg (by decide), if_neg n1, if_neg n2, q1.1, q2.1]
        by_cases h1 : cnt w (pstep p).1 (pstep p).2.2.1 = 0
        · rw [if_pos (q1.2.1.1 h1), if_pos (.inl h1)]
        · rw [if_neg (fun c => h1 (q1.2.1.2 c))]
          by_cases h2 : cnt h (pstep p).2.1 (pstep p).2.2.2 = 0
          · rw [if_pos (q2.2.1.1 h2), if_pos (.inr h2)]
          · rw [if_neg (fun c => h2 (q2.2.1.2 c)), if_neg (by omega), q1.2.2 h1, q2.2.2 h2]
      · simp [hw, hh, hp, yes]
    · simp [hw, hh]
  · simp [hw]

theorem impl_ChannelsOf_eq (k : Nat) (hk : 1 ≤ k) (c : Int) : impl_ChannelsOf.f k c = some (chan c) := by
  obtain ⟨k, rfl⟩ : ∃ m, k = m + 1 := ⟨k - 1, by omega⟩
  simp only [impl_ChannelsOf.f, impl_ChannelsOf.j0, chan]
  by_cases h0 : c = 0
  · simp [h0]
  · by_cases h3 : c = 3
    · simp [h3]
    · by_cases h2 : c = 2
      · simp [h2]
      · by_cases h4 : c = 4
        · simp [h4]
        · simp [h0, h3, h2, h4]; repeat (first | split | rfl)

theorem impl_isDepth_eq (d : Int) : impl_isDepth.f d = some (smallD d || bigD d) := by
  simp only [impl_isDepth.f, smallD, bigD]
  by_cases h1 : d = 1
  · simp [h1]
  by_cases h2 : d = 2
  · simp [h2]
  by_cases h4 : d = 4
  · simp [h4]
  by_cases h8 : d = 8
  · simp [h8]
  · have e1 : (d == 1) = false := by simpa using h1
    have e2 : (d == 2) = false := by simpa using h2
    have e4 : (d == 4) = false := by simpa using h4
    have e8 : (d == 8) = false := by simpa using h8
    simp only [h1, h2, h4, h8, e1, e2, e4, e8, if_false, Bool.false_or]

theorem impl_DepthOk_eq (k : Nat) (hk : 1 ≤ k) (c d : Int) : impl_DepthOk.f k c d = some (dok c d) := by
  have h8 : (if d = 8 then some true else some (d == 16)) = some (bigD d) := by unfold bigD; by_cases h : d = 8 <;> simp [h]
  simp only [impl_DepthOk.f, impl_isDepth_eq, impl_ChannelsOf_eq k hk, Option.bind_some, dok, h8]
  by_cases h0 : c = 0
  · simp [h0]
  by_cases h3 : c = 3
  · subst h3
    simp only [show ¬ ((3 : Int) = 0) by decide, if_true, if_false]
    unfold smallD bigD
    by_cases h1 : d = 1
    · simp [h1]
    by_cases h2 : d = 2
    · simp [h2]
    by_cases h4 : d = 4
    · simp [h4]
    by_cases h8 : d = 8
    · simp [h8]
    by_cases h16 : d = 16
    · simp [h16]
    · simp [h1, h2, h4, h8, h16]
  · simp only [h0, h3, chan, if_false]
    by_cases h2 : c = 2
    · simp [h2]
    by_cases h4 : c = 4
    · simp [h4]
    by_cases h6 : c = 6
    · simp [h6]
    · simp [h2, h4, h6]

theorem impl_up_eq (n : Int) (h : 0 ≤ n) (h' : n ≤ 9223372036854775800) : impl_up.f n = some (upB n) := by unfold impl_up.f; rw [upB_w n h h']
theorem impl_RowBytes_eq (k : Nat) (hk : 2 ≤ k) (w c d : Int) : impl_RowBytes.f k w c d = some (rowBytes w c d) := by
  obtain ⟨k, rfl⟩ : ∃ m, k = m + 2 := ⟨k - 2, by omega⟩
  unfold impl_RowBytes.f rowBytes
  simp only [impl_isSide_eq, impl_DepthOk_eq (k + 2) (by omega), Option.bind_some]
  by_cases h : sideB w = true
  · by_cases h' : dok c d = true
    · have b := row_bd h h'
      simp only [h, h', if_true, Bool.not_true, Bool.and_self, impl_RowBytes.j0]
      rw [if_neg (by decide), impl_ChannelsOf_eq (k + 1) (by omega)]
      simp only [Option.bind_some]
      rw [w64 (x := w * chan c) (by omega) (by omega), w64 (x := w * chan c * d) (by omega) (by omega), impl_up_eq _ (by omega) (by omega)]
      rfl
    · simp [h, h', impl_RowBytes.j0]
  · simp [h, impl_RowBytes.j0]

def pieceI (a : Int × Int) : S108 := ⟨a.1, a.2⟩
theorem rd_piece (xs : List (Int × Int)) (i : Nat) (h : i < xs.length) : rd_T108 (xs.map pieceI) i = pieceI xs[i] := by
  simp [rd_T108, List.getD, h]
theorem impl_piecesOf_l0 (w h : Int) (n : Nat) : ∀ (k p : Nat), p + n = 7 → n + 2 < k → impl_piecesOf.l0 k w h (((List.range p).map (fun (p : Nat) => psize w h p)).map pieceI) p = some (((List.range 7).map (fun (p : Nat) => psize w h p)).map pieceI) := by
  induction n with
  | zero =>
    intro k p hp hk
    obtain ⟨k, rfl⟩ : ∃ m, k = m + 1 := ⟨k - 1, by omega⟩
    obtain rfl : p = 7 := by omega
    simp only [impl_piecesOf.l0]
    rw [if_neg (by omega)]
  | succ n ih =>
    intro k p hp hk
    obtain ⟨k, rfl⟩ : ∃ m, k = m + 1 := ⟨k - 1, by omega⟩
    have st := ih k (p + 1) (by omega) (by omega)
    simp only [impl_piecesOf.l0]
    rw [if_pos (by omega), impl_PassSize_eq k (by omega)]
    simp only [Option.bind_some]
    rw [if_pos (by simp; omega), w64 (x := (p : Int) + 1) (by omega) (by omega)]
    rw [List.range_succ, List.map_append, List.map_append] at st
    push_cast at st
    exact st
theorem impl_piecesOf_eq (w h : Int) (lace : Bool) (k : Nat) (hk : 10 ≤ k) : impl_piecesOf.f k w h lace = some ((pieces w h lace).map pieceI) := by
  unfold impl_piecesOf.f pieces
  cases lace with
  | true => simp only [if_true]; exact impl_piecesOf_l0 w h 7 k 0 (by omega) (by omega)
  | false => rfl
theorem impl_ScanBytes_l0 (c d : Int) (xs : List (Int × Int)) (hx : xs.length ≤ 7) (hb : ∀ a ∈ xs, pieceB a) (n : Nat) : ∀ (k i : Nat) (m : Int), i ≤ xs.length → xs.length - i = n → n + 3 < k → 0 ≤ m → m ≤ i * 4632 → impl_ScanBytes.l0 k c d m (xs.map pieceI) xs.length i = some (m + piecesN c d (xs.drop i)) := by
  induction n with
  | zero =>
    intro k i m hi hn hk h0 h1
    obtain ⟨k, rfl⟩ : ∃ m, k = m + 1 := ⟨k - 1, by omega⟩
    simp only [impl_ScanBytes.l0]
    rw [if_neg (by omega), List.drop_eq_nil_of_le (by omega)]
    simp [piecesN]
  | succ n ih =>
    intro k i m hi hn hk h0 h1
    obtain ⟨k, rfl⟩ : ∃ m, k = m + 1 := ⟨k - 1, by omega⟩
    have lt : i < xs.length := by omega
    have b := hb _ (List.getElem_mem lt)
    have pb := pieceN_bd c d b
    have rb := rowBytes_bd xs[i].1 c d
    simp only [impl_ScanBytes.l0]
    rw [if_pos (by omega), if_pos (by omega), if_pos (by simp; omega), rd_piece xs i lt, impl_RowBytes_eq k (by omega)]
    simp only [Option.bind_some, pieceI]
    rw [w64 (x := 1 + rowBytes xs[i].1 c d) (by omega) (by omega)]
    rw [show xs[i].2 * (1 + rowBytes xs[i].1 c d) = pieceN c d xs[i] from rfl, w64 (x := pieceN c d xs[i]) (by omega) (by omega), w64 (x := m + pieceN c d xs[i]) (by omega) (by omega), w64 (x := (i : Int) + 1) (by omega) (by omega), piecesN_drop c d xs i lt]
    have st := ih k (i + 1) (m + pieceN c d xs[i]) (by omega) (by omega) (by omega) (by omega) (by push_cast; omega)
    push_cast at st
    rw [← Int.add_assoc]
    exact st
theorem impl_ScanBytes_eq (w h c d : Int) (lace : Bool) (k : Nat) (hk : 30 ≤ k) : impl_ScanBytes.f k w h c d lace = some (scanBytes w h c d lace) := by
  obtain ⟨k, rfl⟩ : ∃ m, k = m + 1 := ⟨k - 1, by omega⟩
  have no : impl_ScanBytes.j0 (k + 1) w h c d lace true = some 0 := by simp [impl_ScanBytes.j0]
  unfold impl_ScanBytes.f scanBytes
  rw [impl_isSide_eq, impl_isSide_eq, impl_DepthOk_eq _ (by omega)]
  simp only [Option.bind_some]
  cases hw : sideB w with
  | false => simp [no]
  | true =>
    cases hh : sideB h with
    | false => simp [no]
    | true =>
      cases hd : dok c d with
      | false => simp [no]
      | true =>
        simp only [if_true, Bool.not_true, Bool.and_self, impl_ScanBytes.j0, Bool.false_eq_true, if_false]
        rw [impl_piecesOf_eq w h lace k (by omega)]
        simp only [Option.bind_some]
        have R := impl_ScanBytes_l0 c d (pieces w h lace) (pieces_len w h lace) (pieces_bd hw hh lace) (pieces w h lace).length k 0 0 (by omega) (by omega) (by have := pieces_len w h lace; omega) (by omega) (by omega)
        rw [List.length_map]
        simpa using R

theorem FnExactScanBytes : laws_FnExactScanBytes.Pure := by
  intro w h c d lace _ _ _ _
  refine ⟨60, ?_⟩
  unfold laws_FnExactScanBytes.f
  rw [spec_ScanBytes_eq w h c d lace 60 (by omega), impl_ScanBytes_eq w h c d lace 60 (by omega)]
  simp

end Go.Proofs.Ytefoebmcimnapaa.Pure
