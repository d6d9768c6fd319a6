/- Walks of functions that the law FnScans reaches: each call comes to what the Lean function of its name tells. Written by p2.py, a program of this session, by way of the kit's print. -/
import Derived.Test.YtajnobmnkbkkgaaVFnScans
import Derived.Test.YtajnobmnkbkkgaaPFnScansx0
namespace Go.Proofs.Ytajnobmnkbkkgaa.PFnScans
open Go.RowKit Go.Proofs.YtajnobmnkbkkgaaW.PrintWords Go.Proofs.YtajnobmnkbkkgaaW.PrintLast Go.Proofs.YtajnobmnkbkkgaaW.PrintMore
attribute [local go_sem] max2_int min2_int max_two min_two max_three min_three max_four min_four   -- for this text's walks alone
set_option linter.unusedVariables false
set_option linter.unusedSimpArgs false

/-! ### laws_big: function 21 -/
def laws_big.f (l0 : List Int) : Option (Bool) := some (decide ((l0.length : Int) > 1048576))
set_option maxHeartbeats 8000000 in
set_option maxRecDepth 100000 in
theorem laws_big.calls (A0 : Option Addr) (c0 : Nat) (l0 : List Int) (r : Bool) (w : World) (hr0 : Kd.C (Kd.int .u8) w A0 l0.length l0) (hc0 : l0.length ≤ c0) (h : laws_big.f l0 = some r) :
 Calls Try.prog 21 #[.slice A0 l0.length c0] w fun e w' => e = .returned (.bool r) ∧ Drawn0 w w' := by
 have HR0 := aM hr0; have HC0 := aM hc0; clear hr0 hc0; have H : (some (decide ((l0.length : Int) > 1048576))) = some r := h; clear h; obtain rfl := Option.some.inj H; go_enter Try.func21, Try.ntmps21; go_wp2; go_ret; exact ⟨eQ, dQ⟩

/-- A state of type 162 at block g of W; what its slices lead to came in by w0. -/
def IsS162 (w0 W : World) (g : Nat) (f0 : List Int) (f1 : Int) (f2 : Int) : Prop := ∃ A0 c0, W.heap[g]? = some (.cells #[.slice A0 f0.length c0, .int .i64 f1, .int .i64 f2] 162 (0, 0)) ∧ w0.heap.size ≤ g ∧ Kd.C (Kd.int .u8) w0 A0 f0.length f0
theorem IsS162.grown {w0 W : World} {g : Nat} {f0 : List Int} {f1 : Int} {f2 : Int} {W1 : World} {row : Option Nat} (h : IsS162 w0 W g f0 f1 f2) (hw : W.grownBy W1 row) (hne : some g ≠ row) : IsS162 w0 W1 g f0 f1 f2 := by
  obtain ⟨A0, c0, hb, hg, hr0⟩ := h
  exact ⟨A0, c0, blk_grown hb hw hne, hg, hr0⟩
theorem IsS162.own_neN {w0 W : World} {g : Nat} {f0 : List Int} {f1 : Int} {f2 : Int} {α : Type} {d : Kd α} {e : Nat} {base : Nat} {ok : Nat → Prop} {v : Value} {xs : List α} (h : IsS162 w0 W g f0 f1 f2) (ho : Kd.N d e W base ok v xs) (ht : e ≠ 162) : some g ≠ v.ownBlock := by
  obtain ⟨A0, c0, hb, hg, hr0⟩ := h
  exact Kd.N_ne ho hb ht
theorem IsS162.fresh {w0 W : World} {g : Nat} {f0 : List Int} {f1 : Int} {f2 : Int} (h : IsS162 w0 W g f0 f1 f2) : ∀ k, W.heap.size ≤ k → k ≠ g := by
  obtain ⟨A0, c0, hb, hg, hr0⟩ := h
  exact Kd.freshB hb
theorem IsS162.kept {w0 W : World} {g : Nat} {f0 : List Int} {f1 : Int} {f2 : Int} {W1 : World} {S : Nat → Prop} (h : IsS162 w0 W g f0 f1 f2) (hk : Kept W W1 S) (hne : ¬ S g) : IsS162 w0 W1 g f0 f1 f2 := by
  obtain ⟨A0, c0, hb, hg, hr0⟩ := h
  exact ⟨A0, c0, blk_kept hb hk hne, hg, hr0⟩
theorem IsS162.below {w0 W : World} {g : Nat} {f0 : List Int} {f1 : Int} {f2 : Int} {W1 : World} (h : IsS162 w0 W g f0 f1 f2) (hw : Below W.heap.size W W1) : IsS162 w0 W1 g f0 f1 f2 := h.grown (grown_of_below hw none) (by simp)
theorem IsS162.alloc {w0 W : World} {g : Nat} {f0 : List Int} {f1 : Int} {f2 : Int} (h : IsS162 w0 W g f0 f1 f2) (o : Obj) : IsS162 w0 (W.alloc o) g f0 f1 f2 := h.below (below_alloc (Below.refl _ _) o)
theorem IsS162.drewN {w0 W : World} {g : Nat} {f0 : List Int} {f1 : Int} {f2 : Int} (h : IsS162 w0 W g f0 f1 f2) (m : Nat) : IsS162 w0 (W.drewN m) g f0 f1 f2 := h
theorem IsS162.drew {w0 W : World} {g : Nat} {f0 : List Int} {f1 : Int} {f2 : Int} (h : IsS162 w0 W g f0 f1 f2) : IsS162 w0 W.drew g f0 f1 f2 := h
theorem IsS162.at_ {w0 W : World} {g : Nat} {f0 : List Int} {f1 : Int} {f2 : Int} {w' : World} {m : Nat} (hq : W.drewN m = w') (h : IsS162 w0 W g f0 f1 f2) : IsS162 w0 w' g f0 f1 f2 := by subst hq; exact IsS162.drewN h m
theorem IsS162.apart {w0 W : World} {g : Nat} {f0 : List Int} {f1 : Int} {f2 : Int} {α : Type} {d : Kd α} {e : Nat} {base : Nat} {ok : Nat → Prop} {v : Value} {xs : List α} (h : IsS162 w0 W g f0 f1 f2) (ho : d.R e W base ok v xs) (ht : ∀ q, q ∈ e :: d.E → q ≠ 162) : d.R e W base (fun k => ok k ∧ k ≠ g) v xs := by
  obtain ⟨A0, c0, hb, hg, hr0⟩ := h
  exact Kd.R_types ho hb ht
theorem IsS162.own_ne {w0 W : World} {g : Nat} {f0 : List Int} {f1 : Int} {f2 : Int} {α : Type} {d : Kd α} {e : Nat} {base : Nat} {ok : Nat → Prop} {v : Value} {xs : List α} (h : IsS162 w0 W g f0 f1 f2) (ho : d.R e W base ok v xs) (ht : e ≠ 162) : some g ≠ v.ownBlock := by
  obtain ⟨A0, c0, hb, hg, hr0⟩ := h
  exact Kd.R_ne ho hb ht
theorem IsS162.apartQ {w0 W : World} {g : Nat} {f0 : List Int} {f1 : Int} {f2 : Int} {α : Type} {d : Kd α} {e : Nat} {base : Nat} {ok : Nat → Prop} {v : Value} {xs : List α} (h : IsS162 w0 W g f0 f1 f2) (ho : d.Q e W base ok v xs) (ht : ∀ q, q ∈ e :: d.E → q ≠ 162) : d.Q e W base (fun k => ok k ∧ k ≠ g) v xs := by
  obtain ⟨A0, c0, hb, hg, hr0⟩ := h
  exact Kd.Q_types ho hb ht
theorem IsS162.own_neQ {w0 W : World} {g : Nat} {f0 : List Int} {f1 : Int} {f2 : Int} {α : Type} {d : Kd α} {e : Nat} {base : Nat} {ok : Nat → Prop} {v : Value} {xs : List α} (h : IsS162 w0 W g f0 f1 f2) (ho : d.Q e W base ok v xs) (ht : e ≠ 162) : some g ≠ v.ownBlock := by
  obtain ⟨A0, c0, hb, hg, hr0⟩ := h
  exact Kd.Q_ne ho hb ht
theorem IsS162.apartS {w0 W : World} {g : Nat} {f0 : List Int} {f1 : Int} {f2 : Int} {α : Type} {d : Kd α} {e : Nat} {base : Nat} {ok : Nat → Prop} {v : Value} {xs : List α} (h : IsS162 w0 W g f0 f1 f2) (ho : d.S e W base ok v xs) (ht : ∀ q, q ∈ e :: d.E → q ≠ 162) : d.S e W base (fun k => ok k ∧ k ≠ g) v xs := by
  obtain ⟨A0, c0, hb, hg, hr0⟩ := h
  exact Kd.S_types ho hb ht
theorem IsS162.own_neS {w0 W : World} {g : Nat} {f0 : List Int} {f1 : Int} {f2 : Int} {α : Type} {d : Kd α} {e : Nat} {base : Nat} {ok : Nat → Prop} {v : Value} {xs : List α} (h : IsS162 w0 W g f0 f1 f2) (ho : d.S e W base ok v xs) (ht : e ≠ 162) : some g ≠ v.ownBlock := by
  obtain ⟨A0, c0, hb, hg, hr0⟩ := h
  exact Kd.S_ne ho hb ht
theorem IsS162.lt {w0 W : World} {g : Nat} {f0 : List Int} {f1 : Int} {f2 : Int} (h : IsS162 w0 W g f0 f1 f2) : g < W.heap.size := by
  obtain ⟨A0, c0, hb, hg, hr0⟩ := h
  exact blk_lt hb
theorem IsS162.ge {w0 W : World} {g : Nat} {f0 : List Int} {f1 : Int} {f2 : Int} (h : IsS162 w0 W g f0 f1 f2) : w0.heap.size ≤ g := by
  obtain ⟨A0, c0, hb, hg, hr0⟩ := h
  exact hg
theorem IsS162.ne_blk {w0 W : World} {g : Nat} {f0 : List Int} {f1 : Int} {f2 : Int} {a : Nat} {cs : Array Value} {t : TypeId} {fr : Nat × Nat} (h : IsS162 w0 W g f0 f1 f2) (hb2 : W.heap[a]? = some (.cells cs t fr)) (ht : t ≠ 162) : g ≠ a := by
  obtain ⟨A0, c0, hb, hg, hr0⟩ := h
  rintro rfl
  rw [hb] at hb2
  injection hb2 with hb2
  injection hb2 with _ ht2
  exact ht ht2.symm
theorem IsS162.far {w0 W : World} {g : Nat} {f0 : List Int} {f1 : Int} {f2 : Int} {p : Addr} (h : IsS162 w0 W g f0 f1 f2) (hne : g ≠ p.block) (u : Value) : IsS162 w0 (W.setCell p u) g f0 f1 f2 := by
  obtain ⟨A0, c0, hb, hg, hr0⟩ := h
  exact ⟨A0, c0, blk_far hb hne u, hg, hr0⟩
theorem cellS162_0 {W : World} {g : Nat} {A0 : Option Addr} {c0 : Nat} {f0 : List Int} {f1 : Int} {f2 : Int} (h : W.heap[g]? = some (.cells #[.slice A0 f0.length c0, .int .i64 f1, .int .i64 f2] 162 (0, 0))) : W.cell? ⟨g, 0, none⟩ = some (.slice A0 f0.length c0) := (blk_cell h 0).trans rfl
theorem cellS162_1 {W : World} {g : Nat} {A0 : Option Addr} {c0 : Nat} {f0 : List Int} {f1 : Int} {f2 : Int} (h : W.heap[g]? = some (.cells #[.slice A0 f0.length c0, .int .i64 f1, .int .i64 f2] 162 (0, 0))) : W.cell? ⟨g, 1, none⟩ = some (.int .i64 f1) := (blk_cell h 1).trans rfl
theorem IsS162.set_1 {w0 W : World} {g : Nat} {f0 : List Int} {f1 : Int} {f2 : Int} (h : IsS162 w0 W g f0 f1 f2) (x : Int) : IsS162 w0 (W.setCell ⟨g, 1, none⟩ (.int .i64 x)) g f0 x f2 := by
  obtain ⟨A0, c0, hb, hg, hr0⟩ := h
  exact ⟨A0, c0, by simpa using blk_set hb 1 (.int .i64 x), hg, hr0⟩
theorem cellS162_2 {W : World} {g : Nat} {A0 : Option Addr} {c0 : Nat} {f0 : List Int} {f1 : Int} {f2 : Int} (h : W.heap[g]? = some (.cells #[.slice A0 f0.length c0, .int .i64 f1, .int .i64 f2] 162 (0, 0))) : W.cell? ⟨g, 2, none⟩ = some (.int .i64 f2) := (blk_cell h 2).trans rfl
theorem IsS162.set_2 {w0 W : World} {g : Nat} {f0 : List Int} {f1 : Int} {f2 : Int} (h : IsS162 w0 W g f0 f1 f2) (x : Int) : IsS162 w0 (W.setCell ⟨g, 2, none⟩ (.int .i64 x)) g f0 f1 x := by
  obtain ⟨A0, c0, hb, hg, hr0⟩ := h
  exact ⟨A0, c0, by simpa using blk_set hb 2 (.int .i64 x), hg, hr0⟩
theorem IsS162.new (w0 W : World) (A0 : Option Addr) (c0 : Nat) (f0 : List Int) (f1 : Int) (f2 : Int) (hB : Below w0.heap.size w0 W) (hr0 : Kd.C (Kd.int .u8) w0 A0 f0.length f0) : IsS162 w0 (W.alloc (.cells #[.slice A0 f0.length c0, .int .i64 f1, .int .i64 f2] 162)) W.heap.size f0 f1 f2 := ⟨A0, c0, by simpa using heap_alloc_new W _, hB.size, hr0⟩

/-! ### spec_l01New: function 72 -/
def spec_l01New.l0 : Nat → List Int → Int → Int → Option (List Int × Int × Int)
  | 0, _, _, _ => none
  | k + 1, x0, x3, x4 => if x4 < (x0.length : Int) then (if x4 < 4000 then (if 0 ≤ x4 then (spec_l01New.l0 k x0 (Go.bits .and .i64 (wrap64 ((wrap64 ((wrap64 (x3 * 131)) + (wrap64 (rd x0 x4)))) + 7)) 1073741823) (wrap64 (x4 + 1))) else (none)) else (some (x0, 0, x3))) else (some (x0, 0, x3))
def spec_l01New.f (k : Nat) (l0 : List Int) : Option (List Int × Int × Int) := spec_l01New.l0 k l0 (wrap64 (99099 + (l0.length : Int))) 0
set_option maxHeartbeats 8000000 in
set_option maxRecDepth 100000 in
theorem spec_l01New.calls (k : Nat) (A0 : Option Addr) (c0 : Nat) (l0 : List Int) (r1 : List Int) (r2 : Int) (r3 : Int) (w0 w : World) (hB : Below w0.heap.size w0 w) (hr0 : Kd.C (Kd.int .u8) w0 A0 l0.length l0) (hc0 : l0.length ≤ c0) (h : spec_l01New.f k l0 = some (r1, r2, r3)) :
 Calls Try.prog 72 #[.slice A0 l0.length c0] w fun e w' => ∃ g_ : Nat, e = .returned (.pointer (some ⟨g_, 0, none⟩)) ∧ IsS162 w0 w' g_ r1 r2 r3 ∧ Below w0.heap.size w0 w' ∧ Below w.heap.size w w' := by
 have hu162 := Try.underlying162; have HR0 := aM hr0; have HC0 := aM hc0; clear hr0 hc0; have HBW := aM (Below.refl w.heap.size w); have HW0 := aM hB.size; have HB := aM hB; clear hB; have H : (spec_l01New.l0 k l0 (wrap64 (99099 + (l0.length : Int))) 0) = some (r1, r2, r3) := h; clear h; revert H; refine adR fun H' => ?_; go_enter Try.func72, Try.ntmps72; go_wp2
 go_loopg [3, 4] k (fun kq v3 v4 w' => ∃ (x3_1 : Int) (x4_1 : Int), v3 = .int .i64 x3_1 ∧ v4 = .int .i64 x4_1 ∧ Aside0 (spec_l01New.l0 kq l0 x3_1 x4_1 = some (r1, r2, r3)) ∧ Aside0 (kq ≤ k) ∧ Aside0 (Below w0.heap.size w0 w') ∧ Aside0 (Below w.heap.size w w'))
 case atStart => exact ⟨(wrap64 (99099 + (l0.length : Int))), (0), eQ, eQ, H', ⟨Nat.le_refl _⟩, ⟨hB⟩, ⟨by repeat (first | (with_reducible first | exact HBW.out | apply below_alloc | apply pw_below_drewN | apply below_drew1) | exact HBW.out)⟩⟩
 case round =>
  clear H'; obtain ⟨x3_1, x4_1, rfl, rfl, HA, HK1, HB, HBW⟩ := hrel; rcases gk with _ | k1
  · exact absurd HA.out (by simp [spec_l01New.l0])
  revert HA; refine aoR ?_; intro H; simp only [spec_l01New.l0] at H; revert H
  refine ifB (fun c2 => ?_) (fun c2 => ?_)
  · intro H; have c2b0 := decide_eq_true c2; clear c2; revert H
    refine ifB (fun c3 => ?_) (fun c3 => ?_)
    · intro H; have c3b0 := decide_eq_true c3; clear c3; revert H; refine ifR fun c4 => ?_; intro H; have c4b0 := decide_eq_true c4; clear c4; revert H; refine adR fun H' => ?_; have p101 : 0 ≤ (x4_1 : Int) := bD; have q101 : x4_1 < (l0.length : Int) := bD; obtain ⟨ad101, e101, hx101_0⟩ := Kd.at_int HR0.out x4_1 p101 q101; cases e101; replace hx101_0 := pw_cell_below HB.out hx101_0; replace p101 := eq_true p101; replace q101 := eq_true q101; go_wp2; go_roundg k1
      case measure => have := HK1.out; omega
      case rel => exact ⟨(Go.bits .and .i64 (wrap64 ((wrap64 ((wrap64 (x3_1 * 131)) + (wrap64 (rd l0 x4_1)))) + 7)) 1073741823), (wrap64 (x4_1 + 1)), eQ, eQ, H', ⟨by have := HK1.out; omega⟩, ⟨hB⟩, ⟨by repeat (first | (with_reducible first | exact HBW.out | apply below_alloc | apply pw_below_drewN | apply below_drew1) | exact HBW.out)⟩⟩
    · intro H; have c3b0 := decide_eq_false c3; clear c3; simp only [Option.some.injEq, Prod.mk.injEq] at H; obtain ⟨rfl, rfl, rfl⟩ := H
      go_wp2_with (first | ((with_reducible refine gD 31 ?_); refine bE 31 #[.slice A0 l0.length c0, .int .i64 0, .int .i64 x3_1] 162 ?_; intro gb102 hg w5 hbox hb; replace HB := aM (below_step hB hb); have BK102 := aM (hbox); have GW102 := aM ((by rw [hg]; exact (below_size (by repeat (first | (with_reducible first | exact HBW.out | apply below_alloc | apply pw_below_drewN | apply below_drew1) | exact HBW.out))) : w.heap.size ≤ gb102)); have GE102 := aM ((Nat.le_trans HW0.out (by rw [hg]; exact (below_size (by repeat (first | (with_reducible first | exact HBW.out | apply below_alloc | apply pw_below_drewN | apply below_drew1) | exact HBW.out))) : w.heap.size ≤ gb102) : w0.heap.size ≤ gb102)); replace HBW := aM (below_step HBW.out hb); clear hb hbox hg)); go_ret; exact ⟨_, rfl, (show IsS162 w0 _ gb102 l0 0 x3_1 from ⟨_, _, by (with_reducible repeat (first | refine blk_drewN ?_ _ | refine blk_drew ?_ | refine blk_alloc ?_ _)); exact BK102.out, GE102.out, HR0.out⟩), hB, by repeat (first | (with_reducible first | exact HBW.out | apply below_alloc | apply pw_below_drewN | apply below_drew1 | refine below_set ?_ GW102.out) | exact HBW.out)⟩
  · intro H; have c2b0 := decide_eq_false c2; clear c2; simp only [Option.some.injEq, Prod.mk.injEq] at H; obtain ⟨rfl, rfl, rfl⟩ := H
    go_wp2_with (first | ((with_reducible refine gD 31 ?_); refine bE 31 #[.slice A0 l0.length c0, .int .i64 0, .int .i64 x3_1] 162 ?_; intro gb103 hg w6 hbox hb; replace HB := aM (below_step hB hb); have BK103 := aM (hbox); have GW103 := aM ((by rw [hg]; exact (below_size (by repeat (first | (with_reducible first | exact HBW.out | apply below_alloc | apply pw_below_drewN | apply below_drew1) | exact HBW.out))) : w.heap.size ≤ gb103)); have GE103 := aM ((Nat.le_trans HW0.out (by rw [hg]; exact (below_size (by repeat (first | (with_reducible first | exact HBW.out | apply below_alloc | apply pw_below_drewN | apply below_drew1) | exact HBW.out))) : w.heap.size ≤ gb103) : w0.heap.size ≤ gb103)); replace HBW := aM (below_step HBW.out hb); clear hb hbox hg)); go_ret; exact ⟨_, rfl, (show IsS162 w0 _ gb103 l0 0 x3_1 from ⟨_, _, by (with_reducible repeat (first | refine blk_drewN ?_ _ | refine blk_drew ?_ | refine blk_alloc ?_ _)); exact BK103.out, GE103.out, HR0.out⟩), hB, by repeat (first | (with_reducible first | exact HBW.out | apply below_alloc | apply pw_below_drewN | apply below_drew1 | refine below_set ?_ GW103.out) | exact HBW.out)⟩

/-! ### spec_ChannelsOf: function 88 -/
def spec_ChannelsOf.j0 : Nat → Int → Bool → Option (Int)
  | 0, _, _ => none
  | k + 1, x3, x4 => if x4 = true then (some 1) else (if x3 = 2 then (some 3) else (if x3 = 4 then (some 2) else (if x3 = 6 then (some 4) else (some 0))))
def spec_ChannelsOf.f (k : Nat) (a0 : Int) : Option (Int) := if a0 = 0 then (spec_ChannelsOf.j0 k a0 (a0 == 0)) else (spec_ChannelsOf.j0 k a0 (a0 == 3))
set_option maxHeartbeats 8000000 in
set_option maxRecDepth 100000 in
theorem spec_ChannelsOf.calls (k : Nat) (a0 : Int) (r : Int) (w : World) (h : spec_ChannelsOf.f k a0 = some r) :
 Calls Try.prog 88 #[.int .i64 a0] w fun e w' => e = .returned (.int .i64 r) ∧ Drawn0 w w' := by
 have H : (if a0 = 0 then (spec_ChannelsOf.j0 k a0 (a0 == 0)) else (spec_ChannelsOf.j0 k a0 (a0 == 3))) = some r := h; clear h; revert H; refine adR fun HC2 => ?_; go_enter Try.func88, Try.ntmps88
 go_upto_if 4 with (fail)
 go_cut [4] (fun v4 wc => ∃ (kq : Nat) (x4_1 : Bool), v4 = .bool x4_1 ∧ Aside0 (spec_ChannelsOf.j0 kq a0 x4_1 = some r) ∧ Aside0 (kq ≤ k) ∧ Drawn0 w wc)
 case first =>
  revert HC2; refine aoR ?_
  refine ifB (fun c3 => ?_) (fun c3 => ?_)
  · intro H; have c3b0 := beq_iff_eq.mpr c3; have c3b1 := bne_eq_false_iff_eq.mpr c3; clear c3
    (first | rw [c3b0] | (simp only [i64_w, i32_w]; rw [c3b0]) | skip); revert H; refine adR fun H' => ?_; go_wp2; go_meet
    case rel => exact ⟨_, ((a0 == 0)), eQ, H', ⟨lE⟩, dQ⟩
  · intro H; have c3b0 := beq_eq_false_iff_ne.mpr c3; have c3b1 := bne_iff_ne.mpr c3
    (first | rw [c3b0] | (simp only [i64_w, i32_w]; rw [c3b0]) | skip); revert H; refine adR fun H' => ?_; go_wp2; go_meet
    case rel => exact ⟨_, ((a0 == 3)), eQ, H', ⟨lE⟩, dQ⟩
 case rest =>
  clear HC2; (try clear p2); (try clear c3); (try clear c3b0); (try clear c3b1); obtain ⟨kq, x4_1, rfl, HA, HJ1, ⟨mc1, rfl⟩⟩ := hcut; rcases kq with _ | kj1
  · exact absurd HA.out (by simp [spec_ChannelsOf.j0])
  revert HA; refine aoR ?_; intro H; simp only [spec_ChannelsOf.j0] at H; revert H
  refine ifB (fun c4 => ?_) (fun c4 => ?_)
  · intro H; subst c4; obtain rfl := Option.some.inj H; go_wp2; go_ret; exact ⟨eQ, dQ⟩
  · intro H; replace c4 := Bool.eq_false_iff.mpr c4; subst c4; revert H
    refine ifB (fun c5 => ?_) (fun c5 => ?_)
    · intro H; have c5b0 := beq_iff_eq.mpr c5; have c5b1 := bne_eq_false_iff_eq.mpr c5; clear c5; obtain rfl := Option.some.inj H; go_wp2; go_ret; exact ⟨eQ, dQ⟩
    · intro H; have c5b0 := beq_eq_false_iff_ne.mpr c5; have c5b1 := bne_iff_ne.mpr c5; revert H
      refine ifB (fun c6 => ?_) (fun c6 => ?_)
      · intro H; have c6b0 := beq_iff_eq.mpr c6; have c6b1 := bne_eq_false_iff_eq.mpr c6; clear c6; obtain rfl := Option.some.inj H; go_wp2; go_ret; exact ⟨eQ, dQ⟩
      · intro H; have c6b0 := beq_eq_false_iff_ne.mpr c6; have c6b1 := bne_iff_ne.mpr c6; revert H
        refine ifB (fun c7 => ?_) (fun c7 => ?_)
        · intro H; have c7b0 := beq_iff_eq.mpr c7; have c7b1 := bne_eq_false_iff_eq.mpr c7; clear c7; obtain rfl := Option.some.inj H; go_wp2; go_ret; exact ⟨eQ, dQ⟩
        · intro H; have c7b0 := beq_eq_false_iff_ne.mpr c7; have c7b1 := bne_iff_ne.mpr c7; obtain rfl := Option.some.inj H; go_wp2; go_ret; exact ⟨eQ, dQ⟩

/-! ### spec_l01Pow: function 99 -/
def spec_l01Pow.l0 : Nat → Int → Int → Int → Option (Int)
  | 0, _, _, _ => none
  | k + 1, x0, x3, x4 => if x4 < x0 then (spec_l01Pow.l0 k x0 (wrap64 (2 * x3)) (wrap64 (x4 + 1))) else (some x3)
def spec_l01Pow.f (k : Nat) (a0 : Int) : Option (Int) := spec_l01Pow.l0 k a0 1 0
set_option maxHeartbeats 8000000 in
set_option maxRecDepth 100000 in
theorem spec_l01Pow.calls (k : Nat) (a0 : Int) (r : Int) (w : World) (h : spec_l01Pow.f k a0 = some r) :
 Calls Try.prog 99 #[.int .i64 a0] w fun e w' => e = .returned (.int .i64 r) ∧ Drawn0 w w' := by
 have H : (spec_l01Pow.l0 k a0 1 0) = some r := h; clear h; revert H; refine adR fun H' => ?_; go_enter Try.func99, Try.ntmps99; go_wp2
 go_loopg [3, 4] k (fun kq v3 v4 w' => ∃ (x3_1 : Int) (x4_1 : Int), v3 = .int .i64 x3_1 ∧ v4 = .int .i64 x4_1 ∧ Aside0 (spec_l01Pow.l0 kq a0 x3_1 x4_1 = some r) ∧ Aside0 (kq ≤ k) ∧ Drawn0 w w')
 case atStart => exact ⟨(1), (0), eQ, eQ, H', ⟨Nat.le_refl _⟩, dQ⟩
 case round =>
  clear H'; obtain ⟨x3_1, x4_1, rfl, rfl, HA, HK1, ⟨m1, rfl⟩⟩ := hrel; rcases gk with _ | k1
  · exact absurd HA.out (by simp [spec_l01Pow.l0])
  revert HA; refine aoR ?_; intro H; simp only [spec_l01Pow.l0] at H; revert H
  refine ifB (fun c2 => ?_) (fun c2 => ?_)
  · intro H; have c2b0 := decide_eq_true c2; clear c2; revert H; refine adR fun H' => ?_; go_wp2; go_roundg k1
    case measure => have := HK1.out; omega
    case rel => exact ⟨(wrap64 (2 * x3_1)), (wrap64 (x4_1 + 1)), eQ, eQ, H', ⟨by have := HK1.out; omega⟩, dQ⟩
  · intro H; have c2b0 := decide_eq_false c2; clear c2; obtain rfl := Option.some.inj H; go_wp2; go_ret; exact ⟨eQ, dQ⟩

/-! ### spec_l01Byte: function 177 -/
def spec_l01Byte.f (s0_0 : List Int) (s0_1 : Int) (s0_2 : Int) : Option (Int × Int × Int) := if s0_1 < (s0_0.length : Int) then (if 0 ≤ s0_1 then (some (Go.bits .and .i64 (wrap64 ((Go.bits .and .i64 (Go.bits .xor .i64 ((wrap64 ((wrap64 (s0_2 * 6364136223846793005)) + 1442695040888963407)) / 8589934592) ((wrap64 ((wrap64 (s0_2 * 6364136223846793005)) + 1442695040888963407)) / 35184372088832)) 255) + (wrap64 (rd s0_0 s0_1)))) 255, wrap64 (s0_1 + 1), wrap64 ((wrap64 (s0_2 * 6364136223846793005)) + 1442695040888963407))) else (none)) else (some (Go.bits .and .i64 (Go.bits .xor .i64 ((wrap64 ((wrap64 (s0_2 * 6364136223846793005)) + 1442695040888963407)) / 8589934592) ((wrap64 ((wrap64 (s0_2 * 6364136223846793005)) + 1442695040888963407)) / 35184372088832)) 255, s0_1, wrap64 ((wrap64 (s0_2 * 6364136223846793005)) + 1442695040888963407)))
set_option maxHeartbeats 8000000 in
set_option maxRecDepth 100000 in
theorem spec_l01Byte.calls (g : Nat) (s0_0 : List Int) (s0_1 : Int) (s0_2 : Int) (r1 : Int) (r2 : Int) (r3 : Int) (w0 w : World) (hI : IsS162 w0 w g s0_0 s0_1 s0_2) (hB : Below w0.heap.size w0 w) (h : spec_l01Byte.f s0_0 s0_1 s0_2 = some (r1, r2, r3)) :
 Calls Try.prog 177 #[.pointer (some ⟨g, 0, none⟩)] w fun e w' => e = .returned (.int .i64 r1) ∧ IsS162 w0 w' g s0_0 r2 r3 ∧ Below w0.heap.size w0 w' ∧ KeepBut w w' g none := by
 have HI0 := aM hI; have HK := aM (KeepBut.refl w g none); have HL := aM hB.size; clear hI; have HW0 := aM hB.size; have HB := aM hB; clear hB; unfold spec_l01Byte.f at h; have H := h; clear h; revert H
 refine ifB (fun c2 => ?_) (fun c2 => ?_)
 · intro H; have c2b0 := decide_eq_true c2; clear c2; revert H; refine ifR fun c3 => ?_; intro H; have c3b0 := decide_eq_true c3; clear c3; simp only [Option.some.injEq, Prod.mk.injEq] at H; obtain ⟨rfl, rfl, rfl⟩ := H; obtain ⟨ASz4_0, cSz4_0, HGz4, hgz4, HSz4_0⟩ := HI0.out; have hcz4_0 := cellS162_0 HGz4; have hcz4_1 := cellS162_1 HGz4; have hcz4_2 := cellS162_2 HGz4; have hfz4_1 := blk_frozen HGz4 1; have hfz4_2 := blk_frozen HGz4 2; clear HGz4 hgz4; have p104 : 0 ≤ (s0_1 : Int) := bD; have q104 : s0_1 < (s0_0.length : Int) := bD; obtain ⟨ad104, e104, hx104_0⟩ := Kd.at_int HSz4_0 s0_1 p104 q104; cases e104; have hn104_0 : ad104.block ≠ g := Nat.ne_of_lt (Nat.lt_of_lt_of_le (by have := World.block_lt_of_cell? _ _ hx104_0; first | rwa [add_block] at this | exact this) (IsS162.ge HI0.out)); replace hx104_0 := pw_cell_below HB.out hx104_0; replace hx104_0 := (cell_far (p := ⟨g, 2, none⟩) (nE hn104_0) (.int .i64 (wrap64 ((wrap64 (s0_2 * 6364136223846793005)) + 1442695040888963407)))).trans hx104_0
   (try have hy104_0 := fun (n_ : Nat) => (show (((w.drewN n_).setCell ⟨g, 2, none⟩ (.int .i64 (wrap64 ((wrap64 (s0_2 * 6364136223846793005)) + 1442695040888963407))))).cell? _ = some _ from hx104_0)); clear hn104_0; replace p104 := eq_true p104; replace q104 := eq_true q104; go_enter Try.func177, Try.ntmps177; go_wp2
   repeat (go_quiet (fail); try go_wp2)
   go_ret; exact ⟨eE, by repeat (first | (with_reducible first | exact HI0.out | apply IsS162.alloc | apply IsS162.drewN | apply IsS162.drew | apply IsS162.set_1 | apply IsS162.set_2) | exact HI0.out), by repeat (first | (with_reducible first | exact HB.out | apply below_alloc | apply pw_below_drewN | apply below_drew1 | refine below_set ?_ (IsS162.ge HI0.out)) | exact HB.out), by repeat (first | (with_reducible first | exact HK.out | apply KeepBut.set_ | apply keep_drewN | apply keep_drew | apply keep_alloc) | exact HK.out)⟩
 · intro H; have c2b0 := decide_eq_false c2; clear c2; simp only [Option.some.injEq, Prod.mk.injEq] at H; obtain ⟨rfl, rfl, rfl⟩ := H; obtain ⟨ASz5_0, cSz5_0, HGz5, hgz5, HSz5_0⟩ := HI0.out; have hcz5_0 := cellS162_0 HGz5; have hcz5_1 := cellS162_1 HGz5; have hcz5_2 := cellS162_2 HGz5; have hfz5_1 := blk_frozen HGz5 1; have hfz5_2 := blk_frozen HGz5 2; clear HGz5 hgz5; go_enter Try.func177, Try.ntmps177; go_wp2
   repeat (go_quiet (fail); try go_wp2)
   go_ret; exact ⟨eE, by repeat (first | (with_reducible first | exact HI0.out | apply IsS162.alloc | apply IsS162.drewN | apply IsS162.drew | apply IsS162.set_1 | apply IsS162.set_2) | exact HI0.out), by repeat (first | (with_reducible first | exact HB.out | apply below_alloc | apply pw_below_drewN | apply below_drew1 | refine below_set ?_ (IsS162.ge HI0.out)) | exact HB.out), by repeat (first | (with_reducible first | exact HK.out | apply KeepBut.set_ | apply keep_drewN | apply keep_drew | apply keep_alloc) | exact HK.out)⟩

/-! ### spec_l01Below: function 141 -/
def spec_l01Below.f (s0_0 : List Int) (s0_1 : Int) (s0_2 : Int) (a1 : Int) : Option (Int × Int × Int) := if a1 ≤ 0 then (some (0, s0_1, s0_2)) else (if a1 ≤ 256 then ((spec_l01Byte.f s0_0 s0_1 s0_2).bind fun bt105 => (if a1 = 0 then (none) else (some (Int.tmod bt105.1 a1, bt105.2.1, bt105.2.2)))) else ((spec_l01Byte.f s0_0 s0_1 s0_2).bind fun bt108 => ((spec_l01Byte.f s0_0 bt108.2.1 bt108.2.2).bind fun bt111 => ((spec_l01Byte.f s0_0 bt111.2.1 bt111.2.2).bind fun bt114 => ((spec_l01Byte.f s0_0 bt114.2.1 bt114.2.2).bind fun bt117 => (if a1 = 0 then (none) else (some (Int.tmod (wrap64 ((wrap64 ((wrap64 ((wrap64 (bt108.1 * 16777216)) + (wrap64 (bt111.1 * 65536)))) + (wrap64 (bt114.1 * 256)))) + bt117.1)) a1, bt117.2.1, bt117.2.2))))))))
set_option maxHeartbeats 8000000 in
set_option maxRecDepth 100000 in
theorem spec_l01Below.calls (g : Nat) (s0_0 : List Int) (s0_1 : Int) (s0_2 : Int) (a1 : Int) (r1 : Int) (r2 : Int) (r3 : Int) (w0 w : World) (hI : IsS162 w0 w g s0_0 s0_1 s0_2) (hB : Below w0.heap.size w0 w) (h : spec_l01Below.f s0_0 s0_1 s0_2 a1 = some (r1, r2, r3)) :
 Calls Try.prog 141 #[.pointer (some ⟨g, 0, none⟩), .int .i64 a1] w fun e w' => e = .returned (.int .i64 r1) ∧ IsS162 w0 w' g s0_0 r2 r3 ∧ Below w0.heap.size w0 w' ∧ KeepBut w w' g none := by
 have HI0 := aM hI; have HK := aM (KeepBut.refl w g none); have HL := aM hB.size; clear hI; have HW0 := aM hB.size; have HB := aM hB; clear hB; unfold spec_l01Below.f at h; have H := h; clear h; revert H
 refine ifB (fun c3 => ?_) (fun c3 => ?_)
 · intro H; have c3b0 := decide_eq_true c3; clear c3; simp only [Option.some.injEq, Prod.mk.injEq] at H; obtain ⟨rfl, rfl, rfl⟩ := H; go_enter Try.func141, Try.ntmps141; go_wp2; go_ret; exact ⟨eE, by repeat (first | (with_reducible first | exact HI0.out | apply IsS162.alloc | apply IsS162.drewN | apply IsS162.drew | apply IsS162.set_1 | apply IsS162.set_2) | exact HI0.out), by repeat (first | (with_reducible first | exact HB.out | apply below_alloc | apply pw_below_drewN | apply below_drew1 | refine below_set ?_ (IsS162.ge HI0.out)) | exact HB.out), by repeat (first | (with_reducible first | exact HK.out | apply KeepBut.set_ | apply keep_drewN | apply keep_drew | apply keep_alloc) | exact HK.out)⟩
 · intro H; have c3b0 := decide_eq_false c3; clear c3; revert H
   refine ifB (fun c4 => ?_) (fun c4 => ?_)
   · intro H; have c4b0 := decide_eq_true c4; clear c4; revert H; refine bdR fun ⟨t105, t106, t107⟩ A5 => ?_; intro H
     try dsimp only at H
     revert H
     refine ifB (fun c6 => ?_) (fun c6 => ?_)
     · intro H; exact absurd H (by simp)
     · intro H; have c6b0 := beq_eq_false_iff_ne.mpr c6; have c6b1 := bne_iff_ne.mpr c6; simp only [Option.some.injEq, Prod.mk.injEq] at H; obtain ⟨rfl, rfl, rfl⟩ := H; go_enter Try.func141, Try.ntmps141
       go_wp2_with (first | ((with_reducible refine gC 177 ?_); refine gL (some 14) Try.func177 #[.pointer (some ⟨g, 0, none⟩)] ?_; (with_reducible refine (spec_l01Byte.calls g s0_0 s0_1 s0_2 t105 t106 t107 w0 _ ?side1 ?side2 A5.out).mono ?_); (case side1 => repeat (first | (with_reducible first | exact HI0.out | apply IsS162.alloc | apply IsS162.drewN | apply IsS162.drew | apply IsS162.set_1 | apply IsS162.set_2) | exact HI0.out)); (case side2 => repeat (first | (with_reducible first | exact HB.out | apply below_alloc | apply pw_below_drewN | apply below_drew1 | refine below_set ?_ (IsS162.ge HI0.out)) | exact HB.out)); rintro e w7 ⟨rfl, hi, hb, hk⟩; refine ⟨_, rfl, ?_⟩; replace HK := aM (KeepBut.trans (by repeat (first | (with_reducible first | exact HK.out | apply KeepBut.set_ | apply keep_drewN | apply keep_drew | apply keep_alloc) | exact HK.out)) hk (.inl rfl)); replace HB := aM (hb); replace HI0 := aM (hi); (try clear hb); (try clear hb2); (try clear hk); (try clear hi))); go_ret; exact ⟨eE, by repeat (first | (with_reducible first | exact HI0.out | apply IsS162.alloc | apply IsS162.drewN | apply IsS162.drew | apply IsS162.set_1 | apply IsS162.set_2) | exact HI0.out), by repeat (first | (with_reducible first | exact HB.out | apply below_alloc | apply pw_below_drewN | apply below_drew1 | refine below_set ?_ (IsS162.ge HI0.out)) | exact HB.out), by repeat (first | (with_reducible first | exact HK.out | apply KeepBut.set_ | apply keep_drewN | apply keep_drew | apply keep_alloc) | exact HK.out)⟩
   · intro H; have c4b0 := decide_eq_false c4; clear c4; revert H; refine bdR fun ⟨t108, t109, t110⟩ A8 => ?_; intro H
     try dsimp only at H
     revert H; refine bdR fun ⟨t111, t112, t113⟩ A9 => ?_; intro H
     try dsimp only at H
     revert H; refine bdR fun ⟨t114, t115, t116⟩ A10 => ?_; intro H
     try dsimp only at H
     revert H; refine bdR fun ⟨t117, t118, t119⟩ A11 => ?_; intro H
     try dsimp only at H
     revert H
     refine ifB (fun c12 => ?_) (fun c12 => ?_)
     · intro H; exact absurd H (by simp)
     · intro H; have c12b0 := beq_eq_false_iff_ne.mpr c12; have c12b1 := bne_iff_ne.mpr c12; simp only [Option.some.injEq, Prod.mk.injEq] at H; obtain ⟨rfl, rfl, rfl⟩ := H; go_enter Try.func141, Try.ntmps141
       go_wp2_with (first | ((with_reducible refine gC 177 ?_); refine gL (some 18) Try.func177 #[.pointer (some ⟨g, 0, none⟩)] ?_; (with_reducible refine (spec_l01Byte.calls g s0_0 s0_1 s0_2 t108 t109 t110 w0 _ ?side1 ?side2 A8.out).mono ?_); (case side1 => repeat (first | (with_reducible first | exact HI0.out | apply IsS162.alloc | apply IsS162.drewN | apply IsS162.drew | apply IsS162.set_1 | apply IsS162.set_2) | exact HI0.out)); (case side2 => repeat (first | (with_reducible first | exact HB.out | apply below_alloc | apply pw_below_drewN | apply below_drew1 | refine below_set ?_ (IsS162.ge HI0.out)) | exact HB.out)); rintro e w13 ⟨rfl, hi, hb, hk⟩; refine ⟨_, rfl, ?_⟩; replace HK := aM (KeepBut.trans (by repeat (first | (with_reducible first | exact HK.out | apply KeepBut.set_ | apply keep_drewN | apply keep_drew | apply keep_alloc) | exact HK.out)) hk (.inl rfl)); replace HB := aM (hb); replace HI0 := aM (hi); (try clear hb); (try clear hb2); (try clear hk); (try clear hi)) | ((with_reducible refine gC 177 ?_); refine gL (some 20) Try.func177 #[.pointer (some ⟨g, 0, none⟩)] ?_; (with_reducible refine (spec_l01Byte.calls g s0_0 t109 t110 t111 t112 t113 w0 _ ?side1 ?side2 A9.out).mono ?_); (case side1 => repeat (first | (with_reducible first | exact HI0.out | apply IsS162.alloc | apply IsS162.drewN | apply IsS162.drew | apply IsS162.set_1 | apply IsS162.set_2) | exact HI0.out)); (case side2 => repeat (first | (with_reducible first | exact HB.out | apply below_alloc | apply pw_below_drewN | apply below_drew1 | refine below_set ?_ (IsS162.ge HI0.out)) | exact HB.out)); rintro e w14 ⟨rfl, hi, hb, hk⟩; refine ⟨_, rfl, ?_⟩; replace HK := aM (KeepBut.trans (by repeat (first | (with_reducible first | exact HK.out | apply KeepBut.set_ | apply keep_drewN | apply keep_drew | apply keep_alloc) | exact HK.out)) hk (.inl rfl)); replace HB := aM (hb); replace HI0 := aM (hi); (try clear hb); (try clear hb2); (try clear hk); (try clear hi)) | ((with_reducible refine gC 177 ?_); refine gL (some 22) Try.func177 #[.pointer (some ⟨g, 0, none⟩)] ?_; (with_reducible refine (spec_l01Byte.calls g s0_0 t112 t113 t114 t115 t116 w0 _ ?side1 ?side2 A10.out).mono ?_); (case side1 => repeat (first | (with_reducible first | exact HI0.out | apply IsS162.alloc | apply IsS162.drewN | apply IsS162.drew | apply IsS162.set_1 | apply IsS162.set_2) | exact HI0.out)); (case side2 => repeat (first | (with_reducible first | exact HB.out | apply below_alloc | apply pw_below_drewN | apply below_drew1 | refine below_set ?_ (IsS162.ge HI0.out)) | exact HB.out)); rintro e w15 ⟨rfl, hi, hb, hk⟩; refine ⟨_, rfl, ?_⟩; replace HK := aM (KeepBut.trans (by repeat (first | (with_reducible first | exact HK.out | apply KeepBut.set_ | apply keep_drewN | apply keep_drew | apply keep_alloc) | exact HK.out)) hk (.inl rfl)); replace HB := aM (hb); replace HI0 := aM (hi); (try clear hb); (try clear hb2); (try clear hk); (try clear hi)) | ((with_reducible refine gC 177 ?_); refine gL (some 24) Try.func177 #[.pointer (some ⟨g, 0, none⟩)] ?_; (with_reducible refine (spec_l01Byte.calls g s0_0 t115 t116 t117 t118 t119 w0 _ ?side1 ?side2 A11.out).mono ?_); (case side1 => repeat (first | (with_reducible first | exact HI0.out | apply IsS162.alloc | apply IsS162.drewN | apply IsS162.drew | apply IsS162.set_1 | apply IsS162.set_2) | exact HI0.out)); (case side2 => repeat (first | (with_reducible first | exact HB.out | apply below_alloc | apply pw_below_drewN | apply below_drew1 | refine below_set ?_ (IsS162.ge HI0.out)) | exact HB.out)); rintro e w16 ⟨rfl, hi, hb, hk⟩; refine ⟨_, rfl, ?_⟩; replace HK := aM (KeepBut.trans (by repeat (first | (with_reducible first | exact HK.out | apply KeepBut.set_ | apply keep_drewN | apply keep_drew | apply keep_alloc) | exact HK.out)) hk (.inl rfl)); replace HB := aM (hb); replace HI0 := aM (hi); (try clear hb); (try clear hb2); (try clear hk); (try clear hi))); go_ret; exact ⟨eE, by repeat (first | (with_reducible first | exact HI0.out | apply IsS162.alloc | apply IsS162.drewN | apply IsS162.drew | apply IsS162.set_1 | apply IsS162.set_2) | exact HI0.out), by repeat (first | (with_reducible first | exact HB.out | apply below_alloc | apply pw_below_drewN | apply below_drew1 | refine below_set ?_ (IsS162.ge HI0.out)) | exact HB.out), by repeat (first | (with_reducible first | exact HK.out | apply KeepBut.set_ | apply keep_drewN | apply keep_drew | apply keep_alloc) | exact HK.out)⟩

/-! ### spec_l01PickInt: function 145 -/
def spec_l01PickInt.f (s0_0 : List Int) (s0_1 : Int) (s0_2 : Int) (l1 : List Int) : Option (Int × Int × Int) := (spec_l01Below.f s0_0 s0_1 s0_2 (l1.length : Int)).bind fun bt120 => (if 0 ≤ bt120.1 then (if bt120.1 < (l1.length : Int) then (some (rd l1 bt120.1, bt120.2.1, bt120.2.2)) else (none)) else (none))
set_option maxHeartbeats 8000000 in
set_option maxRecDepth 100000 in
theorem spec_l01PickInt.calls (g : Nat) (s0_0 : List Int) (s0_1 : Int) (s0_2 : Int) (A1 : Option Addr) (c1 : Nat) (l1 : List Int) (r1 : Int) (r2 : Int) (r3 : Int) (w0 w : World) (hI : IsS162 w0 w g s0_0 s0_1 s0_2) (hB : Below w0.heap.size w0 w) (hr1 : Kd.C (Kd.int .i64) w A1 l1.length l1) (hc1 : l1.length ≤ c1) (hf1 : ∀ ad, A1 = some ad → 0 < l1.length → ad.block ≠ g) (h : spec_l01PickInt.f s0_0 s0_1 s0_2 l1 = some (r1, r2, r3)) :
 Calls Try.prog 145 #[.pointer (some ⟨g, 0, none⟩), .slice A1 l1.length c1] w fun e w' => e = .returned (.int .i64 r1) ∧ IsS162 w0 w' g s0_0 r2 r3 ∧ Below w0.heap.size w0 w' ∧ KeepBut w w' g none := by
 have HR1 := aM hr1; have HC1 := aM hc1; clear hr1 hc1; have HI0 := aM hI; have HK := aM (KeepBut.refl w g none); have HL := aM hB.size; clear hI; have HW0 := aM hB.size; have HB := aM hB; clear hB; have H : ((spec_l01Below.f s0_0 s0_1 s0_2 (l1.length : Int)).bind fun bt120 => (if 0 ≤ bt120.1 then (if bt120.1 < (l1.length : Int) then (some (rd l1 bt120.1, bt120.2.1, bt120.2.2)) else (none)) else (none))) = some (r1, r2, r3) := h; clear h; revert H; refine bdR fun ⟨t120, t121, t122⟩ A3 => ?_; intro H
 try dsimp only at H
 revert H; refine ifR fun c4 => ?_; intro H; have c4b0 := decide_eq_true c4; clear c4; revert H; refine ifR fun c5 => ?_; intro H; have c5b0 := decide_eq_true c5; clear c5; simp only [Option.some.injEq, Prod.mk.injEq] at H; obtain ⟨rfl, rfl, rfl⟩ := H; go_enter Try.func145, Try.ntmps145
 go_wp2_with (first | ((with_reducible refine gC 141 ?_); refine gL (some 9) Try.func141 #[.pointer (some ⟨g, 0, none⟩), .int .i64 (l1.length : Int)] ?_; (with_reducible refine (spec_l01Below.calls g s0_0 s0_1 s0_2 (l1.length : Int) t120 t121 t122 w0 _ ?side1 ?side2 A3.out).mono ?_); (case side1 => repeat (first | (with_reducible first | exact HI0.out | apply IsS162.alloc | apply IsS162.drewN | apply IsS162.drew | apply IsS162.set_1 | apply IsS162.set_2) | exact HI0.out)); (case side2 => repeat (first | (with_reducible first | exact HB.out | apply below_alloc | apply pw_below_drewN | apply below_drew1 | refine below_set ?_ (IsS162.ge HI0.out)) | exact HB.out)); rintro e w6 ⟨rfl, hi, hb, hk⟩; refine ⟨_, rfl, ?_⟩; replace HK := aM (KeepBut.trans (by repeat (first | (with_reducible first | exact HK.out | apply KeepBut.set_ | apply keep_drewN | apply keep_drew | apply keep_alloc) | exact HK.out)) hk (.inl rfl)); replace HB := aM (hb); replace HI0 := aM (hi); (try clear hb); (try clear hb2); (try clear hk); (try clear hi); have p123 : 0 ≤ (t120 : Int) := bD; have q123 : t120 < (l1.length : Int) := bD; obtain ⟨ad123, e123, hx123_0⟩ := Kd.at_int HR1.out t120 p123 q123; cases e123; replace hx123_0 := keep_cell HK.out hx123_0 (by first | (rw [add_block]; exact hf1 _ rfl (by omega)) | exact hf1 _ rfl (by omega) | exact hf1 ad123 rfl (by omega)); replace p123 := eq_true p123; replace q123 := eq_true q123)); go_ret; exact ⟨eE, by repeat (first | (with_reducible first | exact HI0.out | apply IsS162.alloc | apply IsS162.drewN | apply IsS162.drew | apply IsS162.set_1 | apply IsS162.set_2) | exact HI0.out), by repeat (first | (with_reducible first | exact HB.out | apply below_alloc | apply pw_below_drewN | apply below_drew1 | refine below_set ?_ (IsS162.ge HI0.out)) | exact HB.out), by repeat (first | (with_reducible first | exact HK.out | apply KeepBut.set_ | apply keep_drewN | apply keep_drew | apply keep_alloc) | exact HK.out)⟩

/-! ### spec_l12Color: function 142 -/
def spec_l12Color.f (s0_0 : List Int) (s0_1 : Int) (s0_2 : Int) : Option (Int × Int × Int) := (spec_l01PickInt.f s0_0 s0_1 s0_2 (([0, 2, 3, 4, 6] : List Int))).bind fun bt127 => (some (bt127.1, bt127.2.1, bt127.2.2))
set_option maxHeartbeats 8000000 in
set_option maxRecDepth 100000 in
theorem spec_l12Color.calls (g : Nat) (s0_0 : List Int) (s0_1 : Int) (s0_2 : Int) (r1 : Int) (r2 : Int) (r3 : Int) (w0 w : World) (hI : IsS162 w0 w g s0_0 s0_1 s0_2) (hB : Below w0.heap.size w0 w) (h : spec_l12Color.f s0_0 s0_1 s0_2 = some (r1, r2, r3)) :
 Calls Try.prog 142 #[.pointer (some ⟨g, 0, none⟩)] w fun e w' => e = .returned (.int .i64 r1) ∧ IsS162 w0 w' g s0_0 r2 r3 ∧ Below w0.heap.size w0 w' ∧ KeepBut w w' g none := by
 have HI0 := aM hI; have HK := aM (KeepBut.refl w g none); have HL := aM hB.size; clear hI; have HW0 := aM hB.size; have HB := aM hB; clear hB; have H : ((spec_l01PickInt.f s0_0 s0_1 s0_2 (([0, 2, 3, 4, 6] : List Int))).bind fun bt127 => (some (bt127.1, bt127.2.1, bt127.2.2))) = some (r1, r2, r3) := h; clear h; obtain ⟨y124, hy124⟩ : ∃ y_ : List Int, y_ = (([0, 2, 3, 4, 6] : List Int)) := ⟨_, rfl⟩; replace H : ((spec_l01PickInt.f s0_0 s0_1 s0_2 y124).bind fun bt127 => (some (bt127.1, bt127.2.1, bt127.2.2))) = some (r1, r2, r3) := by first | (rw [hy124]; with_reducible exact H) | (have H2_ := (Option.bind_some _ _).symm.trans H; rw [hy124]; with_reducible exact H2_) | (have H2_ := (Option.bind_some _ _).symm.trans H; with_reducible exact H2_) | with_reducible exact H | (rw [hy124]; exact H) | exact H
 have Ny124 := aM hy124; clear hy124; revert H; refine bdR fun ⟨t127, t128, t129⟩ A2 => ?_; intro H
 try dsimp only at H
 simp only [Option.some.injEq, Prod.mk.injEq] at H; obtain ⟨rfl, rfl, rfl⟩ := H; go_enter Try.func142, Try.ntmps142
 go_wp2_with (first | ((with_reducible refine gD 4 ?_); refine Kd.R_lit (Kd.int .i64) _ 3 ?hg (N := 4) ?hd (xs := ([0, 2, 3, 4, 6] : List Int)) (inner := [.int .i64 0, .int .i64 2, .int .i64 3, .int .i64 4, .int .i64 6]) (ok := fun _ => True) (okp := fun _ => True) ?hr ?hp (fun _ hk => hk) trivial (Below.refl _ _) (Nat.le_refl _) (by simp) ?_; (case hd => rfl); (case hg => rfl); (case hr => first | (go_simp; done) | (go_simp; rfl)); (case hp => exact (Reps.one (show Kd.M (Kd.int .i64) _ _ _ 0 [.int .i64 0] from rfl) (Reps.one (show Kd.M (Kd.int .i64) _ _ _ 2 [.int .i64 2] from rfl) (Reps.one (show Kd.M (Kd.int .i64) _ _ _ 3 [.int .i64 3] from rfl) (Reps.one (show Kd.M (Kd.int .i64) _ _ _ 4 [.int .i64 4] from rfl) (Reps.one (show Kd.M (Kd.int .i64) _ _ _ 6 [.int .i64 6] from rfl) (Reps.none _ _))))))); intro v125 w3 ho4 hb hg_ hnew_; clear hg_ hnew_; (first | rw [← Ny124.out] at ho4 | (simp only [Int.reduceToNat] at ho4; rw [← Ny124.out] at ho4)); have HO126 := aM (Kd.R_lower ho4 (keep_size (w := w) (g := g) (row := none) (by repeat (first | (with_reducible first | exact HK.out | apply KeepBut.set_ | apply keep_drewN | apply keep_drew | apply keep_alloc) | exact HK.out)))); replace HK := aM (KeepBut.trans (by repeat (first | (with_reducible first | exact HK.out | apply KeepBut.set_ | apply keep_drewN | apply keep_drew | apply keep_alloc) | exact HK.out)) (KeepBut.of_below hb g none) (.inl rfl)); replace HB := aM (below_step (by repeat (first | (with_reducible first | exact HB.out | apply below_alloc | apply pw_below_drewN | apply below_drew1 | refine below_set ?_ (IsS162.ge HI0.out)) | exact HB.out)) hb); replace HI0 := aM (IsS162.below (by repeat (first | (with_reducible first | exact HI0.out | apply IsS162.alloc | apply IsS162.drewN | apply IsS162.drew | apply IsS162.set_1 | apply IsS162.set_2) | exact HI0.out)) hb); clear hb ho4; obtain ⟨Ao5, co5, eo5⟩ := Kd.R_slice HO126.out; subst eo5) | ((with_reducible refine gC 145 ?_); refine gL (some 5) Try.func145 #[.pointer (some ⟨g, 0, none⟩), .slice Ao5 y124.length co5] ?_; (with_reducible refine (spec_l01PickInt.calls g s0_0 s0_1 s0_2 _ _ y124 t127 t128 t129 w0 _ ?side1 ?side2 ?side3 ?side4 ?side5 A2.out).mono ?_); (case side1 => repeat (first | (with_reducible first | exact HI0.out | apply IsS162.alloc | apply IsS162.drewN | apply IsS162.drew | apply IsS162.set_1 | apply IsS162.set_2) | exact HI0.out)); (case side2 => repeat (first | (with_reducible first | exact HB.out | apply below_alloc | apply pw_below_drewN | apply below_drew1 | refine below_set ?_ (IsS162.ge HI0.out)) | exact HB.out)); (case side3 => repeat (first | exact (Kd.R_reads' HO126.out).2.2 | (with_reducible refine Kd.C_alloc ?_ _) | (with_reducible refine Kd.C_drewN ?_ _) | (with_reducible refine Kd.C_drew ?_))); (case side4 => exact (Kd.R_reads' HO126.out).2.1); (case side5 => exact far_slice (IsS162.own_ne HI0.out HO126.out (by decide))); rintro e w6 ⟨rfl, hi, hb, hk⟩; refine ⟨_, rfl, ?_⟩; replace HO126 := aM (Kd.R_mono (Kd.R_keep (IsS162.apart (show IsS162 w0 _ g s0_0 s0_1 s0_2 from by repeat (first | (with_reducible first | exact HI0.out | apply IsS162.alloc | apply IsS162.drewN | apply IsS162.drew | apply IsS162.set_1 | apply IsS162.set_2) | exact HI0.out)) (Kd.R_i HO126.out) (by decide)) hk (fun _ h => h.2)) (fun _ h => h.1)); replace HK := aM (KeepBut.trans (by repeat (first | (with_reducible first | exact HK.out | apply KeepBut.set_ | apply keep_drewN | apply keep_drew | apply keep_alloc) | exact HK.out)) hk (.inl rfl)); replace HB := aM (hb); replace HI0 := aM (hi); (try clear hb); (try clear hb2); (try clear hk); (try clear hi))); go_ret; exact ⟨eE, by repeat (first | (with_reducible first | exact HI0.out | apply IsS162.alloc | apply IsS162.drewN | apply IsS162.drew | apply IsS162.set_1 | apply IsS162.set_2) | exact HI0.out), by repeat (first | (with_reducible first | exact HB.out | apply below_alloc | apply pw_below_drewN | apply below_drew1 | refine below_set ?_ (IsS162.ge HI0.out)) | exact HB.out), by repeat (first | (with_reducible first | exact HK.out | apply KeepBut.set_ | apply keep_drewN | apply keep_drew | apply keep_alloc) | exact HK.out)⟩

/-! ### spec_DepthOk: function 78 -/
def spec_DepthOk.j0 : Nat → Int → Int → Bool → Option (Bool)
  | 0, _, _, _ => none
  | k + 1, x0, x1, x5 => if x0 = 0 then (if x5 = true then (some true) else (if x1 = 8 then (some true) else (some (x1 == 16)))) else (if x0 = 3 then (if x5 = true then (some true) else (some (x1 == 8))) else (if x0 = 2 then (if x1 = 8 then (some true) else (some (x1 == 16))) else (if x0 = 4 then (if x1 = 8 then (some true) else (some (x1 == 16))) else (if x0 = 6 then (if x1 = 8 then (some true) else (some (x1 == 16))) else (some false)))))
def spec_DepthOk.f (k : Nat) (a0 : Int) (a1 : Int) : Option (Bool) := if a1 = 1 then (spec_DepthOk.j0 k a0 a1 true) else (if a1 = 2 then (spec_DepthOk.j0 k a0 a1 true) else (spec_DepthOk.j0 k a0 a1 (a1 == 4)))
set_option maxHeartbeats 8000000 in
set_option maxRecDepth 100000 in
theorem spec_DepthOk.calls (k : Nat) (a0 : Int) (a1 : Int) (r : Bool) (w : World) (h : spec_DepthOk.f k a0 a1 = some r) :
 Calls Try.prog 78 #[.int .i64 a0, .int .i64 a1] w fun e w' => e = .returned (.bool r) ∧ Drawn0 w w' := by
 have H : (if a1 = 1 then (spec_DepthOk.j0 k a0 a1 true) else (if a1 = 2 then (spec_DepthOk.j0 k a0 a1 true) else (spec_DepthOk.j0 k a0 a1 (a1 == 4)))) = some r := h; clear h; revert H; refine adR fun HC3 => ?_; go_enter Try.func78, Try.ntmps78
 go_upto_region 1 with (fail)
 go_cut [5] (fun v5 wc => ∃ (kq : Nat) (x5_2 : Bool), v5 = .bool x5_2 ∧ Aside0 (spec_DepthOk.j0 kq a0 a1 x5_2 = some r) ∧ Aside0 (kq ≤ k) ∧ Drawn0 w wc)
 case first =>
  revert HC3; refine aoR ?_
  refine ifB (fun c4 => ?_) (fun c4 => ?_)
  · intro H; have c4b0 := beq_iff_eq.mpr c4; have c4b1 := bne_eq_false_iff_eq.mpr c4; clear c4
    (first | rw [c4b0] | (simp only [i64_w, i32_w]; rw [c4b0]) | skip); revert H; refine adR fun H' => ?_; go_wp2; go_meet
    case rel => exact ⟨_, (true), eQ, H', ⟨lE⟩, dQ⟩
  · intro H; have c4b0 := beq_eq_false_iff_ne.mpr c4; have c4b1 := bne_iff_ne.mpr c4
    (first | rw [c4b0] | (simp only [i64_w, i32_w]; rw [c4b0]) | skip); revert H
    refine ifB (fun c5 => ?_) (fun c5 => ?_)
    · intro H; have c5b0 := beq_iff_eq.mpr c5; have c5b1 := bne_eq_false_iff_eq.mpr c5; clear c5; revert H; refine adR fun H' => ?_; go_wp2; go_meet
      case rel => exact ⟨_, (true), eQ, H', ⟨lE⟩, dQ⟩
    · intro H; have c5b0 := beq_eq_false_iff_ne.mpr c5; have c5b1 := bne_iff_ne.mpr c5; revert H; refine adR fun H' => ?_; go_wp2; go_meet
      case rel => exact ⟨_, ((a1 == 4)), eQ, H', ⟨lE⟩, dQ⟩
 case rest =>
  clear HC3; (try clear p2); (try clear c4); (try clear c4b0); (try clear c4b1); (try clear c5); (try clear c5b0); (try clear c5b1); obtain ⟨kq, x5_2, rfl, HA, HJ2, ⟨mc2, rfl⟩⟩ := hcut; rcases kq with _ | kj2
  · exact absurd HA.out (by simp [spec_DepthOk.j0])
  revert HA; refine aoR ?_; intro H; simp only [spec_DepthOk.j0] at H; revert H
  refine ifB (fun c6 => ?_) (fun c6 => ?_)
  · intro H; have c6b0 := beq_iff_eq.mpr c6; have c6b1 := bne_eq_false_iff_eq.mpr c6; clear c6; revert H
    refine ifB (fun c7 => ?_) (fun c7 => ?_)
    · intro H; subst c7; obtain rfl := Option.some.inj H; go_wp2; go_ret; exact ⟨eQ, dQ⟩
    · intro H; replace c7 := Bool.eq_false_iff.mpr c7; subst c7; revert H
      refine ifB (fun c8 => ?_) (fun c8 => ?_)
      · intro H; have c8b0 := beq_iff_eq.mpr c8; have c8b1 := bne_eq_false_iff_eq.mpr c8; clear c8; obtain rfl := Option.some.inj H; go_wp2; go_ret; exact ⟨eQ, dQ⟩
      · intro H; have c8b0 := beq_eq_false_iff_ne.mpr c8; have c8b1 := bne_iff_ne.mpr c8; obtain rfl := Option.some.inj H; go_wp2; go_ret; exact ⟨eQ, dQ⟩
  · intro H; have c6b0 := beq_eq_false_iff_ne.mpr c6; have c6b1 := bne_iff_ne.mpr c6; revert H
    refine ifB (fun c9 => ?_) (fun c9 => ?_)
    · intro H; have c9b0 := beq_iff_eq.mpr c9; have c9b1 := bne_eq_false_iff_eq.mpr c9; clear c9; revert H
      refine ifB (fun c10 => ?_) (fun c10 => ?_)
      · intro H; subst c10; obtain rfl := Option.some.inj H; go_wp2; go_ret; exact ⟨eQ, dQ⟩
      · intro H; replace c10 := Bool.eq_false_iff.mpr c10; subst c10; obtain rfl := Option.some.inj H; go_wp2; go_ret; exact ⟨eQ, dQ⟩
    · intro H; have c9b0 := beq_eq_false_iff_ne.mpr c9; have c9b1 := bne_iff_ne.mpr c9; revert H
      refine ifB (fun c11 => ?_) (fun c11 => ?_)
      · intro H; have c11b0 := beq_iff_eq.mpr c11; have c11b1 := bne_eq_false_iff_eq.mpr c11; clear c11; revert H
        refine ifB (fun c12 => ?_) (fun c12 => ?_)
        · intro H; have c12b0 := beq_iff_eq.mpr c12; have c12b1 := bne_eq_false_iff_eq.mpr c12; clear c12; obtain rfl := Option.some.inj H; go_wp2; go_ret; exact ⟨eQ, dQ⟩
        · intro H; have c12b0 := beq_eq_false_iff_ne.mpr c12; have c12b1 := bne_iff_ne.mpr c12; obtain rfl := Option.some.inj H; go_wp2; go_ret; exact ⟨eQ, dQ⟩
      · intro H; have c11b0 := beq_eq_false_iff_ne.mpr c11; have c11b1 := bne_iff_ne.mpr c11; revert H
        refine ifB (fun c13 => ?_) (fun c13 => ?_)
        · intro H; have c13b0 := beq_iff_eq.mpr c13; have c13b1 := bne_eq_false_iff_eq.mpr c13; clear c13; revert H
          refine ifB (fun c14 => ?_) (fun c14 => ?_)
          · intro H; have c14b0 := beq_iff_eq.mpr c14; have c14b1 := bne_eq_false_iff_eq.mpr c14; clear c14; obtain rfl := Option.some.inj H; go_wp2; go_ret; exact ⟨eQ, dQ⟩
          · intro H; have c14b0 := beq_eq_false_iff_ne.mpr c14; have c14b1 := bne_iff_ne.mpr c14; obtain rfl := Option.some.inj H; go_wp2; go_ret; exact ⟨eQ, dQ⟩
        · intro H; have c13b0 := beq_eq_false_iff_ne.mpr c13; have c13b1 := bne_iff_ne.mpr c13; revert H
          refine ifB (fun c15 => ?_) (fun c15 => ?_)
          · intro H; have c15b0 := beq_iff_eq.mpr c15; have c15b1 := bne_eq_false_iff_eq.mpr c15; clear c15; revert H
            refine ifB (fun c16 => ?_) (fun c16 => ?_)
            · intro H; have c16b0 := beq_iff_eq.mpr c16; have c16b1 := bne_eq_false_iff_eq.mpr c16; clear c16; obtain rfl := Option.some.inj H; go_wp2; go_ret; exact ⟨eQ, dQ⟩
            · intro H; have c16b0 := beq_eq_false_iff_ne.mpr c16; have c16b1 := bne_iff_ne.mpr c16; obtain rfl := Option.some.inj H; go_wp2; go_ret; exact ⟨eQ, dQ⟩
          · intro H; have c15b0 := beq_eq_false_iff_ne.mpr c15; have c15b1 := bne_iff_ne.mpr c15; obtain rfl := Option.some.inj H; go_wp2; go_ret; exact ⟨eQ, dQ⟩

end Go.Proofs.Ytajnobmnkbkkgaa.PFnScans
