/- What data of a type can be read as a value of a kind of the print's: integers, bools, strings, slices, structs, by the types' own descriptions. -/
import Derived.Test.YtefoebmcimnapaaWMore
import Derived.Deep.Slices
import Derived.ChangeArms
import Derived.WideShapes
import Derived.Below
set_option linter.unusedVariables false
namespace Go.Proofs.Ytefoebmcimnapaa.OpenKit
open Go.RowKit Go.Proofs.YtefoebmcimnapaaW.PrintWords Go.Deep

/-- Cells that are read as data of type t are those of some value of the kind d, of which Q holds. -/
structure Opens {α : Type} (P : Program) (t : TypeId) (d : Kd α) (Q : α → Prop) : Prop where
  out : ∀ {H : Type} {enc : TypeId × Value → H} {w : World} {base : Nat} {spare : Nat → Bool} {held : Bool} {fuel : Nat} {cs : List Value} {x : DataW H × List MemPlace},
    DataW.trod enc P w base spare held fuel t cs = some x → ∃ a : α, d.K w a cs ∧ Q a
theorem opens_int {P : Program} {t : TypeId} {k : IntKind} (ht : P.underlying t = some (.int k)) : Opens P t (Kd.int k) (fun a => (Lit.int k a).wf = true) := by
  constructor
  intro H enc w base spare held fuel cs x h
  obtain ⟨n, rfl, _, hw⟩ := DataW.trod_int ht h
  exact ⟨n, rfl, hw⟩
theorem opens_bool {P : Program} {t : TypeId} (ht : P.underlying t = some .bool) : Opens P t Kd.bool (fun _ => True) := by
  constructor
  intro H enc w base spare held fuel cs x h
  obtain ⟨n, rfl, _⟩ := DataW.trod_bool ht h
  exact ⟨n, rfl, trivial⟩
theorem opens_string {P : Program} {t : TypeId} (ht : P.underlying t = some .string) : Opens P t Kd.string (fun s => s.size ≤ 9223372036854775807) := by
  constructor
  intro H enc w base spare held fuel cs x h
  obtain ⟨n, rfl, _, hs⟩ := DataW.trod_string ht h
  exact ⟨n, rfl, hs⟩
theorem choose_list {α : Type} {n : Nat} {p : Nat → α → Prop} (h : ∀ i, i < n → ∃ a, p i a) : ∃ xs : List α, xs.length = n ∧ ∀ i a, xs[i]? = some a → p i a := by
  induction n with
  | zero => exact ⟨[], rfl, fun i a hi => by simp at hi⟩
  | succ n ih =>
    obtain ⟨xs, hl, hx⟩ := ih (fun i hi => h i (by omega))
    obtain ⟨a, ha⟩ := h n (by omega)
    refine ⟨xs ++ [a], by simp [hl], fun i b hb => ?_⟩
    rcases Nat.lt_trichotomy i xs.length with hlt | heq | hgt
    · rw [List.getElem?_append_left hlt] at hb
      exact hx i b hb
    · subst heq
      rw [List.getElem?_append_right (Nat.le_refl _)] at hb
      simp only [Nat.sub_self, List.getElem?_cons_zero, Option.some.injEq] at hb
      rw [← hb, hl]
      exact ha
    · rw [List.getElem?_eq_none (by simp; omega)] at hb
      cases hb
theorem opens_slice {α : Type} {P : Program} {t e : TypeId} {d : Kd α} {Q : α → Prop} (ht : P.underlying t = some (.slice e)) (hsz : P.cellsOf e = d.sz) (he : Opens P e d Q) :
    Opens P t (Kd.slice e d) (fun xs => xs.length ≤ 9223372036854775807 ∧ ∀ x ∈ xs, Q x) := by
  constructor
  intro H enc w base spare held fuel cs x h
  rcases open_slice ht h with ⟨rfl, _⟩ | ⟨a, len, cap, m, n, D, Pl, rfl, hb, hl, hm, hmm, _, hi⟩
  · refine ⟨[], ⟨none, 0, rfl, Nat.le_refl _, ?_⟩, by simp, by simp⟩
    exact ⟨rfl, by simp, fun hp => absurd hp (by simp)⟩
  · have hml : len ≤ m := by rw [hmm]; split <;> omega
    obtain ⟨xs, hxl, hx⟩ := choose_list (n := len) (p := fun i y => Q y ∧ ∃ cs', d.K w y cs' ∧ w.cells? base (a.add (i * d.sz)) d.sz = some cs') (fun i hlt => by
      obtain ⟨cs', hc, ht'⟩ := hi i (by omega)
      obtain ⟨y, hy, hq⟩ := he.out ht'
      rw [hsz] at hc
      exact ⟨y, hq, cs', hy, hc⟩)
    refine ⟨xs, ⟨some a, cap, by rw [hxl], by omega, ?_⟩, by show xs.length ≤ 9223372036854775807; unfold maxLen at hm; omega, fun y hy => ?_⟩
    · refine ⟨rfl, by unfold maxLen at hm; omega, fun _ => ⟨a, rfl, fun i p hp => ?_⟩⟩
      obtain ⟨_, cs', hk, hc⟩ := hx i p hp
      obtain ⟨_, hcl, hat⟩ := World.cells?_some hc
      refine ⟨cs', hcl, hk, fun j u hu => ?_⟩
      have hj : j < d.sz := by have := (List.getElem?_eq_some_iff.1 hu).1; omega
      have := hat j hj
      rw [hu] at this
      rw [Go.Deep.add_add] at this
      exact this
    · obtain ⟨i, hlt, rfl⟩ := List.getElem_of_mem hy
      exact (hx i _ (List.getElem?_eq_getElem hlt)).1
/-- The fields fs, from cell o on. -/
structure OpensF {α : Type} (P : Program) (o : Nat) (fs : List Field) (d : Kd α) (Q : α → Prop) : Prop where
  out : ∀ {H : Type} {enc : TypeId × Value → H} {w : World} {base : Nat} {spare : Nat → Bool} {held : Bool} {fuel : Nat} {cs : List Value}, cs.length = o + d.sz →
    (∀ f ∈ fs, ∃ x, DataW.trod enc P w base spare held fuel f.type ((cs.drop f.offset).take (P.cellsOf f.type)) = some x) → ∃ a : α, d.K w a (cs.drop o) ∧ Q a
theorem opensF_one {α : Type} {P : Program} {o : Nat} {f : Field} {d : Kd α} {Q : α → Prop} (ho : f.offset = o) (hs : P.cellsOf f.type = d.sz) (h : Opens P f.type d Q) : OpensF P o [f] d Q := by
  constructor
  intro H enc w base spare held fuel cs hl hf
  obtain ⟨x, hx⟩ := hf f (by simp)
  rw [ho, hs, List.take_of_length_le (by simp; omega)] at hx
  exact h.out hx
theorem opensF_cons {α β : Type} {P : Program} {o : Nat} {f : Field} {fs : List Field} {d : Kd α} {d' : Kd β} {Q : α → Prop} {Q' : β → Prop} (ho : f.offset = o) (hs : P.cellsOf f.type = d.sz) (h : Opens P f.type d Q) (h' : OpensF P (o + d.sz) fs d' Q') :
    OpensF P o (f :: fs) (Kd.pair d d') (fun a => Q a.1 ∧ Q' a.2) := by
  constructor
  intro H enc w base spare held fuel cs hl hf
  obtain ⟨x, hx⟩ := hf f (by simp)
  rw [ho, hs] at hx
  obtain ⟨a, ha, hq⟩ := h.out hx
  have hl' : cs.length = o + (d.sz + d'.sz) := hl
  obtain ⟨b, hb, hq'⟩ := h'.out (cs := cs) (by omega) (fun g hg => hf g (by simp [hg]))
  refine ⟨(a, b), ⟨_, _, ?_, ha, hb⟩, hq, hq'⟩
  rw [← List.drop_drop]
  exact (List.take_append_drop _ _).symm
theorem opens_struct {α : Type} {P : Program} {t : TypeId} {fs : Array Field} {d : Kd α} {Q : α → Prop} (ht : P.underlying t = some (.struct fs)) (hs : P.cellsOf t = d.sz) (h : OpensF P 0 fs.toList d Q) : Opens P t d Q := by
  constructor
  intro H enc w base spare held fuel cs x hx
  obtain ⟨xs, n, rfl, _, hl, hxl, hf⟩ := DataW.trod_struct ht hx
  have := h.out (cs := cs) (by omega) (fun f hm => by
    obtain ⟨i, hi, rfl⟩ := List.getElem_of_mem hm
    have hi' : i < fs.size := by simpa using hi
    have := hf i fs[i] (by simp [hi'])
    rw [List.getElem?_eq_getElem (by omega)] at this
    exact ⟨_, by simpa using this⟩)
  simpa using this
theorem opens_iso {α β : Type} {P : Program} {t : TypeId} {d : Kd α} {Q : α → Prop} (f : β → α) (g : α → β) (hfg : ∀ a, f (g a) = a) (h : Opens P t d Q) : Opens P t (Kd.iso d f) (fun b => Q (f b)) := by
  constructor
  intro H enc w base spare held fuel cs x hx
  obtain ⟨a, ha, hq⟩ := h.out hx
  refine ⟨g a, ?_, ?_⟩
  · show d.K w (f (g a)) cs
    rw [hfg]; exact ha
  · show Q (f (g a))
    rw [hfg]; exact hq
/-- An argument, opened. -/
theorem open_arg {α : Type} {P : Program} {t : TypeId} {d : Kd α} {Q : α → Prop} (h : Opens P t d Q) {H : Type} {enc : TypeId × Value → H} {w : World} {base : Nat} {spare : Nat → Bool} {held : Bool} {v : Value} {y : DataW H} {p : List MemPlace}
    (hv : DataW.Trod enc P w base spare held t v y p) : ∃ a : α, d.K w a v.cells.toList ∧ Q a := by
  obtain ⟨fuel, hf⟩ := hv
  exact h.out hf
end Go.Proofs.Ytefoebmcimnapaa.OpenKit
