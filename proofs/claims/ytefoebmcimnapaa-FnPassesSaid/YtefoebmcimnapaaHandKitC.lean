/- Copy into a cut of a row of one's own; a call through a function's value. -/
import Derived.Test.YtefoebmcimnapaaHandKit
import Derived.Test.YtefoebmcimnapaaWLast
import Derived.Laws.IdiomCopy
set_option linter.unusedVariables false
set_option linter.unusedSimpArgs false
namespace Go.Proofs.YtefoebmcimnapaaW.PrintMore
open Go.RowKit Go.Proofs.YtefoebmcimnapaaW.PrintWords
/-- A row with n values of another put from place l on. -/
def cpy {α : Type} (xs : List α) (l n : Nat) (ys : List α) : List α := xs.take l ++ ys.take n ++ xs.drop (l + min ys.length n)
end Go.Proofs.YtefoebmcimnapaaW.PrintMore
namespace Go.Proofs.YtefoebmcimnapaaW.PrintWords.Kd
open Go.RowKit Go.Proofs.YtefoebmcimnapaaW.PrintWords Go.Proofs.YtefoebmcimnapaaW.PrintMore
theorem R_copy_cut_run {P : Program} {α : Type} {enc : α → Value} {h1 : ∀ x, (enc x).oneCell' = true} (d : α) {W : World} (base : Nat) (t t' ty e : TypeId) (ht : P.underlying t = some (.slice e)) (hinfo : (P.info? e).map (·.size) = some 1)
    {A0 A1 A : Option Addr} {n c l p m c1 c2 : Nat} {xs ys : List α} {ok : Nat → Prop}
    (hA : A1 = if c = l then A0 else A0.map (·.add (l * 1))) (HO : (scalar enc h1).R e W base ok (.slice A0 n c) xs) (hlp : l + p ≤ n) (HR : (scalar enc h1).C W A m ys) :
    ∃ w1, (Builtin.copy_ #[t, t'] ty #[.slice A1 p c1, .slice A m c2]).run P W = .ok (goInt ((min m p : Nat) : Int)) w1 ∧ (scalar enc h1).R e w1 base ok (.slice A0 n c) (cpy xs l p ys) ∧ W.grownBy w1 (Value.ownBlock (.slice A0 n c)) := by
  have hR := reads_of_C (enc := enc) (d := d) (h1 := h1) HR
  have hm : ys.length = m := hR.1
  have hown := own_of_R HO
  have hcut : min m p = 0 → cpy xs l p ys = xs := by
    intro h0
    unfold cpy
    rw [hm, h0, Nat.add_zero]
    have : ys.take p = [] := by
      apply List.eq_nil_of_length_eq_zero
      rw [List.length_take]; omega
    rw [this, List.append_nil, List.take_append_drop]
  rcases Nat.eq_zero_or_pos (min m p) with h0 | hp
  · refine ⟨W, ?_, by rw [hcut h0]; exact HO, World.grownBy.refl W _⟩
    rw [h0]
    exact run_copy_none W t t' ty e A1 A p c1 m c2 ht hinfo h0
  · obtain ⟨ad, hAd, hc⟩ := hR.2.2 (by omega)
    rcases hown.2 with ⟨hv, hx0⟩ | ⟨g, cap, cur, hv, hb, hh, hnc, hcm, hcs, htake⟩
    · injection hv with _ hv _
      omega
    injection hv with hv1 hv2 hv3
    subst hv1; subst hv2; subst hv3
    have hcs1 : cur.size = c := by omega
    have hA2 : A1 = some ⟨g, 0 + l, none⟩ := by rw [hA, if_neg (by omega), Option.map_some, Nat.mul_one, Addr.add_lit]
    have hsrc : ∀ j u, (encs enc (ys.take (min m p)))[j]? = some u → W.cell? (ad.add j) = some u := by
      intro j u hu
      have hj : j < (ys.take (min m p)).length := by
        rcases Nat.lt_or_ge j (ys.take (min m p)).length with h | h
        · exact h
        · rw [List.getElem?_eq_none (by rw [encs_length]; exact h)] at hu
          cases hu
      have hjm : j < min m p := by rw [List.length_take] at hj; omega
      rw [encs_get (d := d) _ j hj] at hu
      rw [hc j (by omega), ← hu]
      simp [List.getD_eq_getElem?_getD, hjm]
    have hkl : (encs enc (ys.take (min m p))).length = min m p := by rw [encs_length, List.length_take]; omega
    have hr := run_copy_cells (P := P) W t t' ty e g (0 + l) p c1 ad m c2 (encs enc (ys.take (min m p))) ht hinfo (by rw [hkl]) hsrc
      (fun j hj => by rw [cell_of_row W g _ cur e (0, 0) hh]; simp; omega) (fun j _ => blk_frozen hh _) (by intro u hu; simp only [encs, List.mem_map] at hu; obtain ⟨q, _, rfl⟩ := hu; exact h1 q)
    obtain ⟨cur', h3, h4, h5⟩ := setCells_row (encs enc (ys.take (min m p))) (0 + l) W cur hh (by rw [hkl]; omega)
    obtain ⟨s1, s2, s3, s4⟩ := setCells_same g (encs enc (ys.take (min m p))) (0 + l) W
    have htp : ys.take p = ys.take (min m p) := by
      rcases Nat.le_total m p with hmp | hmp
      · rw [Nat.min_eq_left hmp, List.take_of_length_le (by omega), List.take_of_length_le (by omega)]
      · rw [Nat.min_eq_right hmp]
    have hce : cpy xs l p ys = xs.take l ++ ys.take (min m p) ++ xs.drop (l + min m p) := by unfold cpy; rw [hm, htp]
    have hln : (cpy xs l p ys).length = xs.length := by
      rw [hce, List.length_append, List.length_append, List.length_take, List.length_take, List.length_drop]
      omega
    refine ⟨_, by rw [hA2, hAd, hr, hkl], R_of_own ?_ HO.1, ⟨s1, s2, s3, by rw [s4]; exact Nat.le_refl _, fun k _ hk => setCells_far _ _ k (fun he => hk (by rw [he]; simp [Value.ownBlock]))⟩⟩
    rw [hln]
    refine ⟨by rw [encs_length, hln, Nat.mul_one], .inr ⟨g, c, cur', rfl, hb, h3, hnc, hcm, by rw [h4, hcs], ?_⟩⟩
    have htk : cur.toList.take xs.length = encs enc xs := by rw [← htake, Nat.mul_one]
    rw [h5, hkl, Nat.zero_add, hce, encs_append, encs_append, Nat.mul_one]
    have e1 : encs enc (xs.take l) = cur.toList.take l := by
      rw [show encs enc (xs.take l) = (encs enc xs).take l by simp [encs, List.map_take], ← htk, List.take_take, Nat.min_eq_left (by omega)]
    have e2 : encs enc (xs.drop (l + min m p)) = (cur.toList.take xs.length).drop (l + min m p) := by
      rw [show encs enc (xs.drop (l + min m p)) = (encs enc xs).drop (l + min m p) by simp [encs, List.map_drop], ← htk]
    have l1 : (cur.toList.take l).length = l := by rw [List.length_take, Array.length_toList]; omega
    rw [e1, e2, List.append_assoc, List.append_assoc, List.take_append, l1, List.take_of_length_le (by rw [l1]; omega)]
    congr 1
    rw [List.take_append, hkl, List.take_of_length_le (by rw [hkl]; omega)]
    congr 1
    rw [List.take_drop]
    congr 2
    omega
theorem R_copy_cut {P : Program} {ops : Array Oper} {rest : List Oper} {o : Oper} {a : Act} {Q : Exit → Act → World → Prop} {Kc : Act → World → Prop} {α : Type} {enc : α → Value} {h1 : ∀ x, (enc x).oneCell' = true} (d : α) {w0 W : World} (base : Nat) (hgd : o.guard = none) (s x : Operand) (t t' e : TypeId)
    (ho : o.op = .call { callee := .builtin .copy, args := #[s, x], argTypes := #[t, t'] }) (ht : P.underlying t = some (.slice e)) (hinfo : (P.info? e).map (·.size) = some 1)
    {A0 A1 A : Option Addr} {n c l p m c1 c2 : Nat} {xs ys : List α} {ok : Nat → Prop} (hs : a.eval s = .slice A1 p c1) (hx : a.eval x = .slice A m c2)
    (hA : A1 = if c = l then A0 else A0.map (·.add (l * 1))) (HO : (scalar enc h1).R e W base ok (.slice A0 n c) xs) (hlp : l + p ≤ n) (HR : (scalar enc h1).C W A m ys) (HB : Below base w0 W) (hbase : base ≤ W.heap.size)
    (h : ∀ w1, (scalar enc h1).R e w1 base ok (.slice A0 n c) (cpy xs l p ys) → Below base w0 w1 → W.grownBy w1 (Value.ownBlock (.slice A0 n c)) → wpList P ops Q rest (a.put o.dst (.int .i64 ((min m p : Nat) : Int))) w1) :
    wpList P ops Q (o :: rest) a W := by
  obtain ⟨w1, hr, hrow, hg⟩ := R_copy_cut_run (P := P) (h1 := h1) d base t t' o.type e ht hinfo (c1 := c1) (c2 := c2) hA HO hlp HR
  refine wpList_plain hgd fun K hK => ?_
  unfold Oper.wp execOp
  simp only [ho, resolve, invoke, builtin, Sem.run_bind, Sem.run_pure, Result.andThen_ok, List.map_toArray, List.map_cons, List.map_nil, hs, hx, hr]
  exact hK _ _ (h w1 hrow (HB.grown hg hbase (own_base (own_of_R HO))) hg)
theorem R_copy_cut_step {P : Program} {ops : Array Oper} {o : Oper} {a : Act} {Q : Exit → Act → World → Prop} {Kc : Act → World → Prop} {α : Type} {enc : α → Value} {h1 : ∀ x, (enc x).oneCell' = true} (d : α) {w0 W : World} (base : Nat) (hw : Region.wanted o (yielded ops a.tmps) = true) (s x : Operand) (t t' e : TypeId)
    (ho : o.op = .call { callee := .builtin .copy, args := #[s, x], argTypes := #[t, t'] }) (ht : P.underlying t = some (.slice e)) (hinfo : (P.info? e).map (·.size) = some 1)
    {A0 A1 A : Option Addr} {n c l p m c1 c2 : Nat} {xs ys : List α} {ok : Nat → Prop} (hs : a.eval s = .slice A1 p c1) (hx : a.eval x = .slice A m c2)
    (hA : A1 = if c = l then A0 else A0.map (·.add (l * 1))) (HO : (scalar enc h1).R e W base ok (.slice A0 n c) xs) (hlp : l + p ≤ n) (HR : (scalar enc h1).C W A m ys) (HB : Below base w0 W) (hbase : base ≤ W.heap.size)
    (h : ∀ w1, (scalar enc h1).R e w1 base ok (.slice A0 n c) (cpy xs l p ys) → Below base w0 w1 → W.grownBy w1 (Value.ownBlock (.slice A0 n c)) → Kc (a.put o.dst (.int .i64 ((min m p : Nat) : Int))) w1) :
    if Region.wanted o (yielded ops a.tmps) = true then Oper.wp P o a W Kc Q else Kc (a.put o.dst undef) W := by
  obtain ⟨w1, hr, hrow, hg⟩ := R_copy_cut_run (P := P) (h1 := h1) d base t t' o.type e ht hinfo (c1 := c1) (c2 := c2) hA HO hlp HR
  rw [if_pos hw]
  unfold Oper.wp execOp
  simp only [ho, resolve, invoke, builtin, Sem.run_bind, Sem.run_pure, Result.andThen_ok, List.map_toArray, List.map_cons, List.map_nil, hs, hx, hr]
  exact h w1 hrow (HB.grown hg hbase (own_base (own_of_R HO))) hg
end Go.Proofs.YtefoebmcimnapaaW.PrintWords.Kd
namespace Go.Proofs.YtefoebmcimnapaaW.PrintMore
open Go.RowKit Go.Proofs.YtefoebmcimnapaaW.PrintWords
/-- The operation is a call through a value. -/
theorem gate_callval {P : Program} {ops : Array Oper} {Q : Exit → Act → World → Prop} {o : Oper} {rest : List Oper} {a : Act} {W : World} {x : Operand} {as : Array Operand} {ts : Array TypeId} (_ho : o.op = .call { callee := .value x, args := as, argTypes := ts }) (h : wpList P ops Q (o :: rest) a W) : wpList P ops Q (o :: rest) a W := h
theorem goesV_ {P : Program} {ops : Array Oper} {Q : Exit → Act → World → Prop} {rest : List Oper} {oi : Oper} {a : Act} {w : World} (N : Option Tmp) (hd : oi.dst = N) (hg : oi.guard = none) {f : FuncId} {fn : Func} {x : Operand} {as : Array Operand} {ts : Array TypeId} (hf : P.funcs[f]? = some fn) (hname : (fn.name == "runtime.NumGoroutine") = false) (hb : fn.body.isSome = true) (args : Array Value)
    (hop : oi.op = .call { callee := .value x, args := as, argTypes := ts }) (hxv : a.eval x = .func (.func f) #[] #[]) (hargs : as.map a.eval = args)
    (h : Calls P f args w fun e w' => ∃ v, e = .returned v ∧ wpList P ops Q rest (a.put N v) w') : wpList P ops Q (oi :: rest) a w := by
  refine wpList_plain hg fun K hK => ?_
  have he := Go.Proofs.YtefoebmcimnapaaW.PrintLast.enters_ hf hname hb args w
  have hrun : (execOp a.eval oi).run P w = .ok (.enter f args) w := by
    unfold execOp
    simp [hop, resolve, Deferred.ofValue, invoke, hxv, hargs, he]
  unfold Oper.wp
  rw [hrun, Oper.upon_enter]
  refine h.mono fun e w'' hh => ?_
  obtain ⟨v, rfl, hk⟩ := hh
  subst hd
  exact hK _ _ hk
end Go.Proofs.YtefoebmcimnapaaW.PrintMore
