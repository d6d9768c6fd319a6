/- Walks of functions that the law FnSums reaches: each call comes to what the Lean function of its name tells. Written by p2.py, a program of this session, by way of the kit's print. -/
import Derived.Test.YtcdpnaaeokjdaaaPFnSumsx0
import Derived.Test.YtcdpnaaeokjdaaaPFnSumsx1
import Derived.Test.YtcdpnaaeokjdaaaPFnSumsx2
namespace Go.Proofs.Ytcdpnaaeokjdaaa.PFnSums
open Go.RowKit Go.Proofs.YtcdpnaaeokjdaaaW.PrintWords Go.Proofs.YtcdpnaaeokjdaaaW.PrintLast Go.Proofs.YtcdpnaaeokjdaaaW.PrintMore
attribute [local go_sem] max2_int min2_int max_two min_two max_three min_three max_four min_four   -- for this text's walks alone
set_option linter.unusedVariables false
set_option linter.unusedSimpArgs false

/-! ### laws_FnSums: function 11 -/
mutual
def laws_FnSums.j0 : Nat → ByteArray → List Int → ByteArray → ByteArray → Bool → Option (Bool)
  | 0, _, _, _, _, _ => none
  | k + 1, x3, x4, x6, x7, x42 => if x42 = true then (some false) else ((impl_Crc.f k x6).bind fun t179 => ((impl_Crc.f k x7).bind fun t180 => ((impl_CrcJoin.f k t179 t180 (x7.size : Int)).bind fun t181 => ((impl_Crc.f k x3).bind fun t182 => (if t181 = t182 then ((impl_Adler.f k x6).bind fun t183 => ((impl_Adler.f k x7).bind fun t184 => ((impl_AdlerJoin.f t183 t184 (x7.size : Int)).bind fun t185 => ((impl_Adler.f k x3).bind fun t186 => (laws_FnSums.j1 k x3 x4 (t185 != t186)))))) else (laws_FnSums.j1 k x3 x4 true))))))
def laws_FnSums.j1 : Nat → ByteArray → List Int → Bool → Option (Bool)
  | 0, _, _, _ => none
  | k + 1, x3, x4, x64 => if x64 = true then (some false) else (if (x3.size : Int) = 0 then (some true) else (if 1 < (x4.length : Int) then (if 2 < (x4.length : Int) then ((laws_turned.f x3 (rd x4 1) (rd x4 2)).bind fun t189 => ((impl_Crc.f k t189).bind fun t190 => ((impl_Crc.f k x3).bind fun t191 => (some (t190 != t191))))) else (none)) else (none)))
end
def laws_FnSums.f (k : Nat) (l0 : List Int) : Option (Bool) := (laws_big.f l0).bind fun t167 => (if t167 = true then (some true) else ((spec_DrawCrc.f k l0).bind fun t168 => ((spec_DrawPlaces.f k l0).bind fun t169 => (if 0 < (t169.length : Int) then (if (wrap64 ((t168.size : Int) + 1)) = 0 then (none) else (if 0 ≤ (Int.tmod (rd t169 0) (wrap64 ((t168.size : Int) + 1))) then (if (Int.tmod (rd t169 0) (wrap64 ((t168.size : Int) + 1))) ≤ (t168.size : Int) then ((impl_Crc.f k (t168.extract 0 ((Int.tmod (rd t169 0) (wrap64 ((t168.size : Int) + 1))) : Int).toNat)).bind fun t173 => ((impl_CrcMore.f k t173 (t168.extract ((Int.tmod (rd t169 0) (wrap64 ((t168.size : Int) + 1))) : Int).toNat t168.size)).bind fun t174 => ((impl_Crc.f k t168).bind fun t175 => (if t174 = t175 then ((impl_Adler.f k (t168.extract 0 ((Int.tmod (rd t169 0) (wrap64 ((t168.size : Int) + 1))) : Int).toNat)).bind fun t176 => ((impl_AdlerMore.f k t176 (t168.extract ((Int.tmod (rd t169 0) (wrap64 ((t168.size : Int) + 1))) : Int).toNat t168.size)).bind fun t177 => ((impl_Adler.f k t168).bind fun t178 => (laws_FnSums.j0 k t168 t169 (t168.extract 0 ((Int.tmod (rd t169 0) (wrap64 ((t168.size : Int) + 1))) : Int).toNat) (t168.extract ((Int.tmod (rd t169 0) (wrap64 ((t168.size : Int) + 1))) : Int).toNat t168.size) (t177 != t178))))) else (laws_FnSums.j0 k t168 t169 (t168.extract 0 ((Int.tmod (rd t169 0) (wrap64 ((t168.size : Int) + 1))) : Int).toNat) (t168.extract ((Int.tmod (rd t169 0) (wrap64 ((t168.size : Int) + 1))) : Int).toNat t168.size) true))))) else (none)) else (none))) else (none)))))
theorem laws_FnSums.mono_l : ∀ k, (∀ y0 y1 y2 y3 y4, LeO (laws_FnSums.j0 k y0 y1 y2 y3 y4) (laws_FnSums.j0 (k + 1) y0 y1 y2 y3 y4)) ∧ (∀ y0 y1 y2, LeO (laws_FnSums.j1 k y0 y1 y2) (laws_FnSums.j1 (k + 1) y0 y1 y2))
  | 0 => ⟨fun _ _ _ _ _ r h => by simp [laws_FnSums.j0] at h, fun _ _ _ r h => by simp [laws_FnSums.j1] at h⟩
  | k + 1 => by
    obtain ⟨ih0, ih1⟩ := laws_FnSums.mono_l k
    refine ⟨?_, ?_⟩
    · intro y0 y1 y2 y3 y4
      unfold laws_FnSums.j0
      repeat' first
      | (with_reducible exact ih0 _ _ _ _ _)
      | (with_reducible exact ih1 _ _ _)
      | (with_reducible exact impl_Adler.mono _ _)
      | (with_reducible exact impl_AdlerMore.mono _ _ _)
      | (with_reducible exact impl_Crc.mono _ _)
      | (with_reducible exact impl_CrcJoin.mono _ _ _ _)
      | (with_reducible exact impl_CrcMore.mono _ _ _)
      | (with_reducible exact spec_DrawCrc.mono _ _)
      | (with_reducible exact spec_DrawPlaces.mono _ _)
      | (with_reducible exact LeO.refl _)
      | (with_reducible exact LeO.none _)
      | (with_reducible refine LeO.ite ?_ ?_)
      | (with_reducible refine LeO.bind ?_ (fun _ => ?_))
      | exact ih0 _ _ _ _ _
      | exact ih1 _ _ _
      | exact impl_Adler.mono _ _
      | exact impl_AdlerMore.mono _ _ _
      | exact impl_Crc.mono _ _
      | exact impl_CrcJoin.mono _ _ _ _
      | exact impl_CrcMore.mono _ _ _
      | exact spec_DrawCrc.mono _ _
      | exact spec_DrawPlaces.mono _ _
      | exact LeO.none _
      | refine LeO.ite ?_ ?_
      | refine LeO.bind ?_ (fun _ => ?_)
    · intro y0 y1 y2
      unfold laws_FnSums.j1
      repeat' first
      | (with_reducible exact ih0 _ _ _ _ _)
      | (with_reducible exact ih1 _ _ _)
      | (with_reducible exact impl_Adler.mono _ _)
      | (with_reducible exact impl_AdlerMore.mono _ _ _)
      | (with_reducible exact impl_Crc.mono _ _)
      | (with_reducible exact impl_CrcJoin.mono _ _ _ _)
      | (with_reducible exact impl_CrcMore.mono _ _ _)
      | (with_reducible exact spec_DrawCrc.mono _ _)
      | (with_reducible exact spec_DrawPlaces.mono _ _)
      | (with_reducible exact LeO.refl _)
      | (with_reducible exact LeO.none _)
      | (with_reducible refine LeO.ite ?_ ?_)
      | (with_reducible refine LeO.bind ?_ (fun _ => ?_))
      | exact ih0 _ _ _ _ _
      | exact ih1 _ _ _
      | exact impl_Adler.mono _ _
      | exact impl_AdlerMore.mono _ _ _
      | exact impl_Crc.mono _ _
      | exact impl_CrcJoin.mono _ _ _ _
      | exact impl_CrcMore.mono _ _ _
      | exact spec_DrawCrc.mono _ _
      | exact spec_DrawPlaces.mono _ _
      | exact LeO.none _
      | refine LeO.ite ?_ ?_
      | refine LeO.bind ?_ (fun _ => ?_)
theorem laws_FnSums.mono : ∀ a0 k, LeO (laws_FnSums.f k a0) (laws_FnSums.f (k + 1) a0) := by
  intro a0 k
  obtain ⟨ih0, ih1⟩ := laws_FnSums.mono_l k
  unfold laws_FnSums.f
  repeat' first
      | (with_reducible exact ih0 _ _ _ _ _)
      | (with_reducible exact ih1 _ _ _)
      | (with_reducible exact impl_Adler.mono _ _)
      | (with_reducible exact impl_AdlerMore.mono _ _ _)
      | (with_reducible exact impl_Crc.mono _ _)
      | (with_reducible exact impl_CrcJoin.mono _ _ _ _)
      | (with_reducible exact impl_CrcMore.mono _ _ _)
      | (with_reducible exact spec_DrawCrc.mono _ _)
      | (with_reducible exact spec_DrawPlaces.mono _ _)
      | (with_reducible exact LeO.refl _)
      | (with_reducible exact LeO.none _)
      | (with_reducible refine LeO.ite ?_ ?_)
      | (with_reducible refine LeO.bind ?_ (fun _ => ?_))
      | exact ih0 _ _ _ _ _
      | exact ih1 _ _ _
      | exact impl_Adler.mono _ _
      | exact impl_AdlerMore.mono _ _ _
      | exact impl_Crc.mono _ _
      | exact impl_CrcJoin.mono _ _ _ _
      | exact impl_CrcMore.mono _ _ _
      | exact spec_DrawCrc.mono _ _
      | exact spec_DrawPlaces.mono _ _
      | exact LeO.none _
      | refine LeO.ite ?_ ?_
      | refine LeO.bind ?_ (fun _ => ?_)
def laws_FnSums.T12 : Bool × List (List Nat × List Nat) := (true, [([], []), ([0], [0]), ([1], [1]), ([2], [2]), ([3], [3]), ([3], [3]), ([5, 3], [3, 5]), ([6, 3], [3, 6]), ([3], [3]), ([8, 3], [3, 8]), ([9, 3], [3, 9]), ([4, 7, 10, 3, 3], [3, 4, 7, 10]), ([11, 11, 3], [3, 11]), ([3], [3]), ([13, 12, 3], [3, 13]), ([12, 14, 3], [3, 12, 14]), ([3, 15], [3, 15]), ([16, 14, 0, 1, 2, 3, 4, 5, 6, 7, 8, 9, 10, 11, 12, 13, 14, 15, 16], [16])])
def laws_FnSums.B12 : List Nat := [0, 1, 3, 7, 15, 15, 47, 111, 15, 271, 783, 2047, 4095, 15, 16383, 32767, 65535, 131071]
theorem laws_FnSums.tab12 : rtab .any (opsOf Try.f11 12) = laws_FnSums.T12 := by kernel_rfl
theorem laws_FnSums.bits12 : waitsOk laws_FnSums.T12.2 laws_FnSums.B12 = true := by kernel_rfl
set_option maxHeartbeats 8000000 in
set_option maxRecDepth 100000 in
theorem laws_FnSums.calls (k : Nat) (A0 : Option Addr) (c0 : Nat) (l0 : List Int) (r : Bool) (w : World) (hr0 : Kd.C (Kd.int .u8) w A0 l0.length l0) (hc0 : l0.length ≤ c0) (h : laws_FnSums.f k l0 = some r) :
    Calls Try.prog 11 #[.slice A0 l0.length c0] w fun e w' => e = .returned (.bool r) ∧ Below w.heap.size w w' := by
  have HR0 := Aside0.mk hr0
  have HC0 := Aside0.mk hc0
  clear hr0 hc0
  have HB := Aside0.mk (Below.refl w.heap.size w)
  have H : ((laws_big.f l0).bind fun t167 => (if t167 = true then (some true) else ((spec_DrawCrc.f k l0).bind fun t168 => ((spec_DrawPlaces.f k l0).bind fun t169 => (if 0 < (t169.length : Int) then (if (wrap64 ((t168.size : Int) + 1)) = 0 then (none) else (if 0 ≤ (Int.tmod (rd t169 0) (wrap64 ((t168.size : Int) + 1))) then (if (Int.tmod (rd t169 0) (wrap64 ((t168.size : Int) + 1))) ≤ (t168.size : Int) then ((impl_Crc.f k (t168.extract 0 ((Int.tmod (rd t169 0) (wrap64 ((t168.size : Int) + 1))) : Int).toNat)).bind fun t173 => ((impl_CrcMore.f k t173 (t168.extract ((Int.tmod (rd t169 0) (wrap64 ((t168.size : Int) + 1))) : Int).toNat t168.size)).bind fun t174 => ((impl_Crc.f k t168).bind fun t175 => (if t174 = t175 then ((impl_Adler.f k (t168.extract 0 ((Int.tmod (rd t169 0) (wrap64 ((t168.size : Int) + 1))) : Int).toNat)).bind fun t176 => ((impl_AdlerMore.f k t176 (t168.extract ((Int.tmod (rd t169 0) (wrap64 ((t168.size : Int) + 1))) : Int).toNat t168.size)).bind fun t177 => ((impl_Adler.f k t168).bind fun t178 => (laws_FnSums.j0 k t168 t169 (t168.extract 0 ((Int.tmod (rd t169 0) (wrap64 ((t168.size : Int) + 1))) : Int).toNat) (t168.extract ((Int.tmod (rd t169 0) (wrap64 ((t168.size : Int) + 1))) : Int).toNat t168.size) (t177 != t178))))) else (laws_FnSums.j0 k t168 t169 (t168.extract 0 ((Int.tmod (rd t169 0) (wrap64 ((t168.size : Int) + 1))) : Int).toNat) (t168.extract ((Int.tmod (rd t169 0) (wrap64 ((t168.size : Int) + 1))) : Int).toNat t168.size) true))))) else (none)) else (none))) else (none)))))) = some r := h
  clear h
  replace H := Option.bind_eq_some_iff.mp H
  obtain ⟨t167, A20, H⟩ := H
  replace H : (if t167 = true then (some true) else ((spec_DrawCrc.f k l0).bind fun t168 => ((spec_DrawPlaces.f k l0).bind fun t169 => (if 0 < (t169.length : Int) then (if (wrap64 ((t168.size : Int) + 1)) = 0 then (none) else (if 0 ≤ (Int.tmod (rd t169 0) (wrap64 ((t168.size : Int) + 1))) then (if (Int.tmod (rd t169 0) (wrap64 ((t168.size : Int) + 1))) ≤ (t168.size : Int) then ((impl_Crc.f k (t168.extract 0 ((Int.tmod (rd t169 0) (wrap64 ((t168.size : Int) + 1))) : Int).toNat)).bind fun t173 => ((impl_CrcMore.f k t173 (t168.extract ((Int.tmod (rd t169 0) (wrap64 ((t168.size : Int) + 1))) : Int).toNat t168.size)).bind fun t174 => ((impl_Crc.f k t168).bind fun t175 => (if t174 = t175 then ((impl_Adler.f k (t168.extract 0 ((Int.tmod (rd t169 0) (wrap64 ((t168.size : Int) + 1))) : Int).toNat)).bind fun t176 => ((impl_AdlerMore.f k t176 (t168.extract ((Int.tmod (rd t169 0) (wrap64 ((t168.size : Int) + 1))) : Int).toNat t168.size)).bind fun t177 => ((impl_Adler.f k t168).bind fun t178 => (laws_FnSums.j0 k t168 t169 (t168.extract 0 ((Int.tmod (rd t169 0) (wrap64 ((t168.size : Int) + 1))) : Int).toNat) (t168.extract ((Int.tmod (rd t169 0) (wrap64 ((t168.size : Int) + 1))) : Int).toNat t168.size) (t177 != t178))))) else (laws_FnSums.j0 k t168 t169 (t168.extract 0 ((Int.tmod (rd t169 0) (wrap64 ((t168.size : Int) + 1))) : Int).toNat) (t168.extract ((Int.tmod (rd t169 0) (wrap64 ((t168.size : Int) + 1))) : Int).toNat t168.size) true))))) else (none)) else (none))) else (none))))) = some r := H
  have A2 := Aside0.mk A20
  clear A20
  by_cases c3 : t167 = true
  · subst c3
    have H1 : (some true) = some r := by rw [if_pos rfl] at H; exact H
    clear H
    have H := H1
    clear H1
    obtain rfl := Option.some.inj H
    go_enter Try.func11, Try.ntmps11
    go_wp2_with (first | ((with_reducible refine gate_callee (f := 25) rfl ?_); refine goesL_ (some 9) rfl rfl Try.func25 (by kernel_rfl) rfl #[.slice A0 l0.length c0] rfl (by (try simp only [List.map_toArray, List.map_cons, List.map_nil]); first | done | rfl | (simp only [List.length_drop, List.length_take]; rfl)) ?_; (with_reducible refine (laws_big.calls _ _ l0 true _ ?side1 ?side2 A2.out).mono ?_); (case side1 => repeat (first | exact HR0.out | (with_reducible refine Kd.C_alloc ?_ _) | (with_reducible refine Kd.C_drewN ?_ _) | (with_reducible refine Kd.C_drew ?_))); (case side2 => exact HC0.out); rintro e w' ⟨rfl, ⟨nd, rfl⟩⟩; refine ⟨_, rfl, ?_⟩))
    go_ret
    exact ⟨by first | rfl | (simp [errW_none, errW_some] <;> rfl) | (simp [*, errW_none, errW_some] <;> rfl), by repeat (first | (with_reducible first | exact HB.out | apply below_alloc | apply pw_below_drewN | apply below_drew1) | exact HB.out)⟩
  · replace c3 := Bool.eq_false_iff.mpr c3
    subst c3
    have H1 : ((spec_DrawCrc.f k l0).bind fun t168 => ((spec_DrawPlaces.f k l0).bind fun t169 => (if 0 < (t169.length : Int) then (if (wrap64 ((t168.size : Int) + 1)) = 0 then (none) else (if 0 ≤ (Int.tmod (rd t169 0) (wrap64 ((t168.size : Int) + 1))) then (if (Int.tmod (rd t169 0) (wrap64 ((t168.size : Int) + 1))) ≤ (t168.size : Int) then ((impl_Crc.f k (t168.extract 0 ((Int.tmod (rd t169 0) (wrap64 ((t168.size : Int) + 1))) : Int).toNat)).bind fun t173 => ((impl_CrcMore.f k t173 (t168.extract ((Int.tmod (rd t169 0) (wrap64 ((t168.size : Int) + 1))) : Int).toNat t168.size)).bind fun t174 => ((impl_Crc.f k t168).bind fun t175 => (if t174 = t175 then ((impl_Adler.f k (t168.extract 0 ((Int.tmod (rd t169 0) (wrap64 ((t168.size : Int) + 1))) : Int).toNat)).bind fun t176 => ((impl_AdlerMore.f k t176 (t168.extract ((Int.tmod (rd t169 0) (wrap64 ((t168.size : Int) + 1))) : Int).toNat t168.size)).bind fun t177 => ((impl_Adler.f k t168).bind fun t178 => (laws_FnSums.j0 k t168 t169 (t168.extract 0 ((Int.tmod (rd t169 0) (wrap64 ((t168.size : Int) + 1))) : Int).toNat) (t168.extract ((Int.tmod (rd t169 0) (wrap64 ((t168.size : Int) + 1))) : Int).toNat t168.size) (t177 != t178))))) else (laws_FnSums.j0 k t168 t169 (t168.extract 0 ((Int.tmod (rd t169 0) (wrap64 ((t168.size : Int) + 1))) : Int).toNat) (t168.extract ((Int.tmod (rd t169 0) (wrap64 ((t168.size : Int) + 1))) : Int).toNat t168.size) true))))) else (none)) else (none))) else (none)))) = some r := by rw [if_neg (show ¬ (false = true) by decide)] at H; exact H
    clear H
    have H := H1
    clear H1
    replace H := Option.bind_eq_some_iff.mp H
    obtain ⟨t168, A40, H⟩ := H
    replace H : ((spec_DrawPlaces.f k l0).bind fun t169 => (if 0 < (t169.length : Int) then (if (wrap64 ((t168.size : Int) + 1)) = 0 then (none) else (if 0 ≤ (Int.tmod (rd t169 0) (wrap64 ((t168.size : Int) + 1))) then (if (Int.tmod (rd t169 0) (wrap64 ((t168.size : Int) + 1))) ≤ (t168.size : Int) then ((impl_Crc.f k (t168.extract 0 ((Int.tmod (rd t169 0) (wrap64 ((t168.size : Int) + 1))) : Int).toNat)).bind fun t173 => ((impl_CrcMore.f k t173 (t168.extract ((Int.tmod (rd t169 0) (wrap64 ((t168.size : Int) + 1))) : Int).toNat t168.size)).bind fun t174 => ((impl_Crc.f k t168).bind fun t175 => (if t174 = t175 then ((impl_Adler.f k (t168.extract 0 ((Int.tmod (rd t169 0) (wrap64 ((t168.size : Int) + 1))) : Int).toNat)).bind fun t176 => ((impl_AdlerMore.f k t176 (t168.extract ((Int.tmod (rd t169 0) (wrap64 ((t168.size : Int) + 1))) : Int).toNat t168.size)).bind fun t177 => ((impl_Adler.f k t168).bind fun t178 => (laws_FnSums.j0 k t168 t169 (t168.extract 0 ((Int.tmod (rd t169 0) (wrap64 ((t168.size : Int) + 1))) : Int).toNat) (t168.extract ((Int.tmod (rd t169 0) (wrap64 ((t168.size : Int) + 1))) : Int).toNat t168.size) (t177 != t178))))) else (laws_FnSums.j0 k t168 t169 (t168.extract 0 ((Int.tmod (rd t169 0) (wrap64 ((t168.size : Int) + 1))) : Int).toNat) (t168.extract ((Int.tmod (rd t169 0) (wrap64 ((t168.size : Int) + 1))) : Int).toNat t168.size) true))))) else (none)) else (none))) else (none))) = some r := H
    have A4 := Aside0.mk A40
    clear A40
    replace H := Option.bind_eq_some_iff.mp H
    obtain ⟨t169, A50, H⟩ := H
    replace H : (if 0 < (t169.length : Int) then (if (wrap64 ((t168.size : Int) + 1)) = 0 then (none) else (if 0 ≤ (Int.tmod (rd t169 0) (wrap64 ((t168.size : Int) + 1))) then (if (Int.tmod (rd t169 0) (wrap64 ((t168.size : Int) + 1))) ≤ (t168.size : Int) then ((impl_Crc.f k (t168.extract 0 ((Int.tmod (rd t169 0) (wrap64 ((t168.size : Int) + 1))) : Int).toNat)).bind fun t173 => ((impl_CrcMore.f k t173 (t168.extract ((Int.tmod (rd t169 0) (wrap64 ((t168.size : Int) + 1))) : Int).toNat t168.size)).bind fun t174 => ((impl_Crc.f k t168).bind fun t175 => (if t174 = t175 then ((impl_Adler.f k (t168.extract 0 ((Int.tmod (rd t169 0) (wrap64 ((t168.size : Int) + 1))) : Int).toNat)).bind fun t176 => ((impl_AdlerMore.f k t176 (t168.extract ((Int.tmod (rd t169 0) (wrap64 ((t168.size : Int) + 1))) : Int).toNat t168.size)).bind fun t177 => ((impl_Adler.f k t168).bind fun t178 => (laws_FnSums.j0 k t168 t169 (t168.extract 0 ((Int.tmod (rd t169 0) (wrap64 ((t168.size : Int) + 1))) : Int).toNat) (t168.extract ((Int.tmod (rd t169 0) (wrap64 ((t168.size : Int) + 1))) : Int).toNat t168.size) (t177 != t178))))) else (laws_FnSums.j0 k t168 t169 (t168.extract 0 ((Int.tmod (rd t169 0) (wrap64 ((t168.size : Int) + 1))) : Int).toNat) (t168.extract ((Int.tmod (rd t169 0) (wrap64 ((t168.size : Int) + 1))) : Int).toNat t168.size) true))))) else (none)) else (none))) else (none)) = some r := H
    have A5 := Aside0.mk A50
    clear A50
    by_cases c6 : 0 < (t169.length : Int)
    · rw [if_pos c6] at H
      have c6b0 : decide (0 < (t169.length : Int)) = true := decide_eq_true c6
      have c6b1 : decide (0 < t169.length) = true := decide_eq_true (by omega)
      clear c6
      by_cases c7 : (wrap64 ((t168.size : Int) + 1)) = 0
      · rw [if_pos c7] at H
        exact absurd H (by simp)
      · rw [if_neg c7] at H
        have c7b0 : ((wrap64 ((t168.size : Int) + 1)) == 0) = false := beq_eq_false_iff_ne.mpr c7
        have c7b1 : ((wrap64 ((t168.size : Int) + 1)) != 0) = true := bne_iff_ne.mpr c7
        obtain ⟨ji8, hji8⟩ : ∃ j_ : Int, (Int.tmod (rd t169 0) (wrap64 ((t168.size : Int) + 1))) = j_ := ⟨_, rfl⟩
        replace H : (if 0 ≤ (ji8) then (if (ji8) ≤ (t168.size : Int) then ((impl_Crc.f k (t168.extract 0 ((ji8) : Int).toNat)).bind fun t173 => ((impl_CrcMore.f k t173 (t168.extract ((ji8) : Int).toNat t168.size)).bind fun t174 => ((impl_Crc.f k t168).bind fun t175 => (if t174 = t175 then ((impl_Adler.f k (t168.extract 0 ((ji8) : Int).toNat)).bind fun t176 => ((impl_AdlerMore.f k t176 (t168.extract ((ji8) : Int).toNat t168.size)).bind fun t177 => ((impl_Adler.f k t168).bind fun t178 => (laws_FnSums.j0 k t168 t169 (t168.extract 0 ((ji8) : Int).toNat) (t168.extract ((ji8) : Int).toNat t168.size) (t177 != t178))))) else (laws_FnSums.j0 k t168 t169 (t168.extract 0 ((ji8) : Int).toNat) (t168.extract ((ji8) : Int).toNat t168.size) true))))) else (none)) else (none)) = some r := by first | (rw [hji8] at H; exact H) | (simp only [hji8] at H ⊢; exact H)
        (try rw [hji8] at A2)
        (try rw [hji8] at A4)
        (try rw [hji8] at A5)
        by_cases c9 : 0 ≤ (ji8)
        · rw [if_pos c9] at H
          have c9b0 := eq_true c9
          have c9b1 : decide (0 ≤ (ji8)) = true := decide_eq_true c9
          clear c9
          by_cases c10 : (ji8) ≤ (t168.size : Int)
          · rw [if_pos c10] at H
            have c10b0 := eq_true c10
            have c10b1 : decide ((ji8) ≤ (t168.size : Int)) = true := decide_eq_true c10
            clear c10
            have c11b0 := eq_true (of_decide_eq_true (by first | (with_reducible assumption) | assumption) : 0 ≤ (ji8))
            have c12b0 := eq_true (of_decide_eq_true (by first | (with_reducible assumption) | assumption) : (ji8) ≤ (t168.size : Int))
            have HC13 := Aside0.mk H
            clear H
            go_enter Try.func11, Try.ntmps11
            go_upto_region 8 with (first | ((with_reducible refine gate_callee (f := 25) rfl ?_); refine goesL_ (some 9) rfl rfl Try.func25 (by kernel_rfl) rfl #[.slice A0 l0.length c0] rfl (by (try simp only [List.map_toArray, List.map_cons, List.map_nil]); first | done | rfl | (simp only [List.length_drop, List.length_take]; rfl)) ?_; (with_reducible refine (laws_big.calls _ _ l0 false _ ?side1 ?side2 A2.out).mono ?_); (case side1 => repeat (first | exact HR0.out | (with_reducible refine Kd.C_alloc ?_ _) | (with_reducible refine Kd.C_drewN ?_ _) | (with_reducible refine Kd.C_drew ?_))); (case side2 => exact HC0.out); rintro e w' ⟨rfl, ⟨nd, rfl⟩⟩; refine ⟨_, rfl, ?_⟩) | ((with_reducible refine gate_callee (f := 41) rfl ?_); refine goesL_ (some 11) rfl rfl Try.func41 (by kernel_rfl) rfl #[.slice A0 l0.length c0] rfl (by (try simp only [List.map_toArray, List.map_cons, List.map_nil]); first | done | rfl | (simp only [List.length_drop, List.length_take]; rfl)) ?_; (with_reducible refine (spec_DrawCrc.calls k _ _ l0 t168 _ ?side1 ?side2 A4.out).mono ?_); (case side1 => repeat (first | exact HR0.out | (with_reducible refine Kd.C_alloc ?_ _) | (with_reducible refine Kd.C_drewN ?_ _) | (with_reducible refine Kd.C_drew ?_))); (case side2 => exact HC0.out); rintro e w14 ⟨rfl, hb⟩; refine ⟨_, rfl, ?_⟩; have n0_ := Aside0.mk (below_step (by repeat (first | (with_reducible first | exact HB.out | apply below_alloc | apply pw_below_drewN | apply below_drew1) | exact HB.out)) hb); clear HB; have HB := n0_; clear n0_; (try clear hb); (try clear hb2); (try clear hk); (try clear hi)) | ((with_reducible refine gate_callee (f := 42) rfl ?_); refine goesL_ (some 13) rfl rfl Try.func42 (by kernel_rfl) rfl #[.slice A0 l0.length c0] rfl (by (try simp only [List.map_toArray, List.map_cons, List.map_nil]); first | done | rfl | (simp only [List.length_drop, List.length_take]; rfl)) ?_; (with_reducible refine (spec_DrawPlaces.calls k _ _ l0 t169 _ ?side1 ?side2 A5.out).mono ?_); (case side1 => repeat (first | exact (Kd.C_below HR0.out HB.out) | (with_reducible refine Kd.C_alloc ?_ _) | (with_reducible refine Kd.C_drewN ?_ _) | (with_reducible refine Kd.C_drew ?_))); (case side2 => exact HC0.out); rintro e w15 ⟨v170, rfl, ho0, hb⟩; refine ⟨_, rfl, ?_⟩; have n0_ := Aside0.mk (Kd.R_lower ho0 (below_size (by repeat (first | (with_reducible first | exact HB.out | apply below_alloc | apply pw_below_drewN | apply below_drew1) | exact HB.out)))); have n1_ := Aside0.mk (below_step (by repeat (first | (with_reducible first | exact HB.out | apply below_alloc | apply pw_below_drewN | apply below_drew1) | exact HB.out)) hb); clear HB; have HO171 := n0_; have HB := n1_; clear n0_ n1_; (try clear hb); (try clear hb2); (try clear hk); (try clear hi); (try clear ho0); obtain ⟨Ao16, co16, eo16⟩ := Kd.R_slice HO171.out; subst eo16; have p172 : 0 ≤ (0 : Int) := (by omega); have q172 : 0 < (t169.length : Int) := of_decide_eq_true (by first | (with_reducible assumption) | assumption); obtain ⟨ad172, e172, hx172_0⟩ := Kd.at_int (Kd.R_reads' HO171.out).2.2 0 p172 q172; cases e172; have qi172 : (0 < t169.length) = True := eq_true (by omega); (try rw [show ((0 : Int)).toNat = 0 from rfl] at hx172_0); (try rw [Addr.add_zero'] at hx172_0); replace p172 := eq_true p172; replace q172 := eq_true q172))
            (try simp only [Act.put, List.setIfInBounds_toArray, List.set_cons_zero, List.set_cons_succ])
            go_cut [42] (fun v42 wc => ∃ (kq : Nat) (x42_12 : Bool), v42 = .bool x42_12 ∧ Aside0 (laws_FnSums.j0 kq t168 t169 (t168.extract 0 ((ji8) : Int).toNat) (t168.extract ((ji8) : Int).toNat t168.size) x42_12 = some r) ∧ Aside0 (kq ≤ k) ∧ Aside0 (Kd.R (Kd.int .i64) 3 wc w.heap.size (fun _ => True) (.slice (some ad172) t169.length co16) t169) ∧ Aside0 (Below w.heap.size w wc))
            case first =>
              have H := HC13.out
              clear HC13
              replace H := Option.bind_eq_some_iff.mp H
              obtain ⟨t173, A170, H⟩ := H
              replace H : ((impl_CrcMore.f k t173 (t168.extract ((ji8) : Int).toNat t168.size)).bind fun t174 => ((impl_Crc.f k t168).bind fun t175 => (if t174 = t175 then ((impl_Adler.f k (t168.extract 0 ((ji8) : Int).toNat)).bind fun t176 => ((impl_AdlerMore.f k t176 (t168.extract ((ji8) : Int).toNat t168.size)).bind fun t177 => ((impl_Adler.f k t168).bind fun t178 => (laws_FnSums.j0 k t168 t169 (t168.extract 0 ((ji8) : Int).toNat) (t168.extract ((ji8) : Int).toNat t168.size) (t177 != t178))))) else (laws_FnSums.j0 k t168 t169 (t168.extract 0 ((ji8) : Int).toNat) (t168.extract ((ji8) : Int).toNat t168.size) true)))) = some r := H
              have A17 := Aside0.mk A170
              clear A170
              replace H := Option.bind_eq_some_iff.mp H
              obtain ⟨t174, A180, H⟩ := H
              replace H : ((impl_Crc.f k t168).bind fun t175 => (if t174 = t175 then ((impl_Adler.f k (t168.extract 0 ((ji8) : Int).toNat)).bind fun t176 => ((impl_AdlerMore.f k t176 (t168.extract ((ji8) : Int).toNat t168.size)).bind fun t177 => ((impl_Adler.f k t168).bind fun t178 => (laws_FnSums.j0 k t168 t169 (t168.extract 0 ((ji8) : Int).toNat) (t168.extract ((ji8) : Int).toNat t168.size) (t177 != t178))))) else (laws_FnSums.j0 k t168 t169 (t168.extract 0 ((ji8) : Int).toNat) (t168.extract ((ji8) : Int).toNat t168.size) true))) = some r := H
              have A18 := Aside0.mk A180
              clear A180
              replace H := Option.bind_eq_some_iff.mp H
              obtain ⟨t175, A190, H⟩ := H
              replace H : (if t174 = t175 then ((impl_Adler.f k (t168.extract 0 ((ji8) : Int).toNat)).bind fun t176 => ((impl_AdlerMore.f k t176 (t168.extract ((ji8) : Int).toNat t168.size)).bind fun t177 => ((impl_Adler.f k t168).bind fun t178 => (laws_FnSums.j0 k t168 t169 (t168.extract 0 ((ji8) : Int).toNat) (t168.extract ((ji8) : Int).toNat t168.size) (t177 != t178))))) else (laws_FnSums.j0 k t168 t169 (t168.extract 0 ((ji8) : Int).toNat) (t168.extract ((ji8) : Int).toNat t168.size) true)) = some r := H
              have A19 := Aside0.mk A190
              clear A190
              by_cases c20 : t174 = t175
              · rw [if_pos c20] at H
                have c20b0 : (t174 == t175) = true := beq_iff_eq.mpr c20
                have c20b1 : (t174 != t175) = false := bne_eq_false_iff_eq.mpr c20
                clear c20
                (first | rw [c20b0] | (simp only [i64_w, i32_w]; rw [c20b0]) | skip)
                replace H := Option.bind_eq_some_iff.mp H
                obtain ⟨t176, A210, H⟩ := H
                replace H : ((impl_AdlerMore.f k t176 (t168.extract ((ji8) : Int).toNat t168.size)).bind fun t177 => ((impl_Adler.f k t168).bind fun t178 => (laws_FnSums.j0 k t168 t169 (t168.extract 0 ((ji8) : Int).toNat) (t168.extract ((ji8) : Int).toNat t168.size) (t177 != t178)))) = some r := H
                have A21 := Aside0.mk A210
                clear A210
                replace H := Option.bind_eq_some_iff.mp H
                obtain ⟨t177, A220, H⟩ := H
                replace H : ((impl_Adler.f k t168).bind fun t178 => (laws_FnSums.j0 k t168 t169 (t168.extract 0 ((ji8) : Int).toNat) (t168.extract ((ji8) : Int).toNat t168.size) (t177 != t178))) = some r := H
                have A22 := Aside0.mk A220
                clear A220
                replace H := Option.bind_eq_some_iff.mp H
                obtain ⟨t178, A230, H⟩ := H
                replace H : (laws_FnSums.j0 k t168 t169 (t168.extract 0 ((ji8) : Int).toNat) (t168.extract ((ji8) : Int).toNat t168.size) (t177 != t178)) = some r := H
                have A23 := Aside0.mk A230
                clear A230
                have H' := Aside0.mk H
                clear H
                go_wp2_with (first | ((with_reducible refine gate_callee (f := 44) rfl ?_); refine goesL_ (some 28) rfl rfl Try.func44 (by kernel_rfl) rfl #[.string (t168.extract 0 ((ji8) : Int).toNat)] rfl (by (try simp only [List.map_toArray, List.map_cons, List.map_nil]); first | done | (simp only [hji8]; rfl) | rfl | (simp only [List.length_drop, List.length_take]; rfl) | (simp only [ByteArray.size_extract, Nat.min_self]; rfl)) ?_; (with_reducible refine (impl_Crc.calls k (t168.extract 0 ((ji8) : Int).toNat) t173 _ A17.out).mono ?_); rintro e w' ⟨rfl, ⟨nd, rfl⟩⟩; refine ⟨_, rfl, ?_⟩) | ((with_reducible refine gate_callee (f := 43) rfl ?_); refine goesL_ (some 30) rfl rfl Try.func43 (by kernel_rfl) rfl #[.int .u32 t173, .string (t168.extract ((ji8) : Int).toNat t168.size)] rfl (by (try simp only [List.map_toArray, List.map_cons, List.map_nil]); first | done | (simp only [hji8]; rfl) | rfl | (simp only [List.length_drop, List.length_take]; rfl) | (simp only [ByteArray.size_extract, Nat.min_self]; rfl)) ?_; (with_reducible refine (impl_CrcMore.calls k t173 (t168.extract ((ji8) : Int).toNat t168.size) t174 _ A18.out).mono ?_); rintro e w' ⟨rfl, ⟨nd, rfl⟩⟩; refine ⟨_, rfl, ?_⟩) | ((with_reducible refine gate_callee (f := 44) rfl ?_); refine goesL_ (some 32) rfl rfl Try.func44 (by kernel_rfl) rfl #[.string t168] rfl (by (try simp only [List.map_toArray, List.map_cons, List.map_nil]); first | done | rfl | (simp only [List.length_drop, List.length_take]; rfl) | (simp only [ByteArray.size_extract, Nat.min_self]; rfl)) ?_; (with_reducible refine (impl_Crc.calls k t168 t175 _ A19.out).mono ?_); rintro e w' ⟨rfl, ⟨nd, rfl⟩⟩; refine ⟨_, rfl, ?_⟩) | (go_at_call 46; (with_reducible refine (impl_Adler.calls k (t168.extract 0 ((ji8) : Int).toNat) t176 _ A21.out).mono ?_); rintro e w' ⟨rfl, ⟨nd, rfl⟩⟩) | (go_at_call 45; (with_reducible refine (impl_AdlerMore.calls k t176 (t168.extract ((ji8) : Int).toNat t168.size) t177 _ A22.out).mono ?_); rintro e w' ⟨rfl, ⟨nd, rfl⟩⟩) | (go_at_call 46; (with_reducible refine (impl_Adler.calls k t168 t178 _ A23.out).mono ?_); rintro e w' ⟨rfl, ⟨nd, rfl⟩⟩))
                go_meet
                case rel => exact ⟨_, ((t177 != t178)), (by first | rfl | (simp; done) | (simp [*]; done)), H', ⟨by first | omega | exact Nat.le_refl _⟩, ⟨by (with_reducible repeat (first | apply Kd.R_alloc | apply Kd.R_drewN | apply Kd.R_drew)); exact HO171.out⟩, ⟨by repeat (first | (with_reducible first | exact HB.out | apply below_alloc | apply pw_below_drewN | apply below_drew1) | exact HB.out)⟩⟩
              · rw [if_neg c20] at H
                have c20b0 : (t174 == t175) = false := beq_eq_false_iff_ne.mpr c20
                have c20b1 : (t174 != t175) = true := bne_iff_ne.mpr c20
                (first | rw [c20b0] | (simp only [i64_w, i32_w]; rw [c20b0]) | skip)
                have H' := Aside0.mk H
                clear H
                go_wp2_with (first | ((with_reducible refine gate_callee (f := 44) rfl ?_); refine goesL_ (some 28) rfl rfl Try.func44 (by kernel_rfl) rfl #[.string (t168.extract 0 ((ji8) : Int).toNat)] rfl (by (try simp only [List.map_toArray, List.map_cons, List.map_nil]); first | done | (simp only [hji8]; rfl) | rfl | (simp only [List.length_drop, List.length_take]; rfl) | (simp only [ByteArray.size_extract, Nat.min_self]; rfl)) ?_; (with_reducible refine (impl_Crc.calls k (t168.extract 0 ((ji8) : Int).toNat) t173 _ A17.out).mono ?_); rintro e w' ⟨rfl, ⟨nd, rfl⟩⟩; refine ⟨_, rfl, ?_⟩) | ((with_reducible refine gate_callee (f := 43) rfl ?_); refine goesL_ (some 30) rfl rfl Try.func43 (by kernel_rfl) rfl #[.int .u32 t173, .string (t168.extract ((ji8) : Int).toNat t168.size)] rfl (by (try simp only [List.map_toArray, List.map_cons, List.map_nil]); first | done | (simp only [hji8]; rfl) | rfl | (simp only [List.length_drop, List.length_take]; rfl) | (simp only [ByteArray.size_extract, Nat.min_self]; rfl)) ?_; (with_reducible refine (impl_CrcMore.calls k t173 (t168.extract ((ji8) : Int).toNat t168.size) t174 _ A18.out).mono ?_); rintro e w' ⟨rfl, ⟨nd, rfl⟩⟩; refine ⟨_, rfl, ?_⟩) | ((with_reducible refine gate_callee (f := 44) rfl ?_); refine goesL_ (some 32) rfl rfl Try.func44 (by kernel_rfl) rfl #[.string t168] rfl (by (try simp only [List.map_toArray, List.map_cons, List.map_nil]); first | done | rfl | (simp only [List.length_drop, List.length_take]; rfl) | (simp only [ByteArray.size_extract, Nat.min_self]; rfl)) ?_; (with_reducible refine (impl_Crc.calls k t168 t175 _ A19.out).mono ?_); rintro e w' ⟨rfl, ⟨nd, rfl⟩⟩; refine ⟨_, rfl, ?_⟩))
                go_meet
                case rel => exact ⟨_, (true), (by first | rfl | (simp; done) | (simp [*]; done)), H', ⟨by first | omega | exact Nat.le_refl _⟩, ⟨by (with_reducible repeat (first | apply Kd.R_alloc | apply Kd.R_drewN | apply Kd.R_drew)); exact HO171.out⟩, ⟨by repeat (first | (with_reducible first | exact HB.out | apply below_alloc | apply pw_below_drewN | apply below_drew1) | exact HB.out)⟩⟩
            case rest =>
              clear HC13
              try clear c1
              try clear p1
              try clear q1
              try clear hx1
              try clear qi1
              try clear c2
              try clear p2
              try clear c3
              try clear c4
              try clear c6
              try clear c6b0
              try clear c6b1
              try clear p6
              try clear c7
              try clear c7b0
              try clear c7b1
              try clear c9
              try clear c9b0
              try clear c9b1
              try clear c10
              try clear c10b0
              try clear c10b1
              try clear c11
              try clear c11b0
              try clear c12
              try clear c12b0
              try clear p17
              try clear q17
              try clear hx17
              try clear qi17
              try clear c20
              try clear c20b0
              try clear c20b1
              try clear hx172_0
              try clear p172
              try clear q172
              obtain ⟨kq, x42_12, rfl, HA, HJ12, HO_4, HB⟩ := hcut
              cases kq with
              | zero => exact absurd HA.out (by simp [laws_FnSums.j0])
              | succ kj12 =>
                have H := HA.out
                clear HA
                simp only [laws_FnSums.j0] at H
                by_cases c24 : x42_12 = true
                · subst c24
                  have H1 : (some false) = some r := by rw [if_pos rfl] at H; exact H
                  clear H
                  have H := H1
                  clear H1
                  obtain rfl := Option.some.inj H
                  go_wp2
                  go_ret
                  exact ⟨by first | rfl | (simp [errW_none, errW_some] <;> rfl) | (simp only [← hji8]; first | rfl | (simp [errW_none, errW_some] <;> rfl)) | (simp [*, errW_none, errW_some] <;> rfl), by repeat (first | (with_reducible first | exact HB.out | apply below_alloc | apply pw_below_drewN | apply below_drew1) | exact HB.out)⟩
                · replace c24 := Bool.eq_false_iff.mpr c24
                  subst c24
                  have H1 : ((impl_Crc.f kj12 (t168.extract 0 ((ji8) : Int).toNat)).bind fun t179 => ((impl_Crc.f kj12 (t168.extract ((ji8) : Int).toNat t168.size)).bind fun t180 => ((impl_CrcJoin.f kj12 t179 t180 ((t168.extract ((ji8) : Int).toNat t168.size).size : Int)).bind fun t181 => ((impl_Crc.f kj12 t168).bind fun t182 => (if t181 = t182 then ((impl_Adler.f kj12 (t168.extract 0 ((ji8) : Int).toNat)).bind fun t183 => ((impl_Adler.f kj12 (t168.extract ((ji8) : Int).toNat t168.size)).bind fun t184 => ((impl_AdlerJoin.f t183 t184 ((t168.extract ((ji8) : Int).toNat t168.size).size : Int)).bind fun t185 => ((impl_Adler.f kj12 t168).bind fun t186 => (laws_FnSums.j1 kj12 t168 t169 (t185 != t186)))))) else (laws_FnSums.j1 kj12 t168 t169 true)))))) = some r := by rw [if_neg (show ¬ (false = true) by decide)] at H; exact H
                  clear H
                  have H := H1
                  clear H1
                  have HC25 := Aside0.mk H
                  clear H
                  go_upto_region 10 with (fail)
                  go_cut [64] (fun v64 wc => ∃ (kq : Nat) (x64_24 : Bool), v64 = .bool x64_24 ∧ Aside0 (laws_FnSums.j1 kq t168 t169 x64_24 = some r) ∧ Aside0 (kq ≤ kj12) ∧ Aside0 (Kd.R (Kd.int .i64) 3 wc w.heap.size (fun _ => True) (.slice (some ad172) t169.length co16) t169) ∧ Aside0 (Below w.heap.size w wc))
                  case first =>
                    have H := HC25.out
                    clear HC25
                    replace H := Option.bind_eq_some_iff.mp H
                    obtain ⟨t179, A260, H⟩ := H
                    replace H : ((impl_Crc.f kj12 (t168.extract ((ji8) : Int).toNat t168.size)).bind fun t180 => ((impl_CrcJoin.f kj12 t179 t180 ((t168.extract ((ji8) : Int).toNat t168.size).size : Int)).bind fun t181 => ((impl_Crc.f kj12 t168).bind fun t182 => (if t181 = t182 then ((impl_Adler.f kj12 (t168.extract 0 ((ji8) : Int).toNat)).bind fun t183 => ((impl_Adler.f kj12 (t168.extract ((ji8) : Int).toNat t168.size)).bind fun t184 => ((impl_AdlerJoin.f t183 t184 ((t168.extract ((ji8) : Int).toNat t168.size).size : Int)).bind fun t185 => ((impl_Adler.f kj12 t168).bind fun t186 => (laws_FnSums.j1 kj12 t168 t169 (t185 != t186)))))) else (laws_FnSums.j1 kj12 t168 t169 true))))) = some r := H
                    have A26 := Aside0.mk A260
                    clear A260
                    replace H := Option.bind_eq_some_iff.mp H
                    obtain ⟨t180, A270, H⟩ := H
                    replace H : ((impl_CrcJoin.f kj12 t179 t180 ((t168.extract ((ji8) : Int).toNat t168.size).size : Int)).bind fun t181 => ((impl_Crc.f kj12 t168).bind fun t182 => (if t181 = t182 then ((impl_Adler.f kj12 (t168.extract 0 ((ji8) : Int).toNat)).bind fun t183 => ((impl_Adler.f kj12 (t168.extract ((ji8) : Int).toNat t168.size)).bind fun t184 => ((impl_AdlerJoin.f t183 t184 ((t168.extract ((ji8) : Int).toNat t168.size).size : Int)).bind fun t185 => ((impl_Adler.f kj12 t168).bind fun t186 => (laws_FnSums.j1 kj12 t168 t169 (t185 != t186)))))) else (laws_FnSums.j1 kj12 t168 t169 true)))) = some r := H
                    have A27 := Aside0.mk A270
                    clear A270
                    replace H := Option.bind_eq_some_iff.mp H
                    obtain ⟨t181, A280, H⟩ := H
                    replace H : ((impl_Crc.f kj12 t168).bind fun t182 => (if t181 = t182 then ((impl_Adler.f kj12 (t168.extract 0 ((ji8) : Int).toNat)).bind fun t183 => ((impl_Adler.f kj12 (t168.extract ((ji8) : Int).toNat t168.size)).bind fun t184 => ((impl_AdlerJoin.f t183 t184 ((t168.extract ((ji8) : Int).toNat t168.size).size : Int)).bind fun t185 => ((impl_Adler.f kj12 t168).bind fun t186 => (laws_FnSums.j1 kj12 t168 t169 (t185 != t186)))))) else (laws_FnSums.j1 kj12 t168 t169 true))) = some r := H
                    have A28 := Aside0.mk A280
                    clear A280
                    replace H := Option.bind_eq_some_iff.mp H
                    obtain ⟨t182, A290, H⟩ := H
                    replace H : (if t181 = t182 then ((impl_Adler.f kj12 (t168.extract 0 ((ji8) : Int).toNat)).bind fun t183 => ((impl_Adler.f kj12 (t168.extract ((ji8) : Int).toNat t168.size)).bind fun t184 => ((impl_AdlerJoin.f t183 t184 ((t168.extract ((ji8) : Int).toNat t168.size).size : Int)).bind fun t185 => ((impl_Adler.f kj12 t168).bind fun t186 => (laws_FnSums.j1 kj12 t168 t169 (t185 != t186)))))) else (laws_FnSums.j1 kj12 t168 t169 true)) = some r := H
                    have A29 := Aside0.mk A290
                    clear A290
                    by_cases c30 : t181 = t182
                    · rw [if_pos c30] at H
                      have c30b0 : (t181 == t182) = true := beq_iff_eq.mpr c30
                      have c30b1 : (t181 != t182) = false := bne_eq_false_iff_eq.mpr c30
                      clear c30
                      (first | rw [c30b0] | (simp only [i64_w, i32_w]; rw [c30b0]) | skip)
                      replace H := Option.bind_eq_some_iff.mp H
                      obtain ⟨t183, A310, H⟩ := H
                      replace H : ((impl_Adler.f kj12 (t168.extract ((ji8) : Int).toNat t168.size)).bind fun t184 => ((impl_AdlerJoin.f t183 t184 ((t168.extract ((ji8) : Int).toNat t168.size).size : Int)).bind fun t185 => ((impl_Adler.f kj12 t168).bind fun t186 => (laws_FnSums.j1 kj12 t168 t169 (t185 != t186))))) = some r := H
                      have A31 := Aside0.mk A310
                      clear A310
                      replace H := Option.bind_eq_some_iff.mp H
                      obtain ⟨t184, A320, H⟩ := H
                      replace H : ((impl_AdlerJoin.f t183 t184 ((t168.extract ((ji8) : Int).toNat t168.size).size : Int)).bind fun t185 => ((impl_Adler.f kj12 t168).bind fun t186 => (laws_FnSums.j1 kj12 t168 t169 (t185 != t186)))) = some r := H
                      have A32 := Aside0.mk A320
                      clear A320
                      replace H := Option.bind_eq_some_iff.mp H
                      obtain ⟨t185, A330, H⟩ := H
                      replace H : ((impl_Adler.f kj12 t168).bind fun t186 => (laws_FnSums.j1 kj12 t168 t169 (t185 != t186))) = some r := H
                      have A33 := Aside0.mk A330
                      clear A330
                      replace H := Option.bind_eq_some_iff.mp H
                      obtain ⟨t186, A340, H⟩ := H
                      replace H : (laws_FnSums.j1 kj12 t168 t169 (t185 != t186)) = some r := H
                      have A34 := Aside0.mk A340
                      clear A340
                      have H' := Aside0.mk H
                      clear H
                      go_wp2_with (first | ((with_reducible refine gate_callee (f := 44) rfl ?_); refine goesL_ (some 44) rfl rfl Try.func44 (by kernel_rfl) rfl #[.string (t168.extract 0 ((ji8) : Int).toNat)] rfl (by (try simp only [List.map_toArray, List.map_cons, List.map_nil]); first | done | (simp only [hji8]; rfl) | rfl | (simp only [List.length_drop, List.length_take]; rfl) | (simp only [ByteArray.size_extract, Nat.min_self]; rfl)) ?_; (with_reducible refine (impl_Crc.calls kj12 (t168.extract 0 ((ji8) : Int).toNat) t179 _ A26.out).mono ?_); rintro e w' ⟨rfl, ⟨nd, rfl⟩⟩; refine ⟨_, rfl, ?_⟩) | ((with_reducible refine gate_callee (f := 44) rfl ?_); refine goesL_ (some 46) rfl rfl Try.func44 (by kernel_rfl) rfl #[.string (t168.extract ((ji8) : Int).toNat t168.size)] rfl (by (try simp only [List.map_toArray, List.map_cons, List.map_nil]); first | done | (simp only [hji8]; rfl) | rfl | (simp only [List.length_drop, List.length_take]; rfl) | (simp only [ByteArray.size_extract, Nat.min_self]; rfl)) ?_; (with_reducible refine (impl_Crc.calls kj12 (t168.extract ((ji8) : Int).toNat t168.size) t180 _ A27.out).mono ?_); rintro e w' ⟨rfl, ⟨nd, rfl⟩⟩; refine ⟨_, rfl, ?_⟩) | ((with_reducible refine gate_callee (f := 47) rfl ?_); refine goesL_ (some 49) rfl rfl Try.func47 (by kernel_rfl) rfl #[.int .u32 t179, .int .u32 t180, .int .i64 ((t168.extract ((ji8) : Int).toNat t168.size).size : Int)] rfl (by (try simp only [List.map_toArray, List.map_cons, List.map_nil]); first | done | (simp only [hji8]; rfl) | rfl | (simp only [List.length_drop, List.length_take]; rfl) | (simp only [ByteArray.size_extract, Nat.min_self]; rfl)) ?_; (with_reducible refine (impl_CrcJoin.calls kj12 t179 t180 ((t168.extract ((ji8) : Int).toNat t168.size).size : Int) t181 _ A28.out).mono ?_); rintro e w' ⟨rfl, ⟨nd, rfl⟩⟩; refine ⟨_, rfl, ?_⟩) | ((with_reducible refine gate_callee (f := 44) rfl ?_); refine goesL_ (some 51) rfl rfl Try.func44 (by kernel_rfl) rfl #[.string t168] rfl (by (try simp only [List.map_toArray, List.map_cons, List.map_nil]); first | done | rfl | (simp only [List.length_drop, List.length_take]; rfl) | (simp only [ByteArray.size_extract, Nat.min_self]; rfl)) ?_; (with_reducible refine (impl_Crc.calls kj12 t168 t182 _ A29.out).mono ?_); rintro e w' ⟨rfl, ⟨nd, rfl⟩⟩; refine ⟨_, rfl, ?_⟩) | (go_at_call 46; (with_reducible refine (impl_Adler.calls kj12 (t168.extract 0 ((ji8) : Int).toNat) t183 _ A31.out).mono ?_); rintro e w' ⟨rfl, ⟨nd, rfl⟩⟩) | (go_at_call 46; (with_reducible refine (impl_Adler.calls kj12 (t168.extract ((ji8) : Int).toNat t168.size) t184 _ A32.out).mono ?_); rintro e w' ⟨rfl, ⟨nd, rfl⟩⟩) | (go_at_call 48; (first | (with_reducible refine (impl_AdlerJoin.calls t183 t184 ((t168.extract ((ji8) : Int).toNat t168.size).size : Int) t185 _ A33.out).mono ?_) | (refine (calls_of_args (by simp only [ByteArray.size_extract, Nat.min_self]) (impl_AdlerJoin.calls t183 t184 ((t168.extract ((ji8) : Int).toNat t168.size).size : Int) t185 _ A33.out)).mono ?_)); rintro e w' ⟨rfl, ⟨nd, rfl⟩⟩) | (go_at_call 46; (with_reducible refine (impl_Adler.calls kj12 t168 t186 _ A34.out).mono ?_); rintro e w' ⟨rfl, ⟨nd, rfl⟩⟩))
                      go_meet
                      case rel => exact ⟨_, ((t185 != t186)), (by first | rfl | (simp; done) | (simp [*]; done)), H', ⟨by have := HJ12.out; first | omega | exact Nat.le_refl _⟩, ⟨by (with_reducible repeat (first | apply Kd.R_alloc | apply Kd.R_drewN | apply Kd.R_drew)); exact HO_4.out⟩, ⟨by repeat (first | (with_reducible first | exact HB.out | apply below_alloc | apply pw_below_drewN | apply below_drew1) | exact HB.out)⟩⟩
                    · rw [if_neg c30] at H
                      have c30b0 : (t181 == t182) = false := beq_eq_false_iff_ne.mpr c30
                      have c30b1 : (t181 != t182) = true := bne_iff_ne.mpr c30
                      (first | rw [c30b0] | (simp only [i64_w, i32_w]; rw [c30b0]) | skip)
                      have H' := Aside0.mk H
                      clear H
                      go_wp2_with (first | ((with_reducible refine gate_callee (f := 44) rfl ?_); refine goesL_ (some 44) rfl rfl Try.func44 (by kernel_rfl) rfl #[.string (t168.extract 0 ((ji8) : Int).toNat)] rfl (by (try simp only [List.map_toArray, List.map_cons, List.map_nil]); first | done | (simp only [hji8]; rfl) | rfl | (simp only [List.length_drop, List.length_take]; rfl) | (simp only [ByteArray.size_extract, Nat.min_self]; rfl)) ?_; (with_reducible refine (impl_Crc.calls kj12 (t168.extract 0 ((ji8) : Int).toNat) t179 _ A26.out).mono ?_); rintro e w' ⟨rfl, ⟨nd, rfl⟩⟩; refine ⟨_, rfl, ?_⟩) | ((with_reducible refine gate_callee (f := 44) rfl ?_); refine goesL_ (some 46) rfl rfl Try.func44 (by kernel_rfl) rfl #[.string (t168.extract ((ji8) : Int).toNat t168.size)] rfl (by (try simp only [List.map_toArray, List.map_cons, List.map_nil]); first | done | (simp only [hji8]; rfl) | rfl | (simp only [List.length_drop, List.length_take]; rfl) | (simp only [ByteArray.size_extract, Nat.min_self]; rfl)) ?_; (with_reducible refine (impl_Crc.calls kj12 (t168.extract ((ji8) : Int).toNat t168.size) t180 _ A27.out).mono ?_); rintro e w' ⟨rfl, ⟨nd, rfl⟩⟩; refine ⟨_, rfl, ?_⟩) | ((with_reducible refine gate_callee (f := 47) rfl ?_); refine goesL_ (some 49) rfl rfl Try.func47 (by kernel_rfl) rfl #[.int .u32 t179, .int .u32 t180, .int .i64 ((t168.extract ((ji8) : Int).toNat t168.size).size : Int)] rfl (by (try simp only [List.map_toArray, List.map_cons, List.map_nil]); first | done | (simp only [hji8]; rfl) | rfl | (simp only [List.length_drop, List.length_take]; rfl) | (simp only [ByteArray.size_extract, Nat.min_self]; rfl)) ?_; (with_reducible refine (impl_CrcJoin.calls kj12 t179 t180 ((t168.extract ((ji8) : Int).toNat t168.size).size : Int) t181 _ A28.out).mono ?_); rintro e w' ⟨rfl, ⟨nd, rfl⟩⟩; refine ⟨_, rfl, ?_⟩) | ((with_reducible refine gate_callee (f := 44) rfl ?_); refine goesL_ (some 51) rfl rfl Try.func44 (by kernel_rfl) rfl #[.string t168] rfl (by (try simp only [List.map_toArray, List.map_cons, List.map_nil]); first | done | rfl | (simp only [List.length_drop, List.length_take]; rfl) | (simp only [ByteArray.size_extract, Nat.min_self]; rfl)) ?_; (with_reducible refine (impl_Crc.calls kj12 t168 t182 _ A29.out).mono ?_); rintro e w' ⟨rfl, ⟨nd, rfl⟩⟩; refine ⟨_, rfl, ?_⟩))
                      go_meet
                      case rel => exact ⟨_, (true), (by first | rfl | (simp; done) | (simp [*]; done)), H', ⟨by have := HJ12.out; first | omega | exact Nat.le_refl _⟩, ⟨by (with_reducible repeat (first | apply Kd.R_alloc | apply Kd.R_drewN | apply Kd.R_drew)); exact HO_4.out⟩, ⟨by repeat (first | (with_reducible first | exact HB.out | apply below_alloc | apply pw_below_drewN | apply below_drew1) | exact HB.out)⟩⟩
                  case rest =>
                    clear HC25
                    try clear c1
                    try clear p1
                    try clear q1
                    try clear hx1
                    try clear qi1
                    try clear c2
                    try clear p2
                    try clear c3
                    try clear c4
                    try clear c6
                    try clear c6b0
                    try clear c6b1
                    try clear p6
                    try clear c7
                    try clear c7b0
                    try clear c7b1
                    try clear c9
                    try clear c9b0
                    try clear c9b1
                    try clear c10
                    try clear c10b0
                    try clear c10b1
                    try clear c11
                    try clear c11b0
                    try clear c12
                    try clear c12b0
                    try clear p17
                    try clear q17
                    try clear hx17
                    try clear qi17
                    try clear c20
                    try clear c20b0
                    try clear c20b1
                    try clear c24
                    try clear c25
                    try clear c30
                    try clear c30b0
                    try clear c30b1
                    try clear hx172_0
                    try clear p1
                    try clear p17
                    try clear p172
                    try clear p2
                    try clear p6
                    try clear q1
                    try clear q17
                    try clear q172
                    obtain ⟨kq, x64_24, rfl, HA, HJ24, HO_4, HB⟩ := hcut
                    cases kq with
                    | zero => exact absurd HA.out (by simp [laws_FnSums.j1])
                    | succ kj24 =>
                      have H := HA.out
                      clear HA
                      simp only [laws_FnSums.j1] at H
                      by_cases c35 : x64_24 = true
                      · subst c35
                        have H1 : (some false) = some r := by rw [if_pos rfl] at H; exact H
                        clear H
                        have H := H1
                        clear H1
                        obtain rfl := Option.some.inj H
                        go_wp2
                        go_ret
                        exact ⟨by first | rfl | (simp [errW_none, errW_some] <;> rfl) | (simp only [← hji8]; first | rfl | (simp [errW_none, errW_some] <;> rfl)) | (simp [*, errW_none, errW_some] <;> rfl), by repeat (first | (with_reducible first | exact HB.out | apply below_alloc | apply pw_below_drewN | apply below_drew1) | exact HB.out)⟩
                      · replace c35 := Bool.eq_false_iff.mpr c35
                        subst c35
                        have H1 : (if (t168.size : Int) = 0 then (some true) else (if 1 < (t169.length : Int) then (if 2 < (t169.length : Int) then ((laws_turned.f t168 (rd t169 1) (rd t169 2)).bind fun t189 => ((impl_Crc.f kj24 t189).bind fun t190 => ((impl_Crc.f kj24 t168).bind fun t191 => (some (t190 != t191))))) else (none)) else (none))) = some r := by rw [if_neg (show ¬ (false = true) by decide)] at H; exact H
                        clear H
                        have H := H1
                        clear H1
                        by_cases c36 : (t168.size : Int) = 0
                        · rw [if_pos c36] at H
                          have c36b0 : ((t168.size : Int) == 0) = true := beq_iff_eq.mpr c36
                          have c36b1 : ((t168.size : Int) != 0) = false := bne_eq_false_iff_eq.mpr c36
                          clear c36
                          obtain rfl := Option.some.inj H
                          try go_wp2
                          have n0_ := Aside0.mk (Kd.R_drew HO_4.out)
                          have n1_ := Aside0.mk (below_drew1 HB.out)
                          clear HO_4
                          clear HB
                          have HO_4 := n0_
                          have HB := n1_
                          clear n0_ n1_
                          refine start_ (n := 18) (S := fun w' => True) (ds := []) #[false, false, false, false, false, false, false, false, false, false, false, false, false, false, false, false, false, false] (by kernel_rfl) rfl rfl trivial (fun hHeld => ?_); refine with_tabW laws_FnSums.tab12 laws_FnSums.bits12 (fun HT_ HW_ => ?_)
                          generalize wc.drew = w37 at HO_4 HB hHeld ⊢
                          refine pure_ (i := 0) (N := some 65) (v := ?_) (a' := ?_) #[true, false, false, false, false, false, false, false, false, false, false, false, false, false, false, false, false, false] rfl rfl (any_of HT_.out (by kernel_rfl)) (fun _ _ _ h => h) (Or.inl ⟨by rfl, ?_⟩) ?_ ?_
                          rotate_left
                          · intro w'
                            go_simp
                            with_reducible rfl
                          rotate_left
                          · simp only [Act.put, List.setIfInBounds_toArray, List.set_cons_zero, List.set_cons_succ, i64_w, i32_w]
                            rfl
                          refine pure_ (i := 1) (N := some 66) (v := ?_) (a' := ?_) #[true, true, false, false, false, false, false, false, false, false, false, false, false, false, false, false, false, false] rfl rfl (any_of HT_.out (by kernel_rfl)) (fun _ _ _ h => h) (Or.inl ⟨by rfl, ?_⟩) ?_ ?_
                          rotate_left
                          · intro w'
                            go_simp
                            with_reducible rfl
                          rotate_left
                          · simp only [Act.put, List.setIfInBounds_toArray, List.set_cons_zero, List.set_cons_succ, i64_w, i32_w]
                            rfl
                          refine pure_ (i := 2) (N := some 67) (v := ?_) (a' := ?_) #[true, true, true, false, false, false, false, false, false, false, false, false, false, false, false, false, false, false] rfl rfl (any_of HT_.out (by kernel_rfl)) (fun _ _ _ h => h) (Or.inl ⟨by rfl, ?_⟩) ?_ ?_
                          rotate_left
                          · intro w'
                            go_simp
                            with_reducible rfl
                          rotate_left
                          · simp only [Act.put, List.setIfInBounds_toArray, List.set_cons_zero, List.set_cons_succ, i64_w, i32_w]
                            rfl
                          refine pure_ (i := 3) (N := some 68) (v := ?_) (a' := ?_) #[true, true, true, true, false, false, false, false, false, false, false, false, false, false, false, false, false, false] rfl rfl (any_of HT_.out (by kernel_rfl)) (fun _ _ _ h => h) (Or.inl ⟨by rfl, ?_⟩) ?_ ?_
                          rotate_left
                          · intro w'
                            go_simp
                            with_reducible rfl
                          rotate_left
                          · simp only [Act.put, List.setIfInBounds_toArray, List.set_cons_zero, List.set_cons_succ, i64_w, i32_w]
                            rfl
                          refine pure_ (i := 4) (N := some 69) (v := undef) (a' := ?_) #[true, true, true, true, true, false, false, false, false, false, false, false, false, false, false, false, false, false] rfl rfl (any_of HT_.out (by kernel_rfl)) (fun _ _ _ h => h) (Or.inr ⟨by rfl, rfl⟩) ?_ ?_
                          rotate_left
                          · simp only [Act.put, List.setIfInBounds_toArray, List.set_cons_zero, List.set_cons_succ, i64_w, i32_w]
                            rfl
                          refine pure_ (i := 5) (N := some 70) (v := undef) (a' := ?_) #[true, true, true, true, true, true, false, false, false, false, false, false, false, false, false, false, false, false] rfl rfl (any_of HT_.out (by kernel_rfl)) (fun _ _ _ h => h) (Or.inr ⟨by rfl, rfl⟩) ?_ ?_
                          rotate_left
                          · simp only [Act.put, List.setIfInBounds_toArray, List.set_cons_zero, List.set_cons_succ, i64_w, i32_w]
                            rfl
                          refine pure_ (i := 6) (N := some 71) (v := undef) (a' := ?_) #[true, true, true, true, true, true, true, false, false, false, false, false, false, false, false, false, false, false] rfl rfl (any_of HT_.out (by kernel_rfl)) (fun _ _ _ h => h) (Or.inr ⟨by rfl, rfl⟩) ?_ ?_
                          rotate_left
                          · simp only [Act.put, List.setIfInBounds_toArray, List.set_cons_zero, List.set_cons_succ, i64_w, i32_w]
                            rfl
                          refine pure_ (i := 7) (N := some 72) (v := undef) (a' := ?_) #[true, true, true, true, true, true, true, true, false, false, false, false, false, false, false, false, false, false] rfl rfl (any_of HT_.out (by kernel_rfl)) (fun _ _ _ h => h) (Or.inr ⟨by rfl, rfl⟩) ?_ ?_
                          rotate_left
                          · simp only [Act.put, List.setIfInBounds_toArray, List.set_cons_zero, List.set_cons_succ, i64_w, i32_w]
                            rfl
                          refine pure_ (i := 8) (N := some 73) (v := undef) (a' := ?_) #[true, true, true, true, true, true, true, true, true, false, false, false, false, false, false, false, false, false] rfl rfl (any_of HT_.out (by kernel_rfl)) (fun _ _ _ h => h) (Or.inr ⟨by rfl, rfl⟩) ?_ ?_
                          rotate_left
                          · simp only [Act.put, List.setIfInBounds_toArray, List.set_cons_zero, List.set_cons_succ, i64_w, i32_w]
                            rfl
                          refine pure_ (i := 9) (N := some 74) (v := undef) (a' := ?_) #[true, true, true, true, true, true, true, true, true, true, false, false, false, false, false, false, false, false] rfl rfl (any_of HT_.out (by kernel_rfl)) (fun _ _ _ h => h) (Or.inr ⟨by rfl, rfl⟩) ?_ ?_
                          rotate_left
                          · simp only [Act.put, List.setIfInBounds_toArray, List.set_cons_zero, List.set_cons_succ, i64_w, i32_w]
                            rfl
                          refine pure_ (i := 10) (N := some 75) (v := undef) (a' := ?_) #[true, true, true, true, true, true, true, true, true, true, true, false, false, false, false, false, false, false] rfl rfl (any_of HT_.out (by kernel_rfl)) (fun _ _ _ h => h) (Or.inr ⟨by rfl, rfl⟩) ?_ ?_
                          rotate_left
                          · simp only [Act.put, List.setIfInBounds_toArray, List.set_cons_zero, List.set_cons_succ, i64_w, i32_w]
                            rfl
                          refine pure_ (i := 11) (N := some 76) (v := undef) (a' := ?_) #[true, true, true, true, true, true, true, true, true, true, true, true, false, false, false, false, false, false] rfl rfl (any_of HT_.out (by kernel_rfl)) (fun _ _ _ h => h) (Or.inr ⟨by rfl, rfl⟩) ?_ ?_
                          rotate_left
                          · simp only [Act.put, List.setIfInBounds_toArray, List.set_cons_zero, List.set_cons_succ, i64_w, i32_w]
                            rfl
                          refine pure_ (i := 12) (N := some 77) (v := undef) (a' := ?_) #[true, true, true, true, true, true, true, true, true, true, true, true, true, false, false, false, false, false] rfl rfl (any_of HT_.out (by kernel_rfl)) (fun _ _ _ h => h) (Or.inr ⟨by rfl, rfl⟩) ?_ ?_
                          rotate_left
                          · simp only [Act.put, List.setIfInBounds_toArray, List.set_cons_zero, List.set_cons_succ, i64_w, i32_w]
                            rfl
                          refine pure_ (i := 13) (N := some 78) (v := undef) (a' := ?_) #[true, true, true, true, true, true, true, true, true, true, true, true, true, true, false, false, false, false] rfl rfl (any_of HT_.out (by kernel_rfl)) (fun _ _ _ h => h) (Or.inr ⟨by rfl, rfl⟩) ?_ ?_
                          rotate_left
                          · simp only [Act.put, List.setIfInBounds_toArray, List.set_cons_zero, List.set_cons_succ, i64_w, i32_w]
                            rfl
                          refine pure_ (i := 14) (N := some 79) (v := undef) (a' := ?_) #[true, true, true, true, true, true, true, true, true, true, true, true, true, true, true, false, false, false] rfl rfl (any_of HT_.out (by kernel_rfl)) (fun _ _ _ h => h) (Or.inr ⟨by rfl, rfl⟩) ?_ ?_
                          rotate_left
                          · simp only [Act.put, List.setIfInBounds_toArray, List.set_cons_zero, List.set_cons_succ, i64_w, i32_w]
                            rfl
                          refine pure_ (i := 15) (N := some 80) (v := undef) (a' := ?_) #[true, true, true, true, true, true, true, true, true, true, true, true, true, true, true, true, false, false] rfl rfl (any_of HT_.out (by kernel_rfl)) (fun _ _ _ h => h) (Or.inr ⟨by rfl, rfl⟩) ?_ ?_
                          rotate_left
                          · simp only [Act.put, List.setIfInBounds_toArray, List.set_cons_zero, List.set_cons_succ, i64_w, i32_w]
                            rfl
                          refine pure_ (i := 16) (N := some 81) (v := ?_) (a' := ?_) #[true, true, true, true, true, true, true, true, true, true, true, true, true, true, true, true, true, false] rfl rfl (any_of HT_.out (by kernel_rfl)) (fun _ _ _ h => h) (Or.inl ⟨by rfl, ?_⟩) ?_ ?_
                          rotate_left
                          · intro w'
                            go_simp
                            with_reducible rfl
                          rotate_left
                          · simp only [Act.put, List.setIfInBounds_toArray, List.set_cons_zero, List.set_cons_succ, i64_w, i32_w]
                            rfl
                          refine pure_ (i := 17) (N := some 2) (v := ?_) (a' := ?_) #[true, true, true, true, true, true, true, true, true, true, true, true, true, true, true, true, true, true] rfl rfl (any_of HT_.out (by kernel_rfl)) (fun _ _ _ h => h) (Or.inl ⟨by rfl, ?_⟩) ?_ ?_
                          rotate_left
                          · intro w'
                            go_simp
                            with_reducible rfl
                          rotate_left
                          · simp only [Act.put, List.setIfInBounds_toArray, List.set_cons_zero, List.set_cons_succ, i64_w, i32_w]
                            rfl
                          refine done_ (done_of HT_.out (by kernel_rfl)) ?_
                          try go_wp2
                          go_ret
                          exact ⟨by first | rfl | (simp [errW_none, errW_some] <;> rfl) | (simp only [← hji8]; first | rfl | (simp [errW_none, errW_some] <;> rfl)) | (simp [*, errW_none, errW_some] <;> rfl), by repeat (first | (with_reducible first | exact HB.out | apply below_alloc | apply pw_below_drewN | apply below_drew1) | exact HB.out)⟩
                        · rw [if_neg c36] at H
                          have c36b0 : ((t168.size : Int) == 0) = false := beq_eq_false_iff_ne.mpr c36
                          have c36b1 : ((t168.size : Int) != 0) = true := bne_iff_ne.mpr c36
                          by_cases c38 : 1 < (t169.length : Int)
                          · rw [if_pos c38] at H
                            have c38b0 : decide (1 < (t169.length : Int)) = true := decide_eq_true c38
                            have c38b1 : decide (1 < t169.length) = true := decide_eq_true (by omega)
                            clear c38
                            by_cases c39 : 2 < (t169.length : Int)
                            · rw [if_pos c39] at H
                              have c39b0 : decide (2 < (t169.length : Int)) = true := decide_eq_true c39
                              have c39b1 : decide (2 < t169.length) = true := decide_eq_true (by omega)
                              clear c39
                              replace H := Option.bind_eq_some_iff.mp H
                              obtain ⟨t189, A400, H⟩ := H
                              replace H : ((impl_Crc.f kj24 t189).bind fun t190 => ((impl_Crc.f kj24 t168).bind fun t191 => (some (t190 != t191)))) = some r := H
                              have A40 := Aside0.mk A400
                              clear A400
                              replace H := Option.bind_eq_some_iff.mp H
                              obtain ⟨t190, A410, H⟩ := H
                              replace H : ((impl_Crc.f kj24 t168).bind fun t191 => (some (t190 != t191))) = some r := H
                              have A41 := Aside0.mk A410
                              clear A410
                              replace H := Option.bind_eq_some_iff.mp H
                              obtain ⟨t191, A420, H⟩ := H
                              replace H : (some (t190 != t191)) = some r := H
                              have A42 := Aside0.mk A420
                              clear A420
                              obtain rfl := Option.some.inj H
                              try go_wp2
                              have n0_ := Aside0.mk (Kd.R_drew HO_4.out)
                              have n1_ := Aside0.mk (below_drew1 HB.out)
                              clear HO_4
                              clear HB
                              have HO_4 := n0_
                              have HB := n1_
                              clear n0_ n1_
                              have p187 : 0 ≤ (1 : Int) := (by omega)
                              have q187 : 1 < (t169.length : Int) := of_decide_eq_true (by first | (with_reducible assumption) | assumption)
                              obtain ⟨ad187, e187, hx187_0⟩ := Kd.at_int (Kd.R_reads' HO_4.out).2.2 1 p187 q187
                              obtain rfl : ad172 = ad187 := (by injection e187)
                              (try simp only [show (1 : Int).toNat = 1 from rfl, Nat.reduceMul, Nat.reduceEqDiff, Go.Addr.add, ↓reduceIte] at hx187_0)
                              have qi187 : (1 < t169.length) = True := eq_true (by omega)
                              (try rw [show ((1 : Int)).toNat = 1 from rfl] at hx187_0)
                              replace p187 := eq_true p187
                              replace q187 := eq_true q187
                              have p188 : 0 ≤ (2 : Int) := (by omega)
                              have q188 : 2 < (t169.length : Int) := of_decide_eq_true (by first | (with_reducible assumption) | assumption)
                              obtain ⟨ad188, e188, hx188_0⟩ := Kd.at_int (Kd.R_reads' HO_4.out).2.2 2 p188 q188
                              obtain rfl : ad172 = ad188 := (by injection e188)
                              (try simp only [show (2 : Int).toNat = 2 from rfl, Nat.reduceMul, Nat.reduceEqDiff, Go.Addr.add, ↓reduceIte] at hx188_0)
                              have qi188 : (2 < t169.length) = True := eq_true (by omega)
                              (try rw [show ((2 : Int)).toNat = 2 from rfl] at hx188_0)
                              replace p188 := eq_true p188
                              replace q188 := eq_true q188
                              refine start_ (n := 18) (S := fun w' => w'.cell? ⟨ad172.block, ad172.off + 1, none⟩ = some (.int .i64 (rd t169 1)) ∧ w'.cell? ⟨ad172.block, ad172.off + 2, none⟩ = some (.int .i64 (rd t169 2))) (ds := []) #[false, false, false, false, false, false, false, false, false, false, false, false, false, false, false, false, false, false] (by kernel_rfl) rfl rfl ⟨hx187_0, hx188_0⟩ (fun hHeld => ?_); refine with_tabW laws_FnSums.tab12 laws_FnSums.bits12 (fun HT_ HW_ => ?_)
                              generalize wc.drew = w43 at HO_4 HB hx187_0 hx188_0 hHeld ⊢
                              refine pure_ (i := 0) (N := some 65) (v := ?_) (a' := ?_) #[true, false, false, false, false, false, false, false, false, false, false, false, false, false, false, false, false, false] rfl rfl (any_of HT_.out (by kernel_rfl)) (fun _ _ _ h => h) (Or.inl ⟨by rfl, ?_⟩) ?_ ?_
                              rotate_left
                              · intro w'
                                go_simp
                                with_reducible rfl
                              rotate_left
                              · simp only [Act.put, List.setIfInBounds_toArray, List.set_cons_zero, List.set_cons_succ, i64_w, i32_w]
                                rfl
                              refine pure_ (i := 1) (N := some 66) (v := ?_) (a' := ?_) #[true, true, false, false, false, false, false, false, false, false, false, false, false, false, false, false, false, false] rfl rfl (any_of HT_.out (by kernel_rfl)) (fun _ _ _ h => h) (Or.inl ⟨by rfl, ?_⟩) ?_ ?_
                              rotate_left
                              · intro w'
                                go_simp
                                with_reducible rfl
                              rotate_left
                              · simp only [Act.put, List.setIfInBounds_toArray, List.set_cons_zero, List.set_cons_succ, i64_w, i32_w]
                                rfl
                              refine pure_ (i := 2) (N := some 67) (v := ?_) (a' := ?_) #[true, true, true, false, false, false, false, false, false, false, false, false, false, false, false, false, false, false] rfl rfl (any_of HT_.out (by kernel_rfl)) (fun _ _ _ h => h) (Or.inl ⟨by rfl, ?_⟩) ?_ ?_
                              rotate_left
                              · intro w'
                                go_simp
                                with_reducible rfl
                              rotate_left
                              · simp only [Act.put, List.setIfInBounds_toArray, List.set_cons_zero, List.set_cons_succ, i64_w, i32_w]
                                rfl
                              refine pure_ (i := 3) (N := some 68) (v := ?_) (a' := ?_) #[true, true, true, true, false, false, false, false, false, false, false, false, false, false, false, false, false, false] rfl rfl (any_of HT_.out (by kernel_rfl)) (fun _ _ _ h => h) (Or.inl ⟨by rfl, ?_⟩) ?_ ?_
                              rotate_left
                              · intro w'
                                go_simp
                                with_reducible rfl
                              rotate_left
                              · simp only [Act.put, List.setIfInBounds_toArray, List.set_cons_zero, List.set_cons_succ, i64_w, i32_w]
                                rfl
                              refine pure_ (i := 4) (N := some 69) (v := ?_) (a' := ?_) #[true, true, true, true, true, false, false, false, false, false, false, false, false, false, false, false, false, false] rfl rfl (any_of HT_.out (by kernel_rfl)) (fun _ _ _ h => h) (Or.inl ⟨by rfl, ?_⟩) ?_ ?_
                              rotate_left
                              · intro w'
                                go_simp
                                with_reducible rfl
                              rotate_left
                              · simp only [Act.put, List.setIfInBounds_toArray, List.set_cons_zero, List.set_cons_succ, i64_w, i32_w]
                                rfl
                              refine pure_ (i := 5) (N := some 70) (v := ?_) (a' := ?_) #[true, true, true, true, true, true, false, false, false, false, false, false, false, false, false, false, false, false] rfl rfl (any_of HT_.out (by kernel_rfl)) (fun _ _ _ h => h) (Or.inl ⟨by rfl, ?_⟩) ?_ ?_
                              rotate_left
                              · intro w'
                                go_simp
                                with_reducible rfl
                              rotate_left
                              · simp only [Act.put, List.setIfInBounds_toArray, List.set_cons_zero, List.set_cons_succ, i64_w, i32_w]
                                rfl
                              refine pure_ (i := 6) (N := some 71) (v := ?_) (a' := ?_) #[true, true, true, true, true, true, true, false, false, false, false, false, false, false, false, false, false, false] rfl rfl (any_of HT_.out (by kernel_rfl)) (fun _ _ _ h => h) (Or.inl ⟨by rfl, ?_⟩) ?_ ?_
                              rotate_left
                              · intro w'
                                go_simp
                                with_reducible rfl
                              rotate_left
                              · simp only [Act.put, List.setIfInBounds_toArray, List.set_cons_zero, List.set_cons_succ, i64_w, i32_w]
                                rfl
                              refine pure_ (i := 8) (N := some 73) (v := ?_) (a' := ?_) #[true, true, true, true, true, true, true, false, true, false, false, false, false, false, false, false, false, false] rfl rfl (any_of HT_.out (by kernel_rfl)) (fun _ _ _ h => h) (Or.inl ⟨by rfl, ?_⟩) ?_ ?_
                              rotate_left
                              · intro w'
                                go_simp
                                with_reducible rfl
                              rotate_left
                              · simp only [Act.put, List.setIfInBounds_toArray, List.set_cons_zero, List.set_cons_succ, i64_w, i32_w]
                                rfl
                              refine pure_ (i := 9) (N := some 74) (v := ?_) (a' := ?_) #[true, true, true, true, true, true, true, false, true, true, false, false, false, false, false, false, false, false] rfl rfl (any_of HT_.out (by kernel_rfl)) (fun _ _ _ h => h) (Or.inl ⟨by rfl, ?_⟩) ?_ ?_
                              rotate_left
                              · intro w'
                                go_simp
                                with_reducible rfl
                              rotate_left
                              · simp only [Act.put, List.setIfInBounds_toArray, List.set_cons_zero, List.set_cons_succ, i64_w, i32_w]
                                rfl
                              refine pure_ (i := 13) (N := some 78) (v := ?_) (a' := ?_) #[true, true, true, true, true, true, true, false, true, true, false, false, false, true, false, false, false, false] rfl rfl (any_of HT_.out (by kernel_rfl)) (fun _ _ _ h => h) (Or.inl ⟨by rfl, ?_⟩) ?_ ?_
                              rotate_left
                              · intro w'
                                go_simp
                                with_reducible rfl
                              rotate_left
                              · simp only [Act.put, List.setIfInBounds_toArray, List.set_cons_zero, List.set_cons_succ, i64_w, i32_w]
                                rfl
                              refine take_ (i := 7) (N := some 72) (v := ?_) (a' := ?_) #[true, true, true, true, true, true, true, true, true, true, false, false, false, true, false, false, false, false] rfl rfl (take_ofW HT_.out HW_.out (by kernel_rfl)) (fun _ _ _ h => h) (Or.inl ⟨by rfl, ?_⟩) hHeld ?_ ?_
                              rotate_left
                              · rintro w' ⟨s0, s1⟩
                                go_simp
                                with_reducible rfl
                              rotate_left
                              · simp only [Act.put, List.setIfInBounds_toArray, List.set_cons_zero, List.set_cons_succ, i64_w, i32_w]
                                rfl
                              refine take_ (i := 10) (N := some 75) (v := ?_) (a' := ?_) #[true, true, true, true, true, true, true, true, true, true, true, false, false, true, false, false, false, false] rfl rfl (take_ofW HT_.out HW_.out (by kernel_rfl)) (fun _ _ _ h => h) (Or.inl ⟨by rfl, ?_⟩) hHeld ?_ ?_
                              rotate_left
                              · rintro w' ⟨s0, s1⟩
                                go_simp
                                with_reducible rfl
                              rotate_left
                              · simp only [Act.put, List.setIfInBounds_toArray, List.set_cons_zero, List.set_cons_succ, i64_w, i32_w]
                                rfl
                              refine one_ (i := 11) (N := some 76) #[true, true, true, true, true, true, true, true, true, true, true, true, false, true, false, false, false, false] rfl rfl (one_of HT_.out (by kernel_rfl)) (by decide) (fun K hK => ?_)
                              refine goes_ Try.func49 (by kernel_rfl) rfl #[.string t168, .int .i64 (rd t169 1), .int .i64 (rd t169 2)] (by rfl) rfl rfl (by (try simp only [List.map_toArray, List.map_cons, List.map_nil]); first | done | rfl | (simp only [List.length_drop, List.length_take]; rfl)) ?_
                              with_reducible refine (laws_turned.calls t168 (rd t169 1) (rd t169 2) t189 _ A40.out).mono ?_
                              rintro e w44 ⟨rfl, hb⟩
                              have HS0_ := (hb.cell (World.block_lt_of_cell? _ _ (hHeld.1))).trans (hHeld.1)
                              have HS1_ := (hb.cell (World.block_lt_of_cell? _ _ (hHeld.2))).trans (hHeld.2)
                              refine ⟨_, rfl, ?_⟩
                              have n0_ := Aside0.mk (Kd.R_below (by (with_reducible repeat (first | apply Kd.R_alloc | apply Kd.R_drewN | apply Kd.R_drew)); exact HO_4.out) hb)
                              have n1_ := Aside0.mk (below_step (by repeat (first | (with_reducible first | exact HB.out | apply below_alloc | apply pw_below_drewN | apply below_drew1) | exact HB.out)) hb)
                              clear HO_4
                              clear HB
                              have HO_4 := n0_
                              have HB := n1_
                              clear n0_ n1_
                              (try clear hb)
                              (try clear hb2)
                              (try clear hk)
                              (try clear hi)
                              refine hK.out _ _ ⟨HS0_, HS1_⟩ (fun hHeld => ?_)
                              clear hK K
                              refine norm_ (a' := ?_) ?_ ?_
                              rotate_left
                              · show Act.put _ (some 76) _ = _
                                simp only [Act.put, List.setIfInBounds_toArray, List.set_cons_zero, List.set_cons_succ, i64_w, i32_w]
                                rfl
                              refine one_ (i := 12) (N := some 77) #[true, true, true, true, true, true, true, true, true, true, true, true, true, true, false, false, false, false] rfl rfl (one_of HT_.out (by kernel_rfl)) (by decide) (fun K hK => ?_)
                              refine goes_ Try.func44 (by kernel_rfl) rfl #[.string t189] (by rfl) rfl rfl (by (try simp only [List.map_toArray, List.map_cons, List.map_nil]); first | done | rfl | (simp only [List.length_drop, List.length_take]; rfl)) ?_
                              with_reducible refine (impl_Crc.calls kj24 t189 t190 _ A41.out).mono ?_
                              rintro e w' ⟨rfl, ⟨nd, rfl⟩⟩
                              refine ⟨_, rfl, ?_⟩
                              refine hK.out _ _ ⟨hHeld.1, hHeld.2⟩ (fun hHeld => ?_)
                              clear hK K
                              refine norm_ (a' := ?_) ?_ ?_
                              rotate_left
                              · show Act.put _ (some 77) _ = _
                                simp only [Act.put, List.setIfInBounds_toArray, List.set_cons_zero, List.set_cons_succ, i64_w, i32_w]
                                rfl
                              refine one_ (i := 14) (N := some 79) #[true, true, true, true, true, true, true, true, true, true, true, true, true, true, true, false, false, false] rfl rfl (one_of HT_.out (by kernel_rfl)) (by decide) (fun K hK => ?_)
                              refine goes_ Try.func44 (by kernel_rfl) rfl #[.string t168] (by rfl) rfl rfl (by (try simp only [List.map_toArray, List.map_cons, List.map_nil]); first | done | rfl | (simp only [List.length_drop, List.length_take]; rfl)) ?_
                              with_reducible refine (impl_Crc.calls kj24 t168 t191 _ A42.out).mono ?_
                              rintro e w' ⟨rfl, ⟨nd, rfl⟩⟩
                              refine ⟨_, rfl, ?_⟩
                              refine hK.out _ _ ⟨hHeld.1, hHeld.2⟩ (fun hHeld => ?_)
                              clear hK K
                              refine norm_ (a' := ?_) ?_ ?_
                              rotate_left
                              · show Act.put _ (some 79) _ = _
                                simp only [Act.put, List.setIfInBounds_toArray, List.set_cons_zero, List.set_cons_succ, i64_w, i32_w]
                                rfl
                              refine pure_ (i := 15) (N := some 80) (v := ?_) (a' := ?_) #[true, true, true, true, true, true, true, true, true, true, true, true, true, true, true, true, false, false] rfl rfl (any_of HT_.out (by kernel_rfl)) (fun _ _ _ h => h) (Or.inl ⟨by rfl, ?_⟩) ?_ ?_
                              rotate_left
                              · intro w'
                                go_simp
                                with_reducible rfl
                              rotate_left
                              · simp only [Act.put, List.setIfInBounds_toArray, List.set_cons_zero, List.set_cons_succ, i64_w, i32_w]
                                rfl
                              refine pure_ (i := 16) (N := some 81) (v := ?_) (a' := ?_) #[true, true, true, true, true, true, true, true, true, true, true, true, true, true, true, true, true, false] rfl rfl (any_of HT_.out (by kernel_rfl)) (fun _ _ _ h => h) (Or.inl ⟨by rfl, ?_⟩) ?_ ?_
                              rotate_left
                              · intro w'
                                go_simp
                                with_reducible rfl
                              rotate_left
                              · simp only [Act.put, List.setIfInBounds_toArray, List.set_cons_zero, List.set_cons_succ, i64_w, i32_w]
                                rfl
                              refine pure_ (i := 17) (N := some 2) (v := ?_) (a' := ?_) #[true, true, true, true, true, true, true, true, true, true, true, true, true, true, true, true, true, true] rfl rfl (any_of HT_.out (by kernel_rfl)) (fun _ _ _ h => h) (Or.inl ⟨by rfl, ?_⟩) ?_ ?_
                              rotate_left
                              · intro w'
                                go_simp
                                with_reducible rfl
                              rotate_left
                              · simp only [Act.put, List.setIfInBounds_toArray, List.set_cons_zero, List.set_cons_succ, i64_w, i32_w]
                                rfl
                              refine done_ (done_of HT_.out (by kernel_rfl)) ?_
                              try go_wp2
                              go_ret
                              exact ⟨by first | rfl | (simp [errW_none, errW_some] <;> rfl) | (simp only [← hji8]; first | rfl | (simp [errW_none, errW_some] <;> rfl)) | (simp [*, errW_none, errW_some] <;> rfl), by repeat (first | (with_reducible first | exact HB.out | apply below_alloc | apply pw_below_drewN | apply below_drew1) | exact HB.out)⟩
                            · rw [if_neg c39] at H
                              exact absurd H (by simp)
                          · rw [if_neg c38] at H
                            exact absurd H (by simp)
          · rw [if_neg c10] at H
            exact absurd H (by simp)
        · rw [if_neg c9] at H
          exact absurd H (by simp)
    · rw [if_neg c6] at H
      exact absurd H (by simp)

/-- THE ONE PURE STATEMENT of laws_FnSums: yours. -/
def laws_FnSums.Pure : Prop := ∀ (l0 : List Int), l0.length ≤ maxLen → l0.length * 1 ≤ 140737488351232 → (∀ x ∈ l0, (Lit.int .u8 x).wf = true) → ∃ k, laws_FnSums.f k l0 = some true
theorem laws_FnSums.walk (P : laws_FnSums.Pure) (a0 : Option Addr) (len0 cap0 : Nat) (z0 : List Int) (w : World) (w0 : (a0 = none ∧ len0 = 0 ∧ cap0 = 0 ∧ z0 = []) ∨ ∃ x, a0 = some x ∧ len0 ≤ cap0 ∧ cap0 ≤ maxLen ∧ z0.length = cap0 ∧ (∀ i, i < z0.length → w.cell? (x.add i) = some (.int .u8 (z0.getD i 0))) ∧ ∀ n ∈ z0, (Lit.int .u8 n).wf = true) (y0 : len0 * 1 ≤ 140737488351232) :
    Calls Try.prog 11 #[.slice a0 len0 cap0] w fun e w' => e = .returned (.bool true) ∧ Below w.heap.size w w' := by
  obtain ⟨l0, rfl, hr0, hm0, hw0, hc0⟩ := ReadsInt.ofRowC w0
  obtain ⟨k, h⟩ := P l0 hm0 y0 hw0
  refine (laws_FnSums.calls k _ _ l0 true w (Kd.C_of_reads (d := (0 : Int)) (h1 := fun _ => rfl) hr0) hc0 h).mono ?_
  rintro e w' ⟨rfl, hd⟩
  exact ⟨rfl, hd⟩

end Go.Proofs.Ytcdpnaaeokjdaaa.PFnSums
