/- Walks of functions that the law FnOneChunk reaches: each call comes to what the Lean function of its name tells. Written by p2.py, a program of this session, by way of the kit's print. -/
import Derived.Test.YtefoebmcimnapaaPFnOneChunkx0
import Derived.Test.YtefoebmcimnapaaPFnOneChunkx2
import Derived.Test.YtefoebmcimnapaaPFnOneChunkx3
import Derived.Test.YtefoebmcimnapaaPFnOneChunkx4
import Derived.Test.YtefoebmcimnapaaPFnOneChunkx6
namespace Go.Proofs.Ytefoebmcimnapaa.PFnOneChunk
open Go.RowKit Go.Proofs.YtefoebmcimnapaaW.PrintWords Go.Proofs.YtefoebmcimnapaaW.PrintLast Go.Proofs.YtefoebmcimnapaaW.PrintMore
attribute [local go_sem] max2_int min2_int max_two min_two max_three min_three max_four min_four   -- for this text's walks alone
set_option linter.unusedVariables false
set_option linter.unusedSimpArgs false

/-! ### laws_FnOneChunk: function 9 -/
mutual
def laws_FnOneChunk.j0 : Nat → List Int → List (S56) → Bool → ByteArray → ByteArray → Option (Bool)
  | 0, _, _, _, _, _ => none
  | k + 1, x0, x3, x34, x284000, x284001 => if x34 = true then (if 0 < (x3.length : Int) then (laws_FnOneChunk.j1 k x0 ((rd_T56 x3 0).f0) ((rd_T56 x3 0).f1)) else (none)) else (laws_FnOneChunk.j1 k x0 x284000 x284001)
def laws_FnOneChunk.j1 : Nat → List Int → ByteArray → ByteArray → Option (Bool)
  | 0, _, _, _ => none
  | k + 1, x0, x284000, x284001 => (impl_ChunksText.f k (([(⟨x284000, x284001⟩ : S56)] : List (S56)))).bind fun bt291 => ((spec_DrawPlaces.f k x0).bind fun t293 => (if bt291.1.size ≤ 9223372036854775807 then ((some (bytesOf bt291.1 : List Int)).bind fun y296 => (if bt291.2 = true then (if (y296.length : Int) = (wrap64 (20 + (x284001.size : Int))) then (if 0 < (t293.length : Int) then (if (wrap64 (4 + (x284001.size : Int))) = 0 then (none) else (if 0 ≤ (wrap64 (12 + (Int.tmod (rd t293 0) (wrap64 (4 + (x284001.size : Int)))))) then (if (wrap64 (12 + (Int.tmod (rd t293 0) (wrap64 (4 + (x284001.size : Int)))))) < (y296.length : Int) then (if 1 < (t293.length : Int) then ((impl_ReadChunks.f k (strOfNums (y296.set ((wrap64 (12 + (Int.tmod (rd t293 0) (wrap64 (4 + (x284001.size : Int)))))) : Int).toNat (Go.bits .xor .u8 (rd y296 (wrap64 (12 + (Int.tmod (rd t293 0) (wrap64 (4 + (x284001.size : Int))))))) ((wrap64 (1 + (Int.tmod (rd t293 1) 255))) % 256))))).bind fun bt303 => (if bt303.2 = 4 then (some true) else (if (wrap64 (12 + (Int.tmod (rd t293 0) (wrap64 (4 + (x284001.size : Int)))))) < 16 then (some (bt303.2 == 3)) else (some false)))) else (none)) else (none)) else (none))) else (none)) else (some false)) else (some false))) else (none)))
end
def laws_FnOneChunk.f (k : Nat) (l0 : List Int) : Option (Bool) := (laws_big.f l0).bind fun t279 => (if t279 = true then (some true) else ((spec_DrawChunksText.f k l0).bind fun t280 => (if (t280.length : Int) > 0 then (if 0 < (t280.length : Int) then ((spec_NameOk.f ((rd_T56 t280 0).f0)).bind fun t285 => (if t285 = true then (laws_FnOneChunk.j0 k l0 t280 (decide ((((rd_T56 t280 0).f1).size : Int) < 9000)) (⟨#[116, 69, 88, 116]⟩ : ByteArray) (⟨#[115, 111, 109, 101, 32, 100, 97, 116, 97]⟩ : ByteArray)) else (laws_FnOneChunk.j0 k l0 t280 false (⟨#[116, 69, 88, 116]⟩ : ByteArray) (⟨#[115, 111, 109, 101, 32, 100, 97, 116, 97]⟩ : ByteArray)))) else (none)) else (laws_FnOneChunk.j0 k l0 t280 false (⟨#[116, 69, 88, 116]⟩ : ByteArray) (⟨#[115, 111, 109, 101, 32, 100, 97, 116, 97]⟩ : ByteArray)))))
theorem laws_FnOneChunk.mono_l : ∀ k, (∀ y0 y1 y2 y3 y4, LeO (laws_FnOneChunk.j0 k y0 y1 y2 y3 y4) (laws_FnOneChunk.j0 (k + 1) y0 y1 y2 y3 y4)) ∧ (∀ y0 y1 y2, LeO (laws_FnOneChunk.j1 k y0 y1 y2) (laws_FnOneChunk.j1 (k + 1) y0 y1 y2))
  | 0 => ⟨fun _ _ _ _ _ r h => by simp [laws_FnOneChunk.j0] at h, fun _ _ _ r h => by simp [laws_FnOneChunk.j1] at h⟩
  | k + 1 => by
    obtain ⟨ih0, ih1⟩ := laws_FnOneChunk.mono_l k
    refine ⟨?_, ?_⟩
    · intro y0 y1 y2 y3 y4
      unfold laws_FnOneChunk.j0
      repeat' first
      | (with_reducible exact ih0 _ _ _ _ _)
      | (with_reducible exact ih1 _ _ _)
      | (with_reducible exact impl_ChunksText.mono _ _)
      | (with_reducible exact impl_ReadChunks.mono _ _)
      | (with_reducible exact spec_DrawChunksText.mono _ _)
      | (with_reducible exact spec_DrawPlaces.mono _ _)
      | (with_reducible exact LeO.refl _)
      | (with_reducible exact LeO.none _)
      | (with_reducible refine LeO.ite ?_ ?_)
      | (with_reducible refine LeO.bind ?_ (fun _ => ?_))
      | exact ih0 _ _ _ _ _
      | exact ih1 _ _ _
      | exact impl_ChunksText.mono _ _
      | exact impl_ReadChunks.mono _ _
      | exact spec_DrawChunksText.mono _ _
      | exact spec_DrawPlaces.mono _ _
      | exact LeO.none _
      | refine LeO.ite ?_ ?_
      | refine LeO.bind ?_ (fun _ => ?_)
    · intro y0 y1 y2
      unfold laws_FnOneChunk.j1
      repeat' first
      | (with_reducible exact ih0 _ _ _ _ _)
      | (with_reducible exact ih1 _ _ _)
      | (with_reducible exact impl_ChunksText.mono _ _)
      | (with_reducible exact impl_ReadChunks.mono _ _)
      | (with_reducible exact spec_DrawChunksText.mono _ _)
      | (with_reducible exact spec_DrawPlaces.mono _ _)
      | (with_reducible exact LeO.refl _)
      | (with_reducible exact LeO.none _)
      | (with_reducible refine LeO.ite ?_ ?_)
      | (with_reducible refine LeO.bind ?_ (fun _ => ?_))
      | exact ih0 _ _ _ _ _
      | exact ih1 _ _ _
      | exact impl_ChunksText.mono _ _
      | exact impl_ReadChunks.mono _ _
      | exact spec_DrawChunksText.mono _ _
      | exact spec_DrawPlaces.mono _ _
      | exact LeO.none _
      | refine LeO.ite ?_ ?_
      | refine LeO.bind ?_ (fun _ => ?_)
theorem laws_FnOneChunk.mono : ∀ a0 k, LeO (laws_FnOneChunk.f k a0) (laws_FnOneChunk.f (k + 1) a0) := by
  intro a0 k
  obtain ⟨ih0, ih1⟩ := laws_FnOneChunk.mono_l k
  unfold laws_FnOneChunk.f
  repeat' first
      | (with_reducible exact ih0 _ _ _ _ _)
      | (with_reducible exact ih1 _ _ _)
      | (with_reducible exact impl_ChunksText.mono _ _)
      | (with_reducible exact impl_ReadChunks.mono _ _)
      | (with_reducible exact spec_DrawChunksText.mono _ _)
      | (with_reducible exact spec_DrawPlaces.mono _ _)
      | (with_reducible exact LeO.refl _)
      | (with_reducible exact LeO.none _)
      | (with_reducible refine LeO.ite ?_ ?_)
      | (with_reducible refine LeO.bind ?_ (fun _ => ?_))
      | exact ih0 _ _ _ _ _
      | exact ih1 _ _ _
      | exact impl_ChunksText.mono _ _
      | exact impl_ReadChunks.mono _ _
      | exact spec_DrawChunksText.mono _ _
      | exact spec_DrawPlaces.mono _ _
      | exact LeO.none _
      | refine LeO.ite ?_ ?_
      | refine LeO.bind ?_ (fun _ => ?_)
def laws_FnOneChunk.T12 : Bool × List (List Nat × List Nat) := (true, [([], []), ([0], [0]), ([1], [1]), ([], []), ([3], [3]), ([4], [4]), ([5], [5]), ([2, 6], [2, 6]), ([7], [7]), ([8, 0, 1, 2, 3, 4, 5, 6, 7, 8], [8])])
def laws_FnOneChunk.B12 : List Nat := [0, 1, 3, 0, 8, 24, 56, 127, 255, 511]
theorem laws_FnOneChunk.tab12 : rtab .any (opsOf Try.f9 12) = laws_FnOneChunk.T12 := by kernel_rfl
theorem laws_FnOneChunk.bits12 : waitsOk laws_FnOneChunk.T12.2 laws_FnOneChunk.B12 = true := by kernel_rfl
def laws_FnOneChunk.T13 : Bool × List (List Nat × List Nat) := (true, [([], []), ([], []), ([], []), ([], []), ([2, 3], [2, 3]), ([4], [4]), ([], []), ([6], [6]), ([7], [7]), ([8], [8]), ([9], [9]), ([10], [10]), ([5, 11], [5, 11]), ([0, 1, 0, 1, 2, 3, 4, 5, 6, 7, 8, 9, 10, 11, 12], [0, 1]), ([13, 12, 0, 1, 2, 3, 4, 5, 6, 7, 8, 9, 10, 11, 12], [12, 13])])
def laws_FnOneChunk.B13 : List Nat := [0, 0, 0, 0, 12, 28, 0, 64, 192, 448, 960, 1984, 4092, 8191, 16383]
theorem laws_FnOneChunk.tab13 : rtab .any (opsOf Try.f9 13) = laws_FnOneChunk.T13 := by kernel_rfl
theorem laws_FnOneChunk.bits13 : waitsOk laws_FnOneChunk.T13.2 laws_FnOneChunk.B13 = true := by kernel_rfl
set_option maxHeartbeats 8000000 in
set_option maxRecDepth 100000 in
theorem laws_FnOneChunk.calls (k : Nat) (A0 : Option Addr) (c0 : Nat) (l0 : List Int) (r : Bool) (w : World) (hr0 : Kd.C (Kd.int .u8) w A0 l0.length l0) (hc0 : l0.length ≤ c0) (hrt : r = true) (h : laws_FnOneChunk.f k l0 = some r) :
    Calls Try.prog 9 #[.slice A0 l0.length c0] w fun e w' => e = .returned (.bool r) ∧ Below w.heap.size w w' := by
  have hu56 := Try.underlying56
  have HR0 := Aside0.mk hr0
  have HC0 := Aside0.mk hc0
  clear hr0 hc0
  have HB := Aside0.mk (Below.refl w.heap.size w)
  unfold laws_FnOneChunk.f at h; have H := h
  clear h
  replace H := Option.bind_eq_some_iff.mp H
  obtain ⟨t279, A20, H⟩ := H
  try dsimp only at H
  have A2 := Aside0.mk A20
  clear A20
  by_cases c3 : t279 = true
  · subst c3
    have H1 : (some true) = some r := by rw [if_pos rfl] at H; first | done | exact H
    clear H
    have H := H1
    clear H1
    clear hrt
    obtain rfl := Option.some.inj H
    go_enter Try.func9, Try.ntmps9
    go_wp2_with (first | ((with_reducible refine gate_callee (f := 32) rfl ?_); refine goesL_ (some 13) rfl rfl Try.func32 (by kernel_rfl) rfl #[.slice A0 l0.length c0] rfl (by (try simp only [List.map_toArray, List.map_cons, List.map_nil]); first | done | rfl | (simp only [List.length_drop, List.length_take]; rfl)) ?_; (with_reducible refine (laws_big.calls _ _ l0 true _ ?side1 ?side2 A2.out).mono ?_); (case side1 => repeat (first | exact HR0.out | (with_reducible refine Kd.C_alloc ?_ _) | (with_reducible refine Kd.C_drewN ?_ _) | (with_reducible refine Kd.C_drew ?_))); (case side2 => exact HC0.out); rintro e w' ⟨rfl, ⟨nd, rfl⟩⟩; refine ⟨_, rfl, ?_⟩))
    go_ret
    exact ⟨by first | rfl | (simp [errW_none, errW_some] <;> rfl) | (simp [*, errW_none, errW_some] <;> rfl), by repeat (first | (with_reducible first | exact HB.out | apply below_alloc | apply pw_below_drewN | apply below_drew1) | exact HB.out)⟩
  · replace c3 := Bool.eq_false_iff.mpr c3
    subst c3
    have H1 : ((spec_DrawChunksText.f k l0).bind fun t280 => (if (t280.length : Int) > 0 then (if 0 < (t280.length : Int) then ((spec_NameOk.f ((rd_T56 t280 0).f0)).bind fun t285 => (if t285 = true then (laws_FnOneChunk.j0 k l0 t280 (decide ((((rd_T56 t280 0).f1).size : Int) < 9000)) (⟨#[116, 69, 88, 116]⟩ : ByteArray) (⟨#[115, 111, 109, 101, 32, 100, 97, 116, 97]⟩ : ByteArray)) else (laws_FnOneChunk.j0 k l0 t280 false (⟨#[116, 69, 88, 116]⟩ : ByteArray) (⟨#[115, 111, 109, 101, 32, 100, 97, 116, 97]⟩ : ByteArray)))) else (none)) else (laws_FnOneChunk.j0 k l0 t280 false (⟨#[116, 69, 88, 116]⟩ : ByteArray) (⟨#[115, 111, 109, 101, 32, 100, 97, 116, 97]⟩ : ByteArray)))) = some r := by rw [if_neg (show ¬ (false = true) by decide)] at H; first | done | exact H
    clear H
    have H := H1
    clear H1
    replace H := Option.bind_eq_some_iff.mp H
    obtain ⟨t280, A40, H⟩ := H
    try dsimp only at H
    have A4 := Aside0.mk A40
    clear A40
    have HC5 := Aside0.mk H
    clear H
    go_enter Try.func9, Try.ntmps9
    go_upto_region 5 with (first | ((with_reducible refine gate_callee (f := 32) rfl ?_); refine goesL_ (some 13) rfl rfl Try.func32 (by kernel_rfl) rfl #[.slice A0 l0.length c0] rfl (by (try simp only [List.map_toArray, List.map_cons, List.map_nil]); first | done | rfl | (simp only [List.length_drop, List.length_take]; rfl)) ?_; (with_reducible refine (laws_big.calls _ _ l0 false _ ?side1 ?side2 A2.out).mono ?_); (case side1 => repeat (first | exact HR0.out | (with_reducible refine Kd.C_alloc ?_ _) | (with_reducible refine Kd.C_drewN ?_ _) | (with_reducible refine Kd.C_drew ?_))); (case side2 => exact HC0.out); rintro e w' ⟨rfl, ⟨nd, rfl⟩⟩; refine ⟨_, rfl, ?_⟩) | ((with_reducible refine gate_callee (f := 38) rfl ?_); refine goesL_ (some 15) rfl rfl Try.func38 (by kernel_rfl) rfl #[.slice A0 l0.length c0] rfl (by (try simp only [List.map_toArray, List.map_cons, List.map_nil]); first | done | rfl | (simp only [List.length_drop, List.length_take]; rfl)) ?_; (with_reducible refine (spec_DrawChunksText.calls k _ _ l0 t280 _ ?side1 ?side2 A4.out).mono ?_); (case side1 => repeat (first | exact HR0.out | (with_reducible refine Kd.C_alloc ?_ _) | (with_reducible refine Kd.C_drewN ?_ _) | (with_reducible refine Kd.C_drew ?_))); (case side2 => exact HC0.out); rintro e w6 ⟨v281, rfl, ho0, hb⟩; refine ⟨_, rfl, ?_⟩; have n0_ := Aside0.mk (Kd.R_lower ho0 (below_size (by repeat (first | (with_reducible first | exact HB.out | apply below_alloc | apply pw_below_drewN | apply below_drew1) | exact HB.out)))); have n1_ := Aside0.mk (below_step (by repeat (first | (with_reducible first | exact HB.out | apply below_alloc | apply pw_below_drewN | apply below_drew1) | exact HB.out)) hb); clear HB; have HO282 := n0_; have HB := n1_; clear n0_ n1_; (try clear hb); (try clear hb2); (try clear hk); (try clear hi); (try clear ho0)) | ((with_reducible refine gate_dst (N := 4) rfl ?_); (try (refine gate_guard (by rfl) ?_; dsimp only)); refine box_event ?hg (N := 4) ?hd (cs := #[.string (⟨#[]⟩ : ByteArray), .string (⟨#[]⟩ : ByteArray)]) (t := 56) ?hr ?_; (case hd => rfl); (case hg => rfl); (case hr => first | (go_simp; done) | (go_simp; rfl)); intro gb283 hg w7 hbox hb; have n0_ := Aside0.mk (Kd.R_below (Kd.R_elderB (by (with_reducible repeat (first | apply Kd.R_alloc | apply Kd.R_drewN | apply Kd.R_drew)); exact HO282.out) gb283 (Nat.le_of_eq hg.symm)) hb); have n1_ := Aside0.mk (below_step (by repeat (first | (with_reducible first | exact HB.out | apply below_alloc | apply pw_below_drewN | apply below_drew1) | exact HB.out)) hb); have n2_ := Aside0.mk (hbox); have n3_ := Aside0.mk ((by rw [hg]; exact (below_size (by repeat (first | (with_reducible first | exact HB.out | apply below_alloc | apply pw_below_drewN | apply below_drew1) | exact HB.out))) : w.heap.size ≤ gb283)); have n4_ := Aside0.mk ((by rw [hg]; exact (below_size (by repeat (first | (with_reducible first | exact HB.out | apply below_alloc | apply pw_below_drewN | apply below_drew1) | exact HB.out))) : w.heap.size ≤ gb283)); clear HO282; clear HB; have HO282 := n0_; have HB := n1_; have BK283 := n2_; have GW283 := n3_; have GE283 := n4_; clear n0_ n1_ n2_ n3_ n4_; clear hb hbox hg; obtain ⟨hcz8_0, hcz8_1⟩ := blk_c2 BK283.out; obtain ⟨hfz8_0, hfz8_1⟩ := blk_f2 BK283.out))
    (try simp only [Act.put, List.setIfInBounds_toArray, List.set_cons_zero, List.set_cons_succ])
    go_cut [34] (fun v34 wc => ∃ (kq : Nat) (x34_4 : Bool), v34 = .bool x34_4 ∧ Aside0 (laws_FnOneChunk.j0 kq l0 t280 x34_4 (⟨#[116, 69, 88, 116]⟩ : ByteArray) (⟨#[115, 111, 109, 101, 32, 100, 97, 116, 97]⟩ : ByteArray) = some r) ∧ Aside0 (kq ≤ k) ∧ Aside0 (Kd.R k56 56 wc w.heap.size (fun k_ => k_ ≠ gb283) v281 t280) ∧ Aside0 (wc.heap[gb283]? = some (.cells #[.string (⟨#[116, 69, 88, 116]⟩ : ByteArray), .string (⟨#[115, 111, 109, 101, 32, 100, 97, 116, 97]⟩ : ByteArray)] 56 (0, 0))) ∧ Aside0 (Below w.heap.size w wc))
    case first =>
      have H := HC5.out
      clear HC5
      by_cases c9 : (t280.length : Int) > 0
      · rw [if_pos c9] at H
        have c9b0 : decide (0 < (t280.length : Int)) = true := decide_eq_true c9
        have c9b1 : decide (0 < t280.length) = true := decide_eq_true (by omega)
        clear c9
        (first | rw [c9b0] | (simp only [i64_w, i32_w]; rw [c9b0]) | skip)
        by_cases c10 : 0 < (t280.length : Int)
        · rw [if_pos c10] at H
          have c10b0 : decide (0 < (t280.length : Int)) = true := decide_eq_true c10
          have c10b1 : decide (0 < t280.length) = true := decide_eq_true (by omega)
          clear c10
          replace H := Option.bind_eq_some_iff.mp H
          obtain ⟨t285, A110, H⟩ := H
          try dsimp only at H
          have A11 := Aside0.mk A110
          clear A110
          by_cases c12 : t285 = true
          · subst c12
            have H1 : (laws_FnOneChunk.j0 k l0 t280 (decide ((((rd_T56 t280 0).f1).size : Int) < 9000)) (⟨#[116, 69, 88, 116]⟩ : ByteArray) (⟨#[115, 111, 109, 101, 32, 100, 97, 116, 97]⟩ : ByteArray)) = some r := by rw [if_pos rfl] at H; first | done | exact H
            clear H
            have H := H1
            clear H1
            have H' := Aside0.mk H
            clear H
            obtain ⟨Ao13, co13, eo13⟩ := Kd.R_slice HO282.out
            subst eo13
            have p284 : 0 ≤ (0 : Int) := (by omega)
            have q284 : 0 < (t280.length : Int) := of_decide_eq_true (by first | (with_reducible assumption) | assumption)
            obtain ⟨ad284, e284, hx284_0, hx284_1⟩ := at_T56 (Kd.R_reads' HO282.out).2.2 0 p284 q284
            cases e284
            have qi284 : (0 < t280.length) = True := eq_true (by omega)
            (try rw [show ((0 : Int)).toNat = 0 from rfl] at hx284_0)
            (try rw [show 0 * 2 = 0 from rfl] at hx284_0)
            (try rw [Addr.add_zero'] at hx284_0)
            (try rw [show ((0 : Int)).toNat = 0 from rfl] at hx284_1)
            (try rw [show 0 * 2 = 0 from rfl] at hx284_1)
            (try rw [Addr.add_zero'] at hx284_1)
            have hn284_0 : ad284.block ≠ gb283 := Kd.own_blk (by first | exact Kd.R_ne HO282.out BK283.out (by decide) | exact (fun e_ => (HO282.out.1 _ e_.symm).2 rfl))
            have hn284_1 : ad284.block ≠ gb283 := Kd.own_blk (by first | exact Kd.R_ne HO282.out BK283.out (by decide) | exact (fun e_ => (HO282.out.1 _ e_.symm).2 rfl))
            replace hx284_0 := (cell_far (p := ⟨gb283, 0, none⟩) (by first | (rw [add_block]; exact hn284_0) | (show (Addr.add _ _).block ≠ _; rw [add_block]; exact hn284_0) | exact hn284_0) (.string (⟨#[116, 69, 88, 116]⟩ : ByteArray))).trans hx284_0
            replace hx284_1 := (cell_far (p := ⟨gb283, 0, none⟩) (by first | (rw [add_block]; exact hn284_0) | (show (Addr.add _ _).block ≠ _; rw [add_block]; exact hn284_0) | exact hn284_0) (.string (⟨#[116, 69, 88, 116]⟩ : ByteArray))).trans hx284_1
            replace hx284_0 := (cell_far (p := ⟨gb283, 1, none⟩) (by first | (rw [add_block]; exact hn284_1) | (show (Addr.add _ _).block ≠ _; rw [add_block]; exact hn284_1) | exact hn284_1) (.string (⟨#[115, 111, 109, 101, 32, 100, 97, 116, 97]⟩ : ByteArray))).trans hx284_0
            replace hx284_1 := (cell_far (p := ⟨gb283, 1, none⟩) (by first | (rw [add_block]; exact hn284_1) | (show (Addr.add _ _).block ≠ _; rw [add_block]; exact hn284_1) | exact hn284_1) (.string (⟨#[115, 111, 109, 101, 32, 100, 97, 116, 97]⟩ : ByteArray))).trans hx284_1
            clear hn284_0
            clear hn284_1
            replace p284 := eq_true p284
            replace q284 := eq_true q284
            go_wp2_with (first | (go_at_call 39; (with_reducible refine (spec_NameOk.calls ((rd_T56 t280 0).f0) true _ A11.out).mono ?_); rintro e w' ⟨rfl, ⟨nd, rfl⟩⟩; have p286 : 0 ≤ (0 : Int) := (by omega); have q286 : 0 < (t280.length : Int) := of_decide_eq_true (by first | (with_reducible assumption) | assumption); obtain ⟨ad286, e286, hx286_0, hx286_1⟩ := at_T56 (Kd.R_reads' HO282.out).2.2 0 p286 q286; obtain rfl : ad284 = ad286 := (by injection e286); have qi286 : (0 < t280.length) = True := eq_true (by omega); (try rw [show ((0 : Int)).toNat = 0 from rfl] at hx286_0); (try rw [show 0 * 2 = 0 from rfl] at hx286_0); (try rw [Addr.add_zero'] at hx286_0); (try rw [show ((0 : Int)).toNat = 0 from rfl] at hx286_1); (try rw [show 0 * 2 = 0 from rfl] at hx286_1); (try rw [Addr.add_zero'] at hx286_1); have hn286_0 : ad284.block ≠ gb283 := Kd.own_blk (by first | exact Kd.R_ne HO282.out BK283.out (by decide) | exact (fun e_ => (HO282.out.1 _ e_.symm).2 rfl)); have hn286_1 : ad284.block ≠ gb283 := Kd.own_blk (by first | exact Kd.R_ne HO282.out BK283.out (by decide) | exact (fun e_ => (HO282.out.1 _ e_.symm).2 rfl)); replace hx286_0 := (cell_far (p := ⟨gb283, 0, none⟩) (by first | (rw [add_block]; exact hn286_0) | (show (Addr.add _ _).block ≠ _; rw [add_block]; exact hn286_0) | exact hn286_0) (.string (⟨#[116, 69, 88, 116]⟩ : ByteArray))).trans hx286_0; replace hx286_1 := (cell_far (p := ⟨gb283, 0, none⟩) (by first | (rw [add_block]; exact hn286_0) | (show (Addr.add _ _).block ≠ _; rw [add_block]; exact hn286_0) | exact hn286_0) (.string (⟨#[116, 69, 88, 116]⟩ : ByteArray))).trans hx286_1; replace hx286_0 := (cell_far (p := ⟨gb283, 1, none⟩) (by first | (rw [add_block]; exact hn286_1) | (show (Addr.add _ _).block ≠ _; rw [add_block]; exact hn286_1) | exact hn286_1) (.string (⟨#[115, 111, 109, 101, 32, 100, 97, 116, 97]⟩ : ByteArray))).trans hx286_0; replace hx286_1 := (cell_far (p := ⟨gb283, 1, none⟩) (by first | (rw [add_block]; exact hn286_1) | (show (Addr.add _ _).block ≠ _; rw [add_block]; exact hn286_1) | exact hn286_1) (.string (⟨#[115, 111, 109, 101, 32, 100, 97, 116, 97]⟩ : ByteArray))).trans hx286_1; clear hn286_0; clear hn286_1; replace p286 := eq_true p286; replace q286 := eq_true q286))
            go_meet
            case rel => exact ⟨_, (decide ((((rd_T56 t280 0).f1).size : Int) < 9000)), (by first | rfl | (simp; done) | (simp [*]; done)), H', ⟨by first | omega | exact Nat.le_refl _⟩, ⟨by (with_reducible repeat (first | apply Kd.R_alloc | apply Kd.R_drewN | apply Kd.R_drew)); exact Kd.R_mono (Kd.R_far (p := ⟨gb283, 1, none⟩) (Kd.R_far (p := ⟨gb283, 0, none⟩) (Kd.R_mono HO282.out (fun k_ hk => (⟨hk, hk.2⟩ : _ ∧ k_ ≠ gb283))) (fun _ hk => hk.2) (.string (⟨#[116, 69, 88, 116]⟩ : ByteArray))) (fun _ hk => hk.2) (.string (⟨#[115, 111, 109, 101, 32, 100, 97, 116, 97]⟩ : ByteArray))) (fun _ hk => hk.1.2)⟩, ⟨by (with_reducible repeat (first | refine blk_drewN ?_ _ | refine blk_drew ?_ | refine blk_alloc ?_ _)); refine blk_put (cs := #[.string (⟨#[116, 69, 88, 116]⟩ : ByteArray), .string (⟨#[]⟩ : ByteArray)]) ?_ 1 _ rfl; (with_reducible repeat (first | refine blk_drewN ?_ _ | refine blk_drew ?_ | refine blk_alloc ?_ _)); refine blk_put (cs := #[.string (⟨#[]⟩ : ByteArray), .string (⟨#[]⟩ : ByteArray)]) ?_ 0 _ rfl; (with_reducible repeat (first | refine blk_drewN ?_ _ | refine blk_drew ?_ | refine blk_alloc ?_ _)); exact BK283.out⟩, ⟨by repeat (first | (with_reducible first | exact HB.out | apply below_alloc | apply pw_below_drewN | apply below_drew1 | refine below_set ?_ GE283.out) | exact HB.out)⟩⟩
          · replace c12 := Bool.eq_false_iff.mpr c12
            subst c12
            have H1 : (laws_FnOneChunk.j0 k l0 t280 false (⟨#[116, 69, 88, 116]⟩ : ByteArray) (⟨#[115, 111, 109, 101, 32, 100, 97, 116, 97]⟩ : ByteArray)) = some r := by rw [if_neg (show ¬ (false = true) by decide)] at H; first | done | exact H
            clear H
            have H := H1
            clear H1
            have H' := Aside0.mk H
            clear H
            obtain ⟨Ao14, co14, eo14⟩ := Kd.R_slice HO282.out
            subst eo14
            have p284 : 0 ≤ (0 : Int) := (by omega)
            have q284 : 0 < (t280.length : Int) := of_decide_eq_true (by first | (with_reducible assumption) | assumption)
            obtain ⟨ad284, e284, hx284_0, hx284_1⟩ := at_T56 (Kd.R_reads' HO282.out).2.2 0 p284 q284
            cases e284
            have qi284 : (0 < t280.length) = True := eq_true (by omega)
            (try rw [show ((0 : Int)).toNat = 0 from rfl] at hx284_0)
            (try rw [show 0 * 2 = 0 from rfl] at hx284_0)
            (try rw [Addr.add_zero'] at hx284_0)
            (try rw [show ((0 : Int)).toNat = 0 from rfl] at hx284_1)
            (try rw [show 0 * 2 = 0 from rfl] at hx284_1)
            (try rw [Addr.add_zero'] at hx284_1)
            have hn284_0 : ad284.block ≠ gb283 := Kd.own_blk (by first | exact Kd.R_ne HO282.out BK283.out (by decide) | exact (fun e_ => (HO282.out.1 _ e_.symm).2 rfl))
            have hn284_1 : ad284.block ≠ gb283 := Kd.own_blk (by first | exact Kd.R_ne HO282.out BK283.out (by decide) | exact (fun e_ => (HO282.out.1 _ e_.symm).2 rfl))
            replace hx284_0 := (cell_far (p := ⟨gb283, 0, none⟩) (by first | (rw [add_block]; exact hn284_0) | (show (Addr.add _ _).block ≠ _; rw [add_block]; exact hn284_0) | exact hn284_0) (.string (⟨#[116, 69, 88, 116]⟩ : ByteArray))).trans hx284_0
            replace hx284_1 := (cell_far (p := ⟨gb283, 0, none⟩) (by first | (rw [add_block]; exact hn284_0) | (show (Addr.add _ _).block ≠ _; rw [add_block]; exact hn284_0) | exact hn284_0) (.string (⟨#[116, 69, 88, 116]⟩ : ByteArray))).trans hx284_1
            replace hx284_0 := (cell_far (p := ⟨gb283, 1, none⟩) (by first | (rw [add_block]; exact hn284_1) | (show (Addr.add _ _).block ≠ _; rw [add_block]; exact hn284_1) | exact hn284_1) (.string (⟨#[115, 111, 109, 101, 32, 100, 97, 116, 97]⟩ : ByteArray))).trans hx284_0
            replace hx284_1 := (cell_far (p := ⟨gb283, 1, none⟩) (by first | (rw [add_block]; exact hn284_1) | (show (Addr.add _ _).block ≠ _; rw [add_block]; exact hn284_1) | exact hn284_1) (.string (⟨#[115, 111, 109, 101, 32, 100, 97, 116, 97]⟩ : ByteArray))).trans hx284_1
            clear hn284_0
            clear hn284_1
            replace p284 := eq_true p284
            replace q284 := eq_true q284
            go_wp2_with (first | (go_at_call 39; (with_reducible refine (spec_NameOk.calls ((rd_T56 t280 0).f0) false _ A11.out).mono ?_); rintro e w' ⟨rfl, ⟨nd, rfl⟩⟩))
            go_meet
            case rel => exact ⟨_, (false), (by first | rfl | (simp; done) | (simp [*]; done)), H', ⟨by first | omega | exact Nat.le_refl _⟩, ⟨by (with_reducible repeat (first | apply Kd.R_alloc | apply Kd.R_drewN | apply Kd.R_drew)); exact Kd.R_mono (Kd.R_far (p := ⟨gb283, 1, none⟩) (Kd.R_far (p := ⟨gb283, 0, none⟩) (Kd.R_mono HO282.out (fun k_ hk => (⟨hk, hk.2⟩ : _ ∧ k_ ≠ gb283))) (fun _ hk => hk.2) (.string (⟨#[116, 69, 88, 116]⟩ : ByteArray))) (fun _ hk => hk.2) (.string (⟨#[115, 111, 109, 101, 32, 100, 97, 116, 97]⟩ : ByteArray))) (fun _ hk => hk.1.2)⟩, ⟨by (with_reducible repeat (first | refine blk_drewN ?_ _ | refine blk_drew ?_ | refine blk_alloc ?_ _)); refine blk_put (cs := #[.string (⟨#[116, 69, 88, 116]⟩ : ByteArray), .string (⟨#[]⟩ : ByteArray)]) ?_ 1 _ rfl; (with_reducible repeat (first | refine blk_drewN ?_ _ | refine blk_drew ?_ | refine blk_alloc ?_ _)); refine blk_put (cs := #[.string (⟨#[]⟩ : ByteArray), .string (⟨#[]⟩ : ByteArray)]) ?_ 0 _ rfl; (with_reducible repeat (first | refine blk_drewN ?_ _ | refine blk_drew ?_ | refine blk_alloc ?_ _)); exact BK283.out⟩, ⟨by repeat (first | (with_reducible first | exact HB.out | apply below_alloc | apply pw_below_drewN | apply below_drew1 | refine below_set ?_ GE283.out) | exact HB.out)⟩⟩
        · rw [if_neg c10] at H
          exact absurd H (by simp)
      · rw [if_neg c9] at H
        have c9b0 : decide (0 < (t280.length : Int)) = false := decide_eq_false c9
        have c9b1 : decide (0 < t280.length) = false := decide_eq_false (by omega)
        clear c9
        (first | rw [c9b0] | (simp only [i64_w, i32_w]; rw [c9b0]) | skip)
        have H' := Aside0.mk H
        clear H
        obtain ⟨Ao15, co15, eo15⟩ := Kd.R_slice HO282.out
        subst eo15
        go_wp2
        go_meet
        case rel => exact ⟨_, (false), (by first | rfl | (simp; done) | (simp [*]; done)), H', ⟨by first | omega | exact Nat.le_refl _⟩, ⟨by (with_reducible repeat (first | apply Kd.R_alloc | apply Kd.R_drewN | apply Kd.R_drew)); exact Kd.R_mono (Kd.R_far (p := ⟨gb283, 1, none⟩) (Kd.R_far (p := ⟨gb283, 0, none⟩) (Kd.R_mono HO282.out (fun k_ hk => (⟨hk, hk.2⟩ : _ ∧ k_ ≠ gb283))) (fun _ hk => hk.2) (.string (⟨#[116, 69, 88, 116]⟩ : ByteArray))) (fun _ hk => hk.2) (.string (⟨#[115, 111, 109, 101, 32, 100, 97, 116, 97]⟩ : ByteArray))) (fun _ hk => hk.1.2)⟩, ⟨by (with_reducible repeat (first | refine blk_drewN ?_ _ | refine blk_drew ?_ | refine blk_alloc ?_ _)); refine blk_put (cs := #[.string (⟨#[116, 69, 88, 116]⟩ : ByteArray), .string (⟨#[]⟩ : ByteArray)]) ?_ 1 _ rfl; (with_reducible repeat (first | refine blk_drewN ?_ _ | refine blk_drew ?_ | refine blk_alloc ?_ _)); refine blk_put (cs := #[.string (⟨#[]⟩ : ByteArray), .string (⟨#[]⟩ : ByteArray)]) ?_ 0 _ rfl; (with_reducible repeat (first | refine blk_drewN ?_ _ | refine blk_drew ?_ | refine blk_alloc ?_ _)); exact BK283.out⟩, ⟨by repeat (first | (with_reducible first | exact HB.out | apply below_alloc | apply pw_below_drewN | apply below_drew1 | refine below_set ?_ GE283.out) | exact HB.out)⟩⟩
    case rest =>
      clear HC5
      try clear c1
      try clear c2
      try clear p2
      try clear q2
      try clear hx2
      try clear qi2
      try clear c3
      try clear c9
      try clear c9b0
      try clear c9b1
      try clear c10
      try clear c10b0
      try clear c10b1
      try clear c12
      try clear hcz8_0
      try clear hcz8_1
      try clear hfz8_0
      try clear hfz8_1
      try clear hx284_0
      try clear hx284_1
      try clear hx286_0
      try clear hx286_1
      try clear p284
      try clear p286
      try clear q284
      try clear q286
      obtain ⟨kq, x34_4, rfl, HA, HJ4, HO_3, BK283, HB⟩ := hcut
      cases kq with
      | zero => exact absurd HA.out (by simp [laws_FnOneChunk.j0])
      | succ kj4 =>
        have H := HA.out
        clear HA
        simp only [laws_FnOneChunk.j0] at H
        have HC16 := Aside0.mk H
        clear H
        go_upto_if 34 with (fail)
        go_cut [] (fun wc => ∃ (kq : Nat) (x284000_15 : ByteArray) (x284001_15 : ByteArray), Aside0 (laws_FnOneChunk.j1 kq l0 x284000_15 x284001_15 = some r) ∧ Aside0 (kq ≤ kj4) ∧ Aside0 (wc.heap[gb283]? = some (.cells #[.string x284000_15, .string x284001_15] 56 (0, 0))) ∧ Aside0 (Below w.heap.size w wc))
        case first =>
          have H := HC16.out
          clear HC16
          by_cases c17 : x34_4 = true
          · subst c17
            have H1 : (if 0 < (t280.length : Int) then (laws_FnOneChunk.j1 kj4 l0 ((rd_T56 t280 0).f0) ((rd_T56 t280 0).f1)) else (none)) = some r := by rw [if_pos rfl] at H; first | done | exact H
            clear H
            have H := H1
            clear H1
            by_cases c18 : 0 < (t280.length : Int)
            · rw [if_pos c18] at H
              have c18b0 : decide (0 < (t280.length : Int)) = true := decide_eq_true c18
              have c18b1 : decide (0 < t280.length) = true := decide_eq_true (by omega)
              clear c18
              (first | rw [c18b0] | (simp only [i64_w, i32_w]; rw [c18b0]) | skip)
              have H' := Aside0.mk H
              clear H
              obtain ⟨Ao19, co19, eo19⟩ := Kd.R_slice HO_3.out
              subst eo19
              have p287 : 0 ≤ (0 : Int) := (by omega)
              have q287 : 0 < (t280.length : Int) := of_decide_eq_true (by first | (with_reducible assumption) | assumption)
              obtain ⟨ad287, e287, hx287_0, hx287_1⟩ := at_T56 (Kd.R_reads' HO_3.out).2.2 0 p287 q287
              cases e287
              have qi287 : (0 < t280.length) = True := eq_true (by omega)
              (try rw [show ((0 : Int)).toNat = 0 from rfl] at hx287_0)
              (try rw [show 0 * 2 = 0 from rfl] at hx287_0)
              (try rw [Addr.add_zero'] at hx287_0)
              (try rw [show ((0 : Int)).toNat = 0 from rfl] at hx287_1)
              (try rw [show 0 * 2 = 0 from rfl] at hx287_1)
              (try rw [Addr.add_zero'] at hx287_1)
              replace p287 := eq_true p287
              replace q287 := eq_true q287
              obtain ⟨hcz20_0, hcz20_1⟩ := blk_c2 BK283.out
              obtain ⟨hfz20_0, hfz20_1⟩ := blk_f2 BK283.out
              go_wp2
              go_meet
              case rel => exact ⟨_, ((rd_T56 t280 0).f0), ((rd_T56 t280 0).f1), H', ⟨by have := HJ4.out; first | omega | exact Nat.le_refl _⟩, ⟨by (with_reducible repeat (first | refine blk_drewN ?_ _ | refine blk_drew ?_ | refine blk_alloc ?_ _)); refine blk_put (cs := #[.string ((rd_T56 t280 0).f0), .string (⟨#[115, 111, 109, 101, 32, 100, 97, 116, 97]⟩ : ByteArray)]) ?_ 1 _ rfl; (with_reducible repeat (first | refine blk_drewN ?_ _ | refine blk_drew ?_ | refine blk_alloc ?_ _)); refine blk_put (cs := #[.string (⟨#[116, 69, 88, 116]⟩ : ByteArray), .string (⟨#[115, 111, 109, 101, 32, 100, 97, 116, 97]⟩ : ByteArray)]) ?_ 0 _ rfl; (with_reducible repeat (first | refine blk_drewN ?_ _ | refine blk_drew ?_ | refine blk_alloc ?_ _)); exact BK283.out⟩, ⟨by repeat (first | (with_reducible first | exact HB.out | apply below_alloc | apply pw_below_drewN | apply below_drew1 | refine below_set ?_ GE283.out) | exact HB.out)⟩⟩
            · rw [if_neg c18] at H
              exact absurd H (by simp)
          · replace c17 := Bool.eq_false_iff.mpr c17
            subst c17
            have H1 : (laws_FnOneChunk.j1 kj4 l0 (⟨#[116, 69, 88, 116]⟩ : ByteArray) (⟨#[115, 111, 109, 101, 32, 100, 97, 116, 97]⟩ : ByteArray)) = some r := by rw [if_neg (show ¬ (false = true) by decide)] at H; first | done | exact H
            clear H
            have H := H1
            clear H1
            have H' := Aside0.mk H
            clear H
            go_wp2
            go_meet
            case rel => exact ⟨_, ((⟨#[116, 69, 88, 116]⟩ : ByteArray)), ((⟨#[115, 111, 109, 101, 32, 100, 97, 116, 97]⟩ : ByteArray)), H', ⟨by have := HJ4.out; first | omega | exact Nat.le_refl _⟩, ⟨by (with_reducible repeat (first | refine blk_drewN ?_ _ | refine blk_drew ?_ | refine blk_alloc ?_ _)); exact BK283.out⟩, ⟨by repeat (first | (with_reducible first | exact HB.out | apply below_alloc | apply pw_below_drewN | apply below_drew1 | refine below_set ?_ GE283.out) | exact HB.out)⟩⟩
        case rest =>
          clear HC16
          try clear c1
          try clear c2
          try clear p2
          try clear q2
          try clear hx2
          try clear qi2
          try clear c3
          try clear c9
          try clear c9b0
          try clear c9b1
          try clear c10
          try clear c10b0
          try clear c10b1
          try clear c12
          try clear c17
          try clear c18
          try clear c18b0
          try clear c18b1
          try clear hcz20_0
          try clear hcz20_1
          try clear hcz8_0
          try clear hcz8_1
          try clear hfz20_0
          try clear hfz20_1
          try clear hfz8_0
          try clear hfz8_1
          try clear hx284_0
          try clear hx284_1
          try clear hx286_0
          try clear hx286_1
          try clear hx287_0
          try clear hx287_1
          try clear p2
          try clear p284
          try clear p286
          try clear p287
          try clear q2
          try clear q284
          try clear q286
          try clear q287
          obtain ⟨kq, x284000_15, x284001_15, HA, HJ15, BK283, HB⟩ := hcut
          cases kq with
          | zero => exact absurd HA.out (by simp [laws_FnOneChunk.j1])
          | succ kj15 =>
            have H := HA.out
            clear HA
            simp only [laws_FnOneChunk.j1] at H
            obtain ⟨y288, hy288⟩ : ∃ y_ : List (S56), y_ = (([(⟨x284000_15, x284001_15⟩ : S56)] : List (S56))) := ⟨_, rfl⟩
            replace H : ((impl_ChunksText.f kj15 y288).bind fun bt291 => ((spec_DrawPlaces.f kj15 l0).bind fun t293 => (if bt291.1.size ≤ 9223372036854775807 then ((some (bytesOf bt291.1 : List Int)).bind fun y296 => (if bt291.2 = true then (if (y296.length : Int) = (wrap64 (20 + (x284001_15.size : Int))) then (if 0 < (t293.length : Int) then (if (wrap64 (4 + (x284001_15.size : Int))) = 0 then (none) else (if 0 ≤ (wrap64 (12 + (Int.tmod (rd t293 0) (wrap64 (4 + (x284001_15.size : Int)))))) then (if (wrap64 (12 + (Int.tmod (rd t293 0) (wrap64 (4 + (x284001_15.size : Int)))))) < (y296.length : Int) then (if 1 < (t293.length : Int) then ((impl_ReadChunks.f kj15 (strOfNums (y296.set ((wrap64 (12 + (Int.tmod (rd t293 0) (wrap64 (4 + (x284001_15.size : Int)))))) : Int).toNat (Go.bits .xor .u8 (rd y296 (wrap64 (12 + (Int.tmod (rd t293 0) (wrap64 (4 + (x284001_15.size : Int))))))) ((wrap64 (1 + (Int.tmod (rd t293 1) 255))) % 256))))).bind fun bt303 => (if bt303.2 = 4 then (some true) else (if (wrap64 (12 + (Int.tmod (rd t293 0) (wrap64 (4 + (x284001_15.size : Int)))))) < 16 then (some (bt303.2 == 3)) else (some false)))) else (none)) else (none)) else (none))) else (none)) else (some false)) else (some false))) else (none)))) = some r := by first | (rw [hy288]; with_reducible exact H) | (have H2_ := (Option.bind_some _ _).symm.trans H; rw [hy288]; with_reducible exact H2_) | (have H2_ := (Option.bind_some _ _).symm.trans H; with_reducible exact H2_) | with_reducible exact H | (rw [hy288]; exact H) | exact H
            have Ny288 := Aside0.mk hy288
            clear hy288
            replace H := Option.bind_eq_some_iff.mp H
            obtain ⟨⟨t291, t292⟩, A210, H⟩ := H
            try dsimp only at H
            have A21 := Aside0.mk A210
            clear A210
            replace H := Option.bind_eq_some_iff.mp H
            obtain ⟨t293, A220, H⟩ := H
            try dsimp only at H
            have A22 := Aside0.mk A220
            clear A220
            by_cases c23 : t291.size ≤ 9223372036854775807
            · rw [if_pos c23] at H
              have c23b0 := eq_true c23
              have c23b1 : decide (t291.size ≤ 9223372036854775807) = true := decide_eq_true c23
              try have c23b2 : (9223372036854775807 < t291.size) = False := eq_false (Nat.not_lt.2 c23)
              clear c23
              obtain ⟨y296, hy296⟩ : ∃ y_ : List Int, y_ = (bytesOf t291) := ⟨_, rfl⟩
              replace H : (if t292 = true then (if (y296.length : Int) = (wrap64 (20 + (x284001_15.size : Int))) then (if 0 < (t293.length : Int) then (if (wrap64 (4 + (x284001_15.size : Int))) = 0 then (none) else (if 0 ≤ (wrap64 (12 + (Int.tmod (rd t293 0) (wrap64 (4 + (x284001_15.size : Int)))))) then (if (wrap64 (12 + (Int.tmod (rd t293 0) (wrap64 (4 + (x284001_15.size : Int)))))) < (y296.length : Int) then (if 1 < (t293.length : Int) then ((impl_ReadChunks.f kj15 (strOfNums (y296.set ((wrap64 (12 + (Int.tmod (rd t293 0) (wrap64 (4 + (x284001_15.size : Int)))))) : Int).toNat (Go.bits .xor .u8 (rd y296 (wrap64 (12 + (Int.tmod (rd t293 0) (wrap64 (4 + (x284001_15.size : Int))))))) ((wrap64 (1 + (Int.tmod (rd t293 1) 255))) % 256))))).bind fun bt303 => (if bt303.2 = 4 then (some true) else (if (wrap64 (12 + (Int.tmod (rd t293 0) (wrap64 (4 + (x284001_15.size : Int)))))) < 16 then (some (bt303.2 == 3)) else (some false)))) else (none)) else (none)) else (none))) else (none)) else (some false)) else (some false)) = some r := by first | (rw [hy296]; with_reducible exact H) | (have H2_ := (Option.bind_some _ _).symm.trans H; rw [hy296]; with_reducible exact H2_) | (have H2_ := (Option.bind_some _ _).symm.trans H; with_reducible exact H2_) | with_reducible exact H | (rw [hy296]; exact H) | exact H
              have Ny296 := Aside0.mk hy296
              clear hy296
              by_cases c24 : t292 = true
              · subst c24
                have H1 : (if (y296.length : Int) = (wrap64 (20 + (x284001_15.size : Int))) then (if 0 < (t293.length : Int) then (if (wrap64 (4 + (x284001_15.size : Int))) = 0 then (none) else (if 0 ≤ (wrap64 (12 + (Int.tmod (rd t293 0) (wrap64 (4 + (x284001_15.size : Int)))))) then (if (wrap64 (12 + (Int.tmod (rd t293 0) (wrap64 (4 + (x284001_15.size : Int)))))) < (y296.length : Int) then (if 1 < (t293.length : Int) then ((impl_ReadChunks.f kj15 (strOfNums (y296.set ((wrap64 (12 + (Int.tmod (rd t293 0) (wrap64 (4 + (x284001_15.size : Int)))))) : Int).toNat (Go.bits .xor .u8 (rd y296 (wrap64 (12 + (Int.tmod (rd t293 0) (wrap64 (4 + (x284001_15.size : Int))))))) ((wrap64 (1 + (Int.tmod (rd t293 1) 255))) % 256))))).bind fun bt303 => (if bt303.2 = 4 then (some true) else (if (wrap64 (12 + (Int.tmod (rd t293 0) (wrap64 (4 + (x284001_15.size : Int)))))) < 16 then (some (bt303.2 == 3)) else (some false)))) else (none)) else (none)) else (none))) else (none)) else (some false)) = some r := by rw [if_pos rfl] at H; first | done | exact H
                clear H
                have H := H1
                clear H1
                by_cases c25 : (y296.length : Int) = (wrap64 (20 + (x284001_15.size : Int)))
                · rw [if_pos c25] at H
                  have c25b0 : ((y296.length : Int) == (wrap64 (20 + (x284001_15.size : Int)))) = true := beq_iff_eq.mpr c25
                  have c25b1 : ((y296.length : Int) != (wrap64 (20 + (x284001_15.size : Int)))) = false := bne_eq_false_iff_eq.mpr c25
                  clear c25
                  by_cases c26 : 0 < (t293.length : Int)
                  · rw [if_pos c26] at H
                    have c26b0 : decide (0 < (t293.length : Int)) = true := decide_eq_true c26
                    have c26b1 : decide (0 < t293.length) = true := decide_eq_true (by omega)
                    clear c26
                    by_cases c27 : (wrap64 (4 + (x284001_15.size : Int))) = 0
                    · rw [if_pos c27] at H
                      exact absurd H (by simp)
                    · rw [if_neg c27] at H
                      have c27b0 : ((wrap64 (4 + (x284001_15.size : Int))) == 0) = false := beq_eq_false_iff_ne.mpr c27
                      have c27b1 : ((wrap64 (4 + (x284001_15.size : Int))) != 0) = true := bne_iff_ne.mpr c27
                      obtain ⟨ji28, hji28⟩ : ∃ j_ : Int, (wrap64 (12 + (Int.tmod (rd t293 0) (wrap64 (4 + (x284001_15.size : Int)))))) = j_ := ⟨_, rfl⟩
                      replace H : (if 0 ≤ (ji28) then (if (ji28) < (y296.length : Int) then (if 1 < (t293.length : Int) then ((impl_ReadChunks.f kj15 (strOfNums (y296.set ((ji28) : Int).toNat (Go.bits .xor .u8 (rd y296 (ji28)) ((wrap64 (1 + (Int.tmod (rd t293 1) 255))) % 256))))).bind fun bt303 => (if bt303.2 = 4 then (some true) else (if (ji28) < 16 then (some (bt303.2 == 3)) else (some false)))) else (none)) else (none)) else (none)) = some r := by first | (rw [hji28] at H; exact H) | (simp only [hji28] at H ⊢; exact H)
                      (try rw [hji28] at A21)
                      (try rw [hji28] at A22)
                      have hji28w : (IntKind.i64.wrap (12 + (Int.tmod (rd t293 0) (wrap64 (4 + (x284001_15.size : Int)))))) = ji28 := (i64_w _).trans hji28
                      by_cases c29 : 0 ≤ (ji28)
                      · rw [if_pos c29] at H
                        have c29b0 : decide (0 ≤ (ji28)) = true := decide_eq_true c29
                        clear c29
                        by_cases c30 : (ji28) < (y296.length : Int)
                        · rw [if_pos c30] at H
                          have c30b0 : decide ((ji28) < (y296.length : Int)) = true := decide_eq_true c30
                          clear c30
                          by_cases c31 : 1 < (t293.length : Int)
                          · rw [if_pos c31] at H
                            have c31b0 : decide (1 < (t293.length : Int)) = true := decide_eq_true c31
                            have c31b1 : decide (1 < t293.length) = true := decide_eq_true (by omega)
                            clear c31
                            obtain ⟨y302, hy302⟩ : ∃ y_ : List Int, y_ = (y296.set ((ji28) : Int).toNat (Go.bits .xor .u8 (rd y296 (ji28)) ((wrap64 (1 + (Int.tmod (rd t293 1) 255))) % 256))) := ⟨_, rfl⟩
                            replace H : ((impl_ReadChunks.f kj15 (strOfNums y302)).bind fun bt303 => (if bt303.2 = 4 then (some true) else (if (ji28) < 16 then (some (bt303.2 == 3)) else (some false)))) = some r := by first | (rw [hy302]; with_reducible exact H) | (have H2_ := (Option.bind_some _ _).symm.trans H; rw [hy302]; with_reducible exact H2_) | (have H2_ := (Option.bind_some _ _).symm.trans H; with_reducible exact H2_) | with_reducible exact H | (rw [hy302]; exact H) | exact H
                            have Ny302 := Aside0.mk hy302
                            clear hy302
                            replace H := Option.bind_eq_some_iff.mp H
                            obtain ⟨⟨t303, t304⟩, A330, H⟩ := H
                            replace H : (if t304 = 4 then (some true) else (if (ji28) < 16 then (some (t304 == 3)) else (some false))) = some r := H
                            have A33 := Aside0.mk A330
                            clear A330
                            by_cases c34 : t304 = 4
                            · rw [if_pos c34] at H
                              have c34b0 : (t304 == 4) = true := beq_iff_eq.mpr c34
                              have c34b1 : (t304 != 4) = false := bne_eq_false_iff_eq.mpr c34
                              clear c34
                              clear hrt
                              obtain rfl := Option.some.inj H
                              obtain ⟨hcz35_0, hcz35_1⟩ := blk_c2 BK283.out
                              obtain ⟨hfz35_0, hfz35_1⟩ := blk_f2 BK283.out
                              try go_wp2_with (first | ((with_reducible refine gate_dst (N := 40) rfl ?_); (try (refine gate_guard (by rfl) ?_; dsimp only)); refine Kd.R_lit k56 _ 56 ?hg (N := 40) ?hd (xs := ([(⟨x284000_15, x284001_15⟩ : S56)] : List (S56))) (inner := [.string x284000_15, .string x284001_15]) (ok := fun _ => True) (okp := fun _ => True) ?hr ?hp (fun _ hk => hk) trivial (Below.refl _ _) (Nat.le_refl _) (by simp) ?_; (case hd => rfl); (case hg => rfl); (case hr => first | (go_simp; done) | (go_simp; rfl)); (case hp => exact (Reps.c2 (show Kd.M k56 _ _ _ (⟨x284000_15, x284001_15⟩ : S56) [.string x284000_15, .string x284001_15] from (k56_mkM _ _ _ (⟨x284000_15, x284001_15⟩ : S56) )) (Reps.none _ _))); intro v289 w36 ho37 hb hg_ hnew_; clear hg_ hnew_; (first | rw [← Ny288.out] at ho37 | (simp only [Int.reduceToNat] at ho37; rw [← Ny288.out] at ho37)); have n0_ := Aside0.mk (Kd.R_lower (Kd.R_newB ho37 (g := gb283) (o := .cells #[.string x284000_15, .string x284001_15] 56 (0, 0)) (by (with_reducible repeat (first | refine blk_drewN ?_ _ | refine blk_drew ?_ | refine blk_alloc ?_ _)); exact BK283.out)) (below_size (by repeat (first | (with_reducible first | exact HB.out | apply below_alloc | apply pw_below_drewN | apply below_drew1 | refine below_set ?_ GE283.out) | exact HB.out)))); have n1_ := Aside0.mk (blk_below (g := gb283) (o := .cells #[.string x284000_15, .string x284001_15] 56 (0, 0)) (by (with_reducible repeat (first | refine blk_drewN ?_ _ | refine blk_drew ?_ | refine blk_alloc ?_ _)); exact BK283.out) hb); have n2_ := Aside0.mk (below_step (by repeat (first | (with_reducible first | exact HB.out | apply below_alloc | apply pw_below_drewN | apply below_drew1 | refine below_set ?_ GE283.out) | exact HB.out)) hb); clear BK283; clear HB; have HO290 := n0_; have BK283 := n1_; have HB := n2_; clear n0_ n1_ n2_; clear hb ho37; obtain ⟨Ao38, co38, eo38⟩ := Kd.R_slice HO290.out; subst eo38) | ((with_reducible refine gate_callee (f := 23) rfl ?_); refine goesL_ (some 41) rfl rfl Try.func23 (by kernel_rfl) rfl #[.slice Ao38 y288.length co38] rfl (by (try simp only [List.map_toArray, List.map_cons, List.map_nil]); first | done | rfl | (simp only [List.length_drop, List.length_take]; rfl)) ?_; (with_reducible refine (impl_ChunksText.calls kj15 _ _ y288 t291 true _ ?side1 ?side2 A21.out).mono ?_); (case side1 => repeat (first | exact (Kd.R_reads' HO290.out).2.2 | (with_reducible refine Kd.C_alloc ?_ _) | (with_reducible refine Kd.C_drewN ?_ _) | (with_reducible refine Kd.C_drew ?_))); (case side2 => exact (Kd.R_reads' HO290.out).2.1); rintro e w39 ⟨rfl, hb⟩; refine ⟨_, rfl, ?_⟩; have n0_ := Aside0.mk (Kd.R_below (by (with_reducible repeat (first | apply Kd.R_alloc | apply Kd.R_drewN | apply Kd.R_drew)); exact HO290.out) hb); have n1_ := Aside0.mk (blk_below (g := gb283) (o := .cells #[.string x284000_15, .string x284001_15] 56 (0, 0)) (by (with_reducible repeat (first | refine blk_drewN ?_ _ | refine blk_drew ?_ | refine blk_alloc ?_ _)); exact BK283.out) hb); have n2_ := Aside0.mk (below_step (by repeat (first | (with_reducible first | exact HB.out | apply below_alloc | apply pw_below_drewN | apply below_drew1 | refine below_set ?_ GE283.out) | exact HB.out)) hb); clear HO290; clear BK283; clear HB; have HO290 := n0_; have BK283 := n1_; have HB := n2_; clear n0_ n1_ n2_; (try clear hb); (try clear hb2); (try clear hk); (try clear hi)) | ((with_reducible refine gate_callee (f := 40) rfl ?_); refine goesL_ (some 45) rfl rfl Try.func40 (by kernel_rfl) rfl #[.slice A0 l0.length c0] rfl (by (try simp only [List.map_toArray, List.map_cons, List.map_nil]); first | done | rfl | (simp only [List.length_drop, List.length_take]; rfl)) ?_; (with_reducible refine (spec_DrawPlaces.calls kj15 _ _ l0 t293 _ ?side1 ?side2 A22.out).mono ?_); (case side1 => repeat (first | exact (Kd.C_below HR0.out HB.out) | (with_reducible refine Kd.C_alloc ?_ _) | (with_reducible refine Kd.C_drewN ?_ _) | (with_reducible refine Kd.C_drew ?_))); (case side2 => exact HC0.out); rintro e w40 ⟨v294, rfl, ho0, hb⟩; refine ⟨_, rfl, ?_⟩; have n0_ := Aside0.mk (Kd.R_below (by (with_reducible repeat (first | apply Kd.R_alloc | apply Kd.R_drewN | apply Kd.R_drew)); exact HO290.out) hb); have n1_ := Aside0.mk (Kd.R_lower ho0 (below_size (by repeat (first | (with_reducible first | exact HB.out | apply below_alloc | apply pw_below_drewN | apply below_drew1 | refine below_set ?_ GE283.out) | exact HB.out)))); have n2_ := Aside0.mk (blk_below (g := gb283) (o := .cells #[.string x284000_15, .string x284001_15] 56 (0, 0)) (by (with_reducible repeat (first | refine blk_drewN ?_ _ | refine blk_drew ?_ | refine blk_alloc ?_ _)); exact BK283.out) hb); have n3_ := Aside0.mk (below_step (by repeat (first | (with_reducible first | exact HB.out | apply below_alloc | apply pw_below_drewN | apply below_drew1 | refine below_set ?_ GE283.out) | exact HB.out)) hb); clear HO290; clear BK283; clear HB; have HO290 := n0_; have HO295 := n1_; have BK283 := n2_; have HB := n3_; clear n0_ n1_ n2_ n3_; (try clear hb); (try clear hb2); (try clear hk); (try clear hi); (try clear ho0)) | ((with_reducible refine gate_dst (N := 47) rfl ?_); (try (refine gate_guard (by rfl) ?_; dsimp only)); refine Kd.B_conv ?hg (N := 47) ?hd rfl Try.underlying9 Try.underlying48 Try.underlying5 (s := t291) rfl (of_decide_eq_true (by first | (with_reducible assumption) | assumption)) (ok := fun k_ => w40.heap.size ≤ k_) (Nat.le_refl _) ?_; (case hd => rfl); (case hg => rfl); intro v297 w41 ho42 hb hg_ hnew_; clear hg_ hnew_; (first | rw [← Ny296.out] at ho42 | (simp only [Int.reduceToNat] at ho42; rw [← Ny296.out] at ho42)); have n0_ := Aside0.mk (Kd.R_below (by (with_reducible repeat (first | apply Kd.R_alloc | apply Kd.R_drewN | apply Kd.R_drew)); exact HO290.out) hb); have n1_ := Aside0.mk (Kd.R_below (by (with_reducible repeat (first | apply Kd.R_alloc | apply Kd.R_drewN | apply Kd.R_drew)); exact HO295.out) hb); have n2_ := Aside0.mk (Kd.B_lower ho42 (below_size (by repeat (first | (with_reducible first | exact HB.out | apply below_alloc | apply pw_below_drewN | apply below_drew1 | refine below_set ?_ GE283.out) | exact HB.out)))); have n3_ := Aside0.mk (blk_below (g := gb283) (o := .cells #[.string x284000_15, .string x284001_15] 56 (0, 0)) (by (with_reducible repeat (first | refine blk_drewN ?_ _ | refine blk_drew ?_ | refine blk_alloc ?_ _)); exact BK283.out) hb); have n4_ := Aside0.mk (below_step (by repeat (first | (with_reducible first | exact HB.out | apply below_alloc | apply pw_below_drewN | apply below_drew1 | refine below_set ?_ GE283.out) | exact HB.out)) hb); clear HO290; clear HO295; clear BK283; clear HB; have HO290 := n0_; have HO295 := n1_; have HO298 := n2_; have BK283 := n3_; have HB := n4_; clear n0_ n1_ n2_ n3_ n4_; clear hb ho42; obtain ⟨Ao43, co43, eo43⟩ := Kd.B_slice HO298.out; subst eo43; obtain ⟨hcz44_0, hcz44_1⟩ := blk_c2 BK283.out; obtain ⟨hfz44_0, hfz44_1⟩ := blk_f2 BK283.out))
                              have n0_ := Aside0.mk (Kd.R_drew HO290.out)
                              have n1_ := Aside0.mk (Kd.R_drew HO295.out)
                              have n2_ := Aside0.mk (Kd.B_drew HO298.out)
                              have n3_ := Aside0.mk (blk_drew BK283.out)
                              have n4_ := Aside0.mk (below_drew1 HB.out)
                              clear HO290
                              clear HO295
                              clear HO298
                              clear BK283
                              clear HB
                              have HO290 := n0_
                              have HO295 := n1_
                              have HO298 := n2_
                              have BK283 := n3_
                              have HB := n4_
                              clear n0_ n1_ n2_ n3_ n4_
                              obtain ⟨Ao46, co46, eo46⟩ := Kd.R_slice HO295.out
                              (first | subst eo46 | (injection eo46 with f1_ f2_ f3_; have f4_ := f1_.symm; have f5_ := f3_.symm; clear f1_ f2_ f3_; subst f4_; subst f5_))
                              have p299 : 0 ≤ (0 : Int) := (by omega)
                              have q299 : 0 < (t293.length : Int) := of_decide_eq_true (by first | (with_reducible assumption) | assumption)
                              obtain ⟨ad299, e299, hx299_0⟩ := Kd.at_int (Kd.R_reads' HO295.out).2.2 0 p299 q299
                              cases e299
                              have qi299 : (0 < t293.length) = True := eq_true (by omega)
                              (try rw [show ((0 : Int)).toNat = 0 from rfl] at hx299_0)
                              (try rw [Addr.add_zero'] at hx299_0)
                              replace p299 := eq_true p299
                              replace q299 := eq_true q299
                              refine start_ (n := 10) (S := fun w' => w'.cell? ⟨gb283, 0, none⟩ = some (.string x284000_15) ∧ w'.cell? ⟨gb283, 1, none⟩ = some (.string x284001_15) ∧ w'.cell? ad299 = some (.int .i64 (rd t293 0))) (ds := []) #[false, false, false, false, false, false, false, false, false, false] (by kernel_rfl) rfl rfl ⟨(blk_cell BK283.out 0).trans rfl, (blk_cell BK283.out 1).trans rfl, hx299_0⟩ (fun hHeld => ?_); refine with_tabW laws_FnOneChunk.tab12 laws_FnOneChunk.bits12 (fun HT_ HW_ => ?_)
                              generalize w41.drew = w45 at HO290 HO295 HO298 BK283 HB hx299_0 hHeld ⊢
                              refine pure_ (i := 0) (N := some 59) (v := ?_) (a' := ?_) #[true, false, false, false, false, false, false, false, false, false] rfl rfl (any_of HT_.out (by kernel_rfl)) (fun _ _ _ h => h) (Or.inl ⟨by rfl, ?_⟩) ?_ ?_
                              rotate_left
                              · intro w'
                                go_simp
                                with_reducible rfl
                              rotate_left
                              · simp only [Act.put, List.setIfInBounds_toArray, List.set_cons_zero, List.set_cons_succ, i64_w, i32_w]
                                rfl
                              refine pure_ (i := 1) (N := some 60) (v := ?_) (a' := ?_) #[true, true, false, false, false, false, false, false, false, false] rfl rfl (any_of HT_.out (by kernel_rfl)) (fun _ _ _ h => h) (Or.inl ⟨by rfl, ?_⟩) ?_ ?_
                              rotate_left
                              · intro w'
                                go_simp
                                with_reducible rfl
                              rotate_left
                              · simp only [Act.put, List.setIfInBounds_toArray, List.set_cons_zero, List.set_cons_succ, i64_w, i32_w]
                                rfl
                              refine pure_ (i := 3) (N := some 62) (v := ?_) (a' := ?_) #[true, true, false, true, false, false, false, false, false, false] rfl rfl (any_of HT_.out (by kernel_rfl)) (fun _ _ _ h => h) (Or.inl ⟨by rfl, ?_⟩) ?_ ?_
                              rotate_left
                              · intro w'
                                go_simp
                                with_reducible rfl
                              rotate_left
                              · simp only [Act.put, List.setIfInBounds_toArray, List.set_cons_zero, List.set_cons_succ, i64_w, i32_w]
                                rfl
                              refine take_ (i := 2) (N := some 61) (v := ?_) (a' := ?_) #[true, true, true, true, false, false, false, false, false, false] rfl rfl (take_ofW HT_.out HW_.out (by kernel_rfl)) (fun _ _ _ h => h) (Or.inl ⟨by rfl, ?_⟩) hHeld ?_ ?_
                              rotate_left
                              · rintro w' ⟨s0, s1, s2⟩
                                go_simp
                                with_reducible rfl
                              rotate_left
                              · simp only [Act.put, List.setIfInBounds_toArray, List.set_cons_zero, List.set_cons_succ, i64_w, i32_w]
                                rfl
                              refine take_ (i := 4) (N := some 63) (v := ?_) (a' := ?_) #[true, true, true, true, true, false, false, false, false, false] rfl rfl (take_ofW HT_.out HW_.out (by kernel_rfl)) (fun _ _ _ h => h) (Or.inl ⟨by rfl, ?_⟩) hHeld ?_ ?_
                              rotate_left
                              · rintro w' ⟨s0, s1, s2⟩
                                go_simp
                                with_reducible rfl
                              rotate_left
                              · simp only [Act.put, List.setIfInBounds_toArray, List.set_cons_zero, List.set_cons_succ, i64_w, i32_w]
                                rfl
                              refine pure_ (i := 5) (N := some 64) (v := ?_) (a' := ?_) #[true, true, true, true, true, true, false, false, false, false] rfl rfl (any_of HT_.out (by kernel_rfl)) (fun _ _ _ h => h) (Or.inl ⟨by rfl, ?_⟩) ?_ ?_
                              rotate_left
                              · intro w'
                                go_simp
                                with_reducible rfl
                              rotate_left
                              · simp only [Act.put, List.setIfInBounds_toArray, List.set_cons_zero, List.set_cons_succ, i64_w, i32_w]
                                rfl
                              refine pure_ (i := 6) (N := some 65) (v := ?_) (a' := ?_) #[true, true, true, true, true, true, true, false, false, false] rfl rfl (any_of HT_.out (by kernel_rfl)) (fun _ _ _ h => h) (Or.inl ⟨by rfl, ?_⟩) ?_ ?_
                              rotate_left
                              · intro w'
                                go_simp
                                with_reducible rfl
                              rotate_left
                              · simp only [Act.put, List.setIfInBounds_toArray, List.set_cons_zero, List.set_cons_succ, i64_w, i32_w]
                                rfl
                              refine pure_ (i := 7) (N := some 66) (v := ?_) (a' := ?_) #[true, true, true, true, true, true, true, true, false, false] rfl rfl (any_of HT_.out (by kernel_rfl)) (fun _ _ _ h => h) (Or.inl ⟨by rfl, ?_⟩) ?_ ?_
                              rotate_left
                              · intro w'
                                go_simp
                                with_reducible rfl
                              rotate_left
                              · simp only [Act.put, List.setIfInBounds_toArray, List.set_cons_zero, List.set_cons_succ, i64_w, i32_w]
                                rfl
                              refine pure_ (i := 8) (N := some 67) (v := ?_) (a' := ?_) #[true, true, true, true, true, true, true, true, true, false] rfl rfl (any_of HT_.out (by kernel_rfl)) (fun _ _ _ h => h) (Or.inl ⟨by rfl, ?_⟩) ?_ ?_
                              rotate_left
                              · intro w'
                                go_simp
                                with_reducible rfl
                              rotate_left
                              · simp only [Act.put, List.setIfInBounds_toArray, List.set_cons_zero, List.set_cons_succ, i64_w, i32_w]
                                rfl
                              refine pure_ (i := 9) (N := some 9) (v := ?_) (a' := ?_) #[true, true, true, true, true, true, true, true, true, true] rfl rfl (any_of HT_.out (by kernel_rfl)) (fun _ _ _ h => h) (Or.inl ⟨by rfl, ?_⟩) ?_ ?_
                              rotate_left
                              · intro w'
                                go_simp
                                with_reducible rfl
                              rotate_left
                              · simp only [Act.put, List.setIfInBounds_toArray, List.set_cons_zero, List.set_cons_succ, i64_w, i32_w]
                                rfl
                              refine done_ (done_of HT_.out (by kernel_rfl)) ?_
                              try go_wp2
                              have n0_ := Aside0.mk (Kd.R_drew HO290.out)
                              have n1_ := Aside0.mk (Kd.R_drew HO295.out)
                              have n2_ := Aside0.mk (Kd.B_drew HO298.out)
                              have n3_ := Aside0.mk (blk_drew BK283.out)
                              have n4_ := Aside0.mk (below_drew1 HB.out)
                              clear HO290
                              clear HO295
                              clear HO298
                              clear BK283
                              clear HB
                              have HO290 := n0_
                              have HO295 := n1_
                              have HO298 := n2_
                              have BK283 := n3_
                              have HB := n4_
                              clear n0_ n1_ n2_ n3_ n4_
                              have p300 : 0 ≤ ((ji28) : Int) := of_decide_eq_true (by first | (with_reducible assumption) | assumption)
                              have q300 : (ji28) < (y296.length : Int) := of_decide_eq_true (by first | (with_reducible assumption) | assumption)
                              obtain ⟨ad300, e300, hx300_0⟩ := Kd.at_int (Kd.B_reads' HO298.out).2.2 (ji28) p300 q300
                              cases e300
                              replace p300 := eq_true p300
                              replace q300 := eq_true q300
                              have p301 : 0 ≤ (1 : Int) := (by omega)
                              have q301 : 1 < (t293.length : Int) := of_decide_eq_true (by first | (with_reducible assumption) | assumption)
                              obtain ⟨ad301, e301, hx301_0⟩ := Kd.at_int (Kd.R_reads' HO295.out).2.2 1 p301 q301
                              obtain rfl : ad299 = ad301 := (by injection e301)
                              (try simp only [show (1 : Int).toNat = 1 from rfl, Nat.reduceMul, Nat.reduceEqDiff, Go.Addr.add, ↓reduceIte] at hx301_0)
                              have qi301 : (1 < t293.length) = True := eq_true (by omega)
                              (try rw [show ((1 : Int)).toNat = 1 from rfl] at hx301_0)
                              replace p301 := eq_true p301
                              replace q301 := eq_true q301
                              have p32 : 0 ≤ ((ji28) : Int) := of_decide_eq_true (by first | (with_reducible assumption) | assumption)
                              have q32 : ((ji28) : Int) < ((y296.length : Int) : Int) := of_decide_eq_true (by first | (with_reducible assumption) | assumption)
                              obtain ⟨go32, co32, eo32, gb32, gl32, cl32, HG32⟩ := Kd.B_form HO298.out (by omega)
                              (first | cases eo32 | (injection eo32 with ea_ en_ ec_; (first | subst ea_ | (injection ea_ with ea_; subst ea_)); subst ec_; clear en_))
                              have GB32 := Aside0.mk gb32
                              have GG32 := Aside0.mk HG32
                              clear gb32 gl32 HG32
                              (first | simp only [add_plain] at hx300_0 | skip)
                              obtain ⟨hx32_0, hf32_0⟩ := Kd.B_celln 0 HO298.out ((ji28) : Int) p32 q32
                              replace p32 := eq_true p32
                              replace q32 := eq_true q32
                              have HP48 := Kd.B_putn HO298.out ((ji28) : Int) (Go.bits .xor .u8 (rd y296 (ji28)) ((wrap64 (1 + (Int.tmod (rd t293 1) 255))) % 256)) (of_eq_true p32) (of_eq_true q32)
                              rw [← Ny302.out] at HP48
                              have HQ48 := Aside0.mk HP48
                              clear HP48
                              refine start_ (n := 15) (S := fun w' => w'.cell? ⟨go32, ((ji28)).toNat, none⟩ = some (.int .u8 (rd y296 (ji28))) ∧ w'.cell? ⟨ad299.block, ad299.off + 1, none⟩ = some (.int .i64 (rd t293 1))) (ds := [14]) #[false, false, false, false, false, false, false, false, false, false, false, false, false, false, false] (by kernel_rfl) rfl rfl ⟨hx300_0, hx301_0⟩ (fun hHeld => ?_); refine with_tabW laws_FnOneChunk.tab13 laws_FnOneChunk.bits13 (fun HT_ HW_ => ?_)
                              generalize w45.drew = w47 at HO290 HO295 HO298 BK283 HB GG32 HQ48 hf32_0 hx300_0 hx301_0 hx32_0 hHeld ⊢
                              refine pure_ (i := 0) (N := some 68) (v := ?_) (a' := ?_) #[true, false, false, false, false, false, false, false, false, false, false, false, false, false, false] rfl rfl (any_of HT_.out (by kernel_rfl)) (fun _ _ _ h => h) (Or.inl ⟨by rfl, ?_⟩) ?_ ?_
                              rotate_left
                              · intro w'
                                go_simp
                                with_reducible rfl
                              rotate_left
                              · simp only [Act.put, List.setIfInBounds_toArray, List.set_cons_zero, List.set_cons_succ, i64_w, i32_w]
                                rfl
                              refine pure_ (i := 1) (N := some 69) (v := ?_) (a' := ?_) #[true, true, false, false, false, false, false, false, false, false, false, false, false, false, false] rfl rfl (any_of HT_.out (by kernel_rfl)) (fun _ _ _ h => h) (Or.inl ⟨by rfl, ?_⟩) ?_ ?_
                              rotate_left
                              · intro w'
                                go_simp
                                with_reducible rfl
                              rotate_left
                              · simp only [Act.put, List.setIfInBounds_toArray, List.set_cons_zero, List.set_cons_succ, i64_w, i32_w]
                                rfl
                              refine pure_ (i := 2) (N := some 70) (v := ?_) (a' := ?_) #[true, true, true, false, false, false, false, false, false, false, false, false, false, false, false] rfl rfl (any_of HT_.out (by kernel_rfl)) (fun _ _ _ h => h) (Or.inl ⟨by rfl, ?_⟩) ?_ ?_
                              rotate_left
                              · intro w'
                                go_simp
                                with_reducible rfl
                              rotate_left
                              · simp only [Act.put, List.setIfInBounds_toArray, List.set_cons_zero, List.set_cons_succ, i64_w, i32_w]
                                rfl
                              refine pure_ (i := 3) (N := some 71) (v := ?_) (a' := ?_) #[true, true, true, true, false, false, false, false, false, false, false, false, false, false, false] rfl rfl (any_of HT_.out (by kernel_rfl)) (fun _ _ _ h => h) (Or.inl ⟨by rfl, ?_⟩) ?_ ?_
                              rotate_left
                              · intro w'
                                go_simp
                                with_reducible rfl
                              rotate_left
                              · simp only [Act.put, List.setIfInBounds_toArray, List.set_cons_zero, List.set_cons_succ, i64_w, i32_w]
                                rfl
                              refine pure_ (i := 4) (N := some 72) (v := ?_) (a' := ?_) #[true, true, true, true, true, false, false, false, false, false, false, false, false, false, false] rfl rfl (any_of HT_.out (by kernel_rfl)) (fun _ _ _ h => h) (Or.inl ⟨by rfl, ?_⟩) ?_ ?_
                              rotate_left
                              · intro w'
                                go_simp
                                with_reducible rfl
                              rotate_left
                              · simp only [Act.put, List.setIfInBounds_toArray, List.set_cons_zero, List.set_cons_succ, i64_w, i32_w]
                                rfl
                              refine pure_ (i := 6) (N := some 74) (v := ?_) (a' := ?_) #[true, true, true, true, true, false, true, false, false, false, false, false, false, false, false] rfl rfl (any_of HT_.out (by kernel_rfl)) (fun _ _ _ h => h) (Or.inl ⟨by rfl, ?_⟩) ?_ ?_
                              rotate_left
                              · intro w'
                                go_simp
                                with_reducible rfl
                              rotate_left
                              · simp only [Act.put, List.setIfInBounds_toArray, List.set_cons_zero, List.set_cons_succ, i64_w, i32_w]
                                rfl
                              refine pure_ (i := 7) (N := some 75) (v := ?_) (a' := ?_) #[true, true, true, true, true, false, true, true, false, false, false, false, false, false, false] rfl rfl (any_of HT_.out (by kernel_rfl)) (fun _ _ _ h => h) (Or.inl ⟨by rfl, ?_⟩) ?_ ?_
                              rotate_left
                              · intro w'
                                go_simp
                                with_reducible rfl
                              rotate_left
                              · simp only [Act.put, List.setIfInBounds_toArray, List.set_cons_zero, List.set_cons_succ, i64_w, i32_w]
                                rfl
                              refine take_ (i := 5) (N := some 73) (v := ?_) (a' := ?_) #[true, true, true, true, true, true, true, true, false, false, false, false, false, false, false] rfl rfl (take_ofW HT_.out HW_.out (by kernel_rfl)) (fun _ _ _ h => h) (Or.inl ⟨by rfl, ?_⟩) hHeld ?_ ?_
                              rotate_left
                              · rintro w' ⟨s0, s1⟩
                                go_simp
                                with_reducible rfl
                              rotate_left
                              · simp only [Act.put, List.setIfInBounds_toArray, List.set_cons_zero, List.set_cons_succ, i64_w, i32_w]
                                rfl
                              refine take_ (i := 8) (N := some 76) (v := ?_) (a' := ?_) #[true, true, true, true, true, true, true, true, true, false, false, false, false, false, false] rfl rfl (take_ofW HT_.out HW_.out (by kernel_rfl)) (fun _ _ _ h => h) (Or.inl ⟨by rfl, ?_⟩) hHeld ?_ ?_
                              rotate_left
                              · rintro w' ⟨s0, s1⟩
                                go_simp
                                with_reducible rfl
                              rotate_left
                              · simp only [Act.put, List.setIfInBounds_toArray, List.set_cons_zero, List.set_cons_succ, i64_w, i32_w]
                                rfl
                              refine pure_ (i := 9) (N := some 77) (v := ?_) (a' := ?_) #[true, true, true, true, true, true, true, true, true, true, false, false, false, false, false] rfl rfl (any_of HT_.out (by kernel_rfl)) (fun _ _ _ h => h) (Or.inl ⟨by rfl, ?_⟩) ?_ ?_
                              rotate_left
                              · intro w'
                                go_simp
                                with_reducible rfl
                              rotate_left
                              · simp only [Act.put, List.setIfInBounds_toArray, List.set_cons_zero, List.set_cons_succ, i64_w, i32_w]
                                rfl
                              refine pure_ (i := 10) (N := some 78) (v := ?_) (a' := ?_) #[true, true, true, true, true, true, true, true, true, true, true, false, false, false, false] rfl rfl (any_of HT_.out (by kernel_rfl)) (fun _ _ _ h => h) (Or.inl ⟨by rfl, ?_⟩) ?_ ?_
                              rotate_left
                              · intro w'
                                go_simp
                                with_reducible rfl
                              rotate_left
                              · simp only [Act.put, List.setIfInBounds_toArray, List.set_cons_zero, List.set_cons_succ, i64_w, i32_w]
                                rfl
                              refine pure_ (i := 11) (N := some 79) (v := ?_) (a' := ?_) #[true, true, true, true, true, true, true, true, true, true, true, true, false, false, false] rfl rfl (any_of HT_.out (by kernel_rfl)) (fun _ _ _ h => h) (Or.inl ⟨by rfl, ?_⟩) ?_ ?_
                              rotate_left
                              · intro w'
                                go_simp
                                with_reducible rfl
                              rotate_left
                              · simp only [Act.put, List.setIfInBounds_toArray, List.set_cons_zero, List.set_cons_succ, i64_w, i32_w]
                                rfl
                              refine pure_ (i := 12) (N := some 80) (v := ?_) (a' := ?_) #[true, true, true, true, true, true, true, true, true, true, true, true, true, false, false] rfl rfl (any_of HT_.out (by kernel_rfl)) (fun _ _ _ h => h) (Or.inl ⟨by rfl, ?_⟩) ?_ ?_
                              rotate_left
                              · intro w'
                                go_simp
                                with_reducible rfl
                              rotate_left
                              · simp only [Act.put, List.setIfInBounds_toArray, List.set_cons_zero, List.set_cons_succ, i64_w, i32_w]
                                rfl
                              refine pure_ (i := 13) (N := some 81) (v := ?_) (a' := ?_) #[true, true, true, true, true, true, true, true, true, true, true, true, true, true, false] rfl rfl (any_of HT_.out (by kernel_rfl)) (fun _ _ _ h => h) (Or.inl ⟨by rfl, ?_⟩) ?_ ?_
                              rotate_left
                              · intro w'
                                go_simp
                                with_reducible rfl
                              rotate_left
                              · simp only [Act.put, List.setIfInBounds_toArray, List.set_cons_zero, List.set_cons_succ, i64_w, i32_w]
                                rfl
                              refine last_ (i := 14) (N := none) #[true, true, true, true, true, true, true, true, true, true, true, true, true, true, true] rfl rfl (one_of HT_.out (by kernel_rfl)) (by decide) (fun K hK => ?_)
                              refine skip_ (w1 := ?_) (by rfl) rfl ?_ ?_
                              rotate_left
                              · go_simp
                                rfl
                              refine hK.out _ _ ?_
                              clear hK K
                              refine done_ (done_of HT_.out (by kernel_rfl)) ?_
                              have hcv49 := Kd.B_string (P := Try.prog) Try.underlying48 Try.underlying5 Try.underlying9 HQ48.out
                              try go_wp2_with (first | ((with_reducible refine gate_callee (f := 41) rfl ?_); refine goesL_ (some 85) rfl rfl Try.func41 (by kernel_rfl) rfl #[.string (strOfNums y302)] rfl (by (try simp only [List.map_toArray, List.map_cons, List.map_nil]); first | done | rfl | (simp only [List.length_drop, List.length_take]; rfl)) ?_; (with_reducible refine (impl_ReadChunks.calls kj15 (strOfNums y302) t303 t304 _ A33.out).mono ?_); rintro e w50 ⟨v305, rfl, ho0, hb⟩; refine ⟨_, rfl, ?_⟩; have n0_ := Aside0.mk (Kd.R_elder' (by (with_reducible repeat (first | apply Kd.R_alloc | apply Kd.R_drewN | apply Kd.R_drew)); exact (Kd.R_mono (Kd.R_far (p := ⟨go32, ((ji28) : Int).toNat, none⟩) (Kd.R_typesM HO290.out GG32.out (by decide)) (fun _ hk => hk.2) (.int .u8 (Go.bits .xor .u8 (rd y296 (ji28)) ((wrap64 (1 + (Int.tmod (rd t293 1) 255))) % 256)))) (fun _ h_ => h_.1))) (Kd.R_base ho0) hb); have n1_ := Aside0.mk (Kd.R_below (by (with_reducible repeat (first | apply Kd.R_alloc | apply Kd.R_drewN | apply Kd.R_drew)); exact (Kd.R_mono (Kd.R_far (p := ⟨go32, ((ji28) : Int).toNat, none⟩) (Kd.R_typesM HO295.out GG32.out (by decide)) (fun _ hk => hk.2) (.int .u8 (Go.bits .xor .u8 (rd y296 (ji28)) ((wrap64 (1 + (Int.tmod (rd t293 1) 255))) % 256)))) (fun _ h_ => h_.1))) hb); have n2_ := Aside0.mk (Kd.B_below (by (with_reducible repeat (first | apply Kd.B_alloc | apply Kd.B_drewN | apply Kd.B_drew)); exact HQ48.out) hb); have n3_ := Aside0.mk (Kd.R_lower (Kd.R_newB (Kd.R_new' ho0 (Kd.R_lt (by (with_reducible repeat (first | apply Kd.R_alloc | apply Kd.R_drewN | apply Kd.R_drew)); exact (Kd.R_mono (Kd.R_far (p := ⟨go32, ((ji28) : Int).toNat, none⟩) (Kd.R_typesM HO290.out GG32.out (by decide)) (fun _ hk => hk.2) (.int .u8 (Go.bits .xor .u8 (rd y296 (ji28)) ((wrap64 (1 + (Int.tmod (rd t293 1) 255))) % 256)))) (fun _ h_ => h_.1))))) (g := gb283) (o := .cells #[.string x284000_15, .string x284001_15] 56 (0, 0)) (by (with_reducible repeat (first | refine blk_drewN ?_ _ | refine blk_drew ?_ | refine blk_alloc ?_ _)); refine blk_far ?_ (by have h_ := Kd.B_ne HO298.out BK283.out (by decide); intro e_; exact h_ (by rw [e_]; rfl)) _; (with_reducible repeat (first | refine blk_drewN ?_ _ | refine blk_drew ?_ | refine blk_alloc ?_ _)); exact BK283.out)) (below_size (by repeat (first | (with_reducible first | exact HB.out | apply below_alloc | apply pw_below_drewN | apply below_drew1 | refine below_set ?_ GB32.out | refine below_set ?_ GE283.out) | exact HB.out)))); have n4_ := Aside0.mk (blk_below (g := gb283) (o := .cells #[.string x284000_15, .string x284001_15] 56 (0, 0)) (by (with_reducible repeat (first | refine blk_drewN ?_ _ | refine blk_drew ?_ | refine blk_alloc ?_ _)); refine blk_far ?_ (by have h_ := Kd.B_ne HO298.out BK283.out (by decide); intro e_; exact h_ (by rw [e_]; rfl)) _; (with_reducible repeat (first | refine blk_drewN ?_ _ | refine blk_drew ?_ | refine blk_alloc ?_ _)); exact BK283.out) hb); have n5_ := Aside0.mk (below_step (by repeat (first | (with_reducible first | exact HB.out | apply below_alloc | apply pw_below_drewN | apply below_drew1 | refine below_set ?_ GB32.out | refine below_set ?_ GE283.out) | exact HB.out)) hb); clear HO290; clear HO295; clear HO298; clear BK283; clear HB; have HO290 := n0_; have HO295 := n1_; have HO298 := n2_; have HO306 := n3_; have BK283 := n4_; have HB := n5_; clear n0_ n1_ n2_ n3_ n4_ n5_; (try clear hb); (try clear hb2); (try clear hk); (try clear hi); (try clear ho0)))
                              go_ret
                              exact ⟨by first | rfl | (simp [errW_none, errW_some] <;> rfl) | (simp only [← hji28]; first | rfl | (simp [errW_none, errW_some] <;> rfl)) | (simp [*, errW_none, errW_some] <;> rfl), by repeat (first | (with_reducible first | exact HB.out | apply below_alloc | apply pw_below_drewN | apply below_drew1 | refine below_set ?_ GE283.out) | exact HB.out)⟩
                            · rw [if_neg c34] at H
                              have c34b0 : (t304 == 4) = false := beq_eq_false_iff_ne.mpr c34
                              have c34b1 : (t304 != 4) = true := bne_iff_ne.mpr c34
                              by_cases c51 : (ji28) < 16
                              · rw [if_pos c51] at H
                                have c51b0 : decide ((ji28) < 16) = true := decide_eq_true c51
                                clear c51
                                clear hrt
                                obtain rfl := Option.some.inj H
                                obtain ⟨hcz52_0, hcz52_1⟩ := blk_c2 BK283.out
                                obtain ⟨hfz52_0, hfz52_1⟩ := blk_f2 BK283.out
                                try go_wp2_with (first | ((with_reducible refine gate_dst (N := 40) rfl ?_); (try (refine gate_guard (by rfl) ?_; dsimp only)); refine Kd.R_lit k56 _ 56 ?hg (N := 40) ?hd (xs := ([(⟨x284000_15, x284001_15⟩ : S56)] : List (S56))) (inner := [.string x284000_15, .string x284001_15]) (ok := fun _ => True) (okp := fun _ => True) ?hr ?hp (fun _ hk => hk) trivial (Below.refl _ _) (Nat.le_refl _) (by simp) ?_; (case hd => rfl); (case hg => rfl); (case hr => first | (go_simp; done) | (go_simp; rfl)); (case hp => exact (Reps.c2 (show Kd.M k56 _ _ _ (⟨x284000_15, x284001_15⟩ : S56) [.string x284000_15, .string x284001_15] from (k56_mkM _ _ _ (⟨x284000_15, x284001_15⟩ : S56) )) (Reps.none _ _))); intro v289 w53 ho54 hb hg_ hnew_; clear hg_ hnew_; (first | rw [← Ny288.out] at ho54 | (simp only [Int.reduceToNat] at ho54; rw [← Ny288.out] at ho54)); have n0_ := Aside0.mk (Kd.R_lower (Kd.R_newB ho54 (g := gb283) (o := .cells #[.string x284000_15, .string x284001_15] 56 (0, 0)) (by (with_reducible repeat (first | refine blk_drewN ?_ _ | refine blk_drew ?_ | refine blk_alloc ?_ _)); exact BK283.out)) (below_size (by repeat (first | (with_reducible first | exact HB.out | apply below_alloc | apply pw_below_drewN | apply below_drew1 | refine below_set ?_ GE283.out) | exact HB.out)))); have n1_ := Aside0.mk (blk_below (g := gb283) (o := .cells #[.string x284000_15, .string x284001_15] 56 (0, 0)) (by (with_reducible repeat (first | refine blk_drewN ?_ _ | refine blk_drew ?_ | refine blk_alloc ?_ _)); exact BK283.out) hb); have n2_ := Aside0.mk (below_step (by repeat (first | (with_reducible first | exact HB.out | apply below_alloc | apply pw_below_drewN | apply below_drew1 | refine below_set ?_ GE283.out) | exact HB.out)) hb); clear BK283; clear HB; have HO290 := n0_; have BK283 := n1_; have HB := n2_; clear n0_ n1_ n2_; clear hb ho54; obtain ⟨Ao55, co55, eo55⟩ := Kd.R_slice HO290.out; subst eo55) | ((with_reducible refine gate_callee (f := 23) rfl ?_); refine goesL_ (some 41) rfl rfl Try.func23 (by kernel_rfl) rfl #[.slice Ao55 y288.length co55] rfl (by (try simp only [List.map_toArray, List.map_cons, List.map_nil]); first | done | rfl | (simp only [List.length_drop, List.length_take]; rfl)) ?_; (with_reducible refine (impl_ChunksText.calls kj15 _ _ y288 t291 true _ ?side1 ?side2 A21.out).mono ?_); (case side1 => repeat (first | exact (Kd.R_reads' HO290.out).2.2 | (with_reducible refine Kd.C_alloc ?_ _) | (with_reducible refine Kd.C_drewN ?_ _) | (with_reducible refine Kd.C_drew ?_))); (case side2 => exact (Kd.R_reads' HO290.out).2.1); rintro e w56 ⟨rfl, hb⟩; refine ⟨_, rfl, ?_⟩; have n0_ := Aside0.mk (Kd.R_below (by (with_reducible repeat (first | apply Kd.R_alloc | apply Kd.R_drewN | apply Kd.R_drew)); exact HO290.out) hb); have n1_ := Aside0.mk (blk_below (g := gb283) (o := .cells #[.string x284000_15, .string x284001_15] 56 (0, 0)) (by (with_reducible repeat (first | refine blk_drewN ?_ _ | refine blk_drew ?_ | refine blk_alloc ?_ _)); exact BK283.out) hb); have n2_ := Aside0.mk (below_step (by repeat (first | (with_reducible first | exact HB.out | apply below_alloc | apply pw_below_drewN | apply below_drew1 | refine below_set ?_ GE283.out) | exact HB.out)) hb); clear HO290; clear BK283; clear HB; have HO290 := n0_; have BK283 := n1_; have HB := n2_; clear n0_ n1_ n2_; (try clear hb); (try clear hb2); (try clear hk); (try clear hi)) | ((with_reducible refine gate_callee (f := 40) rfl ?_); refine goesL_ (some 45) rfl rfl Try.func40 (by kernel_rfl) rfl #[.slice A0 l0.length c0] rfl (by (try simp only [List.map_toArray, List.map_cons, List.map_nil]); first | done | rfl | (simp only [List.length_drop, List.length_take]; rfl)) ?_; (with_reducible refine (spec_DrawPlaces.calls kj15 _ _ l0 t293 _ ?side1 ?side2 A22.out).mono ?_); (case side1 => repeat (first | exact (Kd.C_below HR0.out HB.out) | (with_reducible refine Kd.C_alloc ?_ _) | (with_reducible refine Kd.C_drewN ?_ _) | (with_reducible refine Kd.C_drew ?_))); (case side2 => exact HC0.out); rintro e w57 ⟨v294, rfl, ho0, hb⟩; refine ⟨_, rfl, ?_⟩; have n0_ := Aside0.mk (Kd.R_below (by (with_reducible repeat (first | apply Kd.R_alloc | apply Kd.R_drewN | apply Kd.R_drew)); exact HO290.out) hb); have n1_ := Aside0.mk (Kd.R_lower ho0 (below_size (by repeat (first | (with_reducible first | exact HB.out | apply below_alloc | apply pw_below_drewN | apply below_drew1 | refine below_set ?_ GE283.out) | exact HB.out)))); have n2_ := Aside0.mk (blk_below (g := gb283) (o := .cells #[.string x284000_15, .string x284001_15] 56 (0, 0)) (by (with_reducible repeat (first | refine blk_drewN ?_ _ | refine blk_drew ?_ | refine blk_alloc ?_ _)); exact BK283.out) hb); have n3_ := Aside0.mk (below_step (by repeat (first | (with_reducible first | exact HB.out | apply below_alloc | apply pw_below_drewN | apply below_drew1 | refine below_set ?_ GE283.out) | exact HB.out)) hb); clear HO290; clear BK283; clear HB; have HO290 := n0_; have HO295 := n1_; have BK283 := n2_; have HB := n3_; clear n0_ n1_ n2_ n3_; (try clear hb); (try clear hb2); (try clear hk); (try clear hi); (try clear ho0)) | ((with_reducible refine gate_dst (N := 47) rfl ?_); (try (refine gate_guard (by rfl) ?_; dsimp only)); refine Kd.B_conv ?hg (N := 47) ?hd rfl Try.underlying9 Try.underlying48 Try.underlying5 (s := t291) rfl (of_decide_eq_true (by first | (with_reducible assumption) | assumption)) (ok := fun k_ => w57.heap.size ≤ k_) (Nat.le_refl _) ?_; (case hd => rfl); (case hg => rfl); intro v297 w58 ho59 hb hg_ hnew_; clear hg_ hnew_; (first | rw [← Ny296.out] at ho59 | (simp only [Int.reduceToNat] at ho59; rw [← Ny296.out] at ho59)); have n0_ := Aside0.mk (Kd.R_below (by (with_reducible repeat (first | apply Kd.R_alloc | apply Kd.R_drewN | apply Kd.R_drew)); exact HO290.out) hb); have n1_ := Aside0.mk (Kd.R_below (by (with_reducible repeat (first | apply Kd.R_alloc | apply Kd.R_drewN | apply Kd.R_drew)); exact HO295.out) hb); have n2_ := Aside0.mk (Kd.B_lower ho59 (below_size (by repeat (first | (with_reducible first | exact HB.out | apply below_alloc | apply pw_below_drewN | apply below_drew1 | refine below_set ?_ GE283.out) | exact HB.out)))); have n3_ := Aside0.mk (blk_below (g := gb283) (o := .cells #[.string x284000_15, .string x284001_15] 56 (0, 0)) (by (with_reducible repeat (first | refine blk_drewN ?_ _ | refine blk_drew ?_ | refine blk_alloc ?_ _)); exact BK283.out) hb); have n4_ := Aside0.mk (below_step (by repeat (first | (with_reducible first | exact HB.out | apply below_alloc | apply pw_below_drewN | apply below_drew1 | refine below_set ?_ GE283.out) | exact HB.out)) hb); clear HO290; clear HO295; clear BK283; clear HB; have HO290 := n0_; have HO295 := n1_; have HO298 := n2_; have BK283 := n3_; have HB := n4_; clear n0_ n1_ n2_ n3_ n4_; clear hb ho59; obtain ⟨Ao60, co60, eo60⟩ := Kd.B_slice HO298.out; subst eo60; obtain ⟨hcz61_0, hcz61_1⟩ := blk_c2 BK283.out; obtain ⟨hfz61_0, hfz61_1⟩ := blk_f2 BK283.out))
                                have n0_ := Aside0.mk (Kd.R_drew HO290.out)
                                have n1_ := Aside0.mk (Kd.R_drew HO295.out)
                                have n2_ := Aside0.mk (Kd.B_drew HO298.out)
                                have n3_ := Aside0.mk (blk_drew BK283.out)
                                have n4_ := Aside0.mk (below_drew1 HB.out)
                                clear HO290
                                clear HO295
                                clear HO298
                                clear BK283
                                clear HB
                                have HO290 := n0_
                                have HO295 := n1_
                                have HO298 := n2_
                                have BK283 := n3_
                                have HB := n4_
                                clear n0_ n1_ n2_ n3_ n4_
                                obtain ⟨Ao63, co63, eo63⟩ := Kd.R_slice HO295.out
                                (first | subst eo63 | (injection eo63 with f1_ f2_ f3_; have f4_ := f1_.symm; have f5_ := f3_.symm; clear f1_ f2_ f3_; subst f4_; subst f5_))
                                have p299 : 0 ≤ (0 : Int) := (by omega)
                                have q299 : 0 < (t293.length : Int) := of_decide_eq_true (by first | (with_reducible assumption) | assumption)
                                obtain ⟨ad299, e299, hx299_0⟩ := Kd.at_int (Kd.R_reads' HO295.out).2.2 0 p299 q299
                                cases e299
                                have qi299 : (0 < t293.length) = True := eq_true (by omega)
                                (try rw [show ((0 : Int)).toNat = 0 from rfl] at hx299_0)
                                (try rw [Addr.add_zero'] at hx299_0)
                                replace p299 := eq_true p299
                                replace q299 := eq_true q299
                                refine start_ (n := 10) (S := fun w' => w'.cell? ⟨gb283, 0, none⟩ = some (.string x284000_15) ∧ w'.cell? ⟨gb283, 1, none⟩ = some (.string x284001_15) ∧ w'.cell? ad299 = some (.int .i64 (rd t293 0))) (ds := []) #[false, false, false, false, false, false, false, false, false, false] (by kernel_rfl) rfl rfl ⟨(blk_cell BK283.out 0).trans rfl, (blk_cell BK283.out 1).trans rfl, hx299_0⟩ (fun hHeld => ?_); refine with_tabW laws_FnOneChunk.tab12 laws_FnOneChunk.bits12 (fun HT_ HW_ => ?_)
                                generalize w58.drew = w62 at HO290 HO295 HO298 BK283 HB hx299_0 hHeld ⊢
                                refine pure_ (i := 0) (N := some 59) (v := ?_) (a' := ?_) #[true, false, false, false, false, false, false, false, false, false] rfl rfl (any_of HT_.out (by kernel_rfl)) (fun _ _ _ h => h) (Or.inl ⟨by rfl, ?_⟩) ?_ ?_
                                rotate_left
                                · intro w'
                                  go_simp
                                  with_reducible rfl
                                rotate_left
                                · simp only [Act.put, List.setIfInBounds_toArray, List.set_cons_zero, List.set_cons_succ, i64_w, i32_w]
                                  rfl
                                refine pure_ (i := 1) (N := some 60) (v := ?_) (a' := ?_) #[true, true, false, false, false, false, false, false, false, false] rfl rfl (any_of HT_.out (by kernel_rfl)) (fun _ _ _ h => h) (Or.inl ⟨by rfl, ?_⟩) ?_ ?_
                                rotate_left
                                · intro w'
                                  go_simp
                                  with_reducible rfl
                                rotate_left
                                · simp only [Act.put, List.setIfInBounds_toArray, List.set_cons_zero, List.set_cons_succ, i64_w, i32_w]
                                  rfl
                                refine pure_ (i := 3) (N := some 62) (v := ?_) (a' := ?_) #[true, true, false, true, false, false, false, false, false, false] rfl rfl (any_of HT_.out (by kernel_rfl)) (fun _ _ _ h => h) (Or.inl ⟨by rfl, ?_⟩) ?_ ?_
                                rotate_left
                                · intro w'
                                  go_simp
                                  with_reducible rfl
                                rotate_left
                                · simp only [Act.put, List.setIfInBounds_toArray, List.set_cons_zero, List.set_cons_succ, i64_w, i32_w]
                                  rfl
                                refine take_ (i := 2) (N := some 61) (v := ?_) (a' := ?_) #[true, true, true, true, false, false, false, false, false, false] rfl rfl (take_ofW HT_.out HW_.out (by kernel_rfl)) (fun _ _ _ h => h) (Or.inl ⟨by rfl, ?_⟩) hHeld ?_ ?_
                                rotate_left
                                · rintro w' ⟨s0, s1, s2⟩
                                  go_simp
                                  with_reducible rfl
                                rotate_left
                                · simp only [Act.put, List.setIfInBounds_toArray, List.set_cons_zero, List.set_cons_succ, i64_w, i32_w]
                                  rfl
                                refine take_ (i := 4) (N := some 63) (v := ?_) (a' := ?_) #[true, true, true, true, true, false, false, false, false, false] rfl rfl (take_ofW HT_.out HW_.out (by kernel_rfl)) (fun _ _ _ h => h) (Or.inl ⟨by rfl, ?_⟩) hHeld ?_ ?_
                                rotate_left
                                · rintro w' ⟨s0, s1, s2⟩
                                  go_simp
                                  with_reducible rfl
                                rotate_left
                                · simp only [Act.put, List.setIfInBounds_toArray, List.set_cons_zero, List.set_cons_succ, i64_w, i32_w]
                                  rfl
                                refine pure_ (i := 5) (N := some 64) (v := ?_) (a' := ?_) #[true, true, true, true, true, true, false, false, false, false] rfl rfl (any_of HT_.out (by kernel_rfl)) (fun _ _ _ h => h) (Or.inl ⟨by rfl, ?_⟩) ?_ ?_
                                rotate_left
                                · intro w'
                                  go_simp
                                  with_reducible rfl
                                rotate_left
                                · simp only [Act.put, List.setIfInBounds_toArray, List.set_cons_zero, List.set_cons_succ, i64_w, i32_w]
                                  rfl
                                refine pure_ (i := 6) (N := some 65) (v := ?_) (a' := ?_) #[true, true, true, true, true, true, true, false, false, false] rfl rfl (any_of HT_.out (by kernel_rfl)) (fun _ _ _ h => h) (Or.inl ⟨by rfl, ?_⟩) ?_ ?_
                                rotate_left
                                · intro w'
                                  go_simp
                                  with_reducible rfl
                                rotate_left
                                · simp only [Act.put, List.setIfInBounds_toArray, List.set_cons_zero, List.set_cons_succ, i64_w, i32_w]
                                  rfl
                                refine pure_ (i := 7) (N := some 66) (v := ?_) (a' := ?_) #[true, true, true, true, true, true, true, true, false, false] rfl rfl (any_of HT_.out (by kernel_rfl)) (fun _ _ _ h => h) (Or.inl ⟨by rfl, ?_⟩) ?_ ?_
                                rotate_left
                                · intro w'
                                  go_simp
                                  with_reducible rfl
                                rotate_left
                                · simp only [Act.put, List.setIfInBounds_toArray, List.set_cons_zero, List.set_cons_succ, i64_w, i32_w]
                                  rfl
                                refine pure_ (i := 8) (N := some 67) (v := ?_) (a' := ?_) #[true, true, true, true, true, true, true, true, true, false] rfl rfl (any_of HT_.out (by kernel_rfl)) (fun _ _ _ h => h) (Or.inl ⟨by rfl, ?_⟩) ?_ ?_
                                rotate_left
                                · intro w'
                                  go_simp
                                  with_reducible rfl
                                rotate_left
                                · simp only [Act.put, List.setIfInBounds_toArray, List.set_cons_zero, List.set_cons_succ, i64_w, i32_w]
                                  rfl
                                refine pure_ (i := 9) (N := some 9) (v := ?_) (a' := ?_) #[true, true, true, true, true, true, true, true, true, true] rfl rfl (any_of HT_.out (by kernel_rfl)) (fun _ _ _ h => h) (Or.inl ⟨by rfl, ?_⟩) ?_ ?_
                                rotate_left
                                · intro w'
                                  go_simp
                                  with_reducible rfl
                                rotate_left
                                · simp only [Act.put, List.setIfInBounds_toArray, List.set_cons_zero, List.set_cons_succ, i64_w, i32_w]
                                  rfl
                                refine done_ (done_of HT_.out (by kernel_rfl)) ?_
                                try go_wp2
                                have n0_ := Aside0.mk (Kd.R_drew HO290.out)
                                have n1_ := Aside0.mk (Kd.R_drew HO295.out)
                                have n2_ := Aside0.mk (Kd.B_drew HO298.out)
                                have n3_ := Aside0.mk (blk_drew BK283.out)
                                have n4_ := Aside0.mk (below_drew1 HB.out)
                                clear HO290
                                clear HO295
                                clear HO298
                                clear BK283
                                clear HB
                                have HO290 := n0_
                                have HO295 := n1_
                                have HO298 := n2_
                                have BK283 := n3_
                                have HB := n4_
                                clear n0_ n1_ n2_ n3_ n4_
                                have p300 : 0 ≤ ((ji28) : Int) := of_decide_eq_true (by first | (with_reducible assumption) | assumption)
                                have q300 : (ji28) < (y296.length : Int) := of_decide_eq_true (by first | (with_reducible assumption) | assumption)
                                obtain ⟨ad300, e300, hx300_0⟩ := Kd.at_int (Kd.B_reads' HO298.out).2.2 (ji28) p300 q300
                                cases e300
                                replace p300 := eq_true p300
                                replace q300 := eq_true q300
                                have p301 : 0 ≤ (1 : Int) := (by omega)
                                have q301 : 1 < (t293.length : Int) := of_decide_eq_true (by first | (with_reducible assumption) | assumption)
                                obtain ⟨ad301, e301, hx301_0⟩ := Kd.at_int (Kd.R_reads' HO295.out).2.2 1 p301 q301
                                obtain rfl : ad299 = ad301 := (by injection e301)
                                (try simp only [show (1 : Int).toNat = 1 from rfl, Nat.reduceMul, Nat.reduceEqDiff, Go.Addr.add, ↓reduceIte] at hx301_0)
                                have qi301 : (1 < t293.length) = True := eq_true (by omega)
                                (try rw [show ((1 : Int)).toNat = 1 from rfl] at hx301_0)
                                replace p301 := eq_true p301
                                replace q301 := eq_true q301
                                have p32 : 0 ≤ ((ji28) : Int) := of_decide_eq_true (by first | (with_reducible assumption) | assumption)
                                have q32 : ((ji28) : Int) < ((y296.length : Int) : Int) := of_decide_eq_true (by first | (with_reducible assumption) | assumption)
                                obtain ⟨go32, co32, eo32, gb32, gl32, cl32, HG32⟩ := Kd.B_form HO298.out (by omega)
                                (first | cases eo32 | (injection eo32 with ea_ en_ ec_; (first | subst ea_ | (injection ea_ with ea_; subst ea_)); subst ec_; clear en_))
                                have GB32 := Aside0.mk gb32
                                have GG32 := Aside0.mk HG32
                                clear gb32 gl32 HG32
                                (first | simp only [add_plain] at hx300_0 | skip)
                                obtain ⟨hx32_0, hf32_0⟩ := Kd.B_celln 0 HO298.out ((ji28) : Int) p32 q32
                                replace p32 := eq_true p32
                                replace q32 := eq_true q32
                                have HP65 := Kd.B_putn HO298.out ((ji28) : Int) (Go.bits .xor .u8 (rd y296 (ji28)) ((wrap64 (1 + (Int.tmod (rd t293 1) 255))) % 256)) (of_eq_true p32) (of_eq_true q32)
                                rw [← Ny302.out] at HP65
                                have HQ65 := Aside0.mk HP65
                                clear HP65
                                refine start_ (n := 15) (S := fun w' => w'.cell? ⟨go32, ((ji28)).toNat, none⟩ = some (.int .u8 (rd y296 (ji28))) ∧ w'.cell? ⟨ad299.block, ad299.off + 1, none⟩ = some (.int .i64 (rd t293 1))) (ds := [14]) #[false, false, false, false, false, false, false, false, false, false, false, false, false, false, false] (by kernel_rfl) rfl rfl ⟨hx300_0, hx301_0⟩ (fun hHeld => ?_); refine with_tabW laws_FnOneChunk.tab13 laws_FnOneChunk.bits13 (fun HT_ HW_ => ?_)
                                generalize w62.drew = w64 at HO290 HO295 HO298 BK283 HB GG32 HQ65 hf32_0 hx300_0 hx301_0 hx32_0 hHeld ⊢
                                refine pure_ (i := 0) (N := some 68) (v := ?_) (a' := ?_) #[true, false, false, false, false, false, false, false, false, false, false, false, false, false, false] rfl rfl (any_of HT_.out (by kernel_rfl)) (fun _ _ _ h => h) (Or.inl ⟨by rfl, ?_⟩) ?_ ?_
                                rotate_left
                                · intro w'
                                  go_simp
                                  with_reducible rfl
                                rotate_left
                                · simp only [Act.put, List.setIfInBounds_toArray, List.set_cons_zero, List.set_cons_succ, i64_w, i32_w]
                                  rfl
                                refine pure_ (i := 1) (N := some 69) (v := ?_) (a' := ?_) #[true, true, false, false, false, false, false, false, false, false, false, false, false, false, false] rfl rfl (any_of HT_.out (by kernel_rfl)) (fun _ _ _ h => h) (Or.inl ⟨by rfl, ?_⟩) ?_ ?_
                                rotate_left
                                · intro w'
                                  go_simp
                                  with_reducible rfl
                                rotate_left
                                · simp only [Act.put, List.setIfInBounds_toArray, List.set_cons_zero, List.set_cons_succ, i64_w, i32_w]
                                  rfl
                                refine pure_ (i := 2) (N := some 70) (v := ?_) (a' := ?_) #[true, true, true, false, false, false, false, false, false, false, false, false, false, false, false] rfl rfl (any_of HT_.out (by kernel_rfl)) (fun _ _ _ h => h) (Or.inl ⟨by rfl, ?_⟩) ?_ ?_
                                rotate_left
                                · intro w'
                                  go_simp
                                  with_reducible rfl
                                rotate_left
                                · simp only [Act.put, List.setIfInBounds_toArray, List.set_cons_zero, List.set_cons_succ, i64_w, i32_w]
                                  rfl
                                refine pure_ (i := 3) (N := some 71) (v := ?_) (a' := ?_) #[true, true, true, true, false, false, false, false, false, false, false, false, false, false, false] rfl rfl (any_of HT_.out (by kernel_rfl)) (fun _ _ _ h => h) (Or.inl ⟨by rfl, ?_⟩) ?_ ?_
                                rotate_left
                                · intro w'
                                  go_simp
                                  with_reducible rfl
                                rotate_left
                                · simp only [Act.put, List.setIfInBounds_toArray, List.set_cons_zero, List.set_cons_succ, i64_w, i32_w]
                                  rfl
                                refine pure_ (i := 4) (N := some 72) (v := ?_) (a' := ?_) #[true, true, true, true, true, false, false, false, false, false, false, false, false, false, false] rfl rfl (any_of HT_.out (by kernel_rfl)) (fun _ _ _ h => h) (Or.inl ⟨by rfl, ?_⟩) ?_ ?_
                                rotate_left
                                · intro w'
                                  go_simp
                                  with_reducible rfl
                                rotate_left
                                · simp only [Act.put, List.setIfInBounds_toArray, List.set_cons_zero, List.set_cons_succ, i64_w, i32_w]
                                  rfl
                                refine pure_ (i := 6) (N := some 74) (v := ?_) (a' := ?_) #[true, true, true, true, true, false, true, false, false, false, false, false, false, false, false] rfl rfl (any_of HT_.out (by kernel_rfl)) (fun _ _ _ h => h) (Or.inl ⟨by rfl, ?_⟩) ?_ ?_
                                rotate_left
                                · intro w'
                                  go_simp
                                  with_reducible rfl
                                rotate_left
                                · simp only [Act.put, List.setIfInBounds_toArray, List.set_cons_zero, List.set_cons_succ, i64_w, i32_w]
                                  rfl
                                refine pure_ (i := 7) (N := some 75) (v := ?_) (a' := ?_) #[true, true, true, true, true, false, true, true, false, false, false, false, false, false, false] rfl rfl (any_of HT_.out (by kernel_rfl)) (fun _ _ _ h => h) (Or.inl ⟨by rfl, ?_⟩) ?_ ?_
                                rotate_left
                                · intro w'
                                  go_simp
                                  with_reducible rfl
                                rotate_left
                                · simp only [Act.put, List.setIfInBounds_toArray, List.set_cons_zero, List.set_cons_succ, i64_w, i32_w]
                                  rfl
                                refine take_ (i := 5) (N := some 73) (v := ?_) (a' := ?_) #[true, true, true, true, true, true, true, true, false, false, false, false, false, false, false] rfl rfl (take_ofW HT_.out HW_.out (by kernel_rfl)) (fun _ _ _ h => h) (Or.inl ⟨by rfl, ?_⟩) hHeld ?_ ?_
                                rotate_left
                                · rintro w' ⟨s0, s1⟩
                                  go_simp
                                  with_reducible rfl
                                rotate_left
                                · simp only [Act.put, List.setIfInBounds_toArray, List.set_cons_zero, List.set_cons_succ, i64_w, i32_w]
                                  rfl
                                refine take_ (i := 8) (N := some 76) (v := ?_) (a' := ?_) #[true, true, true, true, true, true, true, true, true, false, false, false, false, false, false] rfl rfl (take_ofW HT_.out HW_.out (by kernel_rfl)) (fun _ _ _ h => h) (Or.inl ⟨by rfl, ?_⟩) hHeld ?_ ?_
                                rotate_left
                                · rintro w' ⟨s0, s1⟩
                                  go_simp
                                  with_reducible rfl
                                rotate_left
                                · simp only [Act.put, List.setIfInBounds_toArray, List.set_cons_zero, List.set_cons_succ, i64_w, i32_w]
                                  rfl
                                refine pure_ (i := 9) (N := some 77) (v := ?_) (a' := ?_) #[true, true, true, true, true, true, true, true, true, true, false, false, false, false, false] rfl rfl (any_of HT_.out (by kernel_rfl)) (fun _ _ _ h => h) (Or.inl ⟨by rfl, ?_⟩) ?_ ?_
                                rotate_left
                                · intro w'
                                  go_simp
                                  with_reducible rfl
                                rotate_left
                                · simp only [Act.put, List.setIfInBounds_toArray, List.set_cons_zero, List.set_cons_succ, i64_w, i32_w]
                                  rfl
                                refine pure_ (i := 10) (N := some 78) (v := ?_) (a' := ?_) #[true, true, true, true, true, true, true, true, true, true, true, false, false, false, false] rfl rfl (any_of HT_.out (by kernel_rfl)) (fun _ _ _ h => h) (Or.inl ⟨by rfl, ?_⟩) ?_ ?_
                                rotate_left
                                · intro w'
                                  go_simp
                                  with_reducible rfl
                                rotate_left
                                · simp only [Act.put, List.setIfInBounds_toArray, List.set_cons_zero, List.set_cons_succ, i64_w, i32_w]
                                  rfl
                                refine pure_ (i := 11) (N := some 79) (v := ?_) (a' := ?_) #[true, true, true, true, true, true, true, true, true, true, true, true, false, false, false] rfl rfl (any_of HT_.out (by kernel_rfl)) (fun _ _ _ h => h) (Or.inl ⟨by rfl, ?_⟩) ?_ ?_
                                rotate_left
                                · intro w'
                                  go_simp
                                  with_reducible rfl
                                rotate_left
                                · simp only [Act.put, List.setIfInBounds_toArray, List.set_cons_zero, List.set_cons_succ, i64_w, i32_w]
                                  rfl
                                refine pure_ (i := 12) (N := some 80) (v := ?_) (a' := ?_) #[true, true, true, true, true, true, true, true, true, true, true, true, true, false, false] rfl rfl (any_of HT_.out (by kernel_rfl)) (fun _ _ _ h => h) (Or.inl ⟨by rfl, ?_⟩) ?_ ?_
                                rotate_left
                                · intro w'
                                  go_simp
                                  with_reducible rfl
                                rotate_left
                                · simp only [Act.put, List.setIfInBounds_toArray, List.set_cons_zero, List.set_cons_succ, i64_w, i32_w]
                                  rfl
                                refine pure_ (i := 13) (N := some 81) (v := ?_) (a' := ?_) #[true, true, true, true, true, true, true, true, true, true, true, true, true, true, false] rfl rfl (any_of HT_.out (by kernel_rfl)) (fun _ _ _ h => h) (Or.inl ⟨by rfl, ?_⟩) ?_ ?_
                                rotate_left
                                · intro w'
                                  go_simp
                                  with_reducible rfl
                                rotate_left
                                · simp only [Act.put, List.setIfInBounds_toArray, List.set_cons_zero, List.set_cons_succ, i64_w, i32_w]
                                  rfl
                                refine last_ (i := 14) (N := none) #[true, true, true, true, true, true, true, true, true, true, true, true, true, true, true] rfl rfl (one_of HT_.out (by kernel_rfl)) (by decide) (fun K hK => ?_)
                                refine skip_ (w1 := ?_) (by rfl) rfl ?_ ?_
                                rotate_left
                                · go_simp
                                  rfl
                                refine hK.out _ _ ?_
                                clear hK K
                                refine done_ (done_of HT_.out (by kernel_rfl)) ?_
                                have hcv66 := Kd.B_string (P := Try.prog) Try.underlying48 Try.underlying5 Try.underlying9 HQ65.out
                                try go_wp2_with (first | ((with_reducible refine gate_callee (f := 41) rfl ?_); refine goesL_ (some 85) rfl rfl Try.func41 (by kernel_rfl) rfl #[.string (strOfNums y302)] rfl (by (try simp only [List.map_toArray, List.map_cons, List.map_nil]); first | done | rfl | (simp only [List.length_drop, List.length_take]; rfl)) ?_; (with_reducible refine (impl_ReadChunks.calls kj15 (strOfNums y302) t303 t304 _ A33.out).mono ?_); rintro e w67 ⟨v305, rfl, ho0, hb⟩; refine ⟨_, rfl, ?_⟩; have n0_ := Aside0.mk (Kd.R_elder' (by (with_reducible repeat (first | apply Kd.R_alloc | apply Kd.R_drewN | apply Kd.R_drew)); exact (Kd.R_mono (Kd.R_far (p := ⟨go32, ((ji28) : Int).toNat, none⟩) (Kd.R_typesM HO290.out GG32.out (by decide)) (fun _ hk => hk.2) (.int .u8 (Go.bits .xor .u8 (rd y296 (ji28)) ((wrap64 (1 + (Int.tmod (rd t293 1) 255))) % 256)))) (fun _ h_ => h_.1))) (Kd.R_base ho0) hb); have n1_ := Aside0.mk (Kd.R_below (by (with_reducible repeat (first | apply Kd.R_alloc | apply Kd.R_drewN | apply Kd.R_drew)); exact (Kd.R_mono (Kd.R_far (p := ⟨go32, ((ji28) : Int).toNat, none⟩) (Kd.R_typesM HO295.out GG32.out (by decide)) (fun _ hk => hk.2) (.int .u8 (Go.bits .xor .u8 (rd y296 (ji28)) ((wrap64 (1 + (Int.tmod (rd t293 1) 255))) % 256)))) (fun _ h_ => h_.1))) hb); have n2_ := Aside0.mk (Kd.B_below (by (with_reducible repeat (first | apply Kd.B_alloc | apply Kd.B_drewN | apply Kd.B_drew)); exact HQ65.out) hb); have n3_ := Aside0.mk (Kd.R_lower (Kd.R_newB (Kd.R_new' ho0 (Kd.R_lt (by (with_reducible repeat (first | apply Kd.R_alloc | apply Kd.R_drewN | apply Kd.R_drew)); exact (Kd.R_mono (Kd.R_far (p := ⟨go32, ((ji28) : Int).toNat, none⟩) (Kd.R_typesM HO290.out GG32.out (by decide)) (fun _ hk => hk.2) (.int .u8 (Go.bits .xor .u8 (rd y296 (ji28)) ((wrap64 (1 + (Int.tmod (rd t293 1) 255))) % 256)))) (fun _ h_ => h_.1))))) (g := gb283) (o := .cells #[.string x284000_15, .string x284001_15] 56 (0, 0)) (by (with_reducible repeat (first | refine blk_drewN ?_ _ | refine blk_drew ?_ | refine blk_alloc ?_ _)); refine blk_far ?_ (by have h_ := Kd.B_ne HO298.out BK283.out (by decide); intro e_; exact h_ (by rw [e_]; rfl)) _; (with_reducible repeat (first | refine blk_drewN ?_ _ | refine blk_drew ?_ | refine blk_alloc ?_ _)); exact BK283.out)) (below_size (by repeat (first | (with_reducible first | exact HB.out | apply below_alloc | apply pw_below_drewN | apply below_drew1 | refine below_set ?_ GB32.out | refine below_set ?_ GE283.out) | exact HB.out)))); have n4_ := Aside0.mk (blk_below (g := gb283) (o := .cells #[.string x284000_15, .string x284001_15] 56 (0, 0)) (by (with_reducible repeat (first | refine blk_drewN ?_ _ | refine blk_drew ?_ | refine blk_alloc ?_ _)); refine blk_far ?_ (by have h_ := Kd.B_ne HO298.out BK283.out (by decide); intro e_; exact h_ (by rw [e_]; rfl)) _; (with_reducible repeat (first | refine blk_drewN ?_ _ | refine blk_drew ?_ | refine blk_alloc ?_ _)); exact BK283.out) hb); have n5_ := Aside0.mk (below_step (by repeat (first | (with_reducible first | exact HB.out | apply below_alloc | apply pw_below_drewN | apply below_drew1 | refine below_set ?_ GB32.out | refine below_set ?_ GE283.out) | exact HB.out)) hb); clear HO290; clear HO295; clear HO298; clear BK283; clear HB; have HO290 := n0_; have HO295 := n1_; have HO298 := n2_; have HO306 := n3_; have BK283 := n4_; have HB := n5_; clear n0_ n1_ n2_ n3_ n4_ n5_; (try clear hb); (try clear hb2); (try clear hk); (try clear hi); (try clear ho0)))
                                go_ret
                                exact ⟨by first | rfl | (simp [errW_none, errW_some] <;> rfl) | (simp only [← hji28]; first | rfl | (simp [errW_none, errW_some] <;> rfl)) | (simp [*, errW_none, errW_some] <;> rfl), by repeat (first | (with_reducible first | exact HB.out | apply below_alloc | apply pw_below_drewN | apply below_drew1 | refine below_set ?_ GE283.out) | exact HB.out)⟩
                              · rw [if_neg c51] at H
                                have c51b0 : decide ((ji28) < 16) = false := decide_eq_false c51
                                clear c51
                                exact absurd ((Option.some.inj H).trans hrt) (by decide)
                          · rw [if_neg c31] at H
                            exact absurd H (by simp)
                        · rw [if_neg c30] at H
                          exact absurd H (by simp)
                      · rw [if_neg c29] at H
                        exact absurd H (by simp)
                  · rw [if_neg c26] at H
                    exact absurd H (by simp)
                · rw [if_neg c25] at H
                  have c25b0 : ((y296.length : Int) == (wrap64 (20 + (x284001_15.size : Int)))) = false := beq_eq_false_iff_ne.mpr c25
                  have c25b1 : ((y296.length : Int) != (wrap64 (20 + (x284001_15.size : Int)))) = true := bne_iff_ne.mpr c25
                  exact absurd ((Option.some.inj H).trans hrt) (by decide)
              · replace c24 := Bool.eq_false_iff.mpr c24
                subst c24
                have H1 : (some false) = some r := by rw [if_neg (show ¬ (false = true) by decide)] at H; first | done | exact H
                clear H
                have H := H1
                clear H1
                exact absurd ((Option.some.inj H).trans hrt) (by decide)
            · rw [if_neg c23] at H
              exact absurd H (by simp)

/-- THE ONE PURE STATEMENT of laws_FnOneChunk: yours. -/
def laws_FnOneChunk.Pure : Prop := ∀ (l0 : List Int), l0.length ≤ maxLen → l0.length * 1 ≤ 140737488351232 → (∀ x ∈ l0, (Lit.int .u8 x).wf = true) → ∃ k, laws_FnOneChunk.f k l0 = some true
theorem laws_FnOneChunk.walk (P : laws_FnOneChunk.Pure) (a0 : Option Addr) (len0 cap0 : Nat) (z0 : List Int) (w : World) (w0 : (a0 = none ∧ len0 = 0 ∧ cap0 = 0 ∧ z0 = []) ∨ ∃ x, a0 = some x ∧ len0 ≤ cap0 ∧ cap0 ≤ maxLen ∧ z0.length = cap0 ∧ (∀ i, i < z0.length → w.cell? (x.add i) = some (.int .u8 (z0.getD i 0))) ∧ ∀ n ∈ z0, (Lit.int .u8 n).wf = true) (y0 : len0 * 1 ≤ 140737488351232) :
    Calls Try.prog 9 #[.slice a0 len0 cap0] w fun e w' => e = .returned (.bool true) ∧ Below w.heap.size w w' := by
  obtain ⟨l0, rfl, hr0, hm0, hw0, hc0⟩ := ReadsInt.ofRowC w0
  obtain ⟨k, h⟩ := P l0 hm0 y0 hw0
  refine (laws_FnOneChunk.calls k _ _ l0 true w (Kd.C_of_reads (d := (0 : Int)) (h1 := fun _ => rfl) hr0) hc0 rfl h).mono ?_
  rintro e w' ⟨rfl, hd⟩
  exact ⟨rfl, hd⟩

end Go.Proofs.Ytefoebmcimnapaa.PFnOneChunk
