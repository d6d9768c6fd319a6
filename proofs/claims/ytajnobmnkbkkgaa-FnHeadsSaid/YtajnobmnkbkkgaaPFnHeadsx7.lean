/- Walks of functions that the law FnHeads reaches: each call comes to what the Lean function of its name tells. Written by p2.py, a program of this session, by way of the kit's print. -/
import Derived.Test.YtajnobmnkbkkgaaPFnHeadsx0
import Derived.Test.YtajnobmnkbkkgaaPFnHeadsx3
import Derived.Test.YtajnobmnkbkkgaaPFnHeadsx4
namespace Go.Proofs.Ytajnobmnkbkkgaa.PFnHeads
open Go.RowKit Go.Proofs.YtajnobmnkbkkgaaW.PrintWords Go.Proofs.YtajnobmnkbkkgaaW.PrintLast Go.Proofs.YtajnobmnkbkkgaaW.PrintMore
attribute [local go_sem] max2_int min2_int max_two min_two max_three min_three max_four min_four   -- for this text's walks alone
set_option linter.unusedVariables false
set_option linter.unusedSimpArgs false

/-! ### spec_l17Table: function 80 -/
mutual
def spec_l17Table.l0 : Nat → List (S52) → Int → List Int → Int → Int → Option ((List (S52)) × Int × Int)
 | 0, _, _, _, _, _ => none
 | k + 1, x3, x4, x1000, x1001, x1002 => (spec_l01Below.f x1000 x1001 x1002 6).bind fun bt241 => (if x4 < (wrap64 (1 + bt241.1)) then ((spec_l01Below.f x1000 bt241.2.1 bt241.2.2 256).bind fun bt244 => ((spec_l01Below.f x1000 bt244.2.1 bt244.2.2 256).bind fun bt247 => ((spec_l01Below.f x1000 bt247.2.1 bt247.2.2 256).bind fun bt250 => (if x3.length < 5864062014805 then (spec_l17Table.l0 k (x3 ++ [(⟨bt244.1, bt247.1, bt250.1⟩ : S52)]) (wrap64 (x4 + 1)) x1000 bt250.2.1 bt250.2.2) else (none))))) else ((spec_l01Below.f x1000 bt241.2.1 bt241.2.2 30).bind fun bt256 => (if bt256.1 = 0 then (some ((([] : List (S52))), bt256.2.1, bt256.2.2)) else (if bt256.1 = 1 then ((spec_l01PickInt.f x1000 bt256.2.1 bt256.2.2 (([(-1), 256] : List Int))).bind fun bt265 => (if 0 < (x3.length : Int) then (some ((x3.set (0 : Int).toNat (⟨(rd_T52 x3 0).f0, bt265.1, (rd_T52 x3 0).f2⟩ : S52)), bt265.2.1, bt265.2.2)) else (none))) else (if bt256.1 = 2 then (spec_l17Table.l1 k x3 x1000 bt256.2.1 bt256.2.2) else (some (x3, bt256.2.1, bt256.2.2)))))))
def spec_l17Table.l1 : Nat → List (S52) → List Int → Int → Int → Option ((List (S52)) × Int × Int)
 | 0, _, _, _, _ => none
 | k + 1, x3, x1000, x1001, x1002 => (spec_l01Below.f x1000 x1001 x1002 2).bind fun bt269 => (if (x3.length : Int) < (wrap64 (256 + bt269.1)) then (if x3.length < 5864062014805 then (spec_l17Table.l1 k (x3 ++ [(⟨0, 0, 0⟩ : S52)]) x1000 bt269.2.1 bt269.2.2) else (none)) else (some (x3, bt269.2.1, bt269.2.2)))
end
def spec_l17Table.f (k : Nat) (s0_0 : List Int) (s0_1 : Int) (s0_2 : Int) : Option ((List (S52)) × Int × Int) := spec_l17Table.l0 k (([] : List (S52))) 0 s0_0 s0_1 s0_2
theorem spec_l17Table.mono_l : ∀ k, (∀ y0 y1 y2 y3 y4, LeO (spec_l17Table.l0 k y0 y1 y2 y3 y4) (spec_l17Table.l0 (k + 1) y0 y1 y2 y3 y4)) ∧ (∀ y0 y1 y2 y3, LeO (spec_l17Table.l1 k y0 y1 y2 y3) (spec_l17Table.l1 (k + 1) y0 y1 y2 y3))
 | 0 => ⟨fun _ _ _ _ _ r h => by simp [spec_l17Table.l0] at h, fun _ _ _ _ r h => by simp [spec_l17Table.l1] at h⟩
 | k + 1 => by
  obtain ⟨ih0, ih1⟩ := spec_l17Table.mono_l k
  refine ⟨?_, ?_⟩
  ·intro y0 y1 y2 y3 y4
   unfold spec_l17Table.l0
   repeat' first
   | (with_reducible exact ih0 _ _ _ _ _)
   | (with_reducible exact ih1 _ _ _ _)
   | (with_reducible exact LeO.refl _)
   | (with_reducible exact LeO.none _)
   | (with_reducible refine LeO.ite ?_ ?_)
   | (with_reducible refine LeO.bind ?_ (fun _ => ?_))
   | exact ih0 _ _ _ _ _
   | exact ih1 _ _ _ _
   | exact LeO.none _
   | refine LeO.ite ?_ ?_
   | refine LeO.bind ?_ (fun _ => ?_)
  ·intro y0 y1 y2 y3
   unfold spec_l17Table.l1
   repeat' first
   | (with_reducible exact ih0 _ _ _ _ _)
   | (with_reducible exact ih1 _ _ _ _)
   | (with_reducible exact LeO.refl _)
   | (with_reducible exact LeO.none _)
   | (with_reducible refine LeO.ite ?_ ?_)
   | (with_reducible refine LeO.bind ?_ (fun _ => ?_))
   | exact ih0 _ _ _ _ _
   | exact ih1 _ _ _ _
   | exact LeO.none _
   | refine LeO.ite ?_ ?_
   | refine LeO.bind ?_ (fun _ => ?_)
theorem spec_l17Table.mono : ∀ a0 a1 a2 k, LeO (spec_l17Table.f k a0 a1 a2) (spec_l17Table.f (k + 1) a0 a1 a2) := by
 intro a0 a1 a2 k
 obtain ⟨ih0, ih1⟩ := spec_l17Table.mono_l k
 unfold spec_l17Table.f
 repeat' first
   | (with_reducible exact ih0 _ _ _ _ _)
   | (with_reducible exact ih1 _ _ _ _)
   | (with_reducible exact LeO.refl _)
   | (with_reducible exact LeO.none _)
   | (with_reducible refine LeO.ite ?_ ?_)
   | (with_reducible refine LeO.bind ?_ (fun _ => ?_))
   | exact ih0 _ _ _ _ _
   | exact ih1 _ _ _ _
   | exact LeO.none _
   | refine LeO.ite ?_ ?_
   | refine LeO.bind ?_ (fun _ => ?_)
set_option maxHeartbeats 8000000 in
set_option maxRecDepth 100000 in
theorem spec_l17Table.calls (k : Nat) (g : Nat) (s0_0 : List Int) (s0_1 : Int) (s0_2 : Int) (r1 : List (S52)) (r2 : Int) (r3 : Int) (w0 w : World) (hI : IsS162 w0 w g s0_0 s0_1 s0_2) (hB : Below w0.heap.size w0 w) (h : spec_l17Table.f k s0_0 s0_1 s0_2 = some (r1, r2, r3)) :
  Calls Try.prog 80 #[.pointer (some ⟨g, 0, none⟩)] w fun e w' => ∃ v0_ : Value, e = .returned (v0_) ∧ Kd.R k52 52 w' w.heap.size (fun _ => True) v0_ r1 ∧ IsS162 w0 w' g s0_0 r2 r3 ∧ Below w0.heap.size w0 w' ∧ KeepBut w w' g none := by
 have hu52 := Try.underlying52
 have HI0 := aM hI
 have HK := aM (KeepBut.refl w g none)
 have HL := aM hB.size
 clear hI
 have HW0 := aM hB.size
 have HB := aM hB
 clear hB
 have H : (spec_l17Table.l0 k (([] : List (S52))) 0 s0_0 s0_1 s0_2) = some (r1, r2, r3) := h
 clear h
 obtain ⟨y238, hy238⟩ : ∃ y_ : List (S52), y_ = (([] : List (S52))) := ⟨_, rfl⟩
 replace H : (spec_l17Table.l0 k y238 0 s0_0 s0_1 s0_2) = some (r1, r2, r3) := by first | (rw [hy238]; with_reducible exact H) | (have H2_ := (Option.bind_some _ _).symm.trans H; rw [hy238]; with_reducible exact H2_) | (have H2_ := (Option.bind_some _ _).symm.trans H; with_reducible exact H2_) | with_reducible exact H | (rw [hy238]; exact H) | exact H
 have Ny238 := aM hy238
 clear hy238
 have H' := aM H
 clear H
 go_enter Try.func80, Try.ntmps80
 go_wp2_with (first | ((with_reducible refine gate_dst (N := 5) rfl ?_); refine Kd.R_lit k52 _ 52 ?hg (N := 5) ?hd (xs := ([] : List (S52))) (inner := []) (ok := fun _ => True) (okp := fun _ => True) ?hr ?hp (fun _ hk => hk) trivial (Below.refl _ _) (Nat.le_refl _) (by simp) ?_; (case hd => rfl); (case hg => rfl); (case hr => first | (go_simp; done) | (go_simp; rfl)); (case hp => exact (Reps.none _ _)); intro v239 w2 ho3 hb hg_ hnew_; clear hg_ hnew_; (first | rw [← Ny238.out] at ho3 | (simp only [Int.reduceToNat] at ho3; rw [← Ny238.out] at ho3)); have n0_ := aM (Kd.R_lower ho3 (keep_size (w := w) (g := g) (row := none) (by repeat (first | (with_reducible first | exact HK.out | apply KeepBut.set_ | apply keep_drewN | apply keep_drew | apply keep_alloc) | exact HK.out)))); have n1_ := aM (IsS162.below (by repeat (first | (with_reducible first | exact HI0.out | apply IsS162.alloc | apply IsS162.drewN | apply IsS162.drew | apply IsS162.set_1 | apply IsS162.set_2) | exact HI0.out)) hb); have n2_ := aM (KeepBut.trans (by repeat (first | (with_reducible first | exact HK.out | apply KeepBut.set_ | apply keep_drewN | apply keep_drew | apply keep_alloc) | exact HK.out)) (KeepBut.of_below hb g none) (.inl rfl)); have n3_ := aM (bT (by repeat (first | (with_reducible first | exact HB.out | apply bA | apply bN | apply bE | refine bS ?_ (IsS162.ge HI0.out)) | exact HB.out)) hb); clear HI0; clear HK; clear HB; have HO240 := n0_; have HI0 := n1_; have HK := n2_; have HB := n3_; clear n0_ n1_ n2_ n3_; clear hb ho3))
 go_loopg [3, 4] k (fun kq v3 v4 w' => ∃ (x3_1 : List (S52)) (x4_1 : Int) (x1001_1 : Int) (x1002_1 : Int), v4 = .int .i64 x4_1 ∧ Aside0 (spec_l17Table.l0 kq x3_1 x4_1 s0_0 x1001_1 x1002_1 = some (r1, r2, r3)) ∧ Aside0 (kq ≤ k) ∧ Aside0 (Kd.R k52 52 w' w.heap.size (fun _ => True) v3 x3_1) ∧ Aside0 (IsS162 w0 w' g s0_0 x1001_1 x1002_1) ∧ Aside0 (KeepBut w w' g none) ∧ Aside0 (Below w0.heap.size w0 w'))
 case atStart => exact ⟨(y238), (0), (s0_1), (s0_2), (by first | rfl | (simp; done) | (simp [*]; done)), H', ⟨Nat.le_refl _⟩, ⟨by (with_reducible repeat (first | apply rA | apply rN | apply rD)); exact HO240.out⟩, ⟨by repeat (first | (with_reducible first | exact HI0.out | apply IsS162.alloc | apply IsS162.drewN | apply IsS162.drew | apply IsS162.set_1 | apply IsS162.set_2) | exact HI0.out)⟩, ⟨by repeat (first | (with_reducible first | exact HK.out | apply KeepBut.set_ | apply keep_drewN | apply keep_drew | apply keep_alloc) | exact HK.out)⟩, ⟨by repeat (first | (with_reducible first | exact HB.out | apply bA | apply bN | apply bE | refine bS ?_ (IsS162.ge HI0.out)) | exact HB.out)⟩⟩
 case round =>
  clear H'
  try clear p2
  obtain ⟨x3_1, x4_1, x1001_1, x1002_1, rfl, HA, HK1, HO_3, HI0, HK, HB⟩ := hrel
  cases gk with
  | zero => exact absurd HA.out (by simp [spec_l17Table.l0])
  | succ k1 =>
   have H := HA.out
   clear HA
   simp only [spec_l17Table.l0] at H
   replace H := oB.mp H
   obtain ⟨⟨t241, t242, t243⟩, A40, H⟩ := H
   try dsimp only at H
   have A4 := aM A40
   clear A40
   by_cases c5 : x4_1 < (wrap64 (1 + t241))
   ·rw [if_pos c5] at H
    have c5b0 : decide (x4_1 < (wrap64 (1 + t241))) = true := decide_eq_true c5
    clear c5
    replace H := oB.mp H
    obtain ⟨⟨t244, t245, t246⟩, A60, H⟩ := H
    try dsimp only at H
    have A6 := aM A60
    clear A60
    replace H := oB.mp H
    obtain ⟨⟨t247, t248, t249⟩, A70, H⟩ := H
    try dsimp only at H
    have A7 := aM A70
    clear A70
    replace H := oB.mp H
    obtain ⟨⟨t250, t251, t252⟩, A80, H⟩ := H
    replace H : (if x3_1.length < 5864062014805 then (spec_l17Table.l0 k1 (x3_1 ++ [(⟨t244, t247, t250⟩ : S52)]) (wrap64 (x4_1 + 1)) s0_0 t251 t252) else (none)) = some (r1, r2, r3) := H
    have A8 := aM A80
    clear A80
    by_cases c9 : x3_1.length < 5864062014805
    ·rw [if_pos c9] at H
     have LMc9 := aM c9
     clear c9
     obtain ⟨y253, hy253⟩ : ∃ y_ : List (S52), y_ = (x3_1 ++ [(⟨t244, t247, t250⟩ : S52)]) := ⟨_, rfl⟩
     replace H : (spec_l17Table.l0 k1 y253 (wrap64 (x4_1 + 1)) s0_0 t251 t252) = some (r1, r2, r3) := by first | (rw [hy253]; with_reducible exact H) | (have H2_ := (Option.bind_some _ _).symm.trans H; rw [hy253]; with_reducible exact H2_) | (have H2_ := (Option.bind_some _ _).symm.trans H; with_reducible exact H2_) | with_reducible exact H | (rw [hy253]; exact H) | exact H
     have Ny253 := aM hy253
     clear hy253
     have H' := aM H
     clear H
     go_wp2_with (first | ((with_reducible refine gate_callee (f := 141) rfl ?_); refine goesL_ (some 8) rfl rfl Try.func141 (by kernel_rfl) rfl #[.pointer (some ⟨g, 0, none⟩), .int .i64 6] rfl (by (try simp only [lM, List.map_cons, List.map_nil]); first | done | rfl | (simp only [lD, lT]; rfl)) ?_; (with_reducible refine (spec_l01Below.calls g s0_0 x1001_1 x1002_1 6 t241 t242 t243 w0 _ ?side1 ?side2 A4.out).mono ?_); (case side1 => repeat (first | (with_reducible first | exact HI0.out | apply IsS162.alloc | apply IsS162.drewN | apply IsS162.drew | apply IsS162.set_1 | apply IsS162.set_2) | exact HI0.out)); (case side2 => repeat (first | (with_reducible first | exact HB.out | apply bA | apply bN | apply bE | refine bS ?_ (IsS162.ge HI0.out)) | exact HB.out)); rintro e w10 ⟨rfl, hi, hb, hk⟩; refine ⟨_, rfl, ?_⟩; have n0_ := aM (rM (Kd.R_keep (IsS162.apart (show IsS162 w0 _ g s0_0 x1001_1 x1002_1 from by repeat (first | (with_reducible first | exact HI0.out | apply IsS162.alloc | apply IsS162.drewN | apply IsS162.drew | apply IsS162.set_1 | apply IsS162.set_2) | exact HI0.out)) (by (with_reducible repeat (first | apply rA | apply rN | apply rD)); exact HO_3.out) (by decide)) hk (fun _ h => h.2)) (fun _ h => h.1)); have n1_ := aM (KeepBut.trans (by repeat (first | (with_reducible first | exact HK.out | apply KeepBut.set_ | apply keep_drewN | apply keep_drew | apply keep_alloc) | exact HK.out)) hk (.inl rfl)); have n2_ := aM (hb); have n3_ := aM (hi); clear HO_3; clear HK; clear HB; clear HI0; have HO_3 := n0_; have HK := n1_; have HB := n2_; have HI0 := n3_; clear n0_ n1_ n2_ n3_; (try clear hb); (try clear hb2); (try clear hk); (try clear hi)) | ((with_reducible refine gate_callee (f := 141) rfl ?_); refine goesL_ (some 15) rfl rfl Try.func141 (by kernel_rfl) rfl #[.pointer (some ⟨g, 0, none⟩), .int .i64 256] rfl (by (try simp only [lM, List.map_cons, List.map_nil]); first | done | rfl | (simp only [lD, lT]; rfl)) ?_; (with_reducible refine (spec_l01Below.calls g s0_0 t242 t243 256 t244 t245 t246 w0 _ ?side1 ?side2 A6.out).mono ?_); (case side1 => repeat (first | (with_reducible first | exact HI0.out | apply IsS162.alloc | apply IsS162.drewN | apply IsS162.drew | apply IsS162.set_1 | apply IsS162.set_2) | exact HI0.out)); (case side2 => repeat (first | (with_reducible first | exact HB.out | apply bA | apply bN | apply bE | refine bS ?_ (IsS162.ge HI0.out)) | exact HB.out)); rintro e w11 ⟨rfl, hi, hb, hk⟩; refine ⟨_, rfl, ?_⟩; have n0_ := aM (rM (Kd.R_keep (IsS162.apart (show IsS162 w0 _ g s0_0 t242 t243 from by repeat (first | (with_reducible first | exact HI0.out | apply IsS162.alloc | apply IsS162.drewN | apply IsS162.drew | apply IsS162.set_1 | apply IsS162.set_2) | exact HI0.out)) (by (with_reducible repeat (first | apply rA | apply rN | apply rD)); exact HO_3.out) (by decide)) hk (fun _ h => h.2)) (fun _ h => h.1)); have n1_ := aM (KeepBut.trans (by repeat (first | (with_reducible first | exact HK.out | apply KeepBut.set_ | apply keep_drewN | apply keep_drew | apply keep_alloc) | exact HK.out)) hk (.inl rfl)); have n2_ := aM (hb); have n3_ := aM (hi); clear HO_3; clear HK; clear HB; clear HI0; have HO_3 := n0_; have HK := n1_; have HB := n2_; have HI0 := n3_; clear n0_ n1_ n2_ n3_; (try clear hb); (try clear hb2); (try clear hk); (try clear hi)) | ((with_reducible refine gate_callee (f := 141) rfl ?_); refine goesL_ (some 17) rfl rfl Try.func141 (by kernel_rfl) rfl #[.pointer (some ⟨g, 0, none⟩), .int .i64 256] rfl (by (try simp only [lM, List.map_cons, List.map_nil]); first | done | rfl | (simp only [lD, lT]; rfl)) ?_; (with_reducible refine (spec_l01Below.calls g s0_0 t245 t246 256 t247 t248 t249 w0 _ ?side1 ?side2 A7.out).mono ?_); (case side1 => repeat (first | (with_reducible first | exact HI0.out | apply IsS162.alloc | apply IsS162.drewN | apply IsS162.drew | apply IsS162.set_1 | apply IsS162.set_2) | exact HI0.out)); (case side2 => repeat (first | (with_reducible first | exact HB.out | apply bA | apply bN | apply bE | refine bS ?_ (IsS162.ge HI0.out)) | exact HB.out)); rintro e w12 ⟨rfl, hi, hb, hk⟩; refine ⟨_, rfl, ?_⟩; have n0_ := aM (rM (Kd.R_keep (IsS162.apart (show IsS162 w0 _ g s0_0 t245 t246 from by repeat (first | (with_reducible first | exact HI0.out | apply IsS162.alloc | apply IsS162.drewN | apply IsS162.drew | apply IsS162.set_1 | apply IsS162.set_2) | exact HI0.out)) (by (with_reducible repeat (first | apply rA | apply rN | apply rD)); exact HO_3.out) (by decide)) hk (fun _ h => h.2)) (fun _ h => h.1)); have n1_ := aM (KeepBut.trans (by repeat (first | (with_reducible first | exact HK.out | apply KeepBut.set_ | apply keep_drewN | apply keep_drew | apply keep_alloc) | exact HK.out)) hk (.inl rfl)); have n2_ := aM (hb); have n3_ := aM (hi); clear HO_3; clear HK; clear HB; clear HI0; have HO_3 := n0_; have HK := n1_; have HB := n2_; have HI0 := n3_; clear n0_ n1_ n2_ n3_; (try clear hb); (try clear hb2); (try clear hk); (try clear hi)) | ((with_reducible refine gate_callee (f := 141) rfl ?_); refine goesL_ (some 19) rfl rfl Try.func141 (by kernel_rfl) rfl #[.pointer (some ⟨g, 0, none⟩), .int .i64 256] rfl (by (try simp only [lM, List.map_cons, List.map_nil]); first | done | rfl | (simp only [lD, lT]; rfl)) ?_; (with_reducible refine (spec_l01Below.calls g s0_0 t248 t249 256 t250 t251 t252 w0 _ ?side1 ?side2 A8.out).mono ?_); (case side1 => repeat (first | (with_reducible first | exact HI0.out | apply IsS162.alloc | apply IsS162.drewN | apply IsS162.drew | apply IsS162.set_1 | apply IsS162.set_2) | exact HI0.out)); (case side2 => repeat (first | (with_reducible first | exact HB.out | apply bA | apply bN | apply bE | refine bS ?_ (IsS162.ge HI0.out)) | exact HB.out)); rintro e w13 ⟨rfl, hi, hb, hk⟩; refine ⟨_, rfl, ?_⟩; have n0_ := aM (rM (Kd.R_keep (IsS162.apart (show IsS162 w0 _ g s0_0 t248 t249 from by repeat (first | (with_reducible first | exact HI0.out | apply IsS162.alloc | apply IsS162.drewN | apply IsS162.drew | apply IsS162.set_1 | apply IsS162.set_2) | exact HI0.out)) (by (with_reducible repeat (first | apply rA | apply rN | apply rD)); exact HO_3.out) (by decide)) hk (fun _ h => h.2)) (fun _ h => h.1)); have n1_ := aM (KeepBut.trans (by repeat (first | (with_reducible first | exact HK.out | apply KeepBut.set_ | apply keep_drewN | apply keep_drew | apply keep_alloc) | exact HK.out)) hk (.inl rfl)); have n2_ := aM (hb); have n3_ := aM (hi); clear HO_3; clear HK; clear HB; clear HI0; have HO_3 := n0_; have HK := n1_; have HB := n2_; have HI0 := n3_; clear n0_ n1_ n2_ n3_; (try clear hb); (try clear hb2); (try clear hk); (try clear hi)) | ((with_reducible refine gate_builtin (b := .append) (xs := #[.tmp 13, .tmp 21]) rfl ?_); at_builtin; refine Kd.R_append k52 w.heap.size rfl (.tmp 13) (.tmp 21) 46 52 (.agg #[(.int .i64 0), (.int .i64 0), (.int .i64 0)]) 24 rfl Try.underlying46 info52 rfl (by decide) (by omega) u3 x3_1 (⟨t244, t247, t250⟩ : S52) [.int .i64 t244, .int .i64 t247, .int .i64 t250] (fun _ => True) (fun _ => False) rfl rfl ?aP (fun _ hk => hk.elim) ?aF ?aO (Below.refl _ _) ?aS ?aL ?_; (case aP => exact k52_mkM _ _ _ (⟨t244, t247, t250⟩ : S52)); (case aF => exact (fun _ _ => trivial)); (case aO => exact (by (with_reducible repeat (first | apply rA | apply rN | apply rD)); exact HO_3.out)); (case aS => exact (keep_size (w := w) (g := g) (row := none) (by repeat (first | (with_reducible first | exact HK.out | apply KeepBut.set_ | apply keep_drewN | apply keep_drew | apply keep_alloc) | exact HK.out)))); (case aL => have := LMc9.out; omega); intro v254 w14 ho hb hg hat; rw [← Ny253.out] at ho; have n0_ := aM (IsS162.grown (by repeat (first | (with_reducible first | exact HI0.out | apply IsS162.alloc | apply IsS162.drewN | apply IsS162.drew | apply IsS162.set_1 | apply IsS162.set_2) | exact HI0.out)) hg (IsS162.own_ne HI0.out HO_3.out (by decide))); have n1_ := aM (below_weaken (by repeat (first | (with_reducible first | exact HB.out | apply bA | apply bN | apply bE | refine bS ?_ (IsS162.ge HI0.out)) | exact HB.out)) HL.out hb); have n2_ := aM (KeepBut.trans (by repeat (first | (with_reducible first | exact HK.out | apply KeepBut.set_ | apply keep_drewN | apply keep_drew | apply keep_alloc) | exact HK.out)) (KeepBut.of_grown hg g) (Kd.R_base2 HO_3.out)); have n3_ := aM (ho); clear HI0; clear HB; clear HK; clear HO_3; have HI0 := n0_; have HB := n1_; have HK := n2_; have HO255 := n3_; clear n0_ n1_ n2_ n3_; clear ho hb hg hat))
     go_roundg k1
     case measure => have := HK1.out; omega
     case rel => exact ⟨(y253), (wrap64 (x4_1 + 1)), (t251), (t252), (by first | rfl | (simp; done) | (simp [*]; done)), H', ⟨by have := HK1.out; omega⟩, ⟨by (with_reducible repeat (first | apply rA | apply rN | apply rD)); exact HO255.out⟩, ⟨by repeat (first | (with_reducible first | exact HI0.out | apply IsS162.alloc | apply IsS162.drewN | apply IsS162.drew | apply IsS162.set_1 | apply IsS162.set_2) | exact HI0.out)⟩, ⟨by repeat (first | (with_reducible first | exact HK.out | apply KeepBut.set_ | apply keep_drewN | apply keep_drew | apply keep_alloc) | exact HK.out)⟩, ⟨by repeat (first | (with_reducible first | exact HB.out | apply bA | apply bN | apply bE | refine bS ?_ (IsS162.ge HI0.out)) | exact HB.out)⟩⟩
    ·rw [if_neg c9] at H
     exact absurd H (by simp)
   ·rw [if_neg c5] at H
    have c5b0 : decide (x4_1 < (wrap64 (1 + t241))) = false := decide_eq_false c5
    clear c5
    replace H := oB.mp H
    obtain ⟨⟨t256, t257, t258⟩, A150, H⟩ := H
    try dsimp only at H
    have A15 := aM A150
    clear A150
    by_cases c16 : t256 = 0
    ·rw [if_pos c16] at H
     have c16b0 : (t256 == 0) = true := beq_iff_eq.mpr c16
     have c16b1 : (t256 != 0) = false := bne_eq_false_iff_eq.mpr c16
     clear c16
     obtain ⟨y259, hy259⟩ : ∃ y_ : List (S52), y_ = (([] : List (S52))) := ⟨_, rfl⟩
     replace H : (some (y259, t257, t258)) = some (r1, r2, r3) := by first | (rw [hy259]; with_reducible exact H) | (have H2_ := (Option.bind_some _ _).symm.trans H; rw [hy259]; with_reducible exact H2_) | (have H2_ := (Option.bind_some _ _).symm.trans H; with_reducible exact H2_) | with_reducible exact H | (rw [hy259]; exact H) | exact H
     have Ny259 := aM hy259
     clear hy259
     simp only [Option.some.injEq, Prod.mk.injEq] at H
     obtain ⟨rfl, rfl, rfl⟩ := H
     go_wp2_with (first | ((with_reducible refine gate_callee (f := 141) rfl ?_); refine goesL_ (some 8) rfl rfl Try.func141 (by kernel_rfl) rfl #[.pointer (some ⟨g, 0, none⟩), .int .i64 6] rfl (by (try simp only [lM, List.map_cons, List.map_nil]); first | done | rfl | (simp only [lD, lT]; rfl)) ?_; (with_reducible refine (spec_l01Below.calls g s0_0 x1001_1 x1002_1 6 t241 t242 t243 w0 _ ?side1 ?side2 A4.out).mono ?_); (case side1 => repeat (first | (with_reducible first | exact HI0.out | apply IsS162.alloc | apply IsS162.drewN | apply IsS162.drew | apply IsS162.set_1 | apply IsS162.set_2) | exact HI0.out)); (case side2 => repeat (first | (with_reducible first | exact HB.out | apply bA | apply bN | apply bE | refine bS ?_ (IsS162.ge HI0.out)) | exact HB.out)); rintro e w17 ⟨rfl, hi, hb, hk⟩; refine ⟨_, rfl, ?_⟩; have n0_ := aM (rM (Kd.R_keep (IsS162.apart (show IsS162 w0 _ g s0_0 x1001_1 x1002_1 from by repeat (first | (with_reducible first | exact HI0.out | apply IsS162.alloc | apply IsS162.drewN | apply IsS162.drew | apply IsS162.set_1 | apply IsS162.set_2) | exact HI0.out)) (by (with_reducible repeat (first | apply rA | apply rN | apply rD)); exact HO_3.out) (by decide)) hk (fun _ h => h.2)) (fun _ h => h.1)); have n1_ := aM (KeepBut.trans (by repeat (first | (with_reducible first | exact HK.out | apply KeepBut.set_ | apply keep_drewN | apply keep_drew | apply keep_alloc) | exact HK.out)) hk (.inl rfl)); have n2_ := aM (hb); have n3_ := aM (hi); clear HO_3; clear HK; clear HB; clear HI0; have HO_3 := n0_; have HK := n1_; have HB := n2_; have HI0 := n3_; clear n0_ n1_ n2_ n3_; (try clear hb); (try clear hb2); (try clear hk); (try clear hi)) | ((with_reducible refine gate_callee (f := 141) rfl ?_); refine goesL_ (some 24) rfl rfl Try.func141 (by kernel_rfl) rfl #[.pointer (some ⟨g, 0, none⟩), .int .i64 30] rfl (by (try simp only [lM, List.map_cons, List.map_nil]); first | done | rfl | (simp only [lD, lT]; rfl)) ?_; (with_reducible refine (spec_l01Below.calls g s0_0 t242 t243 30 t256 t257 t258 w0 _ ?side1 ?side2 A15.out).mono ?_); (case side1 => repeat (first | (with_reducible first | exact HI0.out | apply IsS162.alloc | apply IsS162.drewN | apply IsS162.drew | apply IsS162.set_1 | apply IsS162.set_2) | exact HI0.out)); (case side2 => repeat (first | (with_reducible first | exact HB.out | apply bA | apply bN | apply bE | refine bS ?_ (IsS162.ge HI0.out)) | exact HB.out)); rintro e w18 ⟨rfl, hi, hb, hk⟩; refine ⟨_, rfl, ?_⟩; have n0_ := aM (rM (Kd.R_keep (IsS162.apart (show IsS162 w0 _ g s0_0 t242 t243 from by repeat (first | (with_reducible first | exact HI0.out | apply IsS162.alloc | apply IsS162.drewN | apply IsS162.drew | apply IsS162.set_1 | apply IsS162.set_2) | exact HI0.out)) (by (with_reducible repeat (first | apply rA | apply rN | apply rD)); exact HO_3.out) (by decide)) hk (fun _ h => h.2)) (fun _ h => h.1)); have n1_ := aM (KeepBut.trans (by repeat (first | (with_reducible first | exact HK.out | apply KeepBut.set_ | apply keep_drewN | apply keep_drew | apply keep_alloc) | exact HK.out)) hk (.inl rfl)); have n2_ := aM (hb); have n3_ := aM (hi); clear HO_3; clear HK; clear HB; clear HI0; have HO_3 := n0_; have HK := n1_; have HB := n2_; have HI0 := n3_; clear n0_ n1_ n2_ n3_; (try clear hb); (try clear hb2); (try clear hk); (try clear hi)) | ((with_reducible refine gate_dst (N := 27) rfl ?_); refine Kd.R_lit k52 _ 52 ?hg (N := 27) ?hd (xs := ([] : List (S52))) (inner := []) (ok := fun _ => True) (okp := fun _ => True) ?hr ?hp (fun _ hk => hk) trivial (Below.refl _ _) (Nat.le_refl _) (by simp) ?_; (case hd => rfl); (case hg => rfl); (case hr => first | (go_simp; done) | (go_simp; rfl)); (case hp => exact (Reps.none _ _)); intro v260 w19 ho20 hb hg_ hnew_; clear hg_ hnew_; (first | rw [← Ny259.out] at ho20 | (simp only [Int.reduceToNat] at ho20; rw [← Ny259.out] at ho20)); have n0_ := aM (Kd.R_elder' (by (with_reducible repeat (first | apply rA | apply rN | apply rD)); exact HO_3.out) (Kd.R_base ho20) hb); have n1_ := aM (Kd.R_lower (Kd.R_new' ho20 (Kd.R_lt (by (with_reducible repeat (first | apply rA | apply rN | apply rD)); exact HO_3.out))) (keep_size (w := w) (g := g) (row := none) (by repeat (first | (with_reducible first | exact HK.out | apply KeepBut.set_ | apply keep_drewN | apply keep_drew | apply keep_alloc) | exact HK.out)))); have n2_ := aM (IsS162.below (by repeat (first | (with_reducible first | exact HI0.out | apply IsS162.alloc | apply IsS162.drewN | apply IsS162.drew | apply IsS162.set_1 | apply IsS162.set_2) | exact HI0.out)) hb); have n3_ := aM (KeepBut.trans (by repeat (first | (with_reducible first | exact HK.out | apply KeepBut.set_ | apply keep_drewN | apply keep_drew | apply keep_alloc) | exact HK.out)) (KeepBut.of_below hb g none) (.inl rfl)); have n4_ := aM (bT (by repeat (first | (with_reducible first | exact HB.out | apply bA | apply bN | apply bE | refine bS ?_ (IsS162.ge HI0.out)) | exact HB.out)) hb); clear HO_3; clear HI0; clear HK; clear HB; have HO_3 := n0_; have HO261 := n1_; have HI0 := n2_; have HK := n3_; have HB := n4_; clear n0_ n1_ n2_ n3_ n4_; clear hb ho20))
     go_ret
     exact ⟨_, by first | rfl | (simp [errW_none, errW_some] <;> rfl) | (simp [*, errW_none, errW_some] <;> rfl), by (with_reducible repeat (first | apply rA | apply rN | apply rD)); exact rM HO261.out (fun _ hk => trivial), by repeat (first | (with_reducible first | exact HI0.out | apply IsS162.alloc | apply IsS162.drewN | apply IsS162.drew | apply IsS162.set_1 | apply IsS162.set_2) | exact HI0.out), by repeat (first | (with_reducible first | exact HB.out | apply bA | apply bN | apply bE | refine bS ?_ (IsS162.ge HI0.out)) | exact HB.out), by repeat (first | (with_reducible first | exact HK.out | apply KeepBut.set_ | apply keep_drewN | apply keep_drew | apply keep_alloc) | exact HK.out)⟩
    ·rw [if_neg c16] at H
     have c16b0 : (t256 == 0) = false := beq_eq_false_iff_ne.mpr c16
     have c16b1 : (t256 != 0) = true := bne_iff_ne.mpr c16
     by_cases c21 : t256 = 1
     ·rw [if_pos c21] at H
      have c21b0 : (t256 == 1) = true := beq_iff_eq.mpr c21
      have c21b1 : (t256 != 1) = false := bne_eq_false_iff_eq.mpr c21
      clear c21
      obtain ⟨y262, hy262⟩ : ∃ y_ : List Int, y_ = (([(-1), 256] : List Int)) := ⟨_, rfl⟩
      replace H : ((spec_l01PickInt.f s0_0 t257 t258 y262).bind fun bt265 => (if 0 < (x3_1.length : Int) then (some ((x3_1.set (0 : Int).toNat (⟨(rd_T52 x3_1 0).f0, bt265.1, (rd_T52 x3_1 0).f2⟩ : S52)), bt265.2.1, bt265.2.2)) else (none))) = some (r1, r2, r3) := by first | (rw [hy262]; with_reducible exact H) | (have H2_ := (Option.bind_some _ _).symm.trans H; rw [hy262]; with_reducible exact H2_) | (have H2_ := (Option.bind_some _ _).symm.trans H; with_reducible exact H2_) | with_reducible exact H | (rw [hy262]; exact H) | exact H
      have Ny262 := aM hy262
      clear hy262
      replace H := oB.mp H
      obtain ⟨⟨t265, t266, t267⟩, A220, H⟩ := H
      replace H : (if 0 < (x3_1.length : Int) then (some ((x3_1.set (0 : Int).toNat (⟨(rd_T52 x3_1 0).f0, t265, (rd_T52 x3_1 0).f2⟩ : S52)), t266, t267)) else (none)) = some (r1, r2, r3) := H
      have A22 := aM A220
      clear A220
      by_cases c23 : 0 < (x3_1.length : Int)
      ·rw [if_pos c23] at H
       have c23b0 : decide (0 < (x3_1.length : Int)) = true := decide_eq_true c23
       have c23b1 : decide (0 < x3_1.length) = true := decide_eq_true (by omega)
       clear c23
       obtain ⟨y268, hy268⟩ : ∃ y_ : List (S52), y_ = (x3_1.set (0 : Int).toNat (⟨(rd_T52 x3_1 0).f0, t265, (rd_T52 x3_1 0).f2⟩ : S52)) := ⟨_, rfl⟩
       replace H : (some (y268, t266, t267)) = some (r1, r2, r3) := by first | (rw [hy268]; with_reducible exact H) | (have H2_ := (Option.bind_some _ _).symm.trans H; rw [hy268]; with_reducible exact H2_) | (have H2_ := (Option.bind_some _ _).symm.trans H; with_reducible exact H2_) | with_reducible exact H | (rw [hy268]; exact H) | exact H
       have Ny268 := aM hy268
       clear hy268
       simp only [Option.some.injEq, Prod.mk.injEq] at H
       obtain ⟨rfl, rfl, rfl⟩ := H
       go_wp2_with (first | ((with_reducible refine gate_callee (f := 141) rfl ?_); refine goesL_ (some 8) rfl rfl Try.func141 (by kernel_rfl) rfl #[.pointer (some ⟨g, 0, none⟩), .int .i64 6] rfl (by (try simp only [lM, List.map_cons, List.map_nil]); first | done | rfl | (simp only [lD, lT]; rfl)) ?_; (with_reducible refine (spec_l01Below.calls g s0_0 x1001_1 x1002_1 6 t241 t242 t243 w0 _ ?side1 ?side2 A4.out).mono ?_); (case side1 => repeat (first | (with_reducible first | exact HI0.out | apply IsS162.alloc | apply IsS162.drewN | apply IsS162.drew | apply IsS162.set_1 | apply IsS162.set_2) | exact HI0.out)); (case side2 => repeat (first | (with_reducible first | exact HB.out | apply bA | apply bN | apply bE | refine bS ?_ (IsS162.ge HI0.out)) | exact HB.out)); rintro e w25 ⟨rfl, hi, hb, hk⟩; refine ⟨_, rfl, ?_⟩; have n0_ := aM (rM (Kd.R_keep (IsS162.apart (show IsS162 w0 _ g s0_0 x1001_1 x1002_1 from by repeat (first | (with_reducible first | exact HI0.out | apply IsS162.alloc | apply IsS162.drewN | apply IsS162.drew | apply IsS162.set_1 | apply IsS162.set_2) | exact HI0.out)) (by (with_reducible repeat (first | apply rA | apply rN | apply rD)); exact HO_3.out) (by decide)) hk (fun _ h => h.2)) (fun _ h => h.1)); have n1_ := aM (KeepBut.trans (by repeat (first | (with_reducible first | exact HK.out | apply KeepBut.set_ | apply keep_drewN | apply keep_drew | apply keep_alloc) | exact HK.out)) hk (.inl rfl)); have n2_ := aM (hb); have n3_ := aM (hi); clear HO_3; clear HK; clear HB; clear HI0; have HO_3 := n0_; have HK := n1_; have HB := n2_; have HI0 := n3_; clear n0_ n1_ n2_ n3_; (try clear hb); (try clear hb2); (try clear hk); (try clear hi)) | ((with_reducible refine gate_callee (f := 141) rfl ?_); refine goesL_ (some 24) rfl rfl Try.func141 (by kernel_rfl) rfl #[.pointer (some ⟨g, 0, none⟩), .int .i64 30] rfl (by (try simp only [lM, List.map_cons, List.map_nil]); first | done | rfl | (simp only [lD, lT]; rfl)) ?_; (with_reducible refine (spec_l01Below.calls g s0_0 t242 t243 30 t256 t257 t258 w0 _ ?side1 ?side2 A15.out).mono ?_); (case side1 => repeat (first | (with_reducible first | exact HI0.out | apply IsS162.alloc | apply IsS162.drewN | apply IsS162.drew | apply IsS162.set_1 | apply IsS162.set_2) | exact HI0.out)); (case side2 => repeat (first | (with_reducible first | exact HB.out | apply bA | apply bN | apply bE | refine bS ?_ (IsS162.ge HI0.out)) | exact HB.out)); rintro e w26 ⟨rfl, hi, hb, hk⟩; refine ⟨_, rfl, ?_⟩; have n0_ := aM (rM (Kd.R_keep (IsS162.apart (show IsS162 w0 _ g s0_0 t242 t243 from by repeat (first | (with_reducible first | exact HI0.out | apply IsS162.alloc | apply IsS162.drewN | apply IsS162.drew | apply IsS162.set_1 | apply IsS162.set_2) | exact HI0.out)) (by (with_reducible repeat (first | apply rA | apply rN | apply rD)); exact HO_3.out) (by decide)) hk (fun _ h => h.2)) (fun _ h => h.1)); have n1_ := aM (KeepBut.trans (by repeat (first | (with_reducible first | exact HK.out | apply KeepBut.set_ | apply keep_drewN | apply keep_drew | apply keep_alloc) | exact HK.out)) hk (.inl rfl)); have n2_ := aM (hb); have n3_ := aM (hi); clear HO_3; clear HK; clear HB; clear HI0; have HO_3 := n0_; have HK := n1_; have HB := n2_; have HI0 := n3_; clear n0_ n1_ n2_ n3_; (try clear hb); (try clear hb2); (try clear hk); (try clear hi)) | ((with_reducible refine gate_dst (N := 32) rfl ?_); refine Kd.R_lit (Kd.int .i64) _ 3 ?hg (N := 32) ?hd (xs := ([(-1), 256] : List Int)) (inner := [.int .i64 (-1), .int .i64 256]) (ok := fun _ => True) (okp := fun _ => True) ?hr ?hp (fun _ hk => hk) trivial (Below.refl _ _) (Nat.le_refl _) (by simp) ?_; (case hd => rfl); (case hg => rfl); (case hr => first | (go_simp; done) | (go_simp; rfl)); (case hp => exact (Reps.one (show Kd.M (Kd.int .i64) _ _ _ (-1) [.int .i64 (-1)] from rfl) (Reps.one (show Kd.M (Kd.int .i64) _ _ _ 256 [.int .i64 256] from rfl) (Reps.none _ _)))); intro v263 w27 ho28 hb hg_ hnew_; clear hg_ hnew_; (first | rw [← Ny262.out] at ho28 | (simp only [Int.reduceToNat] at ho28; rw [← Ny262.out] at ho28)); have n0_ := aM (rB (by (with_reducible repeat (first | apply rA | apply rN | apply rD)); exact HO_3.out) hb); have n1_ := aM (Kd.R_lower ho28 (keep_size (w := w) (g := g) (row := none) (by repeat (first | (with_reducible first | exact HK.out | apply KeepBut.set_ | apply keep_drewN | apply keep_drew | apply keep_alloc) | exact HK.out)))); have n2_ := aM (IsS162.below (by repeat (first | (with_reducible first | exact HI0.out | apply IsS162.alloc | apply IsS162.drewN | apply IsS162.drew | apply IsS162.set_1 | apply IsS162.set_2) | exact HI0.out)) hb); have n3_ := aM (KeepBut.trans (by repeat (first | (with_reducible first | exact HK.out | apply KeepBut.set_ | apply keep_drewN | apply keep_drew | apply keep_alloc) | exact HK.out)) (KeepBut.of_below hb g none) (.inl rfl)); have n4_ := aM (bT (by repeat (first | (with_reducible first | exact HB.out | apply bA | apply bN | apply bE | refine bS ?_ (IsS162.ge HI0.out)) | exact HB.out)) hb); clear HO_3; clear HI0; clear HK; clear HB; have HO_3 := n0_; have HO264 := n1_; have HI0 := n2_; have HK := n3_; have HB := n4_; clear n0_ n1_ n2_ n3_ n4_; clear hb ho28; obtain ⟨Ao29, co29, eo29⟩ := Kd.R_slice HO264.out; subst eo29) | ((with_reducible refine gate_callee (f := 145) rfl ?_); refine goesL_ (some 33) rfl rfl Try.func145 (by kernel_rfl) rfl #[.pointer (some ⟨g, 0, none⟩), .slice Ao29 y262.length co29] rfl (by (try simp only [lM, List.map_cons, List.map_nil]); first | done | rfl | (simp only [lD, lT]; rfl)) ?_; (with_reducible refine (spec_l01PickInt.calls g s0_0 t257 t258 _ _ y262 t265 t266 t267 w0 _ ?side1 ?side2 ?side3 ?side4 ?side5 A22.out).mono ?_); (case side1 => repeat (first | (with_reducible first | exact HI0.out | apply IsS162.alloc | apply IsS162.drewN | apply IsS162.drew | apply IsS162.set_1 | apply IsS162.set_2) | exact HI0.out)); (case side2 => repeat (first | (with_reducible first | exact HB.out | apply bA | apply bN | apply bE | refine bS ?_ (IsS162.ge HI0.out)) | exact HB.out)); (case side3 => repeat (first | exact (Kd.R_reads' HO264.out).2.2 | (with_reducible refine cA ?_ _) | (with_reducible refine cN ?_ _) | (with_reducible refine cD ?_))); (case side4 => exact (Kd.R_reads' HO264.out).2.1); (case side5 => exact far_slice (IsS162.own_ne HI0.out HO264.out (by decide))); rintro e w30 ⟨rfl, hi, hb, hk⟩; refine ⟨_, rfl, ?_⟩; have n0_ := aM (rM (Kd.R_keep (IsS162.apart (show IsS162 w0 _ g s0_0 t257 t258 from by repeat (first | (with_reducible first | exact HI0.out | apply IsS162.alloc | apply IsS162.drewN | apply IsS162.drew | apply IsS162.set_1 | apply IsS162.set_2) | exact HI0.out)) (by (with_reducible repeat (first | apply rA | apply rN | apply rD)); exact HO_3.out) (by decide)) hk (fun _ h => h.2)) (fun _ h => h.1)); have n1_ := aM (rM (Kd.R_keep (IsS162.apart (show IsS162 w0 _ g s0_0 t257 t258 from by repeat (first | (with_reducible first | exact HI0.out | apply IsS162.alloc | apply IsS162.drewN | apply IsS162.drew | apply IsS162.set_1 | apply IsS162.set_2) | exact HI0.out)) (by (with_reducible repeat (first | apply rA | apply rN | apply rD)); exact HO264.out) (by decide)) hk (fun _ h => h.2)) (fun _ h => h.1)); have n2_ := aM (KeepBut.trans (by repeat (first | (with_reducible first | exact HK.out | apply KeepBut.set_ | apply keep_drewN | apply keep_drew | apply keep_alloc) | exact HK.out)) hk (.inl rfl)); have n3_ := aM (hb); have n4_ := aM (hi); clear HO_3; clear HO264; clear HK; clear HB; clear HI0; have HO_3 := n0_; have HO264 := n1_; have HK := n2_; have HB := n3_; have HI0 := n4_; clear n0_ n1_ n2_ n3_ n4_; (try clear hb); (try clear hb2); (try clear hk); (try clear hi); have p24 : 0 ≤ (0 : Int) := (by omega); have q24 : (0 : Int) < ((x3_1.length : Int) : Int) := oD (by first | (with_reducible assumption) | assumption); have qi24 : (0 < x3_1.length) = True := eq_true (by omega); obtain ⟨go24, co24, eo24, gb24, gl24, cl24, HG24⟩ := Kd.R_form HO_3.out (by omega); (first | cases eo24 | (injection eo24 with ea_ en_ ec_; (first | subst ea_ | (injection ea_ with ea_; subst ea_)); subst ec_; clear en_)); have GB24 := aM gb24; have GG24 := aM HG24; clear gb24 gl24 HG24; obtain ⟨ce24, hcl24, hM24, hcc24, hfr24⟩ := Kd.R_elem HO_3.out z52 (0 : Int) p24 q24; obtain rfl := k52_openM hM24; have hx24_0 : w30.cell? ⟨go24, (0 : Int).toNat * 3, none⟩ = some (.int .i64 ((rd_T52 x3_1 0).f0)) := hcc24 0 _ rfl; have hx24_1 : w30.cell? ⟨go24, (0 : Int).toNat * 3 + 1, none⟩ = some (.int .i64 ((rd_T52 x3_1 0).f1)) := hcc24 1 _ rfl; have hx24_2 : w30.cell? ⟨go24, (0 : Int).toNat * 3 + 2, none⟩ = some (.int .i64 ((rd_T52 x3_1 0).f2)) := hcc24 2 _ rfl; have hf24_0 : w30.frozen? ⟨go24, (0 : Int).toNat * 3, none⟩ = false := hfr24 0; have hf24_1 : w30.frozen? ⟨go24, (0 : Int).toNat * 3 + 1, none⟩ = false := hfr24 1; have hf24_2 : w30.frozen? ⟨go24, (0 : Int).toNat * 3 + 2, none⟩ = false := hfr24 2; clear hcl24 hcc24 hfr24 hM24; (try rw [show ((0 : Int)).toNat = 0 from rfl] at hx24_0); (try simp only [Nat.reduceMul, Nat.zero_mul, Nat.zero_add, Nat.reduceAdd] at hx24_0); (try rw [show ((0 : Int)).toNat = 0 from rfl] at hf24_0); (try simp only [Nat.reduceMul, Nat.zero_mul, Nat.zero_add, Nat.reduceAdd] at hf24_0); (try rw [show ((0 : Int)).toNat = 0 from rfl] at hx24_1); (try simp only [Nat.reduceMul, Nat.zero_mul, Nat.zero_add, Nat.reduceAdd] at hx24_1); (try rw [show ((0 : Int)).toNat = 0 from rfl] at hf24_1); (try simp only [Nat.reduceMul, Nat.zero_mul, Nat.zero_add, Nat.reduceAdd] at hf24_1); (try rw [show ((0 : Int)).toNat = 0 from rfl] at hx24_2); (try simp only [Nat.reduceMul, Nat.zero_mul, Nat.zero_add, Nat.reduceAdd] at hx24_2); (try rw [show ((0 : Int)).toNat = 0 from rfl] at hf24_2); (try simp only [Nat.reduceMul, Nat.zero_mul, Nat.zero_add, Nat.reduceAdd] at hf24_2); replace p24 := eq_true p24; replace q24 := eq_true q24; have HX31 := aM (show Kd.R k52 52 w30 w.heap.size (fun _ => True) (.slice (some ⟨go24, 0, none⟩) x3_1.length co24) x3_1 from (by (with_reducible repeat (first | apply rA | apply rN | apply rD)); exact HO_3.out)); obtain ⟨ce31, hcl31, hM31, hcc31, hfr31⟩ := Kd.R_elem HX31.out z52 (0 : Int) (by omega) (by have h_ : (0 : Int) < ((x3_1.length : Int) : Int) := oD (by first | (with_reducible assumption) | assumption); first | exact h_ | (have e_ := (Kd.R_reads' HO_3.out).1; omega) | simpa using h_); obtain rfl := k52_openM hM31; have HP31 := Kd.R_seg HX31.out (0 : Int) (by omega) (by have h_ : (0 : Int) < ((x3_1.length : Int) : Int) := oD (by first | (with_reducible assumption) | assumption); first | exact h_ | (have e_ := (Kd.R_reads' HO_3.out).1; omega) | simpa using h_) (seg := [.int .i64 t265]) (j := 1) hcl31 hcc31 (show 2 ≤ 3 from by decide) (x' := (⟨(rd_T52 x3_1 0).f0, t265, (rd_T52 x3_1 0).f2⟩ : S52)) (k52_mkM _ _ _ (⟨(rd_T52 x3_1 0).f0, t265, (rd_T52 x3_1 0).f2⟩ : S52) ) (fun _ hk => hk); have hx31_1 := hcc31 1 _ rfl; (try simp only [show (k52).sz = 3 from rfl, Nat.mul_one, Nat.add_zero] at hx31_1); (try rw [show ((0 : Int)).toNat = 0 from rfl] at hx31_1); (try simp only [Nat.reduceMul, Nat.zero_mul, Nat.zero_add, Nat.reduceAdd] at hx31_1); have hf31_1 := hfr31 1; (try simp only [show (k52).sz = 3 from rfl, Nat.mul_one, Nat.add_zero] at hf31_1); (try rw [show ((0 : Int)).toNat = 0 from rfl] at hf31_1); (try simp only [Nat.reduceMul, Nat.zero_mul, Nat.zero_add, Nat.reduceAdd] at hf31_1); clear hcl31 hcc31 hfr31 hM31) | ((with_reducible refine gate_store (t := 3) (p := 35) rfl ?_); refine store_event (t := 3) (p := 35) (v := ?vo_w32) (w1 := (w30.setCell ⟨go24, 1, none⟩ (.int .i64 t265))) ?hg ?ho ?hn ?hr ?_; (case ho => rfl); (case hg => rfl); (case hn => rfl); (case hr => first | (go_simp; done) | (go_simp; rfl)); intro w32 hw; have hg : w30.grownBy w32 (some go24) := (by rw [hw]; exact HP31.2); have hp_ : Kd.R k52 52 w32 w.heap.size (fun _ => True) (.slice (some ⟨go24, 0, none⟩) x3_1.length co24) y268 := (by rw [hw, Ny268.out]; exact HP31.1); clear HP31; have n0_ := aM (hp_); have n1_ := aM (IsS162.grown (by repeat (first | (with_reducible first | exact HI0.out | apply IsS162.alloc | apply IsS162.drewN | apply IsS162.drew | apply IsS162.set_1 | apply IsS162.set_2) | exact HI0.out)) hg (IsS162.own_ne HI0.out HO_3.out (by decide))); have n2_ := aM (Kd.R_over' (v := (.slice (some ⟨go24, 0, none⟩) x3_1.length co24)) (by (with_reducible repeat (first | apply rA | apply rN | apply rD)); exact HO264.out) (Kd.R_typed HO_3.out) (by decide) hg); have n3_ := aM ((by rw [hw]; exact bS (HB.out) (Nat.le_trans HL.out GB24.out) : Below w0.heap.size w0 w32)); have n4_ := aM (KeepBut.trans (by repeat (first | (with_reducible first | exact HK.out | apply KeepBut.set_ | apply keep_drewN | apply keep_drew | apply keep_alloc) | exact HK.out)) (KeepBut.of_grown hg g) (Kd.R_base2 HO_3.out)); clear HO_3; clear HI0; clear HO264; clear HB; clear HK; have HO_3 := n0_; have HI0 := n1_; have HO264 := n2_; have HB := n3_; have HK := n4_; clear n0_ n1_ n2_ n3_ n4_; clear hg hw hp_))
       go_ret
       exact ⟨_, by first | rfl | (simp [errW_none, errW_some] <;> rfl) | (simp [*, errW_none, errW_some] <;> rfl), by (with_reducible repeat (first | apply rA | apply rN | apply rD)); exact HO_3.out, by repeat (first | (with_reducible first | exact HI0.out | apply IsS162.alloc | apply IsS162.drewN | apply IsS162.drew | apply IsS162.set_1 | apply IsS162.set_2) | exact HI0.out), by repeat (first | (with_reducible first | exact HB.out | apply bA | apply bN | apply bE | refine bS ?_ (IsS162.ge HI0.out)) | exact HB.out), by repeat (first | (with_reducible first | exact HK.out | apply KeepBut.set_ | apply keep_drewN | apply keep_drew | apply keep_alloc) | exact HK.out)⟩
      ·rw [if_neg c23] at H
       exact absurd H (by simp)
     ·rw [if_neg c21] at H
      have c21b0 : (t256 == 1) = false := beq_eq_false_iff_ne.mpr c21
      have c21b1 : (t256 != 1) = true := bne_iff_ne.mpr c21
      by_cases c33 : t256 = 2
      ·rw [if_pos c33] at H
       have c33b0 : (t256 == 2) = true := beq_iff_eq.mpr c33
       have c33b1 : (t256 != 2) = false := bne_eq_false_iff_eq.mpr c33
       clear c33
       have H' := aM H
       clear H
       go_wp2_with (first | ((with_reducible refine gate_callee (f := 141) rfl ?_); refine goesL_ (some 8) rfl rfl Try.func141 (by kernel_rfl) rfl #[.pointer (some ⟨g, 0, none⟩), .int .i64 6] rfl (by (try simp only [lM, List.map_cons, List.map_nil]); first | done | rfl | (simp only [lD, lT]; rfl)) ?_; (with_reducible refine (spec_l01Below.calls g s0_0 x1001_1 x1002_1 6 t241 t242 t243 w0 _ ?side1 ?side2 A4.out).mono ?_); (case side1 => repeat (first | (with_reducible first | exact HI0.out | apply IsS162.alloc | apply IsS162.drewN | apply IsS162.drew | apply IsS162.set_1 | apply IsS162.set_2) | exact HI0.out)); (case side2 => repeat (first | (with_reducible first | exact HB.out | apply bA | apply bN | apply bE | refine bS ?_ (IsS162.ge HI0.out)) | exact HB.out)); rintro e w34 ⟨rfl, hi, hb, hk⟩; refine ⟨_, rfl, ?_⟩; have n0_ := aM (rM (Kd.R_keep (IsS162.apart (show IsS162 w0 _ g s0_0 x1001_1 x1002_1 from by repeat (first | (with_reducible first | exact HI0.out | apply IsS162.alloc | apply IsS162.drewN | apply IsS162.drew | apply IsS162.set_1 | apply IsS162.set_2) | exact HI0.out)) (by (with_reducible repeat (first | apply rA | apply rN | apply rD)); exact HO_3.out) (by decide)) hk (fun _ h => h.2)) (fun _ h => h.1)); have n1_ := aM (KeepBut.trans (by repeat (first | (with_reducible first | exact HK.out | apply KeepBut.set_ | apply keep_drewN | apply keep_drew | apply keep_alloc) | exact HK.out)) hk (.inl rfl)); have n2_ := aM (hb); have n3_ := aM (hi); clear HO_3; clear HK; clear HB; clear HI0; have HO_3 := n0_; have HK := n1_; have HB := n2_; have HI0 := n3_; clear n0_ n1_ n2_ n3_; (try clear hb); (try clear hb2); (try clear hk); (try clear hi)) | ((with_reducible refine gate_callee (f := 141) rfl ?_); refine goesL_ (some 24) rfl rfl Try.func141 (by kernel_rfl) rfl #[.pointer (some ⟨g, 0, none⟩), .int .i64 30] rfl (by (try simp only [lM, List.map_cons, List.map_nil]); first | done | rfl | (simp only [lD, lT]; rfl)) ?_; (with_reducible refine (spec_l01Below.calls g s0_0 t242 t243 30 t256 t257 t258 w0 _ ?side1 ?side2 A15.out).mono ?_); (case side1 => repeat (first | (with_reducible first | exact HI0.out | apply IsS162.alloc | apply IsS162.drewN | apply IsS162.drew | apply IsS162.set_1 | apply IsS162.set_2) | exact HI0.out)); (case side2 => repeat (first | (with_reducible first | exact HB.out | apply bA | apply bN | apply bE | refine bS ?_ (IsS162.ge HI0.out)) | exact HB.out)); rintro e w35 ⟨rfl, hi, hb, hk⟩; refine ⟨_, rfl, ?_⟩; have n0_ := aM (rM (Kd.R_keep (IsS162.apart (show IsS162 w0 _ g s0_0 t242 t243 from by repeat (first | (with_reducible first | exact HI0.out | apply IsS162.alloc | apply IsS162.drewN | apply IsS162.drew | apply IsS162.set_1 | apply IsS162.set_2) | exact HI0.out)) (by (with_reducible repeat (first | apply rA | apply rN | apply rD)); exact HO_3.out) (by decide)) hk (fun _ h => h.2)) (fun _ h => h.1)); have n1_ := aM (KeepBut.trans (by repeat (first | (with_reducible first | exact HK.out | apply KeepBut.set_ | apply keep_drewN | apply keep_drew | apply keep_alloc) | exact HK.out)) hk (.inl rfl)); have n2_ := aM (hb); have n3_ := aM (hi); clear HO_3; clear HK; clear HB; clear HI0; have HO_3 := n0_; have HK := n1_; have HB := n2_; have HI0 := n3_; clear n0_ n1_ n2_ n3_; (try clear hb); (try clear hb2); (try clear hk); (try clear hi)))
       go_loopg [3] k1 (fun kq v3 w' => ∃ (x3_2 : List (S52)) (x1001_2 : Int) (x1002_2 : Int), Aside0 (spec_l17Table.l1 kq x3_2 s0_0 x1001_2 x1002_2 = some (r1, r2, r3)) ∧ Aside0 (kq ≤ k1) ∧ Aside0 (Kd.R k52 52 w' w.heap.size (fun _ => True) v3 x3_2) ∧ Aside0 (IsS162 w0 w' g s0_0 x1001_2 x1002_2) ∧ Aside0 (KeepBut w w' g none) ∧ Aside0 (Below w0.heap.size w0 w'))
       case atStart => exact ⟨(x3_1), (t257), (t258), H', ⟨Nat.le_refl _⟩, ⟨by (with_reducible repeat (first | apply rA | apply rN | apply rD)); exact HO_3.out⟩, ⟨by repeat (first | (with_reducible first | exact HI0.out | apply IsS162.alloc | apply IsS162.drewN | apply IsS162.drew | apply IsS162.set_1 | apply IsS162.set_2) | exact HI0.out)⟩, ⟨by repeat (first | (with_reducible first | exact HK.out | apply KeepBut.set_ | apply keep_drewN | apply keep_drew | apply keep_alloc) | exact HK.out)⟩, ⟨by repeat (first | (with_reducible first | exact HB.out | apply bA | apply bN | apply bE | refine bS ?_ (IsS162.ge HI0.out)) | exact HB.out)⟩⟩
       case round =>
        clear H'
        try clear c1
        try clear c2
        try clear p2
        try clear q2
        try clear hx2
        try clear qi2
        try clear hf2
        try clear c3
        try clear hx3
        try clear hf3
        try clear c5
        try clear c5b0
        try clear p6
        try clear c8
        try clear c9
        try clear c14
        try clear c16
        try clear c16b0
        try clear c16b1
        try clear c21
        try clear c21b0
        try clear c21b1
        try clear c23
        try clear c23b0
        try clear c23b1
        try clear c24
        try clear p24
        try clear q24
        try clear hx24
        try clear qi24
        try clear hf24
        try clear c31
        try clear hx31
        try clear hf31
        try clear c33
        try clear c33b0
        try clear c33b1
        try clear hx24_0
        try clear hx24_1
        try clear hx24_2
        try clear hx31_1
        try clear p2
        try clear p24
        try clear q24
        obtain ⟨x3_2, x1001_2, x1002_2, HA, HK2, HO_3, HI0, HK, HB⟩ := hrel
        cases gk with
        | zero => exact absurd HA.out (by simp [spec_l17Table.l1])
        | succ k2 =>
         have H := HA.out
         clear HA
         simp only [spec_l17Table.l1] at H
         replace H := oB.mp H
         obtain ⟨⟨t269, t270, t271⟩, A360, H⟩ := H
         replace H : (if (x3_2.length : Int) < (wrap64 (256 + t269)) then (if x3_2.length < 5864062014805 then (spec_l17Table.l1 k2 (x3_2 ++ [(⟨0, 0, 0⟩ : S52)]) s0_0 t270 t271) else (none)) else (some (x3_2, t270, t271))) = some (r1, r2, r3) := H
         have A36 := aM A360
         clear A360
         by_cases c37 : (x3_2.length : Int) < (wrap64 (256 + t269))
         ·rw [if_pos c37] at H
          have c37b0 : decide ((x3_2.length : Int) < (wrap64 (256 + t269))) = true := decide_eq_true c37
          clear c37
          by_cases c38 : x3_2.length < 5864062014805
          ·rw [if_pos c38] at H
           have LMc38 := aM c38
           clear c38
           obtain ⟨y272, hy272⟩ : ∃ y_ : List (S52), y_ = (x3_2 ++ [(⟨0, 0, 0⟩ : S52)]) := ⟨_, rfl⟩
           replace H : (spec_l17Table.l1 k2 y272 s0_0 t270 t271) = some (r1, r2, r3) := by first | (rw [hy272]; with_reducible exact H) | (have H2_ := (Option.bind_some _ _).symm.trans H; rw [hy272]; with_reducible exact H2_) | (have H2_ := (Option.bind_some _ _).symm.trans H; with_reducible exact H2_) | with_reducible exact H | (rw [hy272]; exact H) | exact H
           have Ny272 := aM hy272
           clear hy272
           have H' := aM H
           clear H
           obtain ⟨Ao39, co39, eo39⟩ := Kd.R_slice HO_3.out
           subst eo39
           go_wp2_with (first | ((with_reducible refine gate_callee (f := 141) rfl ?_); refine goesL_ (some 41) rfl rfl Try.func141 (by kernel_rfl) rfl #[.pointer (some ⟨g, 0, none⟩), .int .i64 2] rfl (by (try simp only [lM, List.map_cons, List.map_nil]); first | done | rfl | (simp only [lD, lT]; rfl)) ?_; (with_reducible refine (spec_l01Below.calls g s0_0 x1001_2 x1002_2 2 t269 t270 t271 w0 _ ?side1 ?side2 A36.out).mono ?_); (case side1 => repeat (first | (with_reducible first | exact HI0.out | apply IsS162.alloc | apply IsS162.drewN | apply IsS162.drew | apply IsS162.set_1 | apply IsS162.set_2) | exact HI0.out)); (case side2 => repeat (first | (with_reducible first | exact HB.out | apply bA | apply bN | apply bE | refine bS ?_ (IsS162.ge HI0.out)) | exact HB.out)); rintro e w40 ⟨rfl, hi, hb, hk⟩; refine ⟨_, rfl, ?_⟩; have n0_ := aM (rM (Kd.R_keep (IsS162.apart (show IsS162 w0 _ g s0_0 x1001_2 x1002_2 from by repeat (first | (with_reducible first | exact HI0.out | apply IsS162.alloc | apply IsS162.drewN | apply IsS162.drew | apply IsS162.set_1 | apply IsS162.set_2) | exact HI0.out)) (by (with_reducible repeat (first | apply rA | apply rN | apply rD)); exact HO_3.out) (by decide)) hk (fun _ h => h.2)) (fun _ h => h.1)); have n1_ := aM (KeepBut.trans (by repeat (first | (with_reducible first | exact HK.out | apply KeepBut.set_ | apply keep_drewN | apply keep_drew | apply keep_alloc) | exact HK.out)) hk (.inl rfl)); have n2_ := aM (hb); have n3_ := aM (hi); clear HO_3; clear HK; clear HB; clear HI0; have HO_3 := n0_; have HK := n1_; have HB := n2_; have HI0 := n3_; clear n0_ n1_ n2_ n3_; (try clear hb); (try clear hb2); (try clear hk); (try clear hi)) | ((with_reducible refine gate_builtin (b := .append) (xs := #[.tmp 44, .tmp 46]) rfl ?_); at_builtin; refine Kd.R_append k52 w.heap.size rfl (.tmp 44) (.tmp 46) 46 52 (.agg #[(.int .i64 0), (.int .i64 0), (.int .i64 0)]) 24 rfl Try.underlying46 info52 rfl (by decide) (by omega) (.slice Ao39 x3_2.length co39) x3_2 (⟨0, 0, 0⟩ : S52) [.int .i64 0, .int .i64 0, .int .i64 0] (fun _ => True) (fun _ => False) rfl rfl ?aP (fun _ hk => hk.elim) ?aF ?aO (Below.refl _ _) ?aS ?aL ?_; (case aP => exact k52_mkM _ _ _ (⟨0, 0, 0⟩ : S52)); (case aF => exact (fun _ _ => trivial)); (case aO => exact (by (with_reducible repeat (first | apply rA | apply rN | apply rD)); exact HO_3.out)); (case aS => exact (keep_size (w := w) (g := g) (row := none) (by repeat (first | (with_reducible first | exact HK.out | apply KeepBut.set_ | apply keep_drewN | apply keep_drew | apply keep_alloc) | exact HK.out)))); (case aL => have := LMc38.out; omega); intro v273 w41 ho hb hg hat; rw [← Ny272.out] at ho; have n0_ := aM (IsS162.grown (by repeat (first | (with_reducible first | exact HI0.out | apply IsS162.alloc | apply IsS162.drewN | apply IsS162.drew | apply IsS162.set_1 | apply IsS162.set_2) | exact HI0.out)) hg (IsS162.own_ne HI0.out HO_3.out (by decide))); have n1_ := aM (below_weaken (by repeat (first | (with_reducible first | exact HB.out | apply bA | apply bN | apply bE | refine bS ?_ (IsS162.ge HI0.out)) | exact HB.out)) HL.out hb); have n2_ := aM (KeepBut.trans (by repeat (first | (with_reducible first | exact HK.out | apply KeepBut.set_ | apply keep_drewN | apply keep_drew | apply keep_alloc) | exact HK.out)) (KeepBut.of_grown hg g) (Kd.R_base2 HO_3.out)); have n3_ := aM (ho); clear HI0; clear HB; clear HK; clear HO_3; have HI0 := n0_; have HB := n1_; have HK := n2_; have HO274 := n3_; clear n0_ n1_ n2_ n3_; clear ho hb hg hat))
           go_roundg k2
           case measure => have := HK1.out; have := HK2.out; omega
           case rel => exact ⟨(y272), (t270), (t271), H', ⟨by have := HK1.out; have := HK2.out; omega⟩, ⟨by (with_reducible repeat (first | apply rA | apply rN | apply rD)); exact HO274.out⟩, ⟨by repeat (first | (with_reducible first | exact HI0.out | apply IsS162.alloc | apply IsS162.drewN | apply IsS162.drew | apply IsS162.set_1 | apply IsS162.set_2) | exact HI0.out)⟩, ⟨by repeat (first | (with_reducible first | exact HK.out | apply KeepBut.set_ | apply keep_drewN | apply keep_drew | apply keep_alloc) | exact HK.out)⟩, ⟨by repeat (first | (with_reducible first | exact HB.out | apply bA | apply bN | apply bE | refine bS ?_ (IsS162.ge HI0.out)) | exact HB.out)⟩⟩
          ·rw [if_neg c38] at H
           exact absurd H (by simp)
         ·rw [if_neg c37] at H
          have c37b0 : decide ((x3_2.length : Int) < (wrap64 (256 + t269))) = false := decide_eq_false c37
          clear c37
          simp only [Option.some.injEq, Prod.mk.injEq] at H
          obtain ⟨rfl, rfl, rfl⟩ := H
          obtain ⟨Ao42, co42, eo42⟩ := Kd.R_slice HO_3.out
          subst eo42
          go_wp2_with (first | ((with_reducible refine gate_callee (f := 141) rfl ?_); refine goesL_ (some 41) rfl rfl Try.func141 (by kernel_rfl) rfl #[.pointer (some ⟨g, 0, none⟩), .int .i64 2] rfl (by (try simp only [lM, List.map_cons, List.map_nil]); first | done | rfl | (simp only [lD, lT]; rfl)) ?_; (with_reducible refine (spec_l01Below.calls g s0_0 x1001_2 x1002_2 2 t269 t270 t271 w0 _ ?side1 ?side2 A36.out).mono ?_); (case side1 => repeat (first | (with_reducible first | exact HI0.out | apply IsS162.alloc | apply IsS162.drewN | apply IsS162.drew | apply IsS162.set_1 | apply IsS162.set_2) | exact HI0.out)); (case side2 => repeat (first | (with_reducible first | exact HB.out | apply bA | apply bN | apply bE | refine bS ?_ (IsS162.ge HI0.out)) | exact HB.out)); rintro e w43 ⟨rfl, hi, hb, hk⟩; refine ⟨_, rfl, ?_⟩; have n0_ := aM (rM (Kd.R_keep (IsS162.apart (show IsS162 w0 _ g s0_0 x1001_2 x1002_2 from by repeat (first | (with_reducible first | exact HI0.out | apply IsS162.alloc | apply IsS162.drewN | apply IsS162.drew | apply IsS162.set_1 | apply IsS162.set_2) | exact HI0.out)) (by (with_reducible repeat (first | apply rA | apply rN | apply rD)); exact HO_3.out) (by decide)) hk (fun _ h => h.2)) (fun _ h => h.1)); have n1_ := aM (KeepBut.trans (by repeat (first | (with_reducible first | exact HK.out | apply KeepBut.set_ | apply keep_drewN | apply keep_drew | apply keep_alloc) | exact HK.out)) hk (.inl rfl)); have n2_ := aM (hb); have n3_ := aM (hi); clear HO_3; clear HK; clear HB; clear HI0; have HO_3 := n0_; have HK := n1_; have HB := n2_; have HI0 := n3_; clear n0_ n1_ n2_ n3_; (try clear hb); (try clear hb2); (try clear hk); (try clear hi)))
          go_ret
          exact ⟨_, by first | rfl | (simp [errW_none, errW_some] <;> rfl) | (simp [*, errW_none, errW_some] <;> rfl), by (with_reducible repeat (first | apply rA | apply rN | apply rD)); exact HO_3.out, by repeat (first | (with_reducible first | exact HI0.out | apply IsS162.alloc | apply IsS162.drewN | apply IsS162.drew | apply IsS162.set_1 | apply IsS162.set_2) | exact HI0.out), by repeat (first | (with_reducible first | exact HB.out | apply bA | apply bN | apply bE | refine bS ?_ (IsS162.ge HI0.out)) | exact HB.out), by repeat (first | (with_reducible first | exact HK.out | apply KeepBut.set_ | apply keep_drewN | apply keep_drew | apply keep_alloc) | exact HK.out)⟩
      ·rw [if_neg c33] at H
       have c33b0 : (t256 == 2) = false := beq_eq_false_iff_ne.mpr c33
       have c33b1 : (t256 != 2) = true := bne_iff_ne.mpr c33
       simp only [Option.some.injEq, Prod.mk.injEq] at H
       obtain ⟨rfl, rfl, rfl⟩ := H
       go_wp2_with (first | ((with_reducible refine gate_callee (f := 141) rfl ?_); refine goesL_ (some 8) rfl rfl Try.func141 (by kernel_rfl) rfl #[.pointer (some ⟨g, 0, none⟩), .int .i64 6] rfl (by (try simp only [lM, List.map_cons, List.map_nil]); first | done | rfl | (simp only [lD, lT]; rfl)) ?_; (with_reducible refine (spec_l01Below.calls g s0_0 x1001_1 x1002_1 6 t241 t242 t243 w0 _ ?side1 ?side2 A4.out).mono ?_); (case side1 => repeat (first | (with_reducible first | exact HI0.out | apply IsS162.alloc | apply IsS162.drewN | apply IsS162.drew | apply IsS162.set_1 | apply IsS162.set_2) | exact HI0.out)); (case side2 => repeat (first | (with_reducible first | exact HB.out | apply bA | apply bN | apply bE | refine bS ?_ (IsS162.ge HI0.out)) | exact HB.out)); rintro e w44 ⟨rfl, hi, hb, hk⟩; refine ⟨_, rfl, ?_⟩; have n0_ := aM (rM (Kd.R_keep (IsS162.apart (show IsS162 w0 _ g s0_0 x1001_1 x1002_1 from by repeat (first | (with_reducible first | exact HI0.out | apply IsS162.alloc | apply IsS162.drewN | apply IsS162.drew | apply IsS162.set_1 | apply IsS162.set_2) | exact HI0.out)) (by (with_reducible repeat (first | apply rA | apply rN | apply rD)); exact HO_3.out) (by decide)) hk (fun _ h => h.2)) (fun _ h => h.1)); have n1_ := aM (KeepBut.trans (by repeat (first | (with_reducible first | exact HK.out | apply KeepBut.set_ | apply keep_drewN | apply keep_drew | apply keep_alloc) | exact HK.out)) hk (.inl rfl)); have n2_ := aM (hb); have n3_ := aM (hi); clear HO_3; clear HK; clear HB; clear HI0; have HO_3 := n0_; have HK := n1_; have HB := n2_; have HI0 := n3_; clear n0_ n1_ n2_ n3_; (try clear hb); (try clear hb2); (try clear hk); (try clear hi)) | ((with_reducible refine gate_callee (f := 141) rfl ?_); refine goesL_ (some 24) rfl rfl Try.func141 (by kernel_rfl) rfl #[.pointer (some ⟨g, 0, none⟩), .int .i64 30] rfl (by (try simp only [lM, List.map_cons, List.map_nil]); first | done | rfl | (simp only [lD, lT]; rfl)) ?_; (with_reducible refine (spec_l01Below.calls g s0_0 t242 t243 30 t256 t257 t258 w0 _ ?side1 ?side2 A15.out).mono ?_); (case side1 => repeat (first | (with_reducible first | exact HI0.out | apply IsS162.alloc | apply IsS162.drewN | apply IsS162.drew | apply IsS162.set_1 | apply IsS162.set_2) | exact HI0.out)); (case side2 => repeat (first | (with_reducible first | exact HB.out | apply bA | apply bN | apply bE | refine bS ?_ (IsS162.ge HI0.out)) | exact HB.out)); rintro e w45 ⟨rfl, hi, hb, hk⟩; refine ⟨_, rfl, ?_⟩; have n0_ := aM (rM (Kd.R_keep (IsS162.apart (show IsS162 w0 _ g s0_0 t242 t243 from by repeat (first | (with_reducible first | exact HI0.out | apply IsS162.alloc | apply IsS162.drewN | apply IsS162.drew | apply IsS162.set_1 | apply IsS162.set_2) | exact HI0.out)) (by (with_reducible repeat (first | apply rA | apply rN | apply rD)); exact HO_3.out) (by decide)) hk (fun _ h => h.2)) (fun _ h => h.1)); have n1_ := aM (KeepBut.trans (by repeat (first | (with_reducible first | exact HK.out | apply KeepBut.set_ | apply keep_drewN | apply keep_drew | apply keep_alloc) | exact HK.out)) hk (.inl rfl)); have n2_ := aM (hb); have n3_ := aM (hi); clear HO_3; clear HK; clear HB; clear HI0; have HO_3 := n0_; have HK := n1_; have HB := n2_; have HI0 := n3_; clear n0_ n1_ n2_ n3_; (try clear hb); (try clear hb2); (try clear hk); (try clear hi)))
       go_ret
       exact ⟨_, by first | rfl | (simp [errW_none, errW_some] <;> rfl) | (simp [*, errW_none, errW_some] <;> rfl), by (with_reducible repeat (first | apply rA | apply rN | apply rD)); exact HO_3.out, by repeat (first | (with_reducible first | exact HI0.out | apply IsS162.alloc | apply IsS162.drewN | apply IsS162.drew | apply IsS162.set_1 | apply IsS162.set_2) | exact HI0.out), by repeat (first | (with_reducible first | exact HB.out | apply bA | apply bN | apply bE | refine bS ?_ (IsS162.ge HI0.out)) | exact HB.out), by repeat (first | (with_reducible first | exact HK.out | apply KeepBut.set_ | apply keep_drewN | apply keep_drew | apply keep_alloc) | exact HK.out)⟩

/-! ### spec_DrawTableText: function 26 -/
def spec_DrawTableText.f (k : Nat) (l0 : List Int) : Option ((List (S52))) := (spec_l01New.f k l0).bind fun bt275 => ((spec_l17Table.f k bt275.1 bt275.2.1 bt275.2.2).bind fun bt279 => (some bt279.1))
theorem spec_DrawTableText.mono : ∀ a0 k, LeO (spec_DrawTableText.f k a0) (spec_DrawTableText.f (k + 1) a0) := by
 intro a0 k
 unfold spec_DrawTableText.f
 repeat' first
   | (with_reducible exact spec_l01New.mono _ _)
   | (with_reducible exact spec_l17Table.mono _ _ _ _)
   | (with_reducible exact LeO.refl _)
   | (with_reducible exact LeO.none _)
   | (with_reducible refine LeO.ite ?_ ?_)
   | (with_reducible refine LeO.bind ?_ (fun _ => ?_))
   | exact spec_l01New.mono _ _
   | exact spec_l17Table.mono _ _ _ _
   | exact LeO.none _
   | refine LeO.ite ?_ ?_
   | refine LeO.bind ?_ (fun _ => ?_)
set_option maxHeartbeats 8000000 in
set_option maxRecDepth 100000 in
theorem spec_DrawTableText.calls (k : Nat) (A0 : Option Addr) (c0 : Nat) (l0 : List Int) (r : List (S52)) (w : World) (hr0 : Kd.C (Kd.int .u8) w A0 l0.length l0) (hc0 : l0.length ≤ c0) (h : spec_DrawTableText.f k l0 = some r) :
  Calls Try.prog 26 #[.slice A0 l0.length c0] w fun e w' => ∃ v0_ : Value, e = .returned (v0_) ∧ Kd.R k52 52 w' w.heap.size (fun _ => True) v0_ r ∧ Below w.heap.size w w' := by
 have HR0 := aM hr0
 have HC0 := aM hc0
 clear hr0 hc0
 have HB := aM (Below.refl w.heap.size w)
 have H : ((spec_l01New.f k l0).bind fun bt275 => ((spec_l17Table.f k bt275.1 bt275.2.1 bt275.2.2).bind fun bt279 => (some bt279.1))) = some r := h
 clear h
 replace H := oB.mp H
 obtain ⟨⟨t275, t276, t277⟩, A20, H⟩ := H
 replace H : ((spec_l17Table.f k t275 t276 t277).bind fun bt279 => (some bt279.1)) = some r := H
 have A2 := aM A20
 clear A20
 replace H := oB.mp H
 obtain ⟨⟨t279, t282, t283⟩, A30, H⟩ := H
 replace H : (some t279) = some r := H
 have A3 := aM A30
 clear A30
 obtain rfl := Option.some.inj H
 go_enter Try.func26, Try.ntmps26
 go_wp2_with (first | ((with_reducible refine gate_callee (f := 72) rfl ?_); refine goesL_ (some 4) rfl rfl Try.func72 (by kernel_rfl) rfl #[.slice A0 l0.length c0] rfl (by (try simp only [lM, List.map_cons, List.map_nil]); first | done | rfl | (simp only [lD, lT]; rfl)) ?_; (with_reducible refine (spec_l01New.calls k _ _ l0 t275 t276 t277 w _ ?side1 ?side2 ?side3 A2.out).mono ?_); (case side1 => repeat (first | (with_reducible first | exact HB.out | apply bA | apply bN | apply bE) | exact HB.out)); (case side2 => exact HR0.out); (case side3 => exact HC0.out); rintro e w4 ⟨g278, rfl, hi, hb, hb2⟩; refine ⟨_, rfl, ?_⟩; have n0_ := aM (hb); have n1_ := aM (hi); clear HB; have HB := n0_; have HI278 := n1_; clear n0_ n1_; (try clear hb); (try clear hb2); (try clear hk); (try clear hi)) | ((with_reducible refine gate_callee (f := 80) rfl ?_); refine goesL_ (some 5) rfl rfl Try.func80 (by kernel_rfl) rfl #[.pointer (some ⟨g278, 0, none⟩)] rfl (by (try simp only [lM, List.map_cons, List.map_nil]); first | done | rfl | (simp only [lD, lT]; rfl)) ?_; (with_reducible refine (spec_l17Table.calls k g278 t275 t276 t277 t279 t282 t283 w _ ?side1 ?side2 A3.out).mono ?_); (case side1 => repeat (first | (with_reducible first | exact HI278.out | apply IsS162.alloc | apply IsS162.drewN | apply IsS162.drew | apply IsS162.set_1 | apply IsS162.set_2) | exact HI278.out)); (case side2 => repeat (first | (with_reducible first | exact HB.out | apply bA | apply bN | apply bE | refine bS ?_ (IsS162.ge HI278.out)) | exact HB.out)); rintro e w5 ⟨v280, rfl, ho0, hi, hb, hk⟩; refine ⟨_, rfl, ?_⟩; have n0_ := aM (Kd.R_lower ho0 (bZ (by repeat (first | (with_reducible first | exact HB.out | apply bA | apply bN | apply bE | refine bS ?_ (IsS162.ge HI278.out)) | exact HB.out)))); have n1_ := aM (hb); have n2_ := aM (hi); clear HB; clear HI278; have HO281 := n0_; have HB := n1_; have HI278 := n2_; clear n0_ n1_ n2_; (try clear hb); (try clear hb2); (try clear hk); (try clear hi); (try clear ho0)))
 go_ret
 exact ⟨_, by first | rfl | (simp [errW_none, errW_some] <;> rfl) | (simp [*, errW_none, errW_some] <;> rfl), by (with_reducible repeat (first | apply rA | apply rN | apply rD)); exact HO281.out, by repeat (first | (with_reducible first | exact HB.out | apply bA | apply bN | apply bE | refine bS ?_ (IsS162.ge HI278.out)) | exact HB.out)⟩

/-! ### impl_colorOk: function 81 -/
def impl_colorOk.f (a0_0 : Int) (a0_1 : Int) (a0_2 : Int) : Option (Bool) := (impl_within.f a0_0 0 255).bind fun t285 => (if t285 = true then ((impl_within.f a0_1 0 255).bind fun t286 => (if t286 = true then ((impl_within.f a0_2 0 255).bind fun t287 => (some t287)) else (some false))) else (some false))
set_option maxHeartbeats 8000000 in
set_option maxRecDepth 100000 in
theorem impl_colorOk.calls (a0_0 : Int) (a0_1 : Int) (a0_2 : Int) (r : Bool) (w : World) (h : impl_colorOk.f a0_0 a0_1 a0_2 = some r) :
  Calls Try.prog 81 #[.agg #[.int .i64 a0_0, .int .i64 a0_1, .int .i64 a0_2]] w fun e w' => e = .returned (.bool r) ∧ Below w.heap.size w w' := by
 have hu52 := Try.underlying52
 have HB := aM (Below.refl w.heap.size w)
 unfold impl_colorOk.f at h; have H := h
 clear h
 replace H := oB.mp H
 obtain ⟨t285, A20, H⟩ := H
 replace H : (if t285 = true then ((impl_within.f a0_1 0 255).bind fun t286 => (if t286 = true then ((impl_within.f a0_2 0 255).bind fun t287 => (some t287)) else (some false))) else (some false)) = some r := H
 have A2 := aM A20
 clear A20
 by_cases c3 : t285 = true
 ·subst c3
  have H1 : ((impl_within.f a0_1 0 255).bind fun t286 => (if t286 = true then ((impl_within.f a0_2 0 255).bind fun t287 => (some t287)) else (some false))) = some r := by rw [if_pos rfl] at H; first | done | exact H
  clear H
  have H := H1
  clear H1
  replace H := oB.mp H
  obtain ⟨t286, A40, H⟩ := H
  replace H : (if t286 = true then ((impl_within.f a0_2 0 255).bind fun t287 => (some t287)) else (some false)) = some r := H
  have A4 := aM A40
  clear A40
  by_cases c5 : t286 = true
  ·subst c5
   have H1 : ((impl_within.f a0_2 0 255).bind fun t287 => (some t287)) = some r := by rw [if_pos rfl] at H; first | done | exact H
   clear H
   have H := H1
   clear H1
   replace H := oB.mp H
   obtain ⟨t287, A60, H⟩ := H
   replace H : (some t287) = some r := H
   have A6 := aM A60
   clear A60
   obtain rfl := Option.some.inj H
   go_enter Try.func81, Try.ntmps81
   go_wp2_with (first | ((with_reducible refine gate_dst (N := 1) rfl ?_); refine box_event ?hg (N := 1) ?hd (cs := #[.int .i64 a0_0, .int .i64 a0_1, .int .i64 a0_2]) (t := 52) ?hr ?_; (case hd => rfl); (case hg => rfl); (case hr => first | (go_simp; done) | (go_simp; rfl)); intro gb284 hg w7 hbox hb; have n0_ := aM (bT (by repeat (first | (with_reducible first | exact HB.out | apply bA | apply bN | apply bE) | exact HB.out)) hb); have n1_ := aM (hbox); have n2_ := aM ((by rw [hg]; exact (bZ (by repeat (first | (with_reducible first | exact HB.out | apply bA | apply bN | apply bE) | exact HB.out))) : w.heap.size ≤ gb284)); have n3_ := aM ((by rw [hg]; exact (bZ (by repeat (first | (with_reducible first | exact HB.out | apply bA | apply bN | apply bE) | exact HB.out))) : w.heap.size ≤ gb284)); clear HB; have HB := n0_; have BK284 := n1_; have GW284 := n2_; have GE284 := n3_; clear n0_ n1_ n2_ n3_; clear hb hbox hg; obtain ⟨hcz8_0, hcz8_1, hcz8_2⟩ := blk_c3 BK284.out; obtain ⟨hfz8_0, hfz8_1, hfz8_2⟩ := blk_f3 BK284.out) | ((with_reducible refine gate_callee (f := 82) rfl ?_); refine goesL_ (some 5) rfl rfl Try.func82 (by kernel_rfl) rfl #[.int .i64 a0_0, .int .i64 0, .int .i64 255] rfl (by (try simp only [lM, List.map_cons, List.map_nil]); first | done | rfl | (simp only [lD, lT]; rfl)) ?_; (with_reducible refine (impl_within.calls a0_0 0 255 true _ A2.out).mono ?_); rintro e w' ⟨rfl, ⟨nd, rfl⟩⟩; refine ⟨_, rfl, ?_⟩) | (go_at_call 82; (with_reducible refine (impl_within.calls a0_1 0 255 true _ A4.out).mono ?_); rintro e w' ⟨rfl, ⟨nd, rfl⟩⟩) | (go_at_call 82; (with_reducible refine (impl_within.calls a0_2 0 255 t287 _ A6.out).mono ?_); rintro e w' ⟨rfl, ⟨nd, rfl⟩⟩))
   go_ret
   exact ⟨by first | rfl | (simp [errW_none, errW_some] <;> rfl) | (simp [*, errW_none, errW_some] <;> rfl), by repeat (first | (with_reducible first | exact HB.out | apply bA | apply bN | apply bE | refine bS ?_ GE284.out) | exact HB.out)⟩
  ·replace c5 := Bool.eq_false_iff.mpr c5
   subst c5
   have H1 : (some false) = some r := by rw [if_neg (show ¬ (false = true) by decide)] at H; first | done | exact H
   clear H
   have H := H1
   clear H1
   obtain rfl := Option.some.inj H
   go_enter Try.func81, Try.ntmps81
   go_wp2_with (first | ((with_reducible refine gate_dst (N := 1) rfl ?_); refine box_event ?hg (N := 1) ?hd (cs := #[.int .i64 a0_0, .int .i64 a0_1, .int .i64 a0_2]) (t := 52) ?hr ?_; (case hd => rfl); (case hg => rfl); (case hr => first | (go_simp; done) | (go_simp; rfl)); intro gb284 hg w9 hbox hb; have n0_ := aM (bT (by repeat (first | (with_reducible first | exact HB.out | apply bA | apply bN | apply bE) | exact HB.out)) hb); have n1_ := aM (hbox); have n2_ := aM ((by rw [hg]; exact (bZ (by repeat (first | (with_reducible first | exact HB.out | apply bA | apply bN | apply bE) | exact HB.out))) : w.heap.size ≤ gb284)); have n3_ := aM ((by rw [hg]; exact (bZ (by repeat (first | (with_reducible first | exact HB.out | apply bA | apply bN | apply bE) | exact HB.out))) : w.heap.size ≤ gb284)); clear HB; have HB := n0_; have BK284 := n1_; have GW284 := n2_; have GE284 := n3_; clear n0_ n1_ n2_ n3_; clear hb hbox hg; obtain ⟨hcz10_0, hcz10_1, hcz10_2⟩ := blk_c3 BK284.out; obtain ⟨hfz10_0, hfz10_1, hfz10_2⟩ := blk_f3 BK284.out) | ((with_reducible refine gate_callee (f := 82) rfl ?_); refine goesL_ (some 5) rfl rfl Try.func82 (by kernel_rfl) rfl #[.int .i64 a0_0, .int .i64 0, .int .i64 255] rfl (by (try simp only [lM, List.map_cons, List.map_nil]); first | done | rfl | (simp only [lD, lT]; rfl)) ?_; (with_reducible refine (impl_within.calls a0_0 0 255 true _ A2.out).mono ?_); rintro e w' ⟨rfl, ⟨nd, rfl⟩⟩; refine ⟨_, rfl, ?_⟩) | (go_at_call 82; (with_reducible refine (impl_within.calls a0_1 0 255 false _ A4.out).mono ?_); rintro e w' ⟨rfl, ⟨nd, rfl⟩⟩))
   go_ret
   exact ⟨by first | rfl | (simp [errW_none, errW_some] <;> rfl) | (simp [*, errW_none, errW_some] <;> rfl), by repeat (first | (with_reducible first | exact HB.out | apply bA | apply bN | apply bE | refine bS ?_ GE284.out) | exact HB.out)⟩
 ·replace c3 := Bool.eq_false_iff.mpr c3
  subst c3
  have H1 : (some false) = some r := by rw [if_neg (show ¬ (false = true) by decide)] at H; first | done | exact H
  clear H
  have H := H1
  clear H1
  obtain rfl := Option.some.inj H
  go_enter Try.func81, Try.ntmps81
  go_wp2_with (first | ((with_reducible refine gate_dst (N := 1) rfl ?_); refine box_event ?hg (N := 1) ?hd (cs := #[.int .i64 a0_0, .int .i64 a0_1, .int .i64 a0_2]) (t := 52) ?hr ?_; (case hd => rfl); (case hg => rfl); (case hr => first | (go_simp; done) | (go_simp; rfl)); intro gb284 hg w11 hbox hb; have n0_ := aM (bT (by repeat (first | (with_reducible first | exact HB.out | apply bA | apply bN | apply bE) | exact HB.out)) hb); have n1_ := aM (hbox); have n2_ := aM ((by rw [hg]; exact (bZ (by repeat (first | (with_reducible first | exact HB.out | apply bA | apply bN | apply bE) | exact HB.out))) : w.heap.size ≤ gb284)); have n3_ := aM ((by rw [hg]; exact (bZ (by repeat (first | (with_reducible first | exact HB.out | apply bA | apply bN | apply bE) | exact HB.out))) : w.heap.size ≤ gb284)); clear HB; have HB := n0_; have BK284 := n1_; have GW284 := n2_; have GE284 := n3_; clear n0_ n1_ n2_ n3_; clear hb hbox hg; obtain ⟨hcz12_0, hcz12_1, hcz12_2⟩ := blk_c3 BK284.out; obtain ⟨hfz12_0, hfz12_1, hfz12_2⟩ := blk_f3 BK284.out) | ((with_reducible refine gate_callee (f := 82) rfl ?_); refine goesL_ (some 5) rfl rfl Try.func82 (by kernel_rfl) rfl #[.int .i64 a0_0, .int .i64 0, .int .i64 255] rfl (by (try simp only [lM, List.map_cons, List.map_nil]); first | done | rfl | (simp only [lD, lT]; rfl)) ?_; (with_reducible refine (impl_within.calls a0_0 0 255 false _ A2.out).mono ?_); rintro e w' ⟨rfl, ⟨nd, rfl⟩⟩; refine ⟨_, rfl, ?_⟩))
  go_ret
  exact ⟨by first | rfl | (simp [errW_none, errW_some] <;> rfl) | (simp [*, errW_none, errW_some] <;> rfl), by repeat (first | (with_reducible first | exact HB.out | apply bA | apply bN | apply bE | refine bS ?_ GE284.out) | exact HB.out)⟩

/-! ### impl_TableText: function 27 -/
def impl_TableText.l0 : Nat → List (S52) → List Int → List (S52) → Int → Int → Option (ByteArray × Bool)
 | 0, _, _, _, _, _ => none
 | k + 1, x0, x4, x8, x9, x10 => if x10 < x9 then (if 0 ≤ x10 then (if x10 < (x8.length : Int) then ((impl_colorOk.f ((rd_T52 x8 x10).f0) ((rd_T52 x8 x10).f1) ((rd_T52 x8 x10).f2)).bind fun t293 => (if t293 = true then ((some (([((rd_T52 x8 x10).f0) % 256, ((rd_T52 x8 x10).f1) % 256, ((rd_T52 x8 x10).f2) % 256] : List Int) : List Int)).bind fun y294 => (if x4.length + y294.length < 140737488355328 then (impl_TableText.l0 k x0 (x4 ++ y294) x8 x9 (wrap64 (x10 + 1))) else (none))) else (some ((⟨#[]⟩ : ByteArray), false)))) else (none)) else (none)) else ((impl_within.f (x0.length : Int) 1 256).bind fun t300 => (if t300 = true then (some (strOfNums x4, true)) else (some ((⟨#[]⟩ : ByteArray), false))))
def impl_TableText.f (k : Nat) (l0 : List (S52)) : Option (ByteArray × Bool) := impl_TableText.l0 k l0 (([] : List Int)) l0 (l0.length : Int) 0
theorem impl_TableText.mono_l : ∀ k, (∀ y0 y1 y2 y3 y4, LeO (impl_TableText.l0 k y0 y1 y2 y3 y4) (impl_TableText.l0 (k + 1) y0 y1 y2 y3 y4))
 | 0 => fun _ _ _ _ _ r h => by simp [impl_TableText.l0] at h
 | k + 1 => by
  have ih0 := impl_TableText.mono_l k
  ·intro y0 y1 y2 y3 y4
   unfold impl_TableText.l0
   repeat' first
   | (with_reducible exact ih0 _ _ _ _ _)
   | (with_reducible exact LeO.refl _)
   | (with_reducible exact LeO.none _)
   | (with_reducible refine LeO.ite ?_ ?_)
   | (with_reducible refine LeO.bind ?_ (fun _ => ?_))
   | exact ih0 _ _ _ _ _
   | exact LeO.none _
   | refine LeO.ite ?_ ?_
   | refine LeO.bind ?_ (fun _ => ?_)
theorem impl_TableText.mono : ∀ a0 k, LeO (impl_TableText.f k a0) (impl_TableText.f (k + 1) a0) := by
 intro a0 k
 have ih0 := impl_TableText.mono_l k
 unfold impl_TableText.f
 repeat' first
   | (with_reducible exact ih0 _ _ _ _ _)
   | (with_reducible exact LeO.refl _)
   | (with_reducible exact LeO.none _)
   | (with_reducible refine LeO.ite ?_ ?_)
   | (with_reducible refine LeO.bind ?_ (fun _ => ?_))
   | exact ih0 _ _ _ _ _
   | exact LeO.none _
   | refine LeO.ite ?_ ?_
   | refine LeO.bind ?_ (fun _ => ?_)
set_option maxHeartbeats 8000000 in
set_option maxRecDepth 100000 in
theorem impl_TableText.calls (k : Nat) (A0 : Option Addr) (c0 : Nat) (l0 : List (S52)) (r1 : ByteArray) (r2 : Bool) (w : World) (hr0 : Kd.C k52 w A0 l0.length l0) (hc0 : l0.length ≤ c0) (h : impl_TableText.f k l0 = some (r1, r2)) :
  Calls Try.prog 27 #[.slice A0 l0.length c0] w fun e w' => e = .returned (.tuple #[.string r1, .bool r2]) ∧ Below w.heap.size w w' := by
 have hu52 := Try.underlying52
 have HR0 := aM hr0
 have HC0 := aM hc0
 clear hr0 hc0
 have HB := aM (Below.refl w.heap.size w)
 have H : (impl_TableText.l0 k l0 (([] : List Int)) l0 (l0.length : Int) 0) = some (r1, r2) := h
 clear h
 obtain ⟨y288, hy288⟩ : ∃ y_ : List Int, y_ = (([] : List Int)) := ⟨_, rfl⟩
 replace H : (impl_TableText.l0 k l0 y288 l0 (l0.length : Int) 0) = some (r1, r2) := by first | (rw [hy288]; with_reducible exact H) | (have H2_ := (Option.bind_some _ _).symm.trans H; rw [hy288]; with_reducible exact H2_) | (have H2_ := (Option.bind_some _ _).symm.trans H; with_reducible exact H2_) | with_reducible exact H | (rw [hy288]; exact H) | exact H
 have Ny288 := aM hy288
 clear hy288
 have H' := aM H
 clear H
 go_enter Try.func27, Try.ntmps27
 go_wp2_with (first | ((with_reducible refine gate_dst (N := 7) rfl ?_); refine Kd.R_lit (Kd.int .u8) _ 5 ?hg (N := 7) ?hd (xs := ([] : List Int)) (inner := []) (ok := fun _ => True) (okp := fun _ => True) ?hr ?hp (fun _ hk => hk) trivial (Below.refl _ _) (Nat.le_refl _) (by simp) ?_; (case hd => rfl); (case hg => rfl); (case hr => first | (go_simp; done) | (go_simp; rfl)); (case hp => exact (Reps.none _ _)); intro v289 w2 ho3 hb hg_ hnew_; clear hg_ hnew_; (first | rw [← Ny288.out] at ho3 | (simp only [Int.reduceToNat] at ho3; rw [← Ny288.out] at ho3)); have n0_ := aM (Kd.R_lower ho3 (bZ (by repeat (first | (with_reducible first | exact HB.out | apply bA | apply bN | apply bE) | exact HB.out)))); have n1_ := aM (bT (by repeat (first | (with_reducible first | exact HB.out | apply bA | apply bN | apply bE) | exact HB.out)) hb); clear HB; have HO290 := n0_; have HB := n1_; clear n0_ n1_; clear hb ho3))
 go_loopg [4, 10] k (fun kq v4 v10 w' => ∃ (x4_1 : List Int) (x10_1 : Int), v10 = .int .i64 x10_1 ∧ Aside0 (impl_TableText.l0 kq l0 x4_1 l0 (l0.length : Int) x10_1 = some (r1, r2)) ∧ Aside0 (kq ≤ k) ∧ Aside0 (Kd.R (Kd.int .u8) 5 w' w.heap.size (fun _ => True) v4 x4_1) ∧ Aside0 (Below w.heap.size w w'))
 case atStart => exact ⟨(y288), (0), (by first | rfl | (simp; done) | (simp [*]; done)), H', ⟨Nat.le_refl _⟩, ⟨by (with_reducible repeat (first | apply rA | apply rN | apply rD)); exact HO290.out⟩, ⟨by repeat (first | (with_reducible first | exact HB.out | apply bA | apply bN | apply bE) | exact HB.out)⟩⟩
 case round =>
  clear H'
  try clear c2
  try clear p2
  obtain ⟨x4_1, x10_1, rfl, HA, HK1, HO_4, HB⟩ := hrel
  cases gk with
  | zero => exact absurd HA.out (by simp [impl_TableText.l0])
  | succ k1 =>
   have H := HA.out
   clear HA
   simp only [impl_TableText.l0] at H
   by_cases c4 : x10_1 < (l0.length : Int)
   ·rw [if_pos c4] at H
    have c4b0 : decide (x10_1 < (l0.length : Int)) = true := decide_eq_true c4
    clear c4
    by_cases c5 : 0 ≤ x10_1
    ·rw [if_pos c5] at H
     have c5b0 : decide (0 ≤ x10_1) = true := decide_eq_true c5
     clear c5
     by_cases c6 : x10_1 < (l0.length : Int)
     ·rw [if_pos c6] at H
      have c6b0 : decide (x10_1 < (l0.length : Int)) = true := decide_eq_true c6
      clear c6
      replace H := oB.mp H
      obtain ⟨t293, A70, H⟩ := H
      try dsimp only at H
      have A7 := aM A70
      clear A70
      by_cases c8 : t293 = true
      ·subst c8
       have H1 : ((some (([((rd_T52 l0 x10_1).f0) % 256, ((rd_T52 l0 x10_1).f1) % 256, ((rd_T52 l0 x10_1).f2) % 256] : List Int) : List Int)).bind fun y294 => (if x4_1.length + y294.length < 140737488355328 then (impl_TableText.l0 k1 l0 (x4_1 ++ y294) l0 (l0.length : Int) (wrap64 (x10_1 + 1))) else (none))) = some (r1, r2) := by rw [if_pos rfl] at H; first | done | exact H
       clear H
       have H := H1
       clear H1
       obtain ⟨y294, hy294⟩ : ∃ y_ : List Int, y_ = (([((rd_T52 l0 x10_1).f0) % 256, ((rd_T52 l0 x10_1).f1) % 256, ((rd_T52 l0 x10_1).f2) % 256] : List Int)) := ⟨_, rfl⟩
       replace H : (if x4_1.length + y294.length < 140737488355328 then (impl_TableText.l0 k1 l0 (x4_1 ++ y294) l0 (l0.length : Int) (wrap64 (x10_1 + 1))) else (none)) = some (r1, r2) := by first | (rw [hy294]; with_reducible exact H) | (have H2_ := (Option.bind_some _ _).symm.trans H; rw [hy294]; with_reducible exact H2_) | (have H2_ := (Option.bind_some _ _).symm.trans H; with_reducible exact H2_) | with_reducible exact H | (rw [hy294]; exact H) | exact H
       have Ny294 := aM hy294
       clear hy294
       by_cases c9 : x4_1.length + y294.length < 140737488355328
       ·rw [if_pos c9] at H
        have LMc9 := aM c9
        clear c9
        obtain ⟨y297, hy297⟩ : ∃ y_ : List Int, y_ = (x4_1 ++ y294) := ⟨_, rfl⟩
        replace H : (impl_TableText.l0 k1 l0 y297 l0 (l0.length : Int) (wrap64 (x10_1 + 1))) = some (r1, r2) := by first | (rw [hy297]; with_reducible exact H) | (have H2_ := (Option.bind_some _ _).symm.trans H; rw [hy297]; with_reducible exact H2_) | (have H2_ := (Option.bind_some _ _).symm.trans H; with_reducible exact H2_) | with_reducible exact H | (rw [hy297]; exact H) | exact H
        have Ny297 := aM hy297
        clear hy297
        have H' := aM H
        clear H
        have p291 : 0 ≤ (x10_1 : Int) := oD (by first | (with_reducible assumption) | assumption)
        have q291 : x10_1 < (l0.length : Int) := oD (by first | (with_reducible assumption) | assumption)
        obtain ⟨ad291, e291, hx291_0, hx291_1, hx291_2⟩ := at_T52 HR0.out x10_1 p291 q291
        cases e291
        replace hx291_0 := (HB.out.cell (World.block_lt_of_cell? w _ hx291_0)).trans hx291_0
        replace hx291_1 := (HB.out.cell (World.block_lt_of_cell? w _ hx291_1)).trans hx291_1
        replace hx291_2 := (HB.out.cell (World.block_lt_of_cell? w _ hx291_2)).trans hx291_2
        replace p291 := eq_true p291
        replace q291 := eq_true q291
        go_wp2_with (first | ((with_reducible refine gate_dst (N := 6) rfl ?_); refine box_event ?hg (N := 6) ?hd (cs := #[.int .i64 0, .int .i64 0, .int .i64 0]) (t := 52) ?hr ?_; (case hd => rfl); (case hg => rfl); (case hr => first | (go_simp; done) | (go_simp; rfl)); intro gb292 hg w10 hbox hb; have n0_ := aM (rB (by (with_reducible repeat (first | apply rA | apply rN | apply rD)); exact HO_4.out) hb); have n1_ := aM (bT (by repeat (first | (with_reducible first | exact HB.out | apply bA | apply bN | apply bE) | exact HB.out)) hb); have n2_ := aM (hbox); have n3_ := aM ((by rw [hg]; exact (bZ (by repeat (first | (with_reducible first | exact HB.out | apply bA | apply bN | apply bE) | exact HB.out))) : w.heap.size ≤ gb292)); have n4_ := aM ((by rw [hg]; exact (bZ (by repeat (first | (with_reducible first | exact HB.out | apply bA | apply bN | apply bE) | exact HB.out))) : w.heap.size ≤ gb292)); clear HO_4; clear HB; have HO_4 := n0_; have HB := n1_; have BK292 := n2_; have GW292 := n3_; have GE292 := n4_; clear n0_ n1_ n2_ n3_ n4_; clear hb hbox hg; obtain ⟨hcz11_0, hcz11_1, hcz11_2⟩ := blk_c3 BK292.out; obtain ⟨hfz11_0, hfz11_1, hfz11_2⟩ := blk_f3 BK292.out) | ((with_reducible refine gate_callee (f := 81) rfl ?_); refine goesL_ (some 15) rfl rfl Try.func81 (by kernel_rfl) rfl #[.agg #[.int .i64 ((rd_T52 l0 x10_1).f0), .int .i64 ((rd_T52 l0 x10_1).f1), .int .i64 ((rd_T52 l0 x10_1).f2)]] rfl (by (try simp only [lM, List.map_cons, List.map_nil]); first | done | rfl | (simp only [lD, lT]; rfl)) ?_; (with_reducible refine (impl_colorOk.calls ((rd_T52 l0 x10_1).f0) ((rd_T52 l0 x10_1).f1) ((rd_T52 l0 x10_1).f2) true _ A7.out).mono ?_); rintro e w12 ⟨rfl, hb⟩; refine ⟨_, rfl, ?_⟩; have n0_ := aM (rB (by (with_reducible repeat (first | apply rA | apply rN | apply rD)); exact (rM (rF (p := ⟨gb292, 2, none⟩) (rF (p := ⟨gb292, 1, none⟩) (rF (p := ⟨gb292, 0, none⟩) (Kd.R_types HO_4.out BK292.out (by decide)) (fun _ hk => hk.2) (.int .i64 ((rd_T52 l0 x10_1).f0))) (fun _ hk => hk.2) (.int .i64 ((rd_T52 l0 x10_1).f1))) (fun _ hk => hk.2) (.int .i64 ((rd_T52 l0 x10_1).f2))) (fun _ h_ => h_.1))) hb); have n1_ := aM (kB (g := gb292) (o := .cells #[.int .i64 ((rd_T52 l0 x10_1).f0), .int .i64 ((rd_T52 l0 x10_1).f1), .int .i64 ((rd_T52 l0 x10_1).f2)] 52 (0, 0)) (by (with_reducible repeat (first | refine kN ?_ _ | refine kD ?_ | refine kA ?_ _)); refine blk_put (cs := #[.int .i64 ((rd_T52 l0 x10_1).f0), .int .i64 ((rd_T52 l0 x10_1).f1), .int .i64 0]) ?_ 2 _ rfl; (with_reducible repeat (first | refine kN ?_ _ | refine kD ?_ | refine kA ?_ _)); refine blk_put (cs := #[.int .i64 ((rd_T52 l0 x10_1).f0), .int .i64 0, .int .i64 0]) ?_ 1 _ rfl; (with_reducible repeat (first | refine kN ?_ _ | refine kD ?_ | refine kA ?_ _)); refine blk_put (cs := #[.int .i64 0, .int .i64 0, .int .i64 0]) ?_ 0 _ rfl; (with_reducible repeat (first | refine kN ?_ _ | refine kD ?_ | refine kA ?_ _)); exact BK292.out) hb); have n2_ := aM (bT (by repeat (first | (with_reducible first | exact HB.out | apply bA | apply bN | apply bE | refine bS ?_ GE292.out) | exact HB.out)) hb); clear HO_4; clear BK292; clear HB; have HO_4 := n0_; have BK292 := n1_; have HB := n2_; clear n0_ n1_ n2_; (try clear hb); (try clear hb2); (try clear hk); (try clear hi); obtain ⟨hcz13_0, hcz13_1, hcz13_2⟩ := blk_c3 BK292.out; obtain ⟨hfz13_0, hfz13_1, hfz13_2⟩ := blk_f3 BK292.out) | ((with_reducible refine gate_dst (N := 27) rfl ?_); refine Kd.R_lit (Kd.int .u8) _ 5 ?hg (N := 27) ?hd (xs := ([((rd_T52 l0 x10_1).f0) % 256, ((rd_T52 l0 x10_1).f1) % 256, ((rd_T52 l0 x10_1).f2) % 256] : List Int)) (inner := [.int .u8 (((rd_T52 l0 x10_1).f0) % 256), .int .u8 (((rd_T52 l0 x10_1).f1) % 256), .int .u8 (((rd_T52 l0 x10_1).f2) % 256)]) (ok := fun _ => True) (okp := fun _ => True) ?hr ?hp (fun _ hk => hk) trivial (Below.refl _ _) (Nat.le_refl _) (by simp) ?_; (case hd => rfl); (case hg => rfl); (case hr => first | (go_simp; done) | (go_simp; rfl)); (case hp => exact (Reps.one (show Kd.M (Kd.int .u8) _ _ _ (((rd_T52 l0 x10_1).f0) % 256) [.int .u8 (((rd_T52 l0 x10_1).f0) % 256)] from rfl) (Reps.one (show Kd.M (Kd.int .u8) _ _ _ (((rd_T52 l0 x10_1).f1) % 256) [.int .u8 (((rd_T52 l0 x10_1).f1) % 256)] from rfl) (Reps.one (show Kd.M (Kd.int .u8) _ _ _ (((rd_T52 l0 x10_1).f2) % 256) [.int .u8 (((rd_T52 l0 x10_1).f2) % 256)] from rfl) (Reps.none _ _))))); intro v295 w14 ho15 hb hg_ hnew_; clear hg_ hnew_; (first | rw [← Ny294.out] at ho15 | (simp only [Int.reduceToNat] at ho15; rw [← Ny294.out] at ho15)); have n0_ := aM (Kd.R_elder' (by (with_reducible repeat (first | apply rA | apply rN | apply rD)); exact HO_4.out) (Kd.R_base ho15) hb); have n1_ := aM (Kd.R_lower (Kd.R_new' ho15 (Kd.R_lt (by (with_reducible repeat (first | apply rA | apply rN | apply rD)); exact HO_4.out))) (bZ (by repeat (first | (with_reducible first | exact HB.out | apply bA | apply bN | apply bE | refine bS ?_ GE292.out) | exact HB.out)))); have n2_ := aM (kB (g := gb292) (o := .cells #[.int .i64 ((rd_T52 l0 x10_1).f0), .int .i64 ((rd_T52 l0 x10_1).f1), .int .i64 ((rd_T52 l0 x10_1).f2)] 52 (0, 0)) (by (with_reducible repeat (first | refine kN ?_ _ | refine kD ?_ | refine kA ?_ _)); exact BK292.out) hb); have n3_ := aM (bT (by repeat (first | (with_reducible first | exact HB.out | apply bA | apply bN | apply bE | refine bS ?_ GE292.out) | exact HB.out)) hb); clear HO_4; clear BK292; clear HB; have HO_4 := n0_; have HO296 := n1_; have BK292 := n2_; have HB := n3_; clear n0_ n1_ n2_ n3_; clear hb ho15; obtain ⟨Ao17, co17, eo17⟩ := Kd.R_slice HO296.out; subst eo17) | ((with_reducible refine gate_builtin (b := .append) (xs := #[.tmp 17, .tmp 27]) rfl ?_); at_builtin; refine Kd.R_append_rows (Kd.int .u8) (w0 := w) w.heap.size rfl (.tmp 17) (.tmp 27) 36 5 (.int .u8 0) 1 rfl Try.underlying36 info5 rfl (by decide) (by omega) u4 x4_1 y294 _ _ _ (fun k_ => some k_ ≠ (.slice Ao17 y294.length co17 : Value).ownBlock) (fun _ => False) rfl rfl ?aO ?aR (fun _ _ h => h) (fun _ h => h.elim) ?aF ?aB ?aS ?aL ?_; (case aR => repeat (first | exact (Kd.R_reads' HO296.out).2.2 | (with_reducible refine cA ?_ _) | (with_reducible refine cN ?_ _) | (with_reducible refine cD ?_))); (case aB => exact (by repeat (first | (with_reducible first | exact HB.out | apply bA | apply bN | apply bE | refine bS ?_ GE292.out) | exact HB.out))); (case aF => exact (fun k_ hk => Kd.fresh' (Kd.R_lt (by (with_reducible repeat (first | apply rA | apply rN | apply rD)); exact HO296.out)) k_ hk)); (case aO => exact (by (with_reducible repeat (first | apply rA | apply rN | apply rD)); exact rM HO_4.out (fun _ hk => hk.2))); (case aS => exact (bZ (by repeat (first | (with_reducible first | exact HB.out | apply bA | apply bN | apply bE | refine bS ?_ GE292.out) | exact HB.out)))); (case aL => have := LMc9.out; omega); intro v298 w16 ho hb hg hat; rw [← Ny297.out] at ho; have n0_ := aM (blk_grown (g := gb292) (o := .cells #[.int .i64 ((rd_T52 l0 x10_1).f0), .int .i64 ((rd_T52 l0 x10_1).f1), .int .i64 ((rd_T52 l0 x10_1).f2)] 52 (0, 0)) (by (with_reducible repeat (first | refine kN ?_ _ | refine kD ?_ | refine kA ?_ _)); exact BK292.out) hg (Kd.R_ne HO_4.out BK292.out (by decide))); have n1_ := aM (Kd.R_after (ok := (fun _ => True)) (by (with_reducible repeat (first | apply rA | apply rN | apply rD)); exact HO296.out) hg hat); have n2_ := aM (hb); have n3_ := aM (ho); clear BK292; clear HO296; clear HB; clear HO_4; have BK292 := n0_; have HO296 := n1_; have HB := n2_; have HO299 := n3_; clear n0_ n1_ n2_ n3_; clear ho hb hg hat))
        go_roundg k1
        case measure => have := HK1.out; omega
        case rel => exact ⟨(y297), (wrap64 (x10_1 + 1)), (by first | rfl | (simp; done) | (simp [*]; done)), H', ⟨by have := HK1.out; omega⟩, ⟨by (with_reducible repeat (first | apply rA | apply rN | apply rD)); exact rM HO299.out (fun _ hk => trivial)⟩, ⟨by repeat (first | (with_reducible first | exact HB.out | apply bA | apply bN | apply bE | refine bS ?_ GE292.out) | exact HB.out)⟩⟩
       ·rw [if_neg c9] at H
        exact absurd H (by simp)
      ·replace c8 := Bool.eq_false_iff.mpr c8
       subst c8
       have H1 : (some ((⟨#[]⟩ : ByteArray), false)) = some (r1, r2) := by rw [if_neg (show ¬ (false = true) by decide)] at H; first | done | exact H
       clear H
       have H := H1
       clear H1
       simp only [Option.some.injEq, Prod.mk.injEq] at H
       obtain ⟨rfl, rfl⟩ := H
       have p291 : 0 ≤ (x10_1 : Int) := oD (by first | (with_reducible assumption) | assumption)
       have q291 : x10_1 < (l0.length : Int) := oD (by first | (with_reducible assumption) | assumption)
       obtain ⟨ad291, e291, hx291_0, hx291_1, hx291_2⟩ := at_T52 HR0.out x10_1 p291 q291
       cases e291
       replace hx291_0 := (HB.out.cell (World.block_lt_of_cell? w _ hx291_0)).trans hx291_0
       replace hx291_1 := (HB.out.cell (World.block_lt_of_cell? w _ hx291_1)).trans hx291_1
       replace hx291_2 := (HB.out.cell (World.block_lt_of_cell? w _ hx291_2)).trans hx291_2
       replace p291 := eq_true p291
       replace q291 := eq_true q291
       go_wp2_with (first | ((with_reducible refine gate_dst (N := 6) rfl ?_); refine box_event ?hg (N := 6) ?hd (cs := #[.int .i64 0, .int .i64 0, .int .i64 0]) (t := 52) ?hr ?_; (case hd => rfl); (case hg => rfl); (case hr => first | (go_simp; done) | (go_simp; rfl)); intro gb292 hg w18 hbox hb; have n0_ := aM (rB (by (with_reducible repeat (first | apply rA | apply rN | apply rD)); exact HO_4.out) hb); have n1_ := aM (bT (by repeat (first | (with_reducible first | exact HB.out | apply bA | apply bN | apply bE) | exact HB.out)) hb); have n2_ := aM (hbox); have n3_ := aM ((by rw [hg]; exact (bZ (by repeat (first | (with_reducible first | exact HB.out | apply bA | apply bN | apply bE) | exact HB.out))) : w.heap.size ≤ gb292)); have n4_ := aM ((by rw [hg]; exact (bZ (by repeat (first | (with_reducible first | exact HB.out | apply bA | apply bN | apply bE) | exact HB.out))) : w.heap.size ≤ gb292)); clear HO_4; clear HB; have HO_4 := n0_; have HB := n1_; have BK292 := n2_; have GW292 := n3_; have GE292 := n4_; clear n0_ n1_ n2_ n3_ n4_; clear hb hbox hg; obtain ⟨hcz19_0, hcz19_1, hcz19_2⟩ := blk_c3 BK292.out; obtain ⟨hfz19_0, hfz19_1, hfz19_2⟩ := blk_f3 BK292.out) | ((with_reducible refine gate_callee (f := 81) rfl ?_); refine goesL_ (some 15) rfl rfl Try.func81 (by kernel_rfl) rfl #[.agg #[.int .i64 ((rd_T52 l0 x10_1).f0), .int .i64 ((rd_T52 l0 x10_1).f1), .int .i64 ((rd_T52 l0 x10_1).f2)]] rfl (by (try simp only [lM, List.map_cons, List.map_nil]); first | done | rfl | (simp only [lD, lT]; rfl)) ?_; (with_reducible refine (impl_colorOk.calls ((rd_T52 l0 x10_1).f0) ((rd_T52 l0 x10_1).f1) ((rd_T52 l0 x10_1).f2) false _ A7.out).mono ?_); rintro e w20 ⟨rfl, hb⟩; refine ⟨_, rfl, ?_⟩; have n0_ := aM (rB (by (with_reducible repeat (first | apply rA | apply rN | apply rD)); exact (rM (rF (p := ⟨gb292, 2, none⟩) (rF (p := ⟨gb292, 1, none⟩) (rF (p := ⟨gb292, 0, none⟩) (Kd.R_types HO_4.out BK292.out (by decide)) (fun _ hk => hk.2) (.int .i64 ((rd_T52 l0 x10_1).f0))) (fun _ hk => hk.2) (.int .i64 ((rd_T52 l0 x10_1).f1))) (fun _ hk => hk.2) (.int .i64 ((rd_T52 l0 x10_1).f2))) (fun _ h_ => h_.1))) hb); have n1_ := aM (kB (g := gb292) (o := .cells #[.int .i64 ((rd_T52 l0 x10_1).f0), .int .i64 ((rd_T52 l0 x10_1).f1), .int .i64 ((rd_T52 l0 x10_1).f2)] 52 (0, 0)) (by (with_reducible repeat (first | refine kN ?_ _ | refine kD ?_ | refine kA ?_ _)); refine blk_put (cs := #[.int .i64 ((rd_T52 l0 x10_1).f0), .int .i64 ((rd_T52 l0 x10_1).f1), .int .i64 0]) ?_ 2 _ rfl; (with_reducible repeat (first | refine kN ?_ _ | refine kD ?_ | refine kA ?_ _)); refine blk_put (cs := #[.int .i64 ((rd_T52 l0 x10_1).f0), .int .i64 0, .int .i64 0]) ?_ 1 _ rfl; (with_reducible repeat (first | refine kN ?_ _ | refine kD ?_ | refine kA ?_ _)); refine blk_put (cs := #[.int .i64 0, .int .i64 0, .int .i64 0]) ?_ 0 _ rfl; (with_reducible repeat (first | refine kN ?_ _ | refine kD ?_ | refine kA ?_ _)); exact BK292.out) hb); have n2_ := aM (bT (by repeat (first | (with_reducible first | exact HB.out | apply bA | apply bN | apply bE | refine bS ?_ GE292.out) | exact HB.out)) hb); clear HO_4; clear BK292; clear HB; have HO_4 := n0_; have BK292 := n1_; have HB := n2_; clear n0_ n1_ n2_; (try clear hb); (try clear hb2); (try clear hk); (try clear hi)))
       go_ret2
       exact ⟨by first | rfl | (simp [errW_none, errW_some] <;> rfl) | (simp [*, errW_none, errW_some] <;> rfl), by repeat (first | (with_reducible first | exact HB.out | apply bA | apply bN | apply bE | refine bS ?_ GE292.out) | exact HB.out)⟩
     ·rw [if_neg c6] at H
      exact absurd H (by simp)
    ·rw [if_neg c5] at H
     exact absurd H (by simp)
   ·rw [if_neg c4] at H
    have c4b0 : decide (x10_1 < (l0.length : Int)) = false := decide_eq_false c4
    clear c4
    replace H := oB.mp H
    obtain ⟨t300, A210, H⟩ := H
    replace H : (if t300 = true then (some (strOfNums x4_1, true)) else (some ((⟨#[]⟩ : ByteArray), false))) = some (r1, r2) := H
    have A21 := aM A210
    clear A210
    by_cases c22 : t300 = true
    ·subst c22
     have H1 : (some (strOfNums x4_1, true)) = some (r1, r2) := by rw [if_pos rfl] at H; first | done | exact H
     clear H
     have H := H1
     clear H1
     simp only [Option.some.injEq, Prod.mk.injEq] at H
     obtain ⟨rfl, rfl⟩ := H
     go_wp2_with (first | ((with_reducible refine gate_callee (f := 82) rfl ?_); refine goesL_ (some 32) rfl rfl Try.func82 (by kernel_rfl) rfl #[.int .i64 (l0.length : Int), .int .i64 1, .int .i64 256] rfl (by (try simp only [lM, List.map_cons, List.map_nil]); first | done | rfl | (simp only [lD, lT]; rfl)) ?_; (with_reducible refine (impl_within.calls (l0.length : Int) 1 256 true _ A21.out).mono ?_); rintro e w' ⟨rfl, ⟨nd, rfl⟩⟩; refine ⟨_, rfl, ?_⟩; have hcv23 := own_string (P := Try.prog) Try.underlying36 Try.underlying5 Try.underlying9 (Kd.own_of_R (rN HO_4.out nd))))
     go_ret2
     exact ⟨by first | rfl | (simp [errW_none, errW_some] <;> rfl) | (simp [*, errW_none, errW_some] <;> rfl), by repeat (first | (with_reducible first | exact HB.out | apply bA | apply bN | apply bE) | exact HB.out)⟩
    ·replace c22 := Bool.eq_false_iff.mpr c22
     subst c22
     have H1 : (some ((⟨#[]⟩ : ByteArray), false)) = some (r1, r2) := by rw [if_neg (show ¬ (false = true) by decide)] at H; first | done | exact H
     clear H
     have H := H1
     clear H1
     simp only [Option.some.injEq, Prod.mk.injEq] at H
     obtain ⟨rfl, rfl⟩ := H
     go_wp2_with (first | ((with_reducible refine gate_callee (f := 82) rfl ?_); refine goesL_ (some 32) rfl rfl Try.func82 (by kernel_rfl) rfl #[.int .i64 (l0.length : Int), .int .i64 1, .int .i64 256] rfl (by (try simp only [lM, List.map_cons, List.map_nil]); first | done | rfl | (simp only [lD, lT]; rfl)) ?_; (with_reducible refine (impl_within.calls (l0.length : Int) 1 256 false _ A21.out).mono ?_); rintro e w' ⟨rfl, ⟨nd, rfl⟩⟩; refine ⟨_, rfl, ?_⟩))
     go_ret2
     exact ⟨by first | rfl | (simp [errW_none, errW_some] <;> rfl) | (simp [*, errW_none, errW_some] <;> rfl), by repeat (first | (with_reducible first | exact HB.out | apply bA | apply bN | apply bE) | exact HB.out)⟩

end Go.Proofs.Ytajnobmnkbkkgaa.PFnHeads
