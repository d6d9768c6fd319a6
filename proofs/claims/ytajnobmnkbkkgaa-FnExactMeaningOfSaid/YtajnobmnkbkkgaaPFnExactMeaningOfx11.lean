/- Walks of functions that the law FnExactMeaningOf reaches: each call comes to what the Lean function of its name tells. Written by p2.py, a program of this session, by way of the kit's print. -/
import Derived.Test.YtajnobmnkbkkgaaVFnExactMeaningOf
import Derived.Test.YtajnobmnkbkkgaaPFnExactMeaningOfx0
import Derived.Test.YtajnobmnkbkkgaaPFnExactMeaningOfx8
import Derived.Test.YtajnobmnkbkkgaaPFnExactMeaningOfx9
import Derived.Test.YtajnobmnkbkkgaaPFnExactMeaningOfx10
namespace Go.Proofs.Ytajnobmnkbkkgaa.PFnExactMeaningOf
open Go.RowKit Go.Proofs.YtajnobmnkbkkgaaW.PrintWords Go.Proofs.YtajnobmnkbkkgaaW.PrintLast Go.Proofs.YtajnobmnkbkkgaaW.PrintMore
attribute [local go_sem] max2_int min2_int max_two min_two max_three min_three max_four min_four   -- for this text's walks alone
set_option linter.unusedVariables false
set_option linter.unusedSimpArgs false

/-! ### spec_MeaningOf: function 49 -/
def spec_MeaningOf.l0 : Nat → Int → Int → Int → Int → Int → Bool → List (S52) → List Int → Int → Int → Int → Int → List Int → List (S168) → Int → Int → List Int → List (S168) → Option (Int × Int × List Int × (List (S168)) × Bool)
  | 0, _, _, _, _, _, _, _, _, _, _, _, _, _, _, _, _, _, _ => none
  | k + 1, x5, x305000, x305001, x305002, x305003, x305004, x305005, x305006, x305007, x305008, x305009, x305010, x305011, x305012, x311000, x311001, x311002, x311003 => if x5 < (wrap64 (x311000 * x311001)) then ((spec_l18Pixel.f k x305000 x305001 x305002 x305003 x305004 x305005 x305006 x305007 x305008 x305009 x305010 x305011 x305012 x5).bind fun t311 => (if x311002.length + t311.length < 17592186044416 then (spec_MeaningOf.l0 k (wrap64 (x5 + 1)) x305000 x305001 x305002 x305003 x305004 x305005 x305006 x305007 x305008 x305009 x305010 x305011 x305012 x311000 x311001 (x311002 ++ t311) x311003) else (none))) else (some (x311000, x311001, x311002, x311003, true))
def spec_MeaningOf.f (k : Nat) (a0_0 : Int) (a0_1 : Int) (a0_2 : Int) (a0_3 : Int) (a0_4 : Bool) (l0_5 : List (S52)) (l0_6 : List Int) (a0_7 : Int) (a0_8 : Int) (a0_9 : Int) (a0_10 : Int) (l0_11 : List Int) (l0_12 : List (S168)) : Option (Int × Int × List Int × (List (S168)) × Bool) := (spec_PngOk.f k a0_0 a0_1 a0_2 a0_3 a0_4 l0_5 l0_6 a0_7 a0_8 a0_9 a0_10 l0_11 l0_12).bind fun t306 => (if t306 = true then ((spec_l18CopyKept.f l0_12).bind fun t307 => (spec_MeaningOf.l0 k 0 a0_0 a0_1 a0_2 a0_3 a0_4 l0_5 l0_6 a0_7 a0_8 a0_9 a0_10 l0_11 l0_12 a0_0 a0_1 ([] : List Int) t307)) else (some (0, 0, ([] : List Int), ([] : List (S168)), false)))
def spec_MeaningOf.T3 : Bool × List (List Nat × List Nat) := (true, [([], []), ([0], [0]), ([1], [1]), ([], []), ([3], [3]), ([4], [4]), ([], []), ([6], [6]), ([7], [7]), ([2, 5, 8], [2, 5, 8]), ([], []), ([10, 9, 8, 0, 1, 2, 3, 4, 5, 6, 7, 8, 9, 10], [9, 10])])
def spec_MeaningOf.B3 : List Nat := [0, 1, 3, 0, 8, 24, 0, 64, 192, 511, 0, 2047]
theorem spec_MeaningOf.tab3 : rtab .any (opsOf Try.f49 3) = spec_MeaningOf.T3 := by kernel_rfl
theorem spec_MeaningOf.bits3 : waitsOk spec_MeaningOf.T3.2 spec_MeaningOf.B3 = true := by kernel_rfl
def spec_MeaningOf.T7 : Bool × List (List Nat × List Nat) := (true, [([], []), ([0], [0]), ([], []), ([], []), ([2, 3], [2, 3]), ([1, 4, 4], [1, 4]), ([0, 1, 2, 3, 4, 5], []), ([6, 5, 5, 0, 1, 2, 3, 4, 5], [5, 6])])
def spec_MeaningOf.B7 : List Nat := [0, 1, 0, 0, 12, 31, 63, 127]
theorem spec_MeaningOf.tab7 : rtab .any (opsOf Try.f49 7) = spec_MeaningOf.T7 := by kernel_rfl
theorem spec_MeaningOf.bits7 : waitsOk spec_MeaningOf.T7.2 spec_MeaningOf.B7 = true := by kernel_rfl
set_option maxHeartbeats 8000000 in
set_option maxRecDepth 100000 in
theorem spec_MeaningOf.calls (k : Nat) (a0_0 : Int) (a0_1 : Int) (a0_2 : Int) (a0_3 : Int) (a0_4 : Bool) (A0_5 : Option Addr) (c0_5 : Nat) (l0_5 : List (S52)) (A0_6 : Option Addr) (c0_6 : Nat) (l0_6 : List Int) (a0_7 : Int) (a0_8 : Int) (a0_9 : Int) (a0_10 : Int) (A0_11 : Option Addr) (c0_11 : Nat) (l0_11 : List Int) (A0_12 : Option Addr) (c0_12 : Nat) (l0_12 : List (S168)) (r1 : Int) (r2 : Int) (r3 : List Int) (r4 : List (S168)) (r5 : Bool) (w : World) (hr0_5 : Kd.C k52 w A0_5 l0_5.length l0_5) (hc0_5 : l0_5.length ≤ c0_5) (hr0_6 : Kd.C (Kd.int .i64) w A0_6 l0_6.length l0_6) (hc0_6 : l0_6.length ≤ c0_6) (hr0_11 : Kd.C (Kd.int .i64) w A0_11 l0_11.length l0_11) (hc0_11 : l0_11.length ≤ c0_11) (hr0_12 : Kd.C k168 w A0_12 l0_12.length l0_12) (hc0_12 : l0_12.length ≤ c0_12) (h : spec_MeaningOf.f k a0_0 a0_1 a0_2 a0_3 a0_4 l0_5 l0_6 a0_7 a0_8 a0_9 a0_10 l0_11 l0_12 = some (r1, r2, r3, r4, r5)) :
 Calls Try.prog 49 #[.agg #[.int .i64 a0_0, .int .i64 a0_1, .int .i64 a0_2, .int .i64 a0_3, .bool a0_4, .slice A0_5 l0_5.length c0_5, .slice A0_6 l0_6.length c0_6, .int .i64 a0_7, .int .i64 a0_8, .int .i64 a0_9, .int .i64 a0_10, .slice A0_11 l0_11.length c0_11, .slice A0_12 l0_12.length c0_12]] w fun e w' => ∃ v2_ v3_ : Value, e = .returned (.tuple #[.agg #[.int .i64 r1, .int .i64 r2, v2_, v3_], .bool r5]) ∧ Kd.R (Kd.int .i64) 3 w' w.heap.size (fun _ => True) v2_ r3 ∧ Kd.R k168 168 w' w.heap.size (fun _ => True) v3_ r4 ∧ Below w.heap.size w w' := by
 have hu74 := Try.underlying74; have hu84 := Try.underlying84; have HR0_5 := aM hr0_5; have HC0_5 := aM hc0_5; clear hr0_5 hc0_5; have HR0_6 := aM hr0_6; have HC0_6 := aM hc0_6; clear hr0_6 hc0_6; have HR0_11 := aM hr0_11; have HC0_11 := aM hc0_11; clear hr0_11 hc0_11; have HR0_12 := aM hr0_12; have HC0_12 := aM hc0_12; clear hr0_12 hc0_12; have HB := aM (Below.refl w.heap.size w); unfold spec_MeaningOf.f at h; have H := h; clear h; revert H; refine bdR fun t306 A2 => ?_
 refine ifB (fun c3 => ?_) (fun c3 => ?_)
 · intro H; subst c3; revert H; refine bdR fun t307 A4 => ?_; refine adR fun H' => ?_; go_enter Try.func49, Try.ntmps49
   try go_wp2_with (first | ((with_reducible refine gD 1 ?_); refine bE 1 #[.int .i64 a0_0, .int .i64 a0_1, .int .i64 a0_2, .int .i64 a0_3, .bool a0_4, .slice A0_5 l0_5.length c0_5, .slice A0_6 l0_6.length c0_6, .int .i64 a0_7, .int .i64 a0_8, .int .i64 a0_9, .int .i64 a0_10, .slice A0_11 l0_11.length c0_11, .slice A0_12 l0_12.length c0_12] 74 ?_; intro gb304 hg w5 hbox hb; have BK304 := aM hbox; have GW304 := aM (sZ hg); have GE304 := GW304; replace HB := hS hb; clear hb hbox hg) | ((with_reducible refine gD 2 ?_); refine bE 2 #[.int .i64 0, .int .i64 0, .slice none 0 0, .slice none 0 0] 84 ?_; intro gb305 hg w6 hbox hb; have BK305 := aM hbox; have GW305 := aM (sZ hg); have GE305 := GW305; replace HB := hS hb; have NB304_305 := aM (nL BK304 hg); have NB305_304 := aM (nG BK304 hg); replace BK304 := bW BK304 hb; clear hb hbox hg; have hnb7 := NB304_305.out; have hnc7 := NB305_304.out; have hz8 := bz13 BK304) | ((with_reducible refine gC 40 ?_); refine gL (some 7) Try.func40 #[.agg #[.int .i64 a0_0, .int .i64 a0_1, .int .i64 a0_2, .int .i64 a0_3, .bool a0_4, .slice A0_5 l0_5.length c0_5, .slice A0_6 l0_6.length c0_6, .int .i64 a0_7, .int .i64 a0_8, .int .i64 a0_9, .int .i64 a0_10, .slice A0_11 l0_11.length c0_11, .slice A0_12 l0_12.length c0_12]] ?_; (with_reducible refine (spec_PngOk.calls k a0_0 a0_1 a0_2 a0_3 a0_4 _ _ l0_5 _ _ l0_6 a0_7 a0_8 a0_9 a0_10 _ _ l0_11 _ _ l0_12 true _ (Kd.C_i (Kd.C_below HR0_5.out HB.out)) HC0_5.out (Kd.C_i (Kd.C_below HR0_6.out HB.out)) HC0_6.out (Kd.C_i (Kd.C_below HR0_11.out HB.out)) HC0_11.out (Kd.C_i (Kd.C_below HR0_12.out HB.out)) HC0_12.out A2.out).mono ?_); rintro e w9 ⟨rfl, hb⟩; refine ⟨_, rfl, ?_⟩; replace BK304 := bW BK304 hb; replace BK305 := bW BK305 hb; replace HB := hS hb; clear hb))
   replace BK304 := aM (blk_drew BK304.out); replace BK305 := aM (blk_drew BK305.out); replace HB := aM (below_drew1 HB.out)
   refine start_ (n := 12) (S := fun w' => w'.cell? ⟨gb304, 0, none⟩ = some (.int .i64 a0_0) ∧ w'.cell? ⟨gb304, 1, none⟩ = some (.int .i64 a0_1) ∧ w'.cell? ⟨gb304, 2, none⟩ = some (.int .i64 a0_2) ∧ w'.cell? ⟨gb304, 3, none⟩ = some (.int .i64 a0_3) ∧ w'.cell? ⟨gb304, 4, none⟩ = some (.bool a0_4) ∧ w'.cell? ⟨gb304, 5, none⟩ = some (.slice A0_5 l0_5.length c0_5) ∧ w'.cell? ⟨gb304, 6, none⟩ = some (.slice A0_6 l0_6.length c0_6) ∧ w'.cell? ⟨gb304, 7, none⟩ = some (.int .i64 a0_7) ∧ w'.cell? ⟨gb304, 8, none⟩ = some (.int .i64 a0_8) ∧ w'.cell? ⟨gb304, 9, none⟩ = some (.int .i64 a0_9) ∧ w'.cell? ⟨gb304, 10, none⟩ = some (.int .i64 a0_10) ∧ w'.cell? ⟨gb304, 11, none⟩ = some (.slice A0_11 l0_11.length c0_11) ∧ w'.cell? ⟨gb304, 12, none⟩ = some (.slice A0_12 l0_12.length c0_12)) (ds := []) (bAr 12 0) (by kernel_rfl) rfl rfl ⟨bC BK304 0, bC BK304 1, bC BK304 2, bC BK304 3, bC BK304 4, bC BK304 5, bC BK304 6, bC BK304 7, bC BK304 8, bC BK304 9, bC BK304 10, bC BK304 11, bC BK304 12⟩ (fun hHeld => ?_); refine with_tabW spec_MeaningOf.tab3 spec_MeaningOf.bits3 (fun HT_ HW_ => ?_)
   generalize w9.drew = w10 at BK304 BK305 HB hHeld ⊢; refine pU 0 10 (bAr 12 1) ?_; refine pU 1 11 (bAr 12 3) ?_; refine pU 3 13 (bAr 12 11) ?_; refine pU 4 14 (bAr 12 27) ?_; refine pU 6 16 (bAr 12 91) ?_
   refine tK 2 12 (bAr 12 95) ?_
   refine tK 5 15 (bAr 12 127) ?_
   refine tK 7 17 (bAr 12 255) ?_
   refine join_ (σ := Value × Nat) 1 #[true, true, true, true, true, true, true, true, true, true, true, false] (fun s_ => [(18, s_.1), (4, .pointer (some ⟨s_.2, 0, none⟩)), (19, .agg #[.int .i64 a0_0, .int .i64 a0_1, .slice none 0 0, s_.1])]) (fun s_ w' => (w'.cell? ⟨gb304, 0, none⟩ = some (.int .i64 a0_0) ∧ w'.cell? ⟨gb304, 1, none⟩ = some (.int .i64 a0_1) ∧ w'.cell? ⟨gb304, 2, none⟩ = some (.int .i64 a0_2) ∧ w'.cell? ⟨gb304, 3, none⟩ = some (.int .i64 a0_3) ∧ w'.cell? ⟨gb304, 4, none⟩ = some (.bool a0_4) ∧ w'.cell? ⟨gb304, 5, none⟩ = some (.slice A0_5 l0_5.length c0_5) ∧ w'.cell? ⟨gb304, 6, none⟩ = some (.slice A0_6 l0_6.length c0_6) ∧ w'.cell? ⟨gb304, 7, none⟩ = some (.int .i64 a0_7) ∧ w'.cell? ⟨gb304, 8, none⟩ = some (.int .i64 a0_8) ∧ w'.cell? ⟨gb304, 9, none⟩ = some (.int .i64 a0_9) ∧ w'.cell? ⟨gb304, 10, none⟩ = some (.int .i64 a0_10) ∧ w'.cell? ⟨gb304, 11, none⟩ = some (.slice A0_11 l0_11.length c0_11) ∧ w'.cell? ⟨gb304, 12, none⟩ = some (.slice A0_12 l0_12.length c0_12)) ∧ (Kd.R k168 168 w' w.heap.size (fun _ => True) s_.1 t307) ∧ (w'.heap[gb304]? = some (.cells #[.int .i64 a0_0, .int .i64 a0_1, .int .i64 a0_2, .int .i64 a0_3, .bool a0_4, .slice A0_5 l0_5.length c0_5, .slice A0_6 l0_6.length c0_6, .int .i64 a0_7, .int .i64 a0_8, .int .i64 a0_9, .int .i64 a0_10, .slice A0_11 l0_11.length c0_11, .slice A0_12 l0_12.length c0_12] 74 (0, 0))) ∧ (w'.heap[gb305]? = some (.cells #[.int .i64 0, .int .i64 0, .slice none 0 0, .slice none 0 0] 84 (0, 0))) ∧ (w'.heap[s_.2]? = some (.cells #[.int .i64 0, .int .i64 0, .slice none 0 0, .slice none 0 0] 84 (0, 0))) ∧ (w.heap.size ≤ s_.2) ∧ (w.heap.size ≤ s_.2) ∧ (gb304 ≠ s_.2) ∧ (s_.2 ≠ gb304) ∧ (gb305 ≠ s_.2) ∧ (s_.2 ≠ gb305) ∧ (Below w.heap.size w w')) ?_ ?_; rotate_left
   · intro hCont
     refine two_ (i := 8) (j := 10) (Ni := some 18) (Nj := some 4) (bAr 12 511) (bAr 12 1279) rfl rfl rfl rfl (two_of HT_.out (by kernel_rfl)) (by decide) (by decide) (fun K hK => ?_) (fun K hK => ?_)
     · skip
       refine goes_ Try.func116 (by kernel_rfl) rfl #[.slice A0_12 l0_12.length c0_12] (by rfl) rfl rfl (by (try simp only [List.map_toArray, List.map_cons, List.map_nil]); first | done | rfl | (simp only [List.length_drop, List.length_take]; rfl)) ?_
       with_reducible refine (spec_l18CopyKept.calls _ _ l0_12 t307 _ ?side1 ?side2 A4.out).mono ?_
       (case side1 => repeat (first | exact (Kd.C_below HR0_12.out HB.out) | (with_reducible refine Kd.C_alloc ?_ _) | (with_reducible refine Kd.C_drewN ?_ _) | (with_reducible refine Kd.C_drew ?_)))
       (case side2 => exact HC0_12.out)
       rintro e w11 ⟨v308, rfl, ho0, hb⟩
       refine ⟨_, rfl, ?_⟩; have HO309 := aM (Kd.R_lower ho0 (below_size hB)); replace BK304 := bW BK304 hb; replace BK305 := bW BK305 hb; replace HB := hS hb; obtain ⟨Ao12, co12, eo12⟩ := Kd.R_slice HO309.out
       (first | subst eo12 | (injection eo12 with f1_ f2_ f3_; have f4_ := f1_.symm; have f5_ := f3_.symm; clear f1_ f2_ f3_; subst f4_; subst f5_))
       refine hK.out _ _ ⟨bC BK304 0, bC BK304 1, bC BK304 2, bC BK304 3, bC BK304 4, bC BK304 5, bC BK304 6, bC BK304 7, bC BK304 8, bC BK304 9, bC BK304 10, bC BK304 11, bC BK304 12⟩ (fun hHeld => ?_); clear hK K
       refine norm_ (a' := ?_) ?_ ?_; rotate_left
       · show Act.put _ (some 18) _ = _
         simp only [Act.put, List.setIfInBounds_toArray, List.set_cons_zero, List.set_cons_succ, i64_w, i32_w]
         rfl
       refine pU 9 19 (bAr 12 1023) ?_
       refine one_ (i := 10) (N := some 4) (bAr 12 2047) rfl rfl (one_of HT_.out (by kernel_rfl)) (by decide) (fun K hK => ?_)
       refine box_step ?hg (N := 4) ?hd (cs := #[.int .i64 0, .int .i64 0, .slice none 0 0, .slice none 0 0]) (t := 84) ?hr ?_; (case hd => rfl); (case hg => rfl); (case hr => first | (go_simp; done) | (go_simp; rfl)); intro gb310 hg w13 hbox hb; replace HO309 := Kd.wR HO309 hb; have BK310 := aM hbox; have GW310 := aM (sZ hg); have GE310 := aM (sZ hg); replace HB := hS hb; have NB304_310 := aM (nL BK304 hg); have NB310_304 := aM (nG BK304 hg); replace BK304 := bW BK304 hb; have NB305_310 := aM (nL BK305 hg); have NB310_305 := aM (nG BK305 hg); replace BK305 := bW BK305 hb; clear hb hbox hg
       refine hK.out _ _ ⟨bC BK304 0, bC BK304 1, bC BK304 2, bC BK304 3, bC BK304 4, bC BK304 5, bC BK304 6, bC BK304 7, bC BK304 8, bC BK304 9, bC BK304 10, bC BK304 11, bC BK304 12⟩ (fun hHeld => ?_); clear hK K
       refine norm_ (a' := ?_) ?_ ?_; rotate_left
       · show Act.put _ (some 4) _ = _
         simp only [Act.put, List.setIfInBounds_toArray, List.set_cons_zero, List.set_cons_succ, i64_w, i32_w]
         rfl
       exact norm_ (by simp only [putAll, Act.put, List.setIfInBounds_toArray, List.set_cons_zero, List.set_cons_succ]) (hCont (.slice Ao12 t307.length co12, gb310) _ ⟨hHeld, (Kd.R_i HO309.out), (bI BK304.out), (bI BK305.out), (bI BK310.out), GW310.out, GE310.out, NB304_310.out, NB310_304.out, NB305_310.out, NB310_305.out, hB⟩)
     · skip
       refine box_step ?hg (N := 4) ?hd (cs := #[.int .i64 0, .int .i64 0, .slice none 0 0, .slice none 0 0]) (t := 84) ?hr ?_; (case hd => rfl); (case hg => rfl); (case hr => first | (go_simp; done) | (go_simp; rfl)); intro gb310 hg w11 hbox hb; have n0_ := bW BK304 hb; have n1_ := bW BK305 hb; have n2_ := hS hb; have n3_ := aM hbox; have n4_ := aM (sZ hg); have n5_ := aM (sZ hg); have n6_ := aM (nL BK304 hg); have n7_ := aM (nG BK304 hg); have n8_ := aM (nL BK305 hg); have n9_ := aM (nG BK305 hg); clear BK304; clear BK305; clear HB; have BK304 := n0_; have BK305 := n1_; have HB := n2_; have BK310 := n3_; have GW310 := n4_; have GE310 := n5_; have NB304_310 := n6_; have NB310_304 := n7_; have NB305_310 := n8_; have NB310_305 := n9_; clear n0_ n1_ n2_ n3_ n4_ n5_ n6_ n7_ n8_ n9_; clear hb hbox hg
       refine hK.out _ _ ⟨bC BK304 0, bC BK304 1, bC BK304 2, bC BK304 3, bC BK304 4, bC BK304 5, bC BK304 6, bC BK304 7, bC BK304 8, bC BK304 9, bC BK304 10, bC BK304 11, bC BK304 12⟩ (fun hHeld => ?_); clear hK K
       refine norm_ (a' := ?_) ?_ ?_; rotate_left
       · show Act.put _ (some 4) _ = _
         simp only [Act.put, List.setIfInBounds_toArray, List.set_cons_zero, List.set_cons_succ, i64_w, i32_w]
         rfl
       refine one_ (i := 8) (N := some 18) (bAr 12 1535) rfl rfl (one_of HT_.out (by kernel_rfl)) (by decide) (fun K hK => ?_)
       refine goes_ Try.func116 (by kernel_rfl) rfl #[.slice A0_12 l0_12.length c0_12] (by rfl) rfl rfl (by (try simp only [List.map_toArray, List.map_cons, List.map_nil]); first | done | rfl | (simp only [List.length_drop, List.length_take]; rfl)) ?_
       with_reducible refine (spec_l18CopyKept.calls _ _ l0_12 t307 _ ?side1 ?side2 A4.out).mono ?_
       (case side1 => repeat (first | exact (Kd.C_below HR0_12.out HB.out) | (with_reducible refine Kd.C_alloc ?_ _) | (with_reducible refine Kd.C_drewN ?_ _) | (with_reducible refine Kd.C_drew ?_)))
       (case side2 => exact HC0_12.out)
       rintro e w12 ⟨v308, rfl, ho0, hb⟩
       refine ⟨_, rfl, ?_⟩; have HO309 := aM (Kd.R_lower ho0 (below_size hB)); replace BK304 := bW BK304 hb; replace BK305 := bW BK305 hb; replace BK310 := bW BK310 hb; replace HB := hS hb; obtain ⟨Ao13, co13, eo13⟩ := Kd.R_slice HO309.out
       (first | subst eo13 | (injection eo13 with f1_ f2_ f3_; have f4_ := f1_.symm; have f5_ := f3_.symm; clear f1_ f2_ f3_; subst f4_; subst f5_))
       refine hK.out _ _ ⟨bC BK304 0, bC BK304 1, bC BK304 2, bC BK304 3, bC BK304 4, bC BK304 5, bC BK304 6, bC BK304 7, bC BK304 8, bC BK304 9, bC BK304 10, bC BK304 11, bC BK304 12⟩ (fun hHeld => ?_); clear hK K
       refine norm_ (a' := ?_) ?_ ?_; rotate_left
       · show Act.put _ (some 18) _ = _
         simp only [Act.put, List.setIfInBounds_toArray, List.set_cons_zero, List.set_cons_succ, i64_w, i32_w]
         rfl
       refine pU 9 19 (bAr 12 2047) ?_; exact norm_ (by simp only [putAll, Act.put, List.setIfInBounds_toArray, List.set_cons_zero, List.set_cons_succ]) (hCont (.slice Ao13 t307.length co13, gb310) _ ⟨hHeld, (Kd.R_i HO309.out), (bI BK304.out), (bI BK305.out), (bI BK310.out), GW310.out, GE310.out, NB304_310.out, NB310_304.out, NB305_310.out, NB310_305.out, hB⟩)
   rintro ⟨v308, gb310⟩ w14 ⟨hS_, h0_, h1_, h2_, h3_, h4_, h5_, h6_, h7_, h8_, h9_, h10_⟩; have n0_ : Aside0 (Kd.R k168 168 w14 w.heap.size (fun _ => True) v308 t307) := ⟨h0_⟩; have n1_ : Aside0 (w14.heap[gb304]? = some (.cells #[.int .i64 a0_0, .int .i64 a0_1, .int .i64 a0_2, .int .i64 a0_3, .bool a0_4, .slice A0_5 l0_5.length c0_5, .slice A0_6 l0_6.length c0_6, .int .i64 a0_7, .int .i64 a0_8, .int .i64 a0_9, .int .i64 a0_10, .slice A0_11 l0_11.length c0_11, .slice A0_12 l0_12.length c0_12] 74 (0, 0))) := ⟨h1_⟩; have n2_ : Aside0 (w14.heap[gb305]? = some (.cells #[.int .i64 0, .int .i64 0, .slice none 0 0, .slice none 0 0] 84 (0, 0))) := ⟨h2_⟩; have n3_ : Aside0 (w14.heap[gb310]? = some (.cells #[.int .i64 0, .int .i64 0, .slice none 0 0, .slice none 0 0] 84 (0, 0))) := ⟨h3_⟩; have n4_ : Aside0 (w.heap.size ≤ gb310) := ⟨h4_⟩; have n5_ : Aside0 (w.heap.size ≤ gb310) := ⟨h5_⟩; have n6_ : Aside0 (gb304 ≠ gb310) := ⟨h6_⟩; have n7_ : Aside0 (gb310 ≠ gb304) := ⟨h7_⟩; have n8_ : Aside0 (gb305 ≠ gb310) := ⟨h8_⟩; have n9_ : Aside0 (gb310 ≠ gb305) := ⟨h9_⟩; have n10_ : Aside0 (Below w.heap.size w w14) := ⟨h10_⟩; clear BK304; clear BK305; clear HB; clear h0_ h1_ h2_ h3_ h4_ h5_ h6_ h7_ h8_ h9_ h10_; have HO309 := n0_; have BK304 := n1_; have BK305 := n2_; have BK310 := n3_; have GW310 := n4_; have GE310 := n5_; have NB304_310 := n6_; have NB310_304 := n7_; have NB305_310 := n8_; have NB310_305 := n9_; have HB := n10_; clear n0_ n1_ n2_ n3_ n4_ n5_ n6_ n7_ n8_ n9_ n10_; have hHeld : w14.cell? ⟨gb304, 0, none⟩ = some (.int .i64 a0_0) ∧ w14.cell? ⟨gb304, 1, none⟩ = some (.int .i64 a0_1) ∧ w14.cell? ⟨gb304, 2, none⟩ = some (.int .i64 a0_2) ∧ w14.cell? ⟨gb304, 3, none⟩ = some (.int .i64 a0_3) ∧ w14.cell? ⟨gb304, 4, none⟩ = some (.bool a0_4) ∧ w14.cell? ⟨gb304, 5, none⟩ = some (.slice A0_5 l0_5.length c0_5) ∧ w14.cell? ⟨gb304, 6, none⟩ = some (.slice A0_6 l0_6.length c0_6) ∧ w14.cell? ⟨gb304, 7, none⟩ = some (.int .i64 a0_7) ∧ w14.cell? ⟨gb304, 8, none⟩ = some (.int .i64 a0_8) ∧ w14.cell? ⟨gb304, 9, none⟩ = some (.int .i64 a0_9) ∧ w14.cell? ⟨gb304, 10, none⟩ = some (.int .i64 a0_10) ∧ w14.cell? ⟨gb304, 11, none⟩ = some (.slice A0_11 l0_11.length c0_11) ∧ w14.cell? ⟨gb304, 12, none⟩ = some (.slice A0_12 l0_12.length c0_12) := hS_; obtain ⟨Ao15, co15, eo15⟩ := Kd.R_slice HO309.out
   (first | subst eo15 | (injection eo15 with f1_ f2_ f3_; have f4_ := f1_.symm; have f5_ := f3_.symm; clear f1_ f2_ f3_; subst f4_; subst f5_))
   refine norm_ (a' := ?_) ?_ ?_; rotate_left
   · simp only [putAll, Act.put, List.setIfInBounds_toArray, List.set_cons_zero, List.set_cons_succ]
     rfl
   refine one_ (i := 11) (N := none) (bAr 12 4095) rfl rfl (one_of HT_.out (by kernel_rfl)) (by decide) (fun K hK => ?_); have hs16 : w14.cell? ⟨gb310, 0, none⟩ = some (.int .i64 0) := bC BK310 0; have hfs16 := blk_frozen BK310.out 0; have hns16_0 := NB304_310.out; have hns16_1 := NB305_310.out; have hms16_0 := NB310_304.out; have hms16_1 := NB310_305.out; have hs17 : w14.cell? ⟨gb310, 1, none⟩ = some (.int .i64 0) := bC BK310 1; have hfs17 := blk_frozen BK310.out 1; have hns17_0 := NB304_310.out; have hns17_1 := NB305_310.out; have hms17_0 := NB310_304.out; have hms17_1 := NB310_305.out; have hs18 : w14.cell? ⟨gb310, 2, none⟩ = some (.slice none 0 0) := bC BK310 2; have hfs18 := blk_frozen BK310.out 2; have hns18_0 := NB304_310.out; have hns18_1 := NB305_310.out; have hms18_0 := NB310_304.out; have hms18_1 := NB310_305.out; have hs19 : w14.cell? ⟨gb310, 3, none⟩ = some (.slice none 0 0) := bC BK310 3; have hfs19 := blk_frozen BK310.out 3; have hns19_0 := NB304_310.out; have hns19_1 := NB305_310.out; have hms19_0 := NB310_304.out; have hms19_1 := NB310_305.out
   refine skip_ (w1 := ?_) (by rfl) rfl ?_ ?_; rotate_left
   · go_simp
     rfl
   refine hK.out _ _ ⟨(cV NB304_310 ((cV NB304_310 ((cV NB304_310 ((cV NB304_310 (hHeld.1)))))))), (cV NB304_310 ((cV NB304_310 ((cV NB304_310 ((cV NB304_310 (hHeld.2.1)))))))), (cV NB304_310 ((cV NB304_310 ((cV NB304_310 ((cV NB304_310 (hHeld.2.2.1)))))))), (cV NB304_310 ((cV NB304_310 ((cV NB304_310 ((cV NB304_310 (hHeld.2.2.2.1)))))))), (cV NB304_310 ((cV NB304_310 ((cV NB304_310 ((cV NB304_310 (hHeld.2.2.2.2.1)))))))), (cV NB304_310 ((cV NB304_310 ((cV NB304_310 ((cV NB304_310 (hHeld.2.2.2.2.2.1)))))))), (cV NB304_310 ((cV NB304_310 ((cV NB304_310 ((cV NB304_310 (hHeld.2.2.2.2.2.2.1)))))))), (cV NB304_310 ((cV NB304_310 ((cV NB304_310 ((cV NB304_310 (hHeld.2.2.2.2.2.2.2.1)))))))), (cV NB304_310 ((cV NB304_310 ((cV NB304_310 ((cV NB304_310 (hHeld.2.2.2.2.2.2.2.2.1)))))))), (cV NB304_310 ((cV NB304_310 ((cV NB304_310 ((cV NB304_310 (hHeld.2.2.2.2.2.2.2.2.2.1)))))))), (cV NB304_310 ((cV NB304_310 ((cV NB304_310 ((cV NB304_310 (hHeld.2.2.2.2.2.2.2.2.2.2.1)))))))), (cV NB304_310 ((cV NB304_310 ((cV NB304_310 ((cV NB304_310 (hHeld.2.2.2.2.2.2.2.2.2.2.2.1)))))))), (cV NB304_310 ((cV NB304_310 ((cV NB304_310 ((cV NB304_310 (hHeld.2.2.2.2.2.2.2.2.2.2.2.2))))))))⟩ (fun hHeld => ?_); clear hK K
   refine done_ (done_of HT_.out (by kernel_rfl)) ?_
   try go_wp2
   go_loopg [5] k (fun kq v5 w' => ∃ (x5_1 : Int) (x311002_1 : List Int) (u311002 : Value), v5 = .int .i64 x5_1 ∧ Aside0 (spec_MeaningOf.l0 kq x5_1 a0_0 a0_1 a0_2 a0_3 a0_4 l0_5 l0_6 a0_7 a0_8 a0_9 a0_10 l0_11 l0_12 a0_0 a0_1 x311002_1 t307 = some (r1, r2, r3, r4, r5)) ∧ Aside0 (kq ≤ k) ∧ Aside0 (Kd.R (Kd.int .i64) 3 w' w.heap.size (fun _ => True) u311002 x311002_1) ∧ Aside0 (Kd.R k168 168 w' w.heap.size (fun _ => True) (.slice Ao15 t307.length co15) t307) ∧ Aside0 (w'.heap[gb304]? = some (.cells #[.int .i64 a0_0, .int .i64 a0_1, .int .i64 a0_2, .int .i64 a0_3, .bool a0_4, (.slice A0_5 l0_5.length c0_5), (.slice A0_6 l0_6.length c0_6), .int .i64 a0_7, .int .i64 a0_8, .int .i64 a0_9, .int .i64 a0_10, (.slice A0_11 l0_11.length c0_11), (.slice A0_12 l0_12.length c0_12)] 74 (0, 0))) ∧ Aside0 (w'.heap[gb305]? = some (.cells #[.int .i64 0, .int .i64 0, (.slice none 0 0), (.slice none 0 0)] 84 (0, 0))) ∧ Aside0 (w'.heap[gb310]? = some (.cells #[.int .i64 a0_0, .int .i64 a0_1, u311002, (.slice Ao15 t307.length co15)] 84 (0, 0))) ∧ Aside0 (Below w.heap.size w w'))
   case atStart => exact ⟨(0), (([] : List Int)), (.slice none 0 0), eQ, H', ⟨Nat.le_refl _⟩, ⟨by first | exact Kd.R_nil _ _ _ _ _ | exact Kd.N_nil _ _ _ _ _ | exact Kd.V_nil _ _ _ _ _ | exact Kd.Q_nil _ _ _ _ _ | exact Kd.S_nil _ _ _ _ _⟩, ⟨Kd.R_i (Kd.R_mono (Kd.R_far (p := ⟨gb310, 3, none⟩) (Kd.R_far (p := ⟨gb310, 2, none⟩) (Kd.R_far (p := ⟨gb310, 1, none⟩) (Kd.R_far (p := ⟨gb310, 0, none⟩) (Kd.R_types HO309.out BK310.out (by decide)) (fun _ hk => hk.2) (.int .i64 a0_0)) (fun _ hk => hk.2) (.int .i64 a0_1)) (fun _ hk => hk.2) (.slice none 0 0)) (fun _ hk => hk.2) (.slice Ao15 t307.length co15)) (fun _ hk => trivial))⟩, ⟨kB⟩, ⟨kB⟩, ⟨kB⟩, ⟨hB⟩⟩
   case round =>
    clear H'; (try clear c1); (try clear p2); (try clear c3); (try clear c4); (try clear c7); (try clear c11); (try clear c13); (try clear hz8); obtain ⟨x5_1, x311002_1, u311002, rfl, HA, HK1, HO_311002, HO_311003, BK304, BK305, BK310, HB⟩ := hrel; rcases gk with _ | k1
    · exact absurd HA.out (by simp [spec_MeaningOf.l0])
    revert HA; refine aoR ?_; intro H; simp only [spec_MeaningOf.l0] at H; revert H
    refine ifB (fun c20 => ?_) (fun c20 => ?_)
    · intro H; have c20b0 := decide_eq_true c20; clear c20; revert H; refine bdR fun t311 A21 => ?_; refine ifR fun c22 => ?_; intro H; have LMc22 := aM c22; clear c22; obtain ⟨y314, hy_⟩ : ∃ y_ : List Int, y_ = (x311002_1 ++ t311) := ⟨_, rfl⟩; replace H : (spec_MeaningOf.l0 k1 (wrap64 (x5_1 + 1)) a0_0 a0_1 a0_2 a0_3 a0_4 l0_5 l0_6 a0_7 a0_8 a0_9 a0_10 l0_11 l0_12 a0_0 a0_1 y314 t307) = some (r1, r2, r3, r4, r5) := nH; have Ny314 := aM hy_; clear hy_; revert H; refine adR fun H' => ?_; have hnb23 := NB310_304.out; have hnc23 := NB304_310.out; have hnb24 := NB310_305.out; have hnc24 := NB305_310.out; have hz25 := bz4 BK310
      try go_wp2
      replace HO_311002 := aM (Kd.R_drew HO_311002.out); replace HO_311003 := aM (Kd.R_drew HO_311003.out); replace BK304 := aM (blk_drew BK304.out); replace BK305 := aM (blk_drew BK305.out); replace BK310 := aM (blk_drew BK310.out); replace HB := aM (below_drew1 HB.out)
      refine start_ (n := 8) (S := fun w' => w'.cell? ⟨gb310, 0, none⟩ = some (.int .i64 a0_0) ∧ w'.cell? ⟨gb310, 1, none⟩ = some (.int .i64 a0_1) ∧ w'.cell? ⟨gb310, 2, none⟩ = some (u311002) ∧ w'.cell? ⟨gb310, 3, none⟩ = some (.slice Ao15 t307.length co15) ∧ w'.cell? ⟨gb304, 0, none⟩ = some (.int .i64 a0_0) ∧ w'.cell? ⟨gb304, 1, none⟩ = some (.int .i64 a0_1) ∧ w'.cell? ⟨gb304, 2, none⟩ = some (.int .i64 a0_2) ∧ w'.cell? ⟨gb304, 3, none⟩ = some (.int .i64 a0_3) ∧ w'.cell? ⟨gb304, 4, none⟩ = some (.bool a0_4) ∧ w'.cell? ⟨gb304, 5, none⟩ = some (.slice A0_5 l0_5.length c0_5) ∧ w'.cell? ⟨gb304, 6, none⟩ = some (.slice A0_6 l0_6.length c0_6) ∧ w'.cell? ⟨gb304, 7, none⟩ = some (.int .i64 a0_7) ∧ w'.cell? ⟨gb304, 8, none⟩ = some (.int .i64 a0_8) ∧ w'.cell? ⟨gb304, 9, none⟩ = some (.int .i64 a0_9) ∧ w'.cell? ⟨gb304, 10, none⟩ = some (.int .i64 a0_10) ∧ w'.cell? ⟨gb304, 11, none⟩ = some (.slice A0_11 l0_11.length c0_11) ∧ w'.cell? ⟨gb304, 12, none⟩ = some (.slice A0_12 l0_12.length c0_12)) (ds := [7]) (bAr 8 0) (by kernel_rfl) rfl rfl ⟨bC BK310 0, bC BK310 1, bC BK310 2, bC BK310 3, bC BK304 0, bC BK304 1, bC BK304 2, bC BK304 3, bC BK304 4, bC BK304 5, bC BK304 6, bC BK304 7, bC BK304 8, bC BK304 9, bC BK304 10, bC BK304 11, bC BK304 12⟩ (fun hHeld => ?_); refine with_tabW spec_MeaningOf.tab7 spec_MeaningOf.bits7 (fun HT_ HW_ => ?_)
      generalize wr.drew = w26 at HO_311002 HO_311003 BK304 BK305 BK310 HB hHeld ⊢; refine pU 0 29 (bAr 8 1) ?_; refine pU 3 32 (bAr 8 9) ?_
      refine tK 1 30 (bAr 8 11) ?_
      refine tK 2 31 (bAr 8 15) ?_
      refine one_ (i := 4) (N := some 33) (bAr 8 31) rfl rfl (one_of HT_.out (by kernel_rfl)) (by decide) (fun K hK => ?_)
      refine goes_ Try.func117 (by kernel_rfl) rfl #[.agg #[.int .i64 a0_0, .int .i64 a0_1, .int .i64 a0_2, .int .i64 a0_3, .bool a0_4, .slice A0_5 l0_5.length c0_5, .slice A0_6 l0_6.length c0_6, .int .i64 a0_7, .int .i64 a0_8, .int .i64 a0_9, .int .i64 a0_10, .slice A0_11 l0_11.length c0_11, .slice A0_12 l0_12.length c0_12], .int .i64 x5_1] (by rfl) rfl rfl (by (try simp only [List.map_toArray, List.map_cons, List.map_nil]); first | done | rfl | (simp only [List.length_drop, List.length_take]; rfl)) ?_
      with_reducible refine (spec_l18Pixel.calls k1 a0_0 a0_1 a0_2 a0_3 a0_4 _ _ l0_5 _ _ l0_6 a0_7 a0_8 a0_9 a0_10 _ _ l0_11 _ _ l0_12 x5_1 t311 _ ?side1 ?side2 ?side3 ?side4 ?side5 ?side6 ?side7 ?side8 A21.out).mono ?_
      (case side1 => repeat (first | exact (Kd.C_below HR0_5.out HB.out) | (with_reducible refine Kd.C_alloc ?_ _) | (with_reducible refine Kd.C_drewN ?_ _) | (with_reducible refine Kd.C_drew ?_)))
      (case side2 => exact HC0_5.out)
      (case side3 => repeat (first | exact (Kd.C_below HR0_6.out HB.out) | (with_reducible refine Kd.C_alloc ?_ _) | (with_reducible refine Kd.C_drewN ?_ _) | (with_reducible refine Kd.C_drew ?_)))
      (case side4 => exact HC0_6.out)
      (case side5 => repeat (first | exact (Kd.C_below HR0_11.out HB.out) | (with_reducible refine Kd.C_alloc ?_ _) | (with_reducible refine Kd.C_drewN ?_ _) | (with_reducible refine Kd.C_drew ?_)))
      (case side6 => exact HC0_11.out)
      (case side7 => repeat (first | exact (Kd.C_below HR0_12.out HB.out) | (with_reducible refine Kd.C_alloc ?_ _) | (with_reducible refine Kd.C_drewN ?_ _) | (with_reducible refine Kd.C_drew ?_)))
      (case side8 => exact HC0_12.out)
      rintro e w27 ⟨v312, rfl, ho0, hb⟩
      refine ⟨_, rfl, ?_⟩; replace HO_311003 := Kd.wR HO_311003 hb; have HO313 := aM (Kd.R_lower (Kd.R_new' ho0 (Kd.R_lt (Kd.R_i HO_311002.out))) (below_size hB)); replace HO_311002 := aM (Kd.R_elder' (Kd.R_i HO_311002.out) (Kd.R_base ho0) hb); replace BK304 := bW BK304 hb; replace BK305 := bW BK305 hb; replace BK310 := bW BK310 hb; replace HB := hS hb; obtain ⟨Ao29, co29, eo29⟩ := Kd.R_slice HO313.out
      (first | subst eo29 | (injection eo29 with f1_ f2_ f3_; have f4_ := f1_.symm; have f5_ := f3_.symm; clear f1_ f2_ f3_; subst f4_; subst f5_))
      refine hK.out _ _ ⟨bC BK310 0, bC BK310 1, bC BK310 2, bC BK310 3, bC BK304 0, bC BK304 1, bC BK304 2, bC BK304 3, bC BK304 4, bC BK304 5, bC BK304 6, bC BK304 7, bC BK304 8, bC BK304 9, bC BK304 10, bC BK304 11, bC BK304 12⟩ (fun hHeld => ?_); clear hK K
      refine norm_ (a' := ?_) ?_ ?_; rotate_left
      · show Act.put _ (some 33) _ = _
        simp only [Act.put, List.setIfInBounds_toArray, List.set_cons_zero, List.set_cons_succ, i64_w, i32_w]
        rfl
      refine one_ (i := 5) (N := some 34) (bAr 8 63) rfl rfl (one_of HT_.out (by kernel_rfl)) (by decide) (fun K hK => ?_)
      refine Kd.R_append_rows_step (Kd.int .i64) (w0 := w) w.heap.size (by rfl) (.tmp 30) (.tmp 33) 22 3 (.int .i64 0) 8 rfl Try.underlying22 info3 rfl (by decide) (by omega) u311002 x311002_1 t311 _ _ _ (fun k_ => some k_ ≠ (.slice Ao29 t311.length co29 : Value).ownBlock) (fun _ => False) rfl rfl ?aO ?aR (fun _ _ h => h) (fun _ h => h.elim) ?aF ?aB ?aS ?aL ?_
      (case aR => repeat (first | exact (Kd.R_reads' HO313.out).2.2 | (with_reducible refine Kd.C_alloc ?_ _) | (with_reducible refine Kd.C_drewN ?_ _) | (with_reducible refine Kd.C_drew ?_)))
      (case aB => exact hB)
      (case aF => exact (fun k_ hk => Kd.fresh' (Kd.R_lt (Kd.R_i HO313.out)) k_ hk))
      (case aO => exact (Kd.R_i (Kd.R_mono HO_311002.out (fun _ hk => hk.2))))
      (case aS => exact (below_size hB))
      (case aL => have := LMc22.out; omega); intro v315 w28 ho hb hg hat
      rw [← Ny314.out] at ho; replace HO_311003 := aM (Kd.R_over' (Kd.R_i HO_311003.out) (Kd.R_typed (Kd.R_i HO_311002.out)) (by decide) hg); replace BK304 := aM (blk_grown (g := gb304) (o := .cells #[.int .i64 a0_0, .int .i64 a0_1, .int .i64 a0_2, .int .i64 a0_3, .bool a0_4, .slice A0_5 l0_5.length c0_5, .slice A0_6 l0_6.length c0_6, .int .i64 a0_7, .int .i64 a0_8, .int .i64 a0_9, .int .i64 a0_10, .slice A0_11 l0_11.length c0_11, .slice A0_12 l0_12.length c0_12] 74 (0, 0)) (bI BK304.out) hg (Kd.R_ne HO_311002.out BK304.out (by decide))); replace BK305 := aM (blk_grown (g := gb305) (o := .cells #[.int .i64 0, .int .i64 0, .slice none 0 0, .slice none 0 0] 84 (0, 0)) (bI BK305.out) hg (Kd.R_ne HO_311002.out BK305.out (by decide))); replace BK310 := aM (blk_grown (g := gb310) (o := .cells #[.int .i64 a0_0, .int .i64 a0_1, u311002, .slice Ao15 t307.length co15] 84 (0, 0)) (bI BK310.out) hg (Kd.R_ne HO_311002.out BK310.out (by decide))); replace HO313 := aM (Kd.R_after (ok := (fun _ => True)) (Kd.R_i HO313.out) hg hat); replace HB := aM hb; have HO316 := aM ho; clear HO_311002; clear ho hb hg hat; obtain ⟨Ao30, co30, eo30⟩ := Kd.R_slice HO316.out
      (first | subst eo30 | (injection eo30 with f1_ f2_ f3_; have f4_ := f1_.symm; have f5_ := f3_.symm; clear f1_ f2_ f3_; subst f4_; subst f5_))
      refine hK.out _ _ ⟨bC BK310 0, bC BK310 1, bC BK310 2, bC BK310 3, bC BK304 0, bC BK304 1, bC BK304 2, bC BK304 3, bC BK304 4, bC BK304 5, bC BK304 6, bC BK304 7, bC BK304 8, bC BK304 9, bC BK304 10, bC BK304 11, bC BK304 12⟩ (fun hHeld => ?_); clear hK K
      refine norm_ (a' := ?_) ?_ ?_; rotate_left
      · show Act.put _ (some 34) _ = _
        simp only [Act.put, List.setIfInBounds_toArray, List.set_cons_zero, List.set_cons_succ, i64_w, i32_w]
        rfl
      refine pU 6 35 (bAr 8 127) ?_
      refine last_ (i := 7) (N := none) (bAr 8 255) rfl rfl (one_of HT_.out (by kernel_rfl)) (by decide) (fun K hK => ?_); have hs31 : w28.cell? ⟨gb310, 2, none⟩ = some (u311002) := bC BK310 2; have hfs31 := blk_frozen BK310.out 2; have hns31_0 := NB304_310.out; have hns31_1 := NB305_310.out; have hms31_0 := NB310_304.out; have hms31_1 := NB310_305.out
      refine skip_ (w1 := ?_) (by rfl) rfl ?_ ?_; rotate_left
      · go_simp
        rfl
      refine hK.out _ _ ?_; clear hK K
      refine done_ (done_of HT_.out (by kernel_rfl)) ?_
      try go_wp2
      go_roundg k1
      case measure => have := HK1.out; omega
      case rel => exact ⟨(wrap64 (x5_1 + 1)), (y314), (.slice Ao30 y314.length co30), eQ, H', ⟨by have := HK1.out; omega⟩, ⟨Kd.R_i (Kd.R_mono (Kd.R_far (p := ⟨gb310, 2, none⟩) (Kd.R_types HO316.out BK310.out (by decide)) (fun _ hk => hk.2) (.slice Ao30 y314.length co30)) (fun _ hk => trivial))⟩, ⟨Kd.R_i (Kd.R_mono (Kd.R_far (p := ⟨gb310, 2, none⟩) (Kd.R_types HO_311003.out BK310.out (by decide)) (fun _ hk => hk.2) (.slice Ao30 y314.length co30)) (fun _ hk => trivial))⟩, ⟨kB⟩, ⟨kB⟩, ⟨kB⟩, ⟨hB⟩⟩
    · intro H; have c20b0 := decide_eq_false c20; clear c20; simp only [Option.some.injEq, Prod.mk.injEq] at H; obtain ⟨rfl, rfl, rfl, rfl, rfl⟩ := H; have hnb32 := NB310_304.out; have hnc32 := NB304_310.out; have hnb33 := NB310_305.out; have hnc33 := NB305_310.out; have hz34 := bz4 BK310; have hnb35 := NB305_304.out; have hnc35 := NB304_305.out; have hz36 := bz4 BK305; obtain ⟨Ao37, co37, eo37⟩ := Kd.R_slice HO_311002.out; subst eo37; go_wp2
      refine bodyPost_ret (results_ct rfl _ _ gb305 84 #[.int .i64 a0_0, .int .i64 a0_1, .slice Ao37 x311002_1.length co37, .slice Ao15 t307.length co15] (0, 0) _ rfl kB Try.underlying84 rfl (by kernel_rfl)) rfl ?_; exact ⟨_, _, eE, Kd.R_i (Kd.R_mono (Kd.R_far (p := ⟨gb305, 3, none⟩) (Kd.R_far (p := ⟨gb305, 2, none⟩) (Kd.R_far (p := ⟨gb305, 1, none⟩) (Kd.R_far (p := ⟨gb305, 0, none⟩) (Kd.R_types HO_311002.out BK305.out (by decide)) (fun _ hk => hk.2) (.int .i64 a0_0)) (fun _ hk => hk.2) (.int .i64 a0_1)) (fun _ hk => hk.2) (.slice Ao37 x311002_1.length co37)) (fun _ hk => hk.2) (.slice Ao15 t307.length co15)) (fun _ hk => trivial)), Kd.R_i (Kd.R_mono (Kd.R_far (p := ⟨gb305, 3, none⟩) (Kd.R_far (p := ⟨gb305, 2, none⟩) (Kd.R_far (p := ⟨gb305, 1, none⟩) (Kd.R_far (p := ⟨gb305, 0, none⟩) (Kd.R_types HO_311003.out BK305.out (by decide)) (fun _ hk => hk.2) (.int .i64 a0_0)) (fun _ hk => hk.2) (.int .i64 a0_1)) (fun _ hk => hk.2) (.slice Ao37 x311002_1.length co37)) (fun _ hk => hk.2) (.slice Ao15 t307.length co15)) (fun _ hk => trivial)), hB⟩
 · intro H; replace c3 := Bool.eq_false_iff.mpr c3; subst c3; simp only [Option.some.injEq, Prod.mk.injEq] at H; obtain ⟨rfl, rfl, rfl, rfl, rfl⟩ := H; go_enter Try.func49, Try.ntmps49
   go_wp2_with (first | ((with_reducible refine gD 1 ?_); refine bE 1 #[.int .i64 a0_0, .int .i64 a0_1, .int .i64 a0_2, .int .i64 a0_3, .bool a0_4, .slice A0_5 l0_5.length c0_5, .slice A0_6 l0_6.length c0_6, .int .i64 a0_7, .int .i64 a0_8, .int .i64 a0_9, .int .i64 a0_10, .slice A0_11 l0_11.length c0_11, .slice A0_12 l0_12.length c0_12] 74 ?_; intro gb304 hg w38 hbox hb; have BK304 := aM hbox; have GW304 := aM (sZ hg); have GE304 := GW304; replace HB := hS hb; clear hb hbox hg) | ((with_reducible refine gD 2 ?_); refine bE 2 #[.int .i64 0, .int .i64 0, .slice none 0 0, .slice none 0 0] 84 ?_; intro gb305 hg w39 hbox hb; have BK305 := aM hbox; have GW305 := aM (sZ hg); have GE305 := GW305; replace HB := hS hb; have NB304_305 := aM (nL BK304 hg); have NB305_304 := aM (nG BK304 hg); replace BK304 := bW BK304 hb; clear hb hbox hg; have hnb40 := NB304_305.out; have hnc40 := NB305_304.out; have hz41 := bz13 BK304) | ((with_reducible refine gC 40 ?_); refine gL (some 7) Try.func40 #[.agg #[.int .i64 a0_0, .int .i64 a0_1, .int .i64 a0_2, .int .i64 a0_3, .bool a0_4, .slice A0_5 l0_5.length c0_5, .slice A0_6 l0_6.length c0_6, .int .i64 a0_7, .int .i64 a0_8, .int .i64 a0_9, .int .i64 a0_10, .slice A0_11 l0_11.length c0_11, .slice A0_12 l0_12.length c0_12]] ?_; (with_reducible refine (spec_PngOk.calls k a0_0 a0_1 a0_2 a0_3 a0_4 _ _ l0_5 _ _ l0_6 a0_7 a0_8 a0_9 a0_10 _ _ l0_11 _ _ l0_12 false _ (Kd.C_i (Kd.C_below HR0_5.out HB.out)) HC0_5.out (Kd.C_i (Kd.C_below HR0_6.out HB.out)) HC0_6.out (Kd.C_i (Kd.C_below HR0_11.out HB.out)) HC0_11.out (Kd.C_i (Kd.C_below HR0_12.out HB.out)) HC0_12.out A2.out).mono ?_); rintro e w42 ⟨rfl, hb⟩; refine ⟨_, rfl, ?_⟩; replace BK304 := bW BK304 hb; replace BK305 := bW BK305 hb; replace HB := hS hb; clear hb; have hz43 := bz4 BK305))
   refine bodyPost_ret (results_ct rfl _ _ gb305 84 #[.int .i64 0, .int .i64 0, .slice none 0 0, .slice none 0 0] (0, 0) _ rfl kB Try.underlying84 rfl (by kernel_rfl)) rfl ?_; exact ⟨_, _, eE, by first | exact Kd.R_nil _ _ _ _ _ | exact Kd.N_nil _ _ _ _ _ | exact Kd.V_nil _ _ _ _ _ | exact Kd.Q_nil _ _ _ _ _ | exact Kd.S_nil _ _ _ _ _, by first | exact Kd.R_nil _ _ _ _ _ | exact Kd.N_nil _ _ _ _ _ | exact Kd.V_nil _ _ _ _ _ | exact Kd.Q_nil _ _ _ _ _ | exact Kd.S_nil _ _ _ _ _, hB⟩

/-! ### impl_ChannelsOf: function 65 -/
def impl_ChannelsOf.j0 : Nat → Int → Bool → Option (Int)
  | 0, _, _ => none
  | k + 1, x3, x4 => if x4 = true then (some 1) else (if x3 = 4 then (some 2) else (if x3 = 2 then (some 3) else (if x3 = 6 then (some 4) else (some 0))))
def impl_ChannelsOf.f (k : Nat) (a0 : Int) : Option (Int) := if a0 = 0 then (impl_ChannelsOf.j0 k a0 (a0 == 0)) else (impl_ChannelsOf.j0 k a0 (a0 == 3))
set_option maxHeartbeats 8000000 in
set_option maxRecDepth 100000 in
theorem impl_ChannelsOf.calls (k : Nat) (a0 : Int) (r : Int) (w : World) (h : impl_ChannelsOf.f k a0 = some r) :
 Calls Try.prog 65 #[.int .i64 a0] w fun e w' => e = .returned (.int .i64 r) ∧ Drawn0 w w' := by
 have H : (if a0 = 0 then (impl_ChannelsOf.j0 k a0 (a0 == 0)) else (impl_ChannelsOf.j0 k a0 (a0 == 3))) = some r := h; clear h; revert H; refine adR fun HC2 => ?_; go_enter Try.func65, Try.ntmps65
 go_upto_if 4 with (fail)
 go_cut [4] (fun v4 wc => ∃ (kq : Nat) (x4_1 : Bool), v4 = .bool x4_1 ∧ Aside0 (impl_ChannelsOf.j0 kq a0 x4_1 = some r) ∧ Aside0 (kq ≤ k) ∧ Drawn0 w wc)
 case first =>
  revert HC2; refine aoR ?_
  refine ifB (fun c3 => ?_) (fun c3 => ?_)
  · intro H; have c3b0 := beq_iff_eq.mpr c3; have c3b1 := bne_eq_false_iff_eq.mpr c3; clear c3
    (first | rw [c3b0] | (simp only [i64_w, i32_w]; rw [c3b0]) | skip); revert H; refine adR fun H' => ?_; go_wp2; go_meet
    case rel => exact ⟨_, ((a0 == 0)), eQ, H', ⟨lE⟩, dQ⟩
  · intro H; have c3b0 := beq_eq_false_iff_ne.mpr c3; have c3b1 := bne_iff_ne.mpr c3
    (first | rw [c3b0] | (simp only [i64_w, i32_w]; rw [c3b0]) | skip); revert H; refine adR fun H' => ?_; go_wp2; go_meet
    case rel => exact ⟨_, ((a0 == 3)), eQ, H', ⟨lE⟩, dQ⟩
 case rest =>
  clear HC2; (try clear p2); (try clear c3); (try clear c3b0); (try clear c3b1); obtain ⟨kq, x4_1, rfl, HA, HJ1, ⟨mc1, rfl⟩⟩ := hcut; rcases kq with _ | kj1
  · exact absurd HA.out (by simp [impl_ChannelsOf.j0])
  revert HA; refine aoR ?_; intro H; simp only [impl_ChannelsOf.j0] at H; revert H
  refine ifB (fun c4 => ?_) (fun c4 => ?_)
  · intro H; subst c4; obtain rfl := Option.some.inj H; go_wp2; go_ret; exact ⟨eQ, dQ⟩
  · intro H; replace c4 := Bool.eq_false_iff.mpr c4; subst c4; revert H
    refine ifB (fun c5 => ?_) (fun c5 => ?_)
    · intro H; have c5b0 := beq_iff_eq.mpr c5; have c5b1 := bne_eq_false_iff_eq.mpr c5; clear c5; obtain rfl := Option.some.inj H; go_wp2; go_ret; exact ⟨eQ, dQ⟩
    · intro H; have c5b0 := beq_eq_false_iff_ne.mpr c5; have c5b1 := bne_iff_ne.mpr c5; revert H
      refine ifB (fun c6 => ?_) (fun c6 => ?_)
      · intro H; have c6b0 := beq_iff_eq.mpr c6; have c6b1 := bne_eq_false_iff_eq.mpr c6; clear c6; obtain rfl := Option.some.inj H; go_wp2; go_ret; exact ⟨eQ, dQ⟩
      · intro H; have c6b0 := beq_eq_false_iff_ne.mpr c6; have c6b1 := bne_iff_ne.mpr c6; revert H
        refine ifB (fun c7 => ?_) (fun c7 => ?_)
        · intro H; have c7b0 := beq_iff_eq.mpr c7; have c7b1 := bne_eq_false_iff_eq.mpr c7; clear c7; obtain rfl := Option.some.inj H; go_wp2; go_ret; exact ⟨eQ, dQ⟩
        · intro H; have c7b0 := beq_eq_false_iff_ne.mpr c7; have c7b1 := bne_iff_ne.mpr c7; obtain rfl := Option.some.inj H; go_wp2; go_ret; exact ⟨eQ, dQ⟩

/-! ### impl_within: function 82 -/
def impl_within.f (a0 : Int) (a1 : Int) (a2 : Int) : Option (Bool) := if a0 ≥ a1 then (some (decide (a0 ≤ a2))) else (some false)
set_option maxHeartbeats 8000000 in
set_option maxRecDepth 100000 in
theorem impl_within.calls (a0 : Int) (a1 : Int) (a2 : Int) (r : Bool) (w : World) (h : impl_within.f a0 a1 a2 = some r) :
 Calls Try.prog 82 #[.int .i64 a0, .int .i64 a1, .int .i64 a2] w fun e w' => e = .returned (.bool r) ∧ Drawn0 w w' := by
 have H : (if a0 ≥ a1 then (some (decide (a0 ≤ a2))) else (some false)) = some r := h; clear h; revert H
 refine ifB (fun c4 => ?_) (fun c4 => ?_)
 · intro H; have c4b0 := decide_eq_true c4; clear c4; obtain rfl := Option.some.inj H; go_enter Try.func82, Try.ntmps82; go_wp2; go_ret; exact ⟨eQ, dQ⟩
 · intro H; have c4b0 := decide_eq_false c4; clear c4; obtain rfl := Option.some.inj H; go_enter Try.func82, Try.ntmps82; go_wp2; go_ret; exact ⟨eQ, dQ⟩

/-! ### impl_isSide: function 92 -/
def impl_isSide.f (a0 : Int) : Option (Bool) := (impl_within.f a0 1 24).bind fun t317 => (some t317)
set_option maxHeartbeats 8000000 in
set_option maxRecDepth 100000 in
theorem impl_isSide.calls (a0 : Int) (r : Bool) (w : World) (h : impl_isSide.f a0 = some r) :
 Calls Try.prog 92 #[.int .i64 a0] w fun e w' => e = .returned (.bool r) ∧ Drawn0 w w' := by
 have H : ((impl_within.f a0 1 24).bind fun t317 => (some t317)) = some r := h; clear h; revert H; refine bdR fun t317 A2 => ?_; intro H; obtain rfl := Option.some.inj H; go_enter Try.func92, Try.ntmps92
 go_wp2_with (first | ((with_reducible refine gC 82 ?_); refine gL (some 4) Try.func82 #[.int .i64 a0, .int .i64 1, .int .i64 24] ?_; (with_reducible refine (impl_within.calls a0 1 24 t317 _ A2.out).mono ?_); rintro e w' ⟨rfl, ⟨nd, rfl⟩⟩; refine ⟨_, rfl, ?_⟩)); go_ret; exact ⟨eQ, dQ⟩

end Go.Proofs.Ytajnobmnkbkkgaa.PFnExactMeaningOf
