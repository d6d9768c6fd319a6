/- Walks of functions that the law FnExactNoCover reaches: each call comes to what the Lean function of its name tells. Written by p2.py, a program of this session, by way of the kit's print. -/
import Derived.Test.YtajnobmnkbkkgaaVFnExactNoCover
import Derived.Test.YtajnobmnkbkkgaaPFnExactNoCoverx0
import Derived.Test.YtajnobmnkbkkgaaPFnExactNoCoverx10
namespace Go.Proofs.Ytajnobmnkbkkgaa.PFnExactNoCover
open Go.RowKit Go.Proofs.YtajnobmnkbkkgaaW.PrintWords Go.Proofs.YtajnobmnkbkkgaaW.PrintLast Go.Proofs.YtajnobmnkbkkgaaW.PrintMore
attribute [local go_sem] max2_int min2_int max_two min_two max_three min_three max_four min_four   -- for this text's walks alone
set_option linter.unusedVariables false
set_option linter.unusedSimpArgs false

/-! ### impl_RasterOk: function 64 -/
def impl_RasterOk.j0 : Nat → Bool → Int → Int → Int → Int → List Int → Option (Bool)
  | 0, _, _, _, _, _, _ => none
  | k + 1, x20, x342000, x342001, x342002, x342003, x342004 => if x20 = true then (some false) else ((impl_ChannelsOf.f k x342002).bind fun t345 => (if (x342004.length : Int) = (wrap64 ((wrap64 (x342000 * x342001)) * t345)) then ((impl_samplesOk.f k x342004 x342003).bind fun t346 => (some t346)) else (some false)))
def impl_RasterOk.f (k : Nat) (a0_0 : Int) (a0_1 : Int) (a0_2 : Int) (a0_3 : Int) (l0_4 : List Int) : Option (Bool) := (impl_isSide.f a0_0).bind fun t342 => (if t342 = true then ((impl_isSide.f a0_1).bind fun t343 => (if t343 = true then ((impl_DepthOk.f k a0_2 a0_3).bind fun t344 => (impl_RasterOk.j0 k (!t344) a0_0 a0_1 a0_2 a0_3 l0_4)) else (impl_RasterOk.j0 k true a0_0 a0_1 a0_2 a0_3 l0_4))) else (impl_RasterOk.j0 k true a0_0 a0_1 a0_2 a0_3 l0_4))
set_option maxHeartbeats 8000000 in
set_option maxRecDepth 100000 in
theorem impl_RasterOk.calls (k : Nat) (a0_0 : Int) (a0_1 : Int) (a0_2 : Int) (a0_3 : Int) (A0_4 : Option Addr) (c0_4 : Nat) (l0_4 : List Int) (r : Bool) (w : World) (hr0_4 : Kd.C (Kd.int .i64) w A0_4 l0_4.length l0_4) (hc0_4 : l0_4.length ≤ c0_4) (h : impl_RasterOk.f k a0_0 a0_1 a0_2 a0_3 l0_4 = some r) :
 Calls Try.prog 64 #[.agg #[.int .i64 a0_0, .int .i64 a0_1, .int .i64 a0_2, .int .i64 a0_3, .slice A0_4 l0_4.length c0_4]] w fun e w' => e = .returned (.bool r) ∧ Below w.heap.size w w' := by
 have hu29 := Try.underlying29; have HR0_4 := aM hr0_4; have HC0_4 := aM hc0_4; clear hr0_4 hc0_4; have HB := aM (Below.refl w.heap.size w); unfold impl_RasterOk.f at h; have H := h; clear h; revert H; refine adR fun HC2 => ?_; go_enter Try.func64, Try.ntmps64
 go_upto_region 1 with (first | ((with_reducible refine gD 1 ?_); refine bE 1 #[.int .i64 a0_0, .int .i64 a0_1, .int .i64 a0_2, .int .i64 a0_3, .slice A0_4 l0_4.length c0_4] 29 ?_; intro gb341 hg w3 hbox hb; have BK341 := aM hbox; have GW341 := aM (sZ hg); have GE341 := GW341; replace HB := hS hb; clear hb hbox hg))
 repeat (go_quiet (first | ((with_reducible refine gD 1 ?_); refine bE 1 #[.int .i64 a0_0, .int .i64 a0_1, .int .i64 a0_2, .int .i64 a0_3, .slice A0_4 l0_4.length c0_4] 29 ?_; intro gb341 hg w3 hbox hb; have n0_ := hS hb; have n1_ := aM hbox; have n2_ := aM (sZ hg); have n3_ := aM (sZ hg); clear HB; have HB := n0_; have BK341 := n1_; have GW341 := n2_; have GE341 := n3_; clear n0_ n1_ n2_ n3_; clear hb hbox hg)); go_upto_region 1 with (first | ((with_reducible refine gD 1 ?_); refine bE 1 #[.int .i64 a0_0, .int .i64 a0_1, .int .i64 a0_2, .int .i64 a0_3, .slice A0_4 l0_4.length c0_4] 29 ?_; intro gb341 hg w3 hbox hb; have n0_ := hS hb; have n1_ := aM hbox; have n2_ := aM (sZ hg); have n3_ := aM (sZ hg); clear HB; have HB := n0_; have BK341 := n1_; have GW341 := n2_; have GE341 := n3_; clear n0_ n1_ n2_ n3_; clear hb hbox hg)))
 (try simp only [Act.put, List.setIfInBounds_toArray, List.set_cons_zero, List.set_cons_succ])
 go_cut [20] (fun v20 wc => ∃ (kq : Nat) (x20_1 : Bool), v20 = .bool x20_1 ∧ Aside0 (impl_RasterOk.j0 kq x20_1 a0_0 a0_1 a0_2 a0_3 l0_4 = some r) ∧ Aside0 (kq ≤ k) ∧ Aside0 (wc.heap[gb341]? = some (.cells #[.int .i64 a0_0, .int .i64 a0_1, .int .i64 a0_2, .int .i64 a0_3, (.slice A0_4 l0_4.length c0_4)] 29 (0, 0))) ∧ Aside0 (Below w.heap.size w wc))
 case first =>
  revert HC2; refine aoR ?_; refine bdR fun t342 A4 => ?_
  refine ifB (fun c5 => ?_) (fun c5 => ?_)
  · intro H; subst c5; revert H; refine bdR fun t343 A6 => ?_
    refine ifB (fun c7 => ?_) (fun c7 => ?_)
    · intro H; subst c7; revert H; refine bdR fun t344 A8 => ?_; refine adR fun H' => ?_; have hz9 := bz5 BK341
      go_wp2_with (first | (go_at_call 92; (with_reducible refine (impl_isSide.calls a0_0 true _ A4.out).mono ?_); rintro e w' ⟨rfl, ⟨nd, rfl⟩⟩; (try first | exact ⟨rfl, _, World.drewN_drewN _ _ _⟩ | exact ⟨rfl, _, Eq.trans (World.drewN_drewN _ _ _) (congrArg (World.drewN _) (Nat.add_assoc _ _ _))⟩)) | (go_at_call 92; (with_reducible refine (impl_isSide.calls a0_1 true _ A6.out).mono ?_); rintro e w' ⟨rfl, ⟨nd, rfl⟩⟩; (try first | exact ⟨rfl, _, World.drewN_drewN _ _ _⟩ | exact ⟨rfl, _, Eq.trans (World.drewN_drewN _ _ _) (congrArg (World.drewN _) (Nat.add_assoc _ _ _))⟩)) | (go_at_call 114; (with_reducible refine (impl_DepthOk.calls k a0_2 a0_3 t344 _ A8.out).mono ?_); rintro e w' ⟨rfl, ⟨nd, rfl⟩⟩; (try first | exact ⟨rfl, _, World.drewN_drewN _ _ _⟩ | exact ⟨rfl, _, Eq.trans (World.drewN_drewN _ _ _) (congrArg (World.drewN _) (Nat.add_assoc _ _ _))⟩)))
      repeat (go_quiet (first | (go_at_call 92; (with_reducible refine (impl_isSide.calls a0_0 true _ A4.out).mono ?_); rintro e w' ⟨rfl, ⟨nd, rfl⟩⟩; (try first | exact ⟨rfl, _, World.drewN_drewN _ _ _⟩ | exact ⟨rfl, _, Eq.trans (World.drewN_drewN _ _ _) (congrArg (World.drewN _) (Nat.add_assoc _ _ _))⟩)) | (go_at_call 92; (with_reducible refine (impl_isSide.calls a0_1 true _ A6.out).mono ?_); rintro e w' ⟨rfl, ⟨nd, rfl⟩⟩; (try first | exact ⟨rfl, _, World.drewN_drewN _ _ _⟩ | exact ⟨rfl, _, Eq.trans (World.drewN_drewN _ _ _) (congrArg (World.drewN _) (Nat.add_assoc _ _ _))⟩)) | (go_at_call 114; (with_reducible refine (impl_DepthOk.calls k a0_2 a0_3 t344 _ A8.out).mono ?_); rintro e w' ⟨rfl, ⟨nd, rfl⟩⟩; (try first | exact ⟨rfl, _, World.drewN_drewN _ _ _⟩ | exact ⟨rfl, _, Eq.trans (World.drewN_drewN _ _ _) (congrArg (World.drewN _) (Nat.add_assoc _ _ _))⟩))); try go_wp2_with (first | (go_at_call 92; (with_reducible refine (impl_isSide.calls a0_0 true _ A4.out).mono ?_); rintro e w' ⟨rfl, ⟨nd, rfl⟩⟩; (try first | exact ⟨rfl, _, World.drewN_drewN _ _ _⟩ | exact ⟨rfl, _, Eq.trans (World.drewN_drewN _ _ _) (congrArg (World.drewN _) (Nat.add_assoc _ _ _))⟩)) | (go_at_call 92; (with_reducible refine (impl_isSide.calls a0_1 true _ A6.out).mono ?_); rintro e w' ⟨rfl, ⟨nd, rfl⟩⟩; (try first | exact ⟨rfl, _, World.drewN_drewN _ _ _⟩ | exact ⟨rfl, _, Eq.trans (World.drewN_drewN _ _ _) (congrArg (World.drewN _) (Nat.add_assoc _ _ _))⟩)) | (go_at_call 114; (with_reducible refine (impl_DepthOk.calls k a0_2 a0_3 t344 _ A8.out).mono ?_); rintro e w' ⟨rfl, ⟨nd, rfl⟩⟩; (try first | exact ⟨rfl, _, World.drewN_drewN _ _ _⟩ | exact ⟨rfl, _, Eq.trans (World.drewN_drewN _ _ _) (congrArg (World.drewN _) (Nat.add_assoc _ _ _))⟩))))
      go_meet
      case rel => exact ⟨_, (!t344), eQ, H', ⟨lE⟩, ⟨bI BK341.out⟩, ⟨hB⟩⟩
    · intro H; replace c7 := Bool.eq_false_iff.mpr c7; subst c7; revert H; refine adR fun H' => ?_; have hz10 := bz5 BK341
      go_wp2_with (first | (go_at_call 92; (with_reducible refine (impl_isSide.calls a0_0 true _ A4.out).mono ?_); rintro e w' ⟨rfl, ⟨nd, rfl⟩⟩; (try first | exact ⟨rfl, _, World.drewN_drewN _ _ _⟩ | exact ⟨rfl, _, Eq.trans (World.drewN_drewN _ _ _) (congrArg (World.drewN _) (Nat.add_assoc _ _ _))⟩)) | (go_at_call 92; (with_reducible refine (impl_isSide.calls a0_1 false _ A6.out).mono ?_); rintro e w' ⟨rfl, ⟨nd, rfl⟩⟩; (try first | exact ⟨rfl, _, World.drewN_drewN _ _ _⟩ | exact ⟨rfl, _, Eq.trans (World.drewN_drewN _ _ _) (congrArg (World.drewN _) (Nat.add_assoc _ _ _))⟩)))
      repeat (go_quiet (first | (go_at_call 92; (with_reducible refine (impl_isSide.calls a0_0 true _ A4.out).mono ?_); rintro e w' ⟨rfl, ⟨nd, rfl⟩⟩; (try first | exact ⟨rfl, _, World.drewN_drewN _ _ _⟩ | exact ⟨rfl, _, Eq.trans (World.drewN_drewN _ _ _) (congrArg (World.drewN _) (Nat.add_assoc _ _ _))⟩)) | (go_at_call 92; (with_reducible refine (impl_isSide.calls a0_1 false _ A6.out).mono ?_); rintro e w' ⟨rfl, ⟨nd, rfl⟩⟩; (try first | exact ⟨rfl, _, World.drewN_drewN _ _ _⟩ | exact ⟨rfl, _, Eq.trans (World.drewN_drewN _ _ _) (congrArg (World.drewN _) (Nat.add_assoc _ _ _))⟩))); try go_wp2_with (first | (go_at_call 92; (with_reducible refine (impl_isSide.calls a0_0 true _ A4.out).mono ?_); rintro e w' ⟨rfl, ⟨nd, rfl⟩⟩; (try first | exact ⟨rfl, _, World.drewN_drewN _ _ _⟩ | exact ⟨rfl, _, Eq.trans (World.drewN_drewN _ _ _) (congrArg (World.drewN _) (Nat.add_assoc _ _ _))⟩)) | (go_at_call 92; (with_reducible refine (impl_isSide.calls a0_1 false _ A6.out).mono ?_); rintro e w' ⟨rfl, ⟨nd, rfl⟩⟩; (try first | exact ⟨rfl, _, World.drewN_drewN _ _ _⟩ | exact ⟨rfl, _, Eq.trans (World.drewN_drewN _ _ _) (congrArg (World.drewN _) (Nat.add_assoc _ _ _))⟩))))
      go_meet
      case rel => exact ⟨_, (true), eQ, H', ⟨lE⟩, ⟨bI BK341.out⟩, ⟨hB⟩⟩
  · intro H; replace c5 := Bool.eq_false_iff.mpr c5; subst c5; revert H; refine adR fun H' => ?_; have hz11 := bz5 BK341
    go_wp2_with (first | (go_at_call 92; (with_reducible refine (impl_isSide.calls a0_0 false _ A4.out).mono ?_); rintro e w' ⟨rfl, ⟨nd, rfl⟩⟩; (try first | exact ⟨rfl, _, World.drewN_drewN _ _ _⟩ | exact ⟨rfl, _, Eq.trans (World.drewN_drewN _ _ _) (congrArg (World.drewN _) (Nat.add_assoc _ _ _))⟩)))
    repeat (go_quiet (first | (go_at_call 92; (with_reducible refine (impl_isSide.calls a0_0 false _ A4.out).mono ?_); rintro e w' ⟨rfl, ⟨nd, rfl⟩⟩; (try first | exact ⟨rfl, _, World.drewN_drewN _ _ _⟩ | exact ⟨rfl, _, Eq.trans (World.drewN_drewN _ _ _) (congrArg (World.drewN _) (Nat.add_assoc _ _ _))⟩))); try go_wp2_with (first | (go_at_call 92; (with_reducible refine (impl_isSide.calls a0_0 false _ A4.out).mono ?_); rintro e w' ⟨rfl, ⟨nd, rfl⟩⟩; (try first | exact ⟨rfl, _, World.drewN_drewN _ _ _⟩ | exact ⟨rfl, _, Eq.trans (World.drewN_drewN _ _ _) (congrArg (World.drewN _) (Nat.add_assoc _ _ _))⟩))))
    go_meet
    case rel => exact ⟨_, (true), eQ, H', ⟨lE⟩, ⟨bI BK341.out⟩, ⟨hB⟩⟩
 case rest =>
  clear HC2; (try clear p2); (try clear c5); (try clear c6); (try clear c7); (try clear hz10); (try clear hz11); (try clear hz9); obtain ⟨kq, x20_1, rfl, HA, HJ1, BK341, HB⟩ := hcut; rcases kq with _ | kj1
  · exact absurd HA.out (by simp [impl_RasterOk.j0])
  revert HA; refine aoR ?_; intro H; simp only [impl_RasterOk.j0] at H; revert H
  refine ifB (fun c12 => ?_) (fun c12 => ?_)
  · intro H; subst c12; obtain rfl := Option.some.inj H; go_wp2
    repeat (go_quiet (fail); try go_wp2)
    go_ret; exact ⟨eE, hB⟩
  · intro H; replace c12 := Bool.eq_false_iff.mpr c12; subst c12; revert H; refine bdR fun t345 A13 => ?_
    refine ifB (fun c14 => ?_) (fun c14 => ?_)
    · intro H; have c14b0 := beq_iff_eq.mpr c14; have c14b1 := bne_eq_false_iff_eq.mpr c14; clear c14; revert H; refine bdR fun t346 A15 => ?_; intro H; obtain rfl := Option.some.inj H; have hz16 := bz5 BK341
      go_wp2_with (first | (go_at_call 65; (with_reducible refine (impl_ChannelsOf.calls kj1 a0_2 t345 _ A13.out).mono ?_); rintro e w' ⟨rfl, ⟨nd, rfl⟩⟩; (try first | exact ⟨rfl, _, World.drewN_drewN _ _ _⟩ | exact ⟨rfl, _, Eq.trans (World.drewN_drewN _ _ _) (congrArg (World.drewN _) (Nat.add_assoc _ _ _))⟩)) | (go_at_call 139; (with_reducible refine (impl_samplesOk.calls kj1 _ _ l0_4 a0_3 t346 _ ?side1 HC0_4.out A15.out).mono ?_); (case side1 => repeat (first | exact (Kd.C_below HR0_4.out hB) | (with_reducible refine Kd.C_alloc ?_ _) | (with_reducible refine Kd.C_drewN ?_ _) | (with_reducible refine Kd.C_drew ?_))); rintro e w' ⟨rfl, ⟨nd, rfl⟩⟩; (try first | exact ⟨rfl, _, World.drewN_drewN _ _ _⟩ | exact ⟨rfl, _, Eq.trans (World.drewN_drewN _ _ _) (congrArg (World.drewN _) (Nat.add_assoc _ _ _))⟩)))
      repeat (go_quiet (first | (go_at_call 65; (with_reducible refine (impl_ChannelsOf.calls kj1 a0_2 t345 _ A13.out).mono ?_); rintro e w' ⟨rfl, ⟨nd, rfl⟩⟩; (try first | exact ⟨rfl, _, World.drewN_drewN _ _ _⟩ | exact ⟨rfl, _, Eq.trans (World.drewN_drewN _ _ _) (congrArg (World.drewN _) (Nat.add_assoc _ _ _))⟩)) | (go_at_call 139; (with_reducible refine (impl_samplesOk.calls kj1 _ _ l0_4 a0_3 t346 _ ?side1 ?side2 A15.out).mono ?_); (case side1 => repeat (first | exact (Kd.C_below HR0_4.out hB) | (with_reducible refine Kd.C_alloc ?_ _) | (with_reducible refine Kd.C_drewN ?_ _) | (with_reducible refine Kd.C_drew ?_))); (case side2 => exact HC0_4.out); rintro e w' ⟨rfl, ⟨nd, rfl⟩⟩; (try first | exact ⟨rfl, _, World.drewN_drewN _ _ _⟩ | exact ⟨rfl, _, Eq.trans (World.drewN_drewN _ _ _) (congrArg (World.drewN _) (Nat.add_assoc _ _ _))⟩))); try go_wp2_with (first | (go_at_call 65; (with_reducible refine (impl_ChannelsOf.calls kj1 a0_2 t345 _ A13.out).mono ?_); rintro e w' ⟨rfl, ⟨nd, rfl⟩⟩; (try first | exact ⟨rfl, _, World.drewN_drewN _ _ _⟩ | exact ⟨rfl, _, Eq.trans (World.drewN_drewN _ _ _) (congrArg (World.drewN _) (Nat.add_assoc _ _ _))⟩)) | (go_at_call 139; (with_reducible refine (impl_samplesOk.calls kj1 _ _ l0_4 a0_3 t346 _ ?side1 ?side2 A15.out).mono ?_); (case side1 => repeat (first | exact (Kd.C_below HR0_4.out hB) | (with_reducible refine Kd.C_alloc ?_ _) | (with_reducible refine Kd.C_drewN ?_ _) | (with_reducible refine Kd.C_drew ?_))); (case side2 => exact HC0_4.out); rintro e w' ⟨rfl, ⟨nd, rfl⟩⟩; (try first | exact ⟨rfl, _, World.drewN_drewN _ _ _⟩ | exact ⟨rfl, _, Eq.trans (World.drewN_drewN _ _ _) (congrArg (World.drewN _) (Nat.add_assoc _ _ _))⟩))))
      go_ret; exact ⟨eE, hB⟩
    · intro H; have c14b0 := beq_eq_false_iff_ne.mpr c14; have c14b1 := bne_iff_ne.mpr c14; obtain rfl := Option.some.inj H; have hz17 := bz5 BK341
      go_wp2_with (first | (go_at_call 65; (with_reducible refine (impl_ChannelsOf.calls kj1 a0_2 t345 _ A13.out).mono ?_); rintro e w' ⟨rfl, ⟨nd, rfl⟩⟩; (try first | exact ⟨rfl, _, World.drewN_drewN _ _ _⟩ | exact ⟨rfl, _, Eq.trans (World.drewN_drewN _ _ _) (congrArg (World.drewN _) (Nat.add_assoc _ _ _))⟩)))
      repeat (go_quiet (first | (go_at_call 65; (with_reducible refine (impl_ChannelsOf.calls kj1 a0_2 t345 _ A13.out).mono ?_); rintro e w' ⟨rfl, ⟨nd, rfl⟩⟩; (try first | exact ⟨rfl, _, World.drewN_drewN _ _ _⟩ | exact ⟨rfl, _, Eq.trans (World.drewN_drewN _ _ _) (congrArg (World.drewN _) (Nat.add_assoc _ _ _))⟩))); try go_wp2_with (first | (go_at_call 65; (with_reducible refine (impl_ChannelsOf.calls kj1 a0_2 t345 _ A13.out).mono ?_); rintro e w' ⟨rfl, ⟨nd, rfl⟩⟩; (try first | exact ⟨rfl, _, World.drewN_drewN _ _ _⟩ | exact ⟨rfl, _, Eq.trans (World.drewN_drewN _ _ _) (congrArg (World.drewN _) (Nat.add_assoc _ _ _))⟩))))
      go_ret; exact ⟨eE, hB⟩

/-! ### impl_HeadOk: function 73 -/
def impl_HeadOk.f (k : Nat) (a0_0 : Int) (a0_1 : Int) (a0_2 : Int) (a0_3 : Int) (a0_4 : Bool) : Option (Bool) := (impl_isSide.f a0_0).bind fun t348 => (if t348 = true then ((impl_isSide.f a0_1).bind fun t349 => (if t349 = true then ((impl_DepthOk.f k a0_3 a0_2).bind fun t350 => (some t350)) else (some false))) else (some false))
set_option maxHeartbeats 8000000 in
set_option maxRecDepth 100000 in
theorem impl_HeadOk.calls (k : Nat) (a0_0 : Int) (a0_1 : Int) (a0_2 : Int) (a0_3 : Int) (a0_4 : Bool) (r : Bool) (w : World) (h : impl_HeadOk.f k a0_0 a0_1 a0_2 a0_3 a0_4 = some r) :
 Calls Try.prog 73 #[.agg #[.int .i64 a0_0, .int .i64 a0_1, .int .i64 a0_2, .int .i64 a0_3, .bool a0_4]] w fun e w' => e = .returned (.bool r) ∧ Below w.heap.size w w' := by
 have hu39 := Try.underlying39; have HB := aM (Below.refl w.heap.size w); unfold impl_HeadOk.f at h; have H := h; clear h; revert H; refine bdR fun t348 A2 => ?_
 refine ifB (fun c3 => ?_) (fun c3 => ?_)
 · intro H; subst c3; revert H; refine bdR fun t349 A4 => ?_
   refine ifB (fun c5 => ?_) (fun c5 => ?_)
   · intro H; subst c5; revert H; refine bdR fun t350 A6 => ?_; intro H; obtain rfl := Option.some.inj H; go_enter Try.func73, Try.ntmps73
     go_wp2_with (first | ((with_reducible refine gD 1 ?_); refine bE 1 #[.int .i64 a0_0, .int .i64 a0_1, .int .i64 a0_2, .int .i64 a0_3, .bool a0_4] 39 ?_; intro gb347 hg w7 hbox hb; have BK347 := aM hbox; have GW347 := aM (sZ hg); have GE347 := GW347; replace HB := hS hb; clear hb hbox hg; have hz8 := bz5 BK347) | ((with_reducible refine gC 92 ?_); refine gL (some 5) Try.func92 #[.int .i64 a0_0] ?_; (with_reducible refine (impl_isSide.calls a0_0 true _ A2.out).mono ?_); rintro e w' ⟨rfl, ⟨nd, rfl⟩⟩; refine ⟨_, rfl, ?_⟩) | (go_at_call 92; (with_reducible refine (impl_isSide.calls a0_1 true _ A4.out).mono ?_); rintro e w' ⟨rfl, ⟨nd, rfl⟩⟩) | (go_at_call 114; (with_reducible refine (impl_DepthOk.calls k a0_3 a0_2 t350 _ A6.out).mono ?_); rintro e w' ⟨rfl, ⟨nd, rfl⟩⟩)); go_ret; exact ⟨eE, hB⟩
   · intro H; replace c5 := Bool.eq_false_iff.mpr c5; subst c5; obtain rfl := Option.some.inj H; go_enter Try.func73, Try.ntmps73
     go_wp2_with (first | ((with_reducible refine gD 1 ?_); refine bE 1 #[.int .i64 a0_0, .int .i64 a0_1, .int .i64 a0_2, .int .i64 a0_3, .bool a0_4] 39 ?_; intro gb347 hg w9 hbox hb; have BK347 := aM hbox; have GW347 := aM (sZ hg); have GE347 := GW347; replace HB := hS hb; clear hb hbox hg; have hz10 := bz5 BK347) | ((with_reducible refine gC 92 ?_); refine gL (some 5) Try.func92 #[.int .i64 a0_0] ?_; (with_reducible refine (impl_isSide.calls a0_0 true _ A2.out).mono ?_); rintro e w' ⟨rfl, ⟨nd, rfl⟩⟩; refine ⟨_, rfl, ?_⟩) | (go_at_call 92; (with_reducible refine (impl_isSide.calls a0_1 false _ A4.out).mono ?_); rintro e w' ⟨rfl, ⟨nd, rfl⟩⟩)); go_ret; exact ⟨eE, hB⟩
 · intro H; replace c3 := Bool.eq_false_iff.mpr c3; subst c3; obtain rfl := Option.some.inj H; go_enter Try.func73, Try.ntmps73
   go_wp2_with (first | ((with_reducible refine gD 1 ?_); refine bE 1 #[.int .i64 a0_0, .int .i64 a0_1, .int .i64 a0_2, .int .i64 a0_3, .bool a0_4] 39 ?_; intro gb347 hg w11 hbox hb; have BK347 := aM hbox; have GW347 := aM (sZ hg); have GE347 := GW347; replace HB := hS hb; clear hb hbox hg; have hz12 := bz5 BK347) | ((with_reducible refine gC 92 ?_); refine gL (some 5) Try.func92 #[.int .i64 a0_0] ?_; (with_reducible refine (impl_isSide.calls a0_0 false _ A2.out).mono ?_); rintro e w' ⟨rfl, ⟨nd, rfl⟩⟩; refine ⟨_, rfl, ?_⟩)); go_ret; exact ⟨eE, hB⟩

/-! ### impl_ClearOk: function 84 -/
def impl_ClearOk.j0 : Nat → Int → List Int → Int → Int → Int → Int → Int → Bool → Option (Bool)
  | 0, _, _, _, _, _, _, _, _ => none
  | k + 1, x1, x2, x7, x352000, x352001, x352002, x352003, x352004 => if x352003 = 0 then (if (x2.length : Int) = 1 then ((impl_samplesOk.f k x2 x7).bind fun t353 => (some t353)) else (some false)) else (if x352003 = 2 then (if (x2.length : Int) = 3 then ((impl_samplesOk.f k x2 x7).bind fun t354 => (some t354)) else (some false)) else (if x352003 = 3 then (if (x2.length : Int) ≤ x1 then ((impl_samplesOk.f k x2 8).bind fun t355 => (some t355)) else (some false)) else (some false)))
def impl_ClearOk.f (k : Nat) (a0_0 : Int) (a0_1 : Int) (a0_2 : Int) (a0_3 : Int) (a0_4 : Bool) (a1 : Int) (l2 : List Int) : Option (Bool) := if (l2.length : Int) = 0 then (if a0_3 = 3 then (some (decide (a1 ≥ 0))) else (some true)) else ((impl_within.f a0_2 0 16).bind fun t352 => (if t352 = true then (impl_ClearOk.j0 k a1 l2 a0_2 a0_0 a0_1 a0_2 a0_3 a0_4) else (impl_ClearOk.j0 k a1 l2 0 a0_0 a0_1 a0_2 a0_3 a0_4)))
set_option maxHeartbeats 8000000 in
set_option maxRecDepth 100000 in
theorem impl_ClearOk.calls (k : Nat) (a0_0 : Int) (a0_1 : Int) (a0_2 : Int) (a0_3 : Int) (a0_4 : Bool) (a1 : Int) (A2 : Option Addr) (c2 : Nat) (l2 : List Int) (r : Bool) (w : World) (hr2 : Kd.C (Kd.int .i64) w A2 l2.length l2) (hc2 : l2.length ≤ c2) (h : impl_ClearOk.f k a0_0 a0_1 a0_2 a0_3 a0_4 a1 l2 = some r) :
 Calls Try.prog 84 #[.agg #[.int .i64 a0_0, .int .i64 a0_1, .int .i64 a0_2, .int .i64 a0_3, .bool a0_4], .int .i64 a1, .slice A2 l2.length c2] w fun e w' => e = .returned (.bool r) ∧ Below w.heap.size w w' := by
 have hu39 := Try.underlying39; have HR2 := aM hr2; have HC2 := aM hc2; clear hr2 hc2; have HB := aM (Below.refl w.heap.size w); unfold impl_ClearOk.f at h; have H := h; clear h; revert H
 refine ifB (fun c4 => ?_) (fun c4 => ?_)
 · intro H; have c4b0 := beq_iff_eq.mpr c4; have c4b1 := bne_eq_false_iff_eq.mpr c4; clear c4; revert H
   refine ifB (fun c5 => ?_) (fun c5 => ?_)
   · intro H; have c5b0 := beq_iff_eq.mpr c5; have c5b1 := bne_eq_false_iff_eq.mpr c5; clear c5; obtain rfl := Option.some.inj H; go_enter Try.func84, Try.ntmps84
     go_wp2_with (first | ((with_reducible refine gD 3 ?_); refine bE 3 #[.int .i64 a0_0, .int .i64 a0_1, .int .i64 a0_2, .int .i64 a0_3, .bool a0_4] 39 ?_; intro gb351 hg w6 hbox hb; have BK351 := aM hbox; have GW351 := aM (sZ hg); have GE351 := GW351; replace HB := hS hb; clear hb hbox hg; have hz7 := bz5 BK351)); go_ret; exact ⟨eE, hB⟩
   · intro H; have c5b0 := beq_eq_false_iff_ne.mpr c5; have c5b1 := bne_iff_ne.mpr c5; obtain rfl := Option.some.inj H; go_enter Try.func84, Try.ntmps84
     go_wp2_with (first | ((with_reducible refine gD 3 ?_); refine bE 3 #[.int .i64 a0_0, .int .i64 a0_1, .int .i64 a0_2, .int .i64 a0_3, .bool a0_4] 39 ?_; intro gb351 hg w8 hbox hb; have BK351 := aM hbox; have GW351 := aM (sZ hg); have GE351 := GW351; replace HB := hS hb; clear hb hbox hg; have hz9 := bz5 BK351)); go_ret; exact ⟨eE, hB⟩
 · intro H; have c4b0 := beq_eq_false_iff_ne.mpr c4; have c4b1 := bne_iff_ne.mpr c4; have c4b2 : ¬ (l2 = []) := fun h_ => c4 (by rw [h_]; rfl)
   revert H; refine bdR fun t352 A10 => ?_; refine adR fun HC11 => ?_; go_enter Try.func84, Try.ntmps84
   go_upto_if 20 with (first | ((with_reducible refine gD 3 ?_); refine bE 3 #[.int .i64 a0_0, .int .i64 a0_1, .int .i64 a0_2, .int .i64 a0_3, .bool a0_4] 39 ?_; intro gb351 hg w12 hbox hb; have BK351 := aM hbox; have GW351 := aM (sZ hg); have GE351 := GW351; replace HB := hS hb; clear hb hbox hg; have hz13 := bz5 BK351) | ((with_reducible refine gC 82 ?_); refine gL (some 20) Try.func82 #[.int .i64 a0_2, .int .i64 0, .int .i64 16] ?_; (with_reducible refine (impl_within.calls a0_2 0 16 t352 _ A10.out).mono ?_); rintro e w' ⟨rfl, ⟨nd, rfl⟩⟩; refine ⟨_, rfl, ?_⟩))
   (try simp only [Act.put, List.setIfInBounds_toArray, List.set_cons_zero, List.set_cons_succ])
   go_cut [7] (fun v7 wc => ∃ (kq : Nat) (x7_10 : Int), v7 = .int .i64 x7_10 ∧ Aside0 (impl_ClearOk.j0 kq a1 l2 x7_10 a0_0 a0_1 a0_2 a0_3 a0_4 = some r) ∧ Aside0 (kq ≤ k) ∧ Aside0 (wc.heap[gb351]? = some (.cells #[.int .i64 a0_0, .int .i64 a0_1, .int .i64 a0_2, .int .i64 a0_3, .bool a0_4] 39 (0, 0))) ∧ Aside0 (Below w.heap.size w wc))
   case first =>
    revert HC11; refine aoR ?_
    refine ifB (fun c14 => ?_) (fun c14 => ?_)
    · intro H; subst c14; revert H; refine adR fun H' => ?_; have hz15 := bz5 BK351; go_wp2; go_meet
      case rel => exact ⟨_, (a0_2), eQ, H', ⟨lE⟩, ⟨bI BK351.out⟩, ⟨hB⟩⟩
    · intro H; replace c14 := Bool.eq_false_iff.mpr c14; subst c14; revert H; refine adR fun H' => ?_; go_wp2; go_meet
      case rel => exact ⟨_, (0), eQ, H', ⟨lE⟩, ⟨bI BK351.out⟩, ⟨hB⟩⟩
   case rest =>
    clear HC11; (try clear c1); (try clear c2); (try clear p2); (try clear c4); (try clear c4b0); (try clear c4b1); (try clear c4b2); (try clear c5); (try clear c5b0); (try clear c5b1); (try clear c8); (try clear c14); (try clear hz13); (try clear hz15); (try clear hz7); (try clear hz9); obtain ⟨kq, x7_10, rfl, HA, HJ10, BK351, HB⟩ := hcut; rcases kq with _ | kj10
    · exact absurd HA.out (by simp [impl_ClearOk.j0])
    revert HA; refine aoR ?_; intro H; simp only [impl_ClearOk.j0] at H; revert H
    refine ifB (fun c16 => ?_) (fun c16 => ?_)
    · intro H; have c16b0 := beq_iff_eq.mpr c16; have c16b1 := bne_eq_false_iff_eq.mpr c16; clear c16; revert H
      refine ifB (fun c17 => ?_) (fun c17 => ?_)
      · intro H; have c17b0 := beq_iff_eq.mpr c17; have c17b1 := bne_eq_false_iff_eq.mpr c17; clear c17; revert H; refine bdR fun t353 A18 => ?_; intro H; obtain rfl := Option.some.inj H; have hz19 := bz5 BK351
        go_wp2_with (first | (go_at_call 139; (with_reducible refine (impl_samplesOk.calls kj10 _ _ l2 x7_10 t353 _ (Kd.C_i (Kd.C_below HR2.out HB.out)) HC2.out A18.out).mono ?_); rintro e w' ⟨rfl, ⟨nd, rfl⟩⟩)); go_ret; exact ⟨eE, hB⟩
      · intro H; have c17b0 := beq_eq_false_iff_ne.mpr c17; have c17b1 := bne_iff_ne.mpr c17; obtain rfl := Option.some.inj H; have hz20 := bz5 BK351; go_wp2; go_ret; exact ⟨eE, hB⟩
    · intro H; have c16b0 := beq_eq_false_iff_ne.mpr c16; have c16b1 := bne_iff_ne.mpr c16; revert H
      refine ifB (fun c21 => ?_) (fun c21 => ?_)
      · intro H; have c21b0 := beq_iff_eq.mpr c21; have c21b1 := bne_eq_false_iff_eq.mpr c21; clear c21; revert H
        refine ifB (fun c22 => ?_) (fun c22 => ?_)
        · intro H; have c22b0 := beq_iff_eq.mpr c22; have c22b1 := bne_eq_false_iff_eq.mpr c22; clear c22; revert H; refine bdR fun t354 A23 => ?_; intro H; obtain rfl := Option.some.inj H; have hz24 := bz5 BK351
          go_wp2_with (first | (go_at_call 139; (with_reducible refine (impl_samplesOk.calls kj10 _ _ l2 x7_10 t354 _ (Kd.C_i (Kd.C_below HR2.out HB.out)) HC2.out A23.out).mono ?_); rintro e w' ⟨rfl, ⟨nd, rfl⟩⟩)); go_ret; exact ⟨eE, hB⟩
        · intro H; have c22b0 := beq_eq_false_iff_ne.mpr c22; have c22b1 := bne_iff_ne.mpr c22; obtain rfl := Option.some.inj H; have hz25 := bz5 BK351; go_wp2; go_ret; exact ⟨eE, hB⟩
      · intro H; have c21b0 := beq_eq_false_iff_ne.mpr c21; have c21b1 := bne_iff_ne.mpr c21; revert H
        refine ifB (fun c26 => ?_) (fun c26 => ?_)
        · intro H; have c26b0 := beq_iff_eq.mpr c26; have c26b1 := bne_eq_false_iff_eq.mpr c26; clear c26; revert H
          refine ifB (fun c27 => ?_) (fun c27 => ?_)
          · intro H; have c27b0 := decide_eq_true c27; clear c27; revert H; refine bdR fun t355 A28 => ?_; intro H; obtain rfl := Option.some.inj H; have hz29 := bz5 BK351
            go_wp2_with (first | (go_at_call 139; (with_reducible refine (impl_samplesOk.calls kj10 _ _ l2 8 t355 _ (Kd.C_i (Kd.C_below HR2.out HB.out)) HC2.out A28.out).mono ?_); rintro e w' ⟨rfl, ⟨nd, rfl⟩⟩)); go_ret; exact ⟨eE, hB⟩
          · intro H; have c27b0 := decide_eq_false c27; clear c27; obtain rfl := Option.some.inj H; have hz30 := bz5 BK351; go_wp2; go_ret; exact ⟨eE, hB⟩
        · intro H; have c26b0 := beq_eq_false_iff_ne.mpr c26; have c26b1 := bne_iff_ne.mpr c26; obtain rfl := Option.some.inj H; have hz31 := bz5 BK351; go_wp2; go_ret; exact ⟨eE, hB⟩

/-! ### impl_colorOk: function 81 -/
def impl_colorOk.f (a0_0 : Int) (a0_1 : Int) (a0_2 : Int) : Option (Bool) := (impl_within.f a0_0 0 255).bind fun t357 => (if t357 = true then ((impl_within.f a0_1 0 255).bind fun t358 => (if t358 = true then ((impl_within.f a0_2 0 255).bind fun t359 => (some t359)) else (some false))) else (some false))
set_option maxHeartbeats 8000000 in
set_option maxRecDepth 100000 in
theorem impl_colorOk.calls (a0_0 : Int) (a0_1 : Int) (a0_2 : Int) (r : Bool) (w : World) (h : impl_colorOk.f a0_0 a0_1 a0_2 = some r) :
 Calls Try.prog 81 #[.agg #[.int .i64 a0_0, .int .i64 a0_1, .int .i64 a0_2]] w fun e w' => e = .returned (.bool r) ∧ Below w.heap.size w w' := by
 have hu52 := Try.underlying52; have HB := aM (Below.refl w.heap.size w); unfold impl_colorOk.f at h; have H := h; clear h; revert H; refine bdR fun t357 A2 => ?_
 refine ifB (fun c3 => ?_) (fun c3 => ?_)
 · intro H; subst c3; revert H; refine bdR fun t358 A4 => ?_
   refine ifB (fun c5 => ?_) (fun c5 => ?_)
   · intro H; subst c5; revert H; refine bdR fun t359 A6 => ?_; intro H; obtain rfl := Option.some.inj H; go_enter Try.func81, Try.ntmps81
     go_wp2_with (first | ((with_reducible refine gD 1 ?_); refine bE 1 #[.int .i64 a0_0, .int .i64 a0_1, .int .i64 a0_2] 52 ?_; intro gb356 hg w7 hbox hb; have BK356 := aM hbox; have GW356 := aM (sZ hg); have GE356 := GW356; replace HB := hS hb; clear hb hbox hg; have hz8 := bz3 BK356) | ((with_reducible refine gC 82 ?_); refine gL (some 5) Try.func82 #[.int .i64 a0_0, .int .i64 0, .int .i64 255] ?_; (with_reducible refine (impl_within.calls a0_0 0 255 true _ A2.out).mono ?_); rintro e w' ⟨rfl, ⟨nd, rfl⟩⟩; refine ⟨_, rfl, ?_⟩) | (go_at_call 82; (with_reducible refine (impl_within.calls a0_1 0 255 true _ A4.out).mono ?_); rintro e w' ⟨rfl, ⟨nd, rfl⟩⟩) | (go_at_call 82; (with_reducible refine (impl_within.calls a0_2 0 255 t359 _ A6.out).mono ?_); rintro e w' ⟨rfl, ⟨nd, rfl⟩⟩)); go_ret; exact ⟨eE, hB⟩
   · intro H; replace c5 := Bool.eq_false_iff.mpr c5; subst c5; obtain rfl := Option.some.inj H; go_enter Try.func81, Try.ntmps81
     go_wp2_with (first | ((with_reducible refine gD 1 ?_); refine bE 1 #[.int .i64 a0_0, .int .i64 a0_1, .int .i64 a0_2] 52 ?_; intro gb356 hg w9 hbox hb; have BK356 := aM hbox; have GW356 := aM (sZ hg); have GE356 := GW356; replace HB := hS hb; clear hb hbox hg; have hz10 := bz3 BK356) | ((with_reducible refine gC 82 ?_); refine gL (some 5) Try.func82 #[.int .i64 a0_0, .int .i64 0, .int .i64 255] ?_; (with_reducible refine (impl_within.calls a0_0 0 255 true _ A2.out).mono ?_); rintro e w' ⟨rfl, ⟨nd, rfl⟩⟩; refine ⟨_, rfl, ?_⟩) | (go_at_call 82; (with_reducible refine (impl_within.calls a0_1 0 255 false _ A4.out).mono ?_); rintro e w' ⟨rfl, ⟨nd, rfl⟩⟩)); go_ret; exact ⟨eE, hB⟩
 · intro H; replace c3 := Bool.eq_false_iff.mpr c3; subst c3; obtain rfl := Option.some.inj H; go_enter Try.func81, Try.ntmps81
   go_wp2_with (first | ((with_reducible refine gD 1 ?_); refine bE 1 #[.int .i64 a0_0, .int .i64 a0_1, .int .i64 a0_2] 52 ?_; intro gb356 hg w11 hbox hb; have BK356 := aM hbox; have GW356 := aM (sZ hg); have GE356 := GW356; replace HB := hS hb; clear hb hbox hg; have hz12 := bz3 BK356) | ((with_reducible refine gC 82 ?_); refine gL (some 5) Try.func82 #[.int .i64 a0_0, .int .i64 0, .int .i64 255] ?_; (with_reducible refine (impl_within.calls a0_0 0 255 false _ A2.out).mono ?_); rintro e w' ⟨rfl, ⟨nd, rfl⟩⟩; refine ⟨_, rfl, ?_⟩)); go_ret; exact ⟨eE, hB⟩

/-! ### impl_tableOk: function 103 -/
def impl_tableOk.l0 : Nat → List (S52) → List (S52) → Int → Int → Int → Int → Int → Int → Bool → Option (Bool)
  | 0, _, _, _, _, _, _, _, _, _ => none
  | k + 1, x1, x13, x14, x15, x361000, x361001, x361002, x361003, x361004 => if x15 < x14 then (if 0 ≤ x15 then (if x15 < (x13.length : Int) then ((impl_colorOk.f ((rd_T52 x13 x15).f0) ((rd_T52 x13 x15).f1) ((rd_T52 x13 x15).f2)).bind fun t363 => (if t363 = true then (impl_tableOk.l0 k x1 x13 x14 (wrap64 (x15 + 1)) x361000 x361001 x361002 x361003 x361004) else (some false))) else (none)) else (none)) else ((impl_powerOf.f x361002).bind fun t364 => ((impl_within.f (x1.length : Int) 1 t364).bind fun t365 => (some t365)))
def impl_tableOk.f (k : Nat) (a0_0 : Int) (a0_1 : Int) (a0_2 : Int) (a0_3 : Int) (a0_4 : Bool) (l1 : List (S52)) : Option (Bool) := if a0_3 = 3 then (impl_tableOk.l0 k l1 l1 (l1.length : Int) 0 a0_0 a0_1 a0_2 a0_3 a0_4) else (some ((l1.length : Int) == 0))
set_option maxHeartbeats 8000000 in
set_option maxRecDepth 100000 in
theorem impl_tableOk.calls (k : Nat) (a0_0 : Int) (a0_1 : Int) (a0_2 : Int) (a0_3 : Int) (a0_4 : Bool) (A1 : Option Addr) (c1 : Nat) (l1 : List (S52)) (r : Bool) (w : World) (hr1 : Kd.C k52 w A1 l1.length l1) (hc1 : l1.length ≤ c1) (h : impl_tableOk.f k a0_0 a0_1 a0_2 a0_3 a0_4 l1 = some r) :
 Calls Try.prog 103 #[.agg #[.int .i64 a0_0, .int .i64 a0_1, .int .i64 a0_2, .int .i64 a0_3, .bool a0_4], .slice A1 l1.length c1] w fun e w' => e = .returned (.bool r) ∧ Below w.heap.size w w' := by
 have hu39 := Try.underlying39; have hu52 := Try.underlying52; have HR1 := aM hr1; have HC1 := aM hc1; clear hr1 hc1; have HB := aM (Below.refl w.heap.size w); have H : (if a0_3 = 3 then (impl_tableOk.l0 k l1 l1 (l1.length : Int) 0 a0_0 a0_1 a0_2 a0_3 a0_4) else (some ((l1.length : Int) == 0))) = some r := h; clear h; revert H
 refine ifB (fun c3 => ?_) (fun c3 => ?_)
 · intro H; have c3b0 := beq_iff_eq.mpr c3; have c3b1 := bne_eq_false_iff_eq.mpr c3; clear c3; revert H; refine adR fun H' => ?_; go_enter Try.func103, Try.ntmps103
   go_wp2_with (first | ((with_reducible refine gD 2 ?_); refine bE 2 #[.int .i64 a0_0, .int .i64 a0_1, .int .i64 a0_2, .int .i64 a0_3, .bool a0_4] 39 ?_; intro gb360 hg w4 hbox hb; have BK360 := aM hbox; have GW360 := aM (sZ hg); have GE360 := GW360; replace HB := hS hb; clear hb hbox hg; have hz5 := bz5 BK360))
   go_loopg [15] k (fun kq v15 w' => ∃ (x15_1 : Int), v15 = .int .i64 x15_1 ∧ Aside0 (impl_tableOk.l0 kq l1 l1 (l1.length : Int) x15_1 a0_0 a0_1 a0_2 a0_3 a0_4 = some r) ∧ Aside0 (kq ≤ k) ∧ Aside0 (w'.heap[gb360]? = some (.cells #[.int .i64 a0_0, .int .i64 a0_1, .int .i64 a0_2, .int .i64 a0_3, .bool a0_4] 39 (0, 0))) ∧ Aside0 (Below w.heap.size w w'))
   case atStart => exact ⟨(0), eQ, H', ⟨Nat.le_refl _⟩, ⟨bI BK360.out⟩, ⟨hB⟩⟩
   case round =>
    clear H'; (try clear c1); (try clear p2); (try clear c3); (try clear c3b0); (try clear c3b1); (try clear c5); (try clear hz5); obtain ⟨x15_1, rfl, HA, HK1, BK360, HB⟩ := hrel; rcases gk with _ | k1
    · exact absurd HA.out (by simp [impl_tableOk.l0])
    revert HA; refine aoR ?_; intro H; simp only [impl_tableOk.l0] at H; revert H
    refine ifB (fun c6 => ?_) (fun c6 => ?_)
    · intro H; have c6b0 := decide_eq_true c6; clear c6; revert H; refine ifR fun c7 => ?_; intro H; have c7b0 := decide_eq_true c7; clear c7; revert H; refine ifR fun c8 => ?_; intro H; have c8b0 := decide_eq_true c8; clear c8; revert H; refine bdR fun t363 A9 => ?_
      refine ifB (fun c10 => ?_) (fun c10 => ?_)
      · intro H; subst c10; revert H; refine adR fun H' => ?_; have p361 : 0 ≤ (x15_1 : Int) := bD; have q361 : x15_1 < (l1.length : Int) := bD; obtain ⟨ad361, e361, hx361_0, hx361_1, hx361_2⟩ := at_T52 HR1.out x15_1 p361 q361; cases e361; replace hx361_0 := cB0 HB hx361_0; replace hx361_1 := cB0 HB hx361_1; replace hx361_2 := cB0 HB hx361_2; replace p361 := eq_true p361; replace q361 := eq_true q361
        go_wp2_with (first | ((with_reducible refine gD 6 ?_); refine bE 6 #[.int .i64 0, .int .i64 0, .int .i64 0] 52 ?_; intro gb362 hg w11 hbox hb; have BK362 := aM hbox; have GW362 := aM (sZ hg); have GE362 := GW362; replace HB := hS hb; have NB360_362 := aM (nL BK360 hg); have NB362_360 := aM (nG BK360 hg); replace BK360 := bW BK360 hb; clear hb hbox hg; have hnb12 := NB362_360.out; have hnc12 := NB360_362.out; have hz13 := bz3 BK362) | ((with_reducible refine gC 81 ?_); refine gL (some 20) Try.func81 #[.agg #[.int .i64 ((rd_T52 l1 x15_1).f0), .int .i64 ((rd_T52 l1 x15_1).f1), .int .i64 ((rd_T52 l1 x15_1).f2)]] ?_; (with_reducible refine (impl_colorOk.calls ((rd_T52 l1 x15_1).f0) ((rd_T52 l1 x15_1).f1) ((rd_T52 l1 x15_1).f2) true _ A9.out).mono ?_); rintro e w14 ⟨rfl, hb⟩; refine ⟨_, rfl, ?_⟩; have n0_ := aM (blk_below (g := gb360) (o := .cells #[.int .i64 a0_0, .int .i64 a0_1, .int .i64 a0_2, .int .i64 a0_3, .bool a0_4] 39 (0, 0)) kB hb); have n1_ := aM (blk_below (g := gb362) (o := .cells #[.int .i64 ((rd_T52 l1 x15_1).f0), .int .i64 ((rd_T52 l1 x15_1).f1), .int .i64 ((rd_T52 l1 x15_1).f2)] 52 (0, 0)) kB hb); have n2_ := hS hb; clear BK360; clear BK362; clear HB; have BK360 := n0_; have BK362 := n1_; have HB := n2_; clear n0_ n1_ n2_; clear hb)); go_roundg k1
        case measure => have := HK1.out; omega
        case rel => exact ⟨(wrap64 (x15_1 + 1)), eQ, H', ⟨by have := HK1.out; omega⟩, ⟨bI BK360.out⟩, ⟨hB⟩⟩
      · intro H; replace c10 := Bool.eq_false_iff.mpr c10; subst c10; obtain rfl := Option.some.inj H; have p361 : 0 ≤ (x15_1 : Int) := bD; have q361 : x15_1 < (l1.length : Int) := bD; obtain ⟨ad361, e361, hx361_0, hx361_1, hx361_2⟩ := at_T52 HR1.out x15_1 p361 q361; cases e361; replace hx361_0 := cB0 HB hx361_0; replace hx361_1 := cB0 HB hx361_1; replace hx361_2 := cB0 HB hx361_2; replace p361 := eq_true p361; replace q361 := eq_true q361
        go_wp2_with (first | ((with_reducible refine gD 6 ?_); refine bE 6 #[.int .i64 0, .int .i64 0, .int .i64 0] 52 ?_; intro gb362 hg w15 hbox hb; have BK362 := aM hbox; have GW362 := aM (sZ hg); have GE362 := GW362; replace HB := hS hb; have NB360_362 := aM (nL BK360 hg); have NB362_360 := aM (nG BK360 hg); replace BK360 := bW BK360 hb; clear hb hbox hg; have hnb16 := NB362_360.out; have hnc16 := NB360_362.out; have hz17 := bz3 BK362) | ((with_reducible refine gC 81 ?_); refine gL (some 20) Try.func81 #[.agg #[.int .i64 ((rd_T52 l1 x15_1).f0), .int .i64 ((rd_T52 l1 x15_1).f1), .int .i64 ((rd_T52 l1 x15_1).f2)]] ?_; (with_reducible refine (impl_colorOk.calls ((rd_T52 l1 x15_1).f0) ((rd_T52 l1 x15_1).f1) ((rd_T52 l1 x15_1).f2) false _ A9.out).mono ?_); rintro e w18 ⟨rfl, hb⟩; refine ⟨_, rfl, ?_⟩; have n0_ := aM (blk_below (g := gb360) (o := .cells #[.int .i64 a0_0, .int .i64 a0_1, .int .i64 a0_2, .int .i64 a0_3, .bool a0_4] 39 (0, 0)) kB hb); have n1_ := aM (blk_below (g := gb362) (o := .cells #[.int .i64 ((rd_T52 l1 x15_1).f0), .int .i64 ((rd_T52 l1 x15_1).f1), .int .i64 ((rd_T52 l1 x15_1).f2)] 52 (0, 0)) kB hb); have n2_ := hS hb; clear BK360; clear BK362; clear HB; have BK360 := n0_; have BK362 := n1_; have HB := n2_; clear n0_ n1_ n2_; clear hb)); go_ret; exact ⟨eE, hB⟩
    · intro H; have c6b0 := decide_eq_false c6; clear c6; revert H; refine bdR fun t364 A19 => ?_; refine bdR fun t365 A20 => ?_; intro H; obtain rfl := Option.some.inj H; have hz21 := bz5 BK360
      go_wp2_with (first | ((with_reducible refine gC 126 ?_); refine gL (some 27) Try.func126 #[.int .i64 a0_2] ?_; (with_reducible refine (impl_powerOf.calls a0_2 t364 _ A19.out).mono ?_); rintro e w' ⟨rfl, ⟨nd, rfl⟩⟩; refine ⟨_, rfl, ?_⟩) | ((with_reducible refine gC 82 ?_); refine gL (some 28) Try.func82 #[.int .i64 (l1.length : Int), .int .i64 1, .int .i64 t364] ?_; (with_reducible refine (impl_within.calls (l1.length : Int) 1 t364 t365 _ A20.out).mono ?_); rintro e w' ⟨rfl, ⟨nd, rfl⟩⟩; refine ⟨_, rfl, ?_⟩)); go_ret; exact ⟨eE, hB⟩
 · intro H; have c3b0 := beq_eq_false_iff_ne.mpr c3; have c3b1 := bne_iff_ne.mpr c3; obtain rfl := Option.some.inj H; go_enter Try.func103, Try.ntmps103
   go_wp2_with (first | ((with_reducible refine gD 2 ?_); refine bE 2 #[.int .i64 a0_0, .int .i64 a0_1, .int .i64 a0_2, .int .i64 a0_3, .bool a0_4] 39 ?_; intro gb360 hg w22 hbox hb; have BK360 := aM hbox; have GW360 := aM (sZ hg); have GE360 := GW360; replace HB := hS hb; clear hb hbox hg; have hz23 := bz5 BK360)); go_ret; exact ⟨eE, hB⟩

/-! ### impl_isSmall: function 180 -/
def impl_isSmall.f (a0 : Int) : Option (Bool) := (impl_within.f (wrap64 (a0)) 97 122).bind fun t366 => (some t366)
set_option maxHeartbeats 8000000 in
set_option maxRecDepth 100000 in
theorem impl_isSmall.calls (a0 : Int) (r : Bool) (w : World) (h : impl_isSmall.f a0 = some r) :
 Calls Try.prog 180 #[.int .u8 a0] w fun e w' => e = .returned (.bool r) ∧ Drawn0 w w' := by
 have H : ((impl_within.f (wrap64 (a0)) 97 122).bind fun t366 => (some t366)) = some r := h; clear h; revert H; refine bdR fun t366 A2 => ?_; intro H; obtain rfl := Option.some.inj H; go_enter Try.func180, Try.ntmps180
 go_wp2_with (first | ((with_reducible refine gC 82 ?_); refine gL (some 5) Try.func82 #[.int .i64 (wrap64 (a0)), .int .i64 97, .int .i64 122] ?_; (with_reducible refine (impl_within.calls (wrap64 (a0)) 97 122 t366 _ A2.out).mono ?_); rintro e w' ⟨rfl, ⟨nd, rfl⟩⟩; refine ⟨_, rfl, ?_⟩)); go_ret; exact ⟨eQ, dQ⟩

/-! ### impl_isGreat: function 193 -/
def impl_isGreat.f (a0 : Int) : Option (Bool) := (impl_within.f (wrap64 (a0)) 65 90).bind fun t367 => (some t367)
set_option maxHeartbeats 8000000 in
set_option maxRecDepth 100000 in
theorem impl_isGreat.calls (a0 : Int) (r : Bool) (w : World) (h : impl_isGreat.f a0 = some r) :
 Calls Try.prog 193 #[.int .u8 a0] w fun e w' => e = .returned (.bool r) ∧ Drawn0 w w' := by
 have H : ((impl_within.f (wrap64 (a0)) 65 90).bind fun t367 => (some t367)) = some r := h; clear h; revert H; refine bdR fun t367 A2 => ?_; intro H; obtain rfl := Option.some.inj H; go_enter Try.func193, Try.ntmps193
 go_wp2_with (first | ((with_reducible refine gC 82 ?_); refine gL (some 5) Try.func82 #[.int .i64 (wrap64 (a0)), .int .i64 65, .int .i64 90] ?_; (with_reducible refine (impl_within.calls (wrap64 (a0)) 65 90 t367 _ A2.out).mono ?_); rintro e w' ⟨rfl, ⟨nd, rfl⟩⟩; refine ⟨_, rfl, ?_⟩)); go_ret; exact ⟨eQ, dQ⟩

end Go.Proofs.Ytajnobmnkbkkgaa.PFnExactNoCover
