/- The walk of functions that the law FnExactFrameOK uses, written by program. -/
import Derived.Test.YtdojcdhlcnlohaaSFnExactFrameBytesx0
import Derived.Test.YtdojcdhlcnlohaaSFnExactFrameBytesx9
import Derived.Test.YtdojcdhlcnlohaaSFnExactFrameBytesx10
import Derived.Test.YtdojcdhlcnlohaaHalves
import Derived.Test.YtdojcdhlcnlohaaSteps2
namespace Go.Proofs.Ytdojcdhlcnlohaa.SFnExactFrameBytes
open Go.Proofs.Ytdojcdhlcnlohaa.Steps2 Go.RowKit Go.Proofs.YtdojcdhlcnlohaaW.PrintWords Go.Proofs.YtdojcdhlcnlohaaW.PrintLast Go.Proofs.YtdojcdhlcnlohaaW.PrintMore
open Go.Proofs.YtdojcdhlcnlohaaW.PrintWords renaming below_alloc → qh, pw_below_drewN → qi, below_drew1 → qj, below_set → qk, blk_drewN → ql, blk_drew → qn, blk_alloc → qo, blk_put → qp, blk_far → qr, below_size → qs, below_step → qt
open Go.Proofs.YtdojcdhlcnlohaaW.PrintWords.Aside0 renaming mk → qm
attribute [local go_sem] max2_int min2_int max_two min_two max_three min_three max_four min_four 
set_option linter.unusedVariables false
set_option linter.unusedSimpArgs false
/-! ### impl_FrameOK: function 41 -/
mutual
def impl_FrameOK.j0 : Nat → Bool → Int → Int → Int → Int → Bool → List Int → List Int → List (S105) → Bool → Bool → Bool → Bool → Bool → Bool → Option (Bool)
 | 0, _, _, _, _, _, _, _, _, _, _, _, _, _, _, _ => none
 | k + 1, x31, x159000, x159001, x159002, x159003, x159004, x159005, x159006, x159007, x167000, x167001, x167002, x167003, x167004, x167005 => if x31 = true then (some false) else (impl_FrameOK.j1 k ((((((!x167000 && (x159001 != 0)) || (!x167001 && ((x159002 != 0) && (x159000 != 4)))) || (!x167002 && x159004)) || (!x167003 && decide (0 < x159005.length))) || (!x167004 && decide (0 < x159006.length))) || (!x167005 && decide (0 < x159007.length))) x159000 x159001 x159002 x159003 x159004 x159005 x159006 x159007)
def impl_FrameOK.j1 : Nat → Bool → Int → Int → Int → Int → Bool → List Int → List Int → List (S105) → Option (Bool)
 | 0, _, _, _, _, _, _, _, _, _ => none
 | k + 1, x96, x159000, x159001, x159002, x159003, x159004, x159005, x159006, x159007 => if x96 = true then (some false) else (if x159003 = 0 then (impl_FrameOK.j2 k false x159000 x159001 x159002 x159003 x159004 x159005 x159006 x159007) else (impl_FrameOK.j2 k (x159000 != 4) x159000 x159001 x159002 x159003 x159004 x159005 x159006 x159007))
def impl_FrameOK.j2 : Nat → Bool → Int → Int → Int → Int → Bool → List Int → List Int → List (S105) → Option (Bool)
 | 0, _, _, _, _, _, _, _, _, _ => none
 | k + 1, x104, x159000, x159001, x159002, x159003, x159004, x159005, x159006, x159007 => if x104 = true then (some false) else (if x159000 = 0 then (if x159001 ≥ 1 then (some (decide (x159001 ≤ 1500))) else (some false)) else (if x159000 = 2 then (if (x159007.length : Int) > 0 then ((impl_rangesOK.f k x159007).bind fun t170 => (some t170)) else (some false)) else (if x159000 = 6 then (if (x159005.length : Int) ≤ 1500 then (some (decide (x159001 ≤ (wrap64 (4611686018427387903 - (x159005.length : Int)))))) else (some false)) else (if x159000 = 7 then (if (x159005.length : Int) ≥ 1 then (some (decide ((x159005.length : Int) ≤ 64))) else (some false)) else (if x159000 = 8 then (if (x159005.length : Int) ≤ 1500 then (some (decide (x159002 ≤ (wrap64 (4611686018427387903 - (x159005.length : Int)))))) else (some false)) else (if x159000 = 18 then (impl_FrameOK.j3 k (x159005.length : Int) x159000 (x159000 == 18) x159000 x159001 x159002 x159003 x159004 x159005 x159006 x159007) else (impl_FrameOK.j3 k (x159005.length : Int) x159000 (x159000 == 22) x159000 x159001 x159002 x159003 x159004 x159005 x159006 x159007)))))))
def impl_FrameOK.j3 : Nat → Int → Int → Bool → Int → Int → Int → Int → Bool → List Int → List Int → List (S105) → Option (Bool)
 | 0, _, _, _, _, _, _, _, _, _, _, _ => none
 | k + 1, x5, x109, x161, x159000, x159001, x159002, x159003, x159004, x159005, x159006, x159007 => if x161 = true then (if x159001 ≤ 1152921504606846976 then (some (decide (x159002 ≤ 1))) else (some false)) else (if x109 = 24 then (if x159002 ≤ x159001 then (if x5 ≥ 1 then (if x5 ≤ 8 then (some ((x159006.length : Int) == 8)) else (some false)) else (some false)) else (some false)) else (if x109 = 26 then (impl_FrameOK.j4 k x5 x109 (x109 == 26)) else (impl_FrameOK.j4 k x5 x109 (x109 == 27))))
def impl_FrameOK.j4 : Nat → Int → Int → Bool → Option (Bool)
 | 0, _, _, _ => none
 | k + 1, x5, x109, x193 => if x193 = true then (some (x5 == 8)) else (if x109 = 28 then (impl_FrameOK.j5 k x5 x109 (x109 == 28)) else (impl_FrameOK.j5 k x5 x109 (x109 == 29)))
def impl_FrameOK.j5 : Nat → Int → Int → Bool → Option (Bool)
 | 0, _, _, _ => none
 | k + 1, x5, x109, x198 => if x198 = true then (some (decide (x5 ≤ 200))) else (if x109 = 48 then (some (decide (x5 ≤ 1500))) else (some true))
end
def impl_FrameOK.f (k : Nat) (a0_0 : Int) (a0_1 : Int) (a0_2 : Int) (a0_3 : Int) (a0_4 : Bool) (l0_5 : List Int) (l0_6 : List Int) (l0_7 : List (S105)) : Option (Bool) := (impl_shapeOf.f a0_0).bind fun bt159 => (if bt159.2.2.2.2.2.2 = true then ((impl_inVar.f a0_1).bind fun t167 => (if t167 = true then ((impl_inVar.f a0_2).bind fun t168 => (if t168 = true then ((impl_inVar.f a0_3).bind fun t169 => (impl_FrameOK.j0 k (!t169) a0_0 a0_1 a0_2 a0_3 a0_4 l0_5 l0_6 l0_7 bt159.1 bt159.2.1 bt159.2.2.1 bt159.2.2.2.1 bt159.2.2.2.2.1 bt159.2.2.2.2.2.1)) else (impl_FrameOK.j0 k true a0_0 a0_1 a0_2 a0_3 a0_4 l0_5 l0_6 l0_7 bt159.1 bt159.2.1 bt159.2.2.1 bt159.2.2.2.1 bt159.2.2.2.2.1 bt159.2.2.2.2.2.1))) else (impl_FrameOK.j0 k true a0_0 a0_1 a0_2 a0_3 a0_4 l0_5 l0_6 l0_7 bt159.1 bt159.2.1 bt159.2.2.1 bt159.2.2.2.1 bt159.2.2.2.2.1 bt159.2.2.2.2.2.1))) else (impl_FrameOK.j0 k true a0_0 a0_1 a0_2 a0_3 a0_4 l0_5 l0_6 l0_7 bt159.1 bt159.2.1 bt159.2.2.1 bt159.2.2.2.1 bt159.2.2.2.2.1 bt159.2.2.2.2.2.1))
theorem impl_FrameOK.mono_l : ∀ k, (∀ y0 y1 y2 y3 y4 y5 y6 y7 y8 y9 y10 y11 y12 y13 y14, LeO (impl_FrameOK.j0 k y0 y1 y2 y3 y4 y5 y6 y7 y8 y9 y10 y11 y12 y13 y14) (impl_FrameOK.j0 (k + 1) y0 y1 y2 y3 y4 y5 y6 y7 y8 y9 y10 y11 y12 y13 y14)) ∧ (∀ y0 y1 y2 y3 y4 y5 y6 y7 y8, LeO (impl_FrameOK.j1 k y0 y1 y2 y3 y4 y5 y6 y7 y8) (impl_FrameOK.j1 (k + 1) y0 y1 y2 y3 y4 y5 y6 y7 y8)) ∧ (∀ y0 y1 y2 y3 y4 y5 y6 y7 y8, LeO (impl_FrameOK.j2 k y0 y1 y2 y3 y4 y5 y6 y7 y8) (impl_FrameOK.j2 (k + 1) y0 y1 y2 y3 y4 y5 y6 y7 y8)) ∧ (∀ y0 y1 y2 y3 y4 y5 y6 y7 y8 y9 y10, LeO (impl_FrameOK.j3 k y0 y1 y2 y3 y4 y5 y6 y7 y8 y9 y10) (impl_FrameOK.j3 (k + 1) y0 y1 y2 y3 y4 y5 y6 y7 y8 y9 y10)) ∧ (∀ y0 y1 y2, LeO (impl_FrameOK.j4 k y0 y1 y2) (impl_FrameOK.j4 (k + 1) y0 y1 y2)) ∧ (∀ y0 y1 y2, LeO (impl_FrameOK.j5 k y0 y1 y2) (impl_FrameOK.j5 (k + 1) y0 y1 y2))
 | 0 => ⟨fun _ _ _ _ _ _ _ _ _ _ _ _ _ _ _ r h => by simp [impl_FrameOK.j0] at h, fun _ _ _ _ _ _ _ _ _ r h => by simp [impl_FrameOK.j1] at h, fun _ _ _ _ _ _ _ _ _ r h => by simp [impl_FrameOK.j2] at h, fun _ _ _ _ _ _ _ _ _ _ _ r h => by simp [impl_FrameOK.j3] at h, fun _ _ _ r h => by simp [impl_FrameOK.j4] at h, fun _ _ _ r h => by simp [impl_FrameOK.j5] at h⟩
 | k + 1 => by
  obtain ⟨ih0, ih1, ih2, ih3, ih4, ih5⟩ := impl_FrameOK.mono_l k
  refine ⟨?_, ?_, ?_, ?_, ?_, ?_⟩
  ·intro y0 y1 y2 y3 y4 y5 y6 y7 y8 y9 y10 y11 y12 y13 y14
   unfold impl_FrameOK.j0
   repeat' first
   | (with_reducible apply ih0)
   | (with_reducible apply ih1)
   | (with_reducible apply ih2)
   | (with_reducible apply ih3)
   | (with_reducible apply ih4)
   | (with_reducible apply ih5)
   | (with_reducible apply impl_rangesOK.mono)
   | (with_reducible exact LeO.refl _)
   | (with_reducible exact LeO.none _)
   | (with_reducible refine LeO.ite ?_ ?_)
   | (with_reducible refine LeO.bind ?_ (fun _ => ?_))
  ·intro y0 y1 y2 y3 y4 y5 y6 y7 y8
   unfold impl_FrameOK.j1
   repeat' first
   | (with_reducible apply ih0)
   | (with_reducible apply ih1)
   | (with_reducible apply ih2)
   | (with_reducible apply ih3)
   | (with_reducible apply ih4)
   | (with_reducible apply ih5)
   | (with_reducible apply impl_rangesOK.mono)
   | (with_reducible exact LeO.refl _)
   | (with_reducible exact LeO.none _)
   | (with_reducible refine LeO.ite ?_ ?_)
   | (with_reducible refine LeO.bind ?_ (fun _ => ?_))
  ·intro y0 y1 y2 y3 y4 y5 y6 y7 y8
   unfold impl_FrameOK.j2
   repeat' first
   | (with_reducible apply ih0)
   | (with_reducible apply ih1)
   | (with_reducible apply ih2)
   | (with_reducible apply ih3)
   | (with_reducible apply ih4)
   | (with_reducible apply ih5)
   | (with_reducible apply impl_rangesOK.mono)
   | (with_reducible exact LeO.refl _)
   | (with_reducible exact LeO.none _)
   | (with_reducible refine LeO.ite ?_ ?_)
   | (with_reducible refine LeO.bind ?_ (fun _ => ?_))
  ·intro y0 y1 y2 y3 y4 y5 y6 y7 y8 y9 y10
   unfold impl_FrameOK.j3
   repeat' first
   | (with_reducible apply ih0)
   | (with_reducible apply ih1)
   | (with_reducible apply ih2)
   | (with_reducible apply ih3)
   | (with_reducible apply ih4)
   | (with_reducible apply ih5)
   | (with_reducible apply impl_rangesOK.mono)
   | (with_reducible exact LeO.refl _)
   | (with_reducible exact LeO.none _)
   | (with_reducible refine LeO.ite ?_ ?_)
   | (with_reducible refine LeO.bind ?_ (fun _ => ?_))
  ·intro y0 y1 y2
   unfold impl_FrameOK.j4
   repeat' first
   | (with_reducible apply ih0)
   | (with_reducible apply ih1)
   | (with_reducible apply ih2)
   | (with_reducible apply ih3)
   | (with_reducible apply ih4)
   | (with_reducible apply ih5)
   | (with_reducible apply impl_rangesOK.mono)
   | (with_reducible exact LeO.refl _)
   | (with_reducible exact LeO.none _)
   | (with_reducible refine LeO.ite ?_ ?_)
   | (with_reducible refine LeO.bind ?_ (fun _ => ?_))
  ·intro y0 y1 y2
   unfold impl_FrameOK.j5
   repeat' first
   | (with_reducible apply ih0)
   | (with_reducible apply ih1)
   | (with_reducible apply ih2)
   | (with_reducible apply ih3)
   | (with_reducible apply ih4)
   | (with_reducible apply ih5)
   | (with_reducible apply impl_rangesOK.mono)
   | (with_reducible exact LeO.refl _)
   | (with_reducible exact LeO.none _)
   | (with_reducible refine LeO.ite ?_ ?_)
   | (with_reducible refine LeO.bind ?_ (fun _ => ?_))
theorem impl_FrameOK.mono : ∀ a0 a1 a2 a3 a4 a5 a6 a7 k, LeO (impl_FrameOK.f k a0 a1 a2 a3 a4 a5 a6 a7) (impl_FrameOK.f (k + 1) a0 a1 a2 a3 a4 a5 a6 a7) := by
 intro a0 a1 a2 a3 a4 a5 a6 a7 k
 obtain ⟨ih0, ih1, ih2, ih3, ih4, ih5⟩ := impl_FrameOK.mono_l k
 unfold impl_FrameOK.f
 repeat' first
   | (with_reducible apply ih0)
   | (with_reducible apply ih1)
   | (with_reducible apply ih2)
   | (with_reducible apply ih3)
   | (with_reducible apply ih4)
   | (with_reducible apply ih5)
   | (with_reducible apply impl_rangesOK.mono)
   | (with_reducible exact LeO.refl _)
   | (with_reducible exact LeO.none _)
   | (with_reducible refine LeO.ite ?_ ?_)
   | (with_reducible refine LeO.bind ?_ (fun _ => ?_))
set_option maxHeartbeats 80000000 in
set_option maxRecDepth 100000 in
theorem impl_FrameOK.calls (k : Nat) (a0_0 : Int) (a0_1 : Int) (a0_2 : Int) (a0_3 : Int) (a0_4 : Bool) (A0_5 : Option Addr) (c0_5 : Nat) (l0_5 : List Int) (A0_6 : Option Addr) (c0_6 : Nat) (l0_6 : List Int) (A0_7 : Option Addr) (c0_7 : Nat) (l0_7 : List (S105)) (r : Bool) (w : World) (hr0_5 : Kd.C (Kd.int .u8) w A0_5 l0_5.length l0_5) (hc0_5 : l0_5.length ≤ c0_5) (hr0_6 : Kd.C (Kd.int .u8) w A0_6 l0_6.length l0_6) (hc0_6 : l0_6.length ≤ c0_6) (hr0_7 : Kd.C k105 w A0_7 l0_7.length l0_7) (hc0_7 : l0_7.length ≤ c0_7) (h : impl_FrameOK.f k a0_0 a0_1 a0_2 a0_3 a0_4 l0_5 l0_6 l0_7 = some r) :
  Calls Try.prog 41 #[.agg #[.int .i64 a0_0, .int .i64 a0_1, .int .i64 a0_2, .int .i64 a0_3, .bool a0_4, .slice A0_5 l0_5.length c0_5, .slice A0_6 l0_6.length c0_6, .slice A0_7 l0_7.length c0_7]] w fun e w' => e = .returned (.bool r) ∧ Below w.heap.size w w' := by
 have hu55 := Try.underlying55
 have hu84 := Try.underlying84
 have HR0_5 := qm hr0_5
 have HC0_5 := qm hc0_5
 clear hr0_5 hc0_5
 have HR0_6 := qm hr0_6
 have HC0_6 := qm hc0_6
 clear hr0_6 hc0_6
 have HR0_7 := qm hr0_7
 have HC0_7 := qm hc0_7
 clear hr0_7 hc0_7
 have HB := qm (Below.refl w.heap.size w)
 have H : ((impl_shapeOf.f a0_0).bind fun bt159 => (if bt159.2.2.2.2.2.2 = true then ((impl_inVar.f a0_1).bind fun t167 => (if t167 = true then ((impl_inVar.f a0_2).bind fun t168 => (if t168 = true then ((impl_inVar.f a0_3).bind fun t169 => (impl_FrameOK.j0 k (!t169) a0_0 a0_1 a0_2 a0_3 a0_4 l0_5 l0_6 l0_7 bt159.1 bt159.2.1 bt159.2.2.1 bt159.2.2.2.1 bt159.2.2.2.2.1 bt159.2.2.2.2.2.1)) else (impl_FrameOK.j0 k true a0_0 a0_1 a0_2 a0_3 a0_4 l0_5 l0_6 l0_7 bt159.1 bt159.2.1 bt159.2.2.1 bt159.2.2.2.1 bt159.2.2.2.2.1 bt159.2.2.2.2.2.1))) else (impl_FrameOK.j0 k true a0_0 a0_1 a0_2 a0_3 a0_4 l0_5 l0_6 l0_7 bt159.1 bt159.2.1 bt159.2.2.1 bt159.2.2.2.1 bt159.2.2.2.2.1 bt159.2.2.2.2.2.1))) else (impl_FrameOK.j0 k true a0_0 a0_1 a0_2 a0_3 a0_4 l0_5 l0_6 l0_7 bt159.1 bt159.2.1 bt159.2.2.1 bt159.2.2.2.1 bt159.2.2.2.2.1 bt159.2.2.2.2.2.1))) = some r := h
 clear h
 replace H := Option.bind_eq_some_iff.mp H
 obtain ⟨⟨t159, t160, t161, t162, t163, t164, t165⟩, A20, H⟩ := H
 try dsimp only at H
 have A2 := qm A20
 clear A20
 have HC3 := qm H
 clear H
 go_enter Try.func41, Try.ntmps41
 go_upto_region 2 with (first | ((with_reducible refine gate_dst (N := 1) rfl ?_); (try (refine gate_guard (by rfl) ?_; dsimp only)); refine box_event (by rfl) (N := 1) (by rfl) (cs := #[.int .i64 a0_0, .int .i64 a0_1, .int .i64 a0_2, .int .i64 a0_3, .bool a0_4, .slice A0_5 l0_5.length c0_5, .slice A0_6 l0_6.length c0_6, .slice A0_7 l0_7.length c0_7]) (t := 55) (by first | (go_simp; done) | (go_simp; rfl)) ?_; intro gb158 hg w4 hbox hb; have n0_ := qm (qt HB.out hb); have n1_ := qm (hbox); have n2_ := qm ((by rw [hg]; exact (qs HB.out) : w.heap.size ≤ gb158)); have n3_ := qm ((by rw [hg]; exact (qs HB.out) : w.heap.size ≤ gb158)); clear HB; have HB := n0_; have BK158 := n1_; have GW158 := n2_; have GE158 := n3_; clear hb hbox hg; obtain ⟨_, _, _, _, _, _, _, _, _, _, _, _, _, _, _, _⟩ := fc8 BK158.out) | ((with_reducible refine gate_callee (f := 72) rfl ?_); refine goesL_ (some 9) rfl rfl Try.func72 (by kernel_rfl) rfl #[.int .i64 a0_0] rfl (by (try simp only [m1, m2, m3]); first | done | rfl) ?_; (with_reducible refine (impl_shapeOf.calls a0_0 t159 t160 t161 t162 t163 t164 t165 _ A2.out).mono ?_); rintro e w6 ⟨rfl, hb⟩; refine ⟨_, rfl, ?_⟩; have n0_ := qm (blk_below (g := gb158) BK158.out hb); have n1_ := qm (qt HB.out hb); clear BK158; clear HB; have BK158 := n0_; have HB := n1_) | ((with_reducible refine gate_dst (N := 3) rfl ?_); (try (refine gate_guard (by rfl) ?_; dsimp only)); refine box_event (by rfl) (N := 3) (by rfl) (cs := #[.bool false, .bool false, .bool false, .bool false, .bool false, .bool false]) (t := 84) (by first | (go_simp; done) | (go_simp; rfl)) ?_; intro gb166 hg w7 hbox hb; have n0_ := qm (blk_below (g := gb158) BK158.out hb); have n1_ := qm (qt HB.out hb); have n2_ := qm (hbox); have n3_ := qm ((by rw [hg]; exact (qs HB.out) : w.heap.size ≤ gb166)); have n4_ := qm ((by rw [hg]; exact (qs HB.out) : w.heap.size ≤ gb166)); have n5_ := qm ((by rw [hg]; exact Nat.ne_of_lt (blk_lt (g := gb158) (o := .cells #[.int .i64 a0_0, .int .i64 a0_1, .int .i64 a0_2, .int .i64 a0_3, .bool a0_4, .slice A0_5 l0_5.length c0_5, .slice A0_6 l0_6.length c0_6, .slice A0_7 l0_7.length c0_7] 55 (0, 0)) BK158.out) : gb158 ≠ gb166)); have n6_ := qm ((by rw [hg]; exact Nat.ne_of_gt (blk_lt (g := gb158) (o := .cells #[.int .i64 a0_0, .int .i64 a0_1, .int .i64 a0_2, .int .i64 a0_3, .bool a0_4, .slice A0_5 l0_5.length c0_5, .slice A0_6 l0_6.length c0_6, .slice A0_7 l0_7.length c0_7] 55 (0, 0)) BK158.out) : gb166 ≠ gb158)); clear BK158; clear HB; have BK158 := n0_; have HB := n1_; have BK166 := n2_; have GW166 := n3_; have GE166 := n4_; have NB158_166 := n5_; have NB166_158 := n6_; clear hb hbox hg; have hnb8 := NB166_158.out; have hnc8 := NB158_166.out; obtain ⟨_, _, _, _, _, _, _, _, _, _, _, _⟩ := fc6 BK166.out))
 (try simp only [Act.put, s1, s2, s3])
 go_cut [31] (fun v31 wc => ∃ (kq : Nat) (x31_2 : Bool), v31 = .bool x31_2 ∧ Aside0 (impl_FrameOK.j0 kq x31_2 a0_0 a0_1 a0_2 a0_3 a0_4 l0_5 l0_6 l0_7 t159 t160 t161 t162 t163 t164 = some r) ∧ Aside0 (kq ≤ k) ∧ Aside0 (wc.heap[gb158]? = some (.cells #[.int .i64 a0_0, .int .i64 a0_1, .int .i64 a0_2, .int .i64 a0_3, .bool a0_4, (.slice A0_5 l0_5.length c0_5), (.slice A0_6 l0_6.length c0_6), (.slice A0_7 l0_7.length c0_7)] 55 (0, 0))) ∧ Aside0 (wc.heap[gb166]? = some (.cells #[.bool t159, .bool t160, .bool t161, .bool t162, .bool t163, .bool t164] 84 (0, 0))) ∧ Aside0 (Below w.heap.size w wc))
 case first =>
  have H := HC3.out
  clear HC3
  by_cases c10 : t165 = true
  ·subst c10
   rw [if_pos rfl] at H
   replace H := Option.bind_eq_some_iff.mp H
   obtain ⟨t167, A110, H⟩ := H
   try dsimp only at H
   have A11 := qm A110
   clear A110
   by_cases c12 : t167 = true
   ·subst c12
    rw [if_pos rfl] at H
    replace H := Option.bind_eq_some_iff.mp H
    obtain ⟨t168, A130, H⟩ := H
    try dsimp only at H
    have A13 := qm A130
    clear A130
    by_cases c14 : t168 = true
    ·subst c14
     rw [if_pos rfl] at H
     replace H := Option.bind_eq_some_iff.mp H
     obtain ⟨t169, A150, H⟩ := H
     try dsimp only at H
     have A15 := qm A150
     clear A150
     have H' := qm H
     clear H
     have hnb16 := NB158_166.out
     have hnc16 := NB166_158.out
     obtain ⟨_, _, _, _, _, _, _, _, _, _, _, _, _, _, _, _⟩ := fc8 BK158.out
     go_wp2_with (first | (go_at_call 58; (with_reducible refine (impl_inVar.calls a0_1 true _ A11.out).mono ?_); rintro e w' ⟨rfl, ⟨nd, rfl⟩⟩) | (go_at_call 58; (with_reducible refine (impl_inVar.calls a0_2 true _ A13.out).mono ?_); rintro e w' ⟨rfl, ⟨nd, rfl⟩⟩) | (go_at_call 58; (with_reducible refine (impl_inVar.calls a0_3 t169 _ A15.out).mono ?_); rintro e w' ⟨rfl, ⟨nd, rfl⟩⟩))
     go_meet
     case rel => exact ⟨_, (!t169), rfl, H', ⟨by first | omega | exact Nat.le_refl _⟩, ⟨by (with_reducible repeat (first | refine ql ?_ _ | refine qn ?_ | refine qo ?_ _)); refine qr ?_ NB158_166.out _; refine qr ?_ NB158_166.out _; refine qr ?_ NB158_166.out _; refine qr ?_ NB158_166.out _; refine qr ?_ NB158_166.out _; refine qr ?_ NB158_166.out _; (with_reducible repeat (first | refine ql ?_ _ | refine qn ?_ | refine qo ?_ _)); exact BK158.out⟩, ⟨by (with_reducible repeat (first | refine ql ?_ _ | refine qn ?_ | refine qo ?_ _)); refine qp (cs := #[.bool t159, .bool t160, .bool t161, .bool t162, .bool t163, .bool false]) ?_ 5 _ rfl; refine qp (cs := #[.bool t159, .bool t160, .bool t161, .bool t162, .bool false, .bool false]) ?_ 4 _ rfl; refine qp (cs := #[.bool t159, .bool t160, .bool t161, .bool false, .bool false, .bool false]) ?_ 3 _ rfl; refine qp (cs := #[.bool t159, .bool t160, .bool false, .bool false, .bool false, .bool false]) ?_ 2 _ rfl; refine qp (cs := #[.bool t159, .bool false, .bool false, .bool false, .bool false, .bool false]) ?_ 1 _ rfl; refine qp (cs := #[.bool false, .bool false, .bool false, .bool false, .bool false, .bool false]) ?_ 0 _ rfl; (with_reducible repeat (first | refine ql ?_ _ | refine qn ?_ | refine qo ?_ _)); exact BK166.out⟩, ⟨by repeat (first | (with_reducible first | exact HB.out | apply qh | apply qi | apply qj | refine qk ?_ GE158.out | refine qk ?_ GE166.out) | exact HB.out)⟩⟩
    replace c14 := Bool.eq_false_iff.mpr c14
    subst c14
    rw [if_neg nt] at H
    have H' := qm H
    clear H
    have hnb18 := NB158_166.out
    have hnc18 := NB166_158.out
    obtain ⟨_, _, _, _, _, _, _, _, _, _, _, _, _, _, _, _⟩ := fc8 BK158.out
    go_wp2_with (first | (go_at_call 58; (with_reducible refine (impl_inVar.calls a0_1 true _ A11.out).mono ?_); rintro e w' ⟨rfl, ⟨nd, rfl⟩⟩) | (go_at_call 58; (with_reducible refine (impl_inVar.calls a0_2 false _ A13.out).mono ?_); rintro e w' ⟨rfl, ⟨nd, rfl⟩⟩))
    go_meet
    case rel => exact ⟨_, (true), rfl, H', ⟨by first | omega | exact Nat.le_refl _⟩, ⟨by (with_reducible repeat (first | refine ql ?_ _ | refine qn ?_ | refine qo ?_ _)); refine qr ?_ NB158_166.out _; refine qr ?_ NB158_166.out _; refine qr ?_ NB158_166.out _; refine qr ?_ NB158_166.out _; refine qr ?_ NB158_166.out _; refine qr ?_ NB158_166.out _; (with_reducible repeat (first | refine ql ?_ _ | refine qn ?_ | refine qo ?_ _)); exact BK158.out⟩, ⟨by (with_reducible repeat (first | refine ql ?_ _ | refine qn ?_ | refine qo ?_ _)); refine qp (cs := #[.bool t159, .bool t160, .bool t161, .bool t162, .bool t163, .bool false]) ?_ 5 _ rfl; refine qp (cs := #[.bool t159, .bool t160, .bool t161, .bool t162, .bool false, .bool false]) ?_ 4 _ rfl; refine qp (cs := #[.bool t159, .bool t160, .bool t161, .bool false, .bool false, .bool false]) ?_ 3 _ rfl; refine qp (cs := #[.bool t159, .bool t160, .bool false, .bool false, .bool false, .bool false]) ?_ 2 _ rfl; refine qp (cs := #[.bool t159, .bool false, .bool false, .bool false, .bool false, .bool false]) ?_ 1 _ rfl; refine qp (cs := #[.bool false, .bool false, .bool false, .bool false, .bool false, .bool false]) ?_ 0 _ rfl; (with_reducible repeat (first | refine ql ?_ _ | refine qn ?_ | refine qo ?_ _)); exact BK166.out⟩, ⟨by repeat (first | (with_reducible first | exact HB.out | apply qh | apply qi | apply qj | refine qk ?_ GE158.out | refine qk ?_ GE166.out) | exact HB.out)⟩⟩
   replace c12 := Bool.eq_false_iff.mpr c12
   subst c12
   rw [if_neg nt] at H
   have H' := qm H
   clear H
   have hnb20 := NB158_166.out
   have hnc20 := NB166_158.out
   obtain ⟨_, _, _, _, _, _, _, _, _, _, _, _, _, _, _, _⟩ := fc8 BK158.out
   go_wp2_with (first | (go_at_call 58; (with_reducible refine (impl_inVar.calls a0_1 false _ A11.out).mono ?_); rintro e w' ⟨rfl, ⟨nd, rfl⟩⟩))
   go_meet
   case rel => exact ⟨_, (true), rfl, H', ⟨by first | omega | exact Nat.le_refl _⟩, ⟨by (with_reducible repeat (first | refine ql ?_ _ | refine qn ?_ | refine qo ?_ _)); refine qr ?_ NB158_166.out _; refine qr ?_ NB158_166.out _; refine qr ?_ NB158_166.out _; refine qr ?_ NB158_166.out _; refine qr ?_ NB158_166.out _; refine qr ?_ NB158_166.out _; (with_reducible repeat (first | refine ql ?_ _ | refine qn ?_ | refine qo ?_ _)); exact BK158.out⟩, ⟨by (with_reducible repeat (first | refine ql ?_ _ | refine qn ?_ | refine qo ?_ _)); refine qp (cs := #[.bool t159, .bool t160, .bool t161, .bool t162, .bool t163, .bool false]) ?_ 5 _ rfl; refine qp (cs := #[.bool t159, .bool t160, .bool t161, .bool t162, .bool false, .bool false]) ?_ 4 _ rfl; refine qp (cs := #[.bool t159, .bool t160, .bool t161, .bool false, .bool false, .bool false]) ?_ 3 _ rfl; refine qp (cs := #[.bool t159, .bool t160, .bool false, .bool false, .bool false, .bool false]) ?_ 2 _ rfl; refine qp (cs := #[.bool t159, .bool false, .bool false, .bool false, .bool false, .bool false]) ?_ 1 _ rfl; refine qp (cs := #[.bool false, .bool false, .bool false, .bool false, .bool false, .bool false]) ?_ 0 _ rfl; (with_reducible repeat (first | refine ql ?_ _ | refine qn ?_ | refine qo ?_ _)); exact BK166.out⟩, ⟨by repeat (first | (with_reducible first | exact HB.out | apply qh | apply qi | apply qj | refine qk ?_ GE158.out | refine qk ?_ GE166.out) | exact HB.out)⟩⟩
  replace c10 := Bool.eq_false_iff.mpr c10
  subst c10
  rw [if_neg nt] at H
  have H' := qm H
  clear H
  go_wp2
  try any_goals (exfalso; rename_i x_ b_ h1_ h2_; exact absurd (show (some undef : Option Value) = some (Value.bool b_) from h1_) (by simp [undef]))
  go_meet
  case rel => exact ⟨_, (true), rfl, H', ⟨by first | omega | exact Nat.le_refl _⟩, ⟨by (with_reducible repeat (first | refine ql ?_ _ | refine qn ?_ | refine qo ?_ _)); refine qr ?_ NB158_166.out _; refine qr ?_ NB158_166.out _; refine qr ?_ NB158_166.out _; refine qr ?_ NB158_166.out _; refine qr ?_ NB158_166.out _; refine qr ?_ NB158_166.out _; (with_reducible repeat (first | refine ql ?_ _ | refine qn ?_ | refine qo ?_ _)); exact BK158.out⟩, ⟨by (with_reducible repeat (first | refine ql ?_ _ | refine qn ?_ | refine qo ?_ _)); refine qp (cs := #[.bool t159, .bool t160, .bool t161, .bool t162, .bool t163, .bool false]) ?_ 5 _ rfl; refine qp (cs := #[.bool t159, .bool t160, .bool t161, .bool t162, .bool false, .bool false]) ?_ 4 _ rfl; refine qp (cs := #[.bool t159, .bool t160, .bool t161, .bool false, .bool false, .bool false]) ?_ 3 _ rfl; refine qp (cs := #[.bool t159, .bool t160, .bool false, .bool false, .bool false, .bool false]) ?_ 2 _ rfl; refine qp (cs := #[.bool t159, .bool false, .bool false, .bool false, .bool false, .bool false]) ?_ 1 _ rfl; refine qp (cs := #[.bool false, .bool false, .bool false, .bool false, .bool false, .bool false]) ?_ 0 _ rfl; (with_reducible repeat (first | refine ql ?_ _ | refine qn ?_ | refine qo ?_ _)); exact BK166.out⟩, ⟨by repeat (first | (with_reducible first | exact HB.out | apply qh | apply qi | apply qj | refine qk ?_ GE158.out | refine qk ?_ GE166.out) | exact HB.out)⟩⟩
 clear HC3
 obtain ⟨kq, x31_2, rfl, HA, HJ2, BK158, BK166, HB⟩ := hcut
 cases kq with
 | zero => exact absurd HA.out (by simp [impl_FrameOK.j0])
 | succ kj2 => ?_
 have H := HA.out
 clear HA
 simp only [impl_FrameOK.j0] at H
 by_cases c22 : x31_2 = true
 ·subst c22
  rw [if_pos rfl] at H
  obtain rfl := Option.some.inj H
  go_wp2
  try any_goals (exfalso; rename_i x_ b_ h1_ h2_; exact absurd (show (some undef : Option Value) = some (Value.bool b_) from h1_) (by simp [undef]))
  go_ret
  exact ⟨by first | rfl | (simp <;> rfl) | (simp [*] <;> rfl), by repeat (first | (with_reducible first | exact HB.out | apply qh | apply qi | apply qj | refine qk ?_ GE158.out | refine qk ?_ GE166.out) | exact HB.out)⟩
 replace c22 := Bool.eq_false_iff.mpr c22
 subst c22
 rw [if_neg nt] at H
 have HC23 := qm H
 clear H
 go_upto_region 4 with (fail)
 go_cut [96] (fun v96 wc => ∃ (kq : Nat) (x96_22 : Bool), v96 = .bool x96_22 ∧ Aside0 (impl_FrameOK.j1 kq x96_22 a0_0 a0_1 a0_2 a0_3 a0_4 l0_5 l0_6 l0_7 = some r) ∧ Aside0 (kq ≤ kj2) ∧ Aside0 (wc.heap[gb158]? = some (.cells #[.int .i64 a0_0, .int .i64 a0_1, .int .i64 a0_2, .int .i64 a0_3, .bool a0_4, (.slice A0_5 l0_5.length c0_5), (.slice A0_6 l0_6.length c0_6), (.slice A0_7 l0_7.length c0_7)] 55 (0, 0))) ∧ Aside0 (wc.heap[gb166]? = some (.cells #[.bool t159, .bool t160, .bool t161, .bool t162, .bool t163, .bool t164] 84 (0, 0))) ∧ Aside0 (Below w.heap.size w wc))
 case first =>
  have hnb30 := NB166_158.out
  have hnc30 := NB158_166.out
  obtain ⟨_, _, _, _, _, _, _, _, _, _, _, _⟩ := fc6 BK166.out
  obtain ⟨_, _, _, _, _, _, _, _, _, _, _, _, _, _, _, _⟩ := fc8 BK158.out
  go_step
  refine wpList_halves 8 (fun a_ a' w' => ∃ v32 v33 v34 v35 v36 v37 v38 v39 : Value, (∃ x1 : Bool, v39 = .bool x1 ∧ Aside0 (x1 = (!t159 && (a0_1 != 0))) ∧ wc = w') ∧ a' = ((((((((a_.put (some 32) v32).put (some 33) v33).put (some 34) v34).put (some 35) v35).put (some 36) v36).put (some 37) v37).put (some 38) v38).put (some 39) v39)) ?_ ?_
  ·as_aux_lemma =>
   intro Q_ J_ hJ_ hQ_ hL_
   dsimp only [List.take, List.append, HAppend.hAppend, Append.append]
   cases t159
   all_goals go_wp2
   all_goals (refine Met.intro (hJ_ _ _ ?_); simp only [Act.put, s1, s2, s3]; (repeat apply Exists.intro); refine ⟨?_, rfl⟩)
   all_goals exact ⟨_, rfl, ⟨by simp⟩, by first | rfl | trivial⟩
  rintro a' w' ⟨v32, v33, v34, v35, v36, v37, v38, v39, ⟨x1, rfl, X1, rfl⟩, rfl⟩
  simp only [Act.put, s1, s2, s3]
  dsimp only [List.drop, List.append, HAppend.hAppend, Append.append]
  refine wpList_halves 15 (fun a_ a' w' => ∃ v40 v41 v42 v43 v44 v45 v46 v47 v48 v49 v50 v51 v52 v53 v54 : Value, (∃ x2 : Bool, v54 = .bool x2 ∧ Aside0 (x2 = (x1 || (!t160 && ((a0_2 != 0) && (a0_0 != 4))))) ∧ wc = w') ∧ a' = (((((((((((((((a_.put (some 40) v40).put (some 41) v41).put (some 42) v42).put (some 43) v43).put (some 44) v44).put (some 45) v45).put (some 46) v46).put (some 47) v47).put (some 48) v48).put (some 49) v49).put (some 50) v50).put (some 51) v51).put (some 52) v52).put (some 53) v53).put (some 54) v54)) ?_ ?_
  ·as_aux_lemma =>
   intro Q_ J_ hJ_ hQ_ hL_
   dsimp only [List.take, List.append, HAppend.hAppend, Append.append]
   cases x1
   all_goals cases t160
   all_goals by_cases c_ : a0_2 = 0
   all_goals first | (have c1_ : (a0_2 == 0) = true := beq_iff_eq.mpr c_; have c2_ : (a0_2 != 0) = false := bne_eq_false_iff_eq.mpr c_; clear c_) | (have c1_ : (a0_2 == 0) = false := beq_eq_false_iff_ne.mpr c_; have c2_ : (a0_2 != 0) = true := bne_iff_ne.mpr c_; clear c_)
   all_goals go_wp2
   all_goals (refine Met.intro (hJ_ _ _ ?_); simp only [Act.put, s1, s2, s3]; (repeat apply Exists.intro); refine ⟨?_, rfl⟩)
   all_goals exact ⟨_, rfl, ⟨by simp [c1_, c2_]⟩, by first | rfl | trivial⟩
  rintro a' w' ⟨v40, v41, v42, v43, v44, v45, v46, v47, v48, v49, v50, v51, v52, v53, v54, ⟨x2, rfl, X2, rfl⟩, rfl⟩
  simp only [Act.put, s1, s2, s3]
  dsimp only [List.drop, List.append, HAppend.hAppend, Append.append]
  refine wpList_halves 9 (fun a_ a' w' => ∃ v55 v56 v57 v58 v59 v60 v61 v62 v63 : Value, (∃ x3 : Bool, v63 = .bool x3 ∧ Aside0 (x3 = (x2 || (!t161 && a0_4))) ∧ wc = w') ∧ a' = (((((((((a_.put (some 55) v55).put (some 56) v56).put (some 57) v57).put (some 58) v58).put (some 59) v59).put (some 60) v60).put (some 61) v61).put (some 62) v62).put (some 63) v63)) ?_ ?_
  ·as_aux_lemma =>
   intro Q_ J_ hJ_ hQ_ hL_
   dsimp only [List.take, List.append, HAppend.hAppend, Append.append]
   cases x2
   all_goals cases t161
   all_goals go_wp2
   all_goals (refine Met.intro (hJ_ _ _ ?_); simp only [Act.put, s1, s2, s3]; (repeat apply Exists.intro); refine ⟨?_, rfl⟩)
   all_goals exact ⟨_, rfl, ⟨by simp⟩, by first | rfl | trivial⟩
  rintro a' w' ⟨v55, v56, v57, v58, v59, v60, v61, v62, v63, ⟨x3, rfl, X3, rfl⟩, rfl⟩
  simp only [Act.put, s1, s2, s3]
  dsimp only [List.drop, List.append, HAppend.hAppend, Append.append]
  refine wpList_halves 11 (fun a_ a' w' => ∃ v64 v65 v66 v67 v68 v69 v70 v71 v72 v73 v74 : Value, (∃ x4 : Bool, v74 = .bool x4 ∧ Aside0 (x4 = (x3 || (!t162 && decide (0 < l0_5.length)))) ∧ wc = w') ∧ a' = (((((((((((a_.put (some 64) v64).put (some 65) v65).put (some 66) v66).put (some 67) v67).put (some 68) v68).put (some 69) v69).put (some 70) v70).put (some 71) v71).put (some 72) v72).put (some 73) v73).put (some 74) v74)) ?_ ?_
  ·as_aux_lemma =>
   intro Q_ J_ hJ_ hQ_ hL_
   dsimp only [List.take, List.append, HAppend.hAppend, Append.append]
   cases x3
   all_goals cases t162
   all_goals go_wp2
   all_goals (refine Met.intro (hJ_ _ _ ?_); simp only [Act.put, s1, s2, s3]; (repeat apply Exists.intro); refine ⟨?_, rfl⟩)
   all_goals exact ⟨_, rfl, ⟨by simp⟩, by first | rfl | trivial⟩
  rintro a' w' ⟨v64, v65, v66, v67, v68, v69, v70, v71, v72, v73, v74, ⟨x4, rfl, X4, rfl⟩, rfl⟩
  simp only [Act.put, s1, s2, s3]
  dsimp only [List.drop, List.append, HAppend.hAppend, Append.append]
  refine wpList_halves 11 (fun a_ a' w' => ∃ v75 v76 v77 v78 v79 v80 v81 v82 v83 v84 v85 : Value, (∃ x5 : Bool, v85 = .bool x5 ∧ Aside0 (x5 = (x4 || (!t163 && decide (0 < l0_6.length)))) ∧ wc = w') ∧ a' = (((((((((((a_.put (some 75) v75).put (some 76) v76).put (some 77) v77).put (some 78) v78).put (some 79) v79).put (some 80) v80).put (some 81) v81).put (some 82) v82).put (some 83) v83).put (some 84) v84).put (some 85) v85)) ?_ ?_
  ·as_aux_lemma =>
   intro Q_ J_ hJ_ hQ_ hL_
   dsimp only [List.take, List.append, HAppend.hAppend, Append.append]
   cases x4
   all_goals cases t163
   all_goals go_wp2
   all_goals (refine Met.intro (hJ_ _ _ ?_); simp only [Act.put, s1, s2, s3]; (repeat apply Exists.intro); refine ⟨?_, rfl⟩)
   all_goals exact ⟨_, rfl, ⟨by simp⟩, by first | rfl | trivial⟩
  rintro a' w' ⟨v75, v76, v77, v78, v79, v80, v81, v82, v83, v84, v85, ⟨x5, rfl, X5, rfl⟩, rfl⟩
  simp only [Act.put, s1, s2, s3]
  dsimp only [List.drop, List.append, HAppend.hAppend, Append.append]
  refine wpList_halves 11 (fun a_ a' w' => ∃ v86 v87 v88 v89 v90 v91 v92 v93 v94 v95 v96 : Value, (∃ x6 : Bool, v96 = .bool x6 ∧ Aside0 (x6 = (x5 || (!t164 && decide (0 < l0_7.length)))) ∧ wc = w') ∧ a' = (((((((((((a_.put (some 86) v86).put (some 87) v87).put (some 88) v88).put (some 89) v89).put (some 90) v90).put (some 91) v91).put (some 92) v92).put (some 93) v93).put (some 94) v94).put (some 95) v95).put (some 96) v96)) ?_ ?_
  ·as_aux_lemma =>
   intro Q_ J_ hJ_ hQ_ hL_
   dsimp only [List.take, List.append, HAppend.hAppend, Append.append]
   cases x5
   all_goals cases t164
   all_goals go_wp2
   all_goals (refine Met.intro (hJ_ _ _ ?_); simp only [Act.put, s1, s2, s3]; (repeat apply Exists.intro); refine ⟨?_, rfl⟩)
   all_goals exact ⟨_, rfl, ⟨by simp⟩, by first | rfl | trivial⟩
  rintro a' w' ⟨v86, v87, v88, v89, v90, v91, v92, v93, v94, v95, v96, ⟨x6, rfl, X6, rfl⟩, rfl⟩
  simp only [Act.put, s1, s2, s3]
  dsimp only [List.drop, List.append, HAppend.hAppend, Append.append]
  go_wp2
  go_meet
  case rel => exact ⟨_, x6, rfl, ⟨by rw [X6.out, X5.out, X4.out, X3.out, X2.out, X1.out]; exact HC23.out⟩, ⟨by have := HJ2.out; omega⟩, ⟨BK158.out⟩, ⟨BK166.out⟩, ⟨HB.out⟩⟩
 clear HC23
 obtain ⟨kq, x96_22, rfl, HA, HJ22, BK158, BK166, HB⟩ := hcut
 cases kq with
 | zero => exact absurd HA.out (by simp [impl_FrameOK.j1])
 | succ kj22 => ?_
 have H := HA.out
 clear HA
 simp only [impl_FrameOK.j1] at H
 by_cases c586 : x96_22 = true
 ·subst c586
  rw [if_pos rfl] at H
  obtain rfl := Option.some.inj H
  go_wp2
  try any_goals (exfalso; rename_i x_ b_ h1_ h2_; exact absurd (show (some undef : Option Value) = some (Value.bool b_) from h1_) (by simp [undef]))
  go_ret
  exact ⟨by first | rfl | (simp <;> rfl) | (simp [*] <;> rfl), by repeat (first | (with_reducible first | exact HB.out | apply qh | apply qi | apply qj | refine qk ?_ GE158.out | refine qk ?_ GE166.out) | exact HB.out)⟩
 replace c586 := Bool.eq_false_iff.mpr c586
 subst c586
 rw [if_neg nt] at H
 have HC587 := qm H
 clear H
 go_upto_region 6 with (fail)
 go_cut [104] (fun v104 wc => ∃ (kq : Nat) (x104_586 : Bool), v104 = .bool x104_586 ∧ Aside0 (impl_FrameOK.j2 kq x104_586 a0_0 a0_1 a0_2 a0_3 a0_4 l0_5 l0_6 l0_7 = some r) ∧ Aside0 (kq ≤ kj22) ∧ Aside0 (wc.heap[gb158]? = some (.cells #[.int .i64 a0_0, .int .i64 a0_1, .int .i64 a0_2, .int .i64 a0_3, .bool a0_4, (.slice A0_5 l0_5.length c0_5), (.slice A0_6 l0_6.length c0_6), (.slice A0_7 l0_7.length c0_7)] 55 (0, 0))) ∧ Aside0 (wc.heap[gb166]? = some (.cells #[.bool t159, .bool t160, .bool t161, .bool t162, .bool t163, .bool t164] 84 (0, 0))) ∧ Aside0 (Below w.heap.size w wc))
 case first =>
  have H := HC587.out
  clear HC587
  by_cases c588 : a0_3 = 0
  ·rw [if_pos c588] at H
   have c588b0 : (a0_3 == 0) = true := beq_iff_eq.mpr c588
   have c588b1 : (a0_3 != 0) = false := bne_eq_false_iff_eq.mpr c588
   clear c588
   (first | rw [c588b0] | (simp only [i64_w, i32_w]; rw [c588b0]) | skip)
   have H' := qm H
   clear H
   have hnb589 := NB158_166.out
   have hnc589 := NB166_158.out
   obtain ⟨_, _, _, _, _, _, _, _, _, _, _, _, _, _, _, _⟩ := fc8 BK158.out
   go_wp2
   try any_goals (exfalso; rename_i x_ b_ h1_ h2_; exact absurd (show (some undef : Option Value) = some (Value.bool b_) from h1_) (by simp [undef]))
   go_meet
   case rel => exact ⟨_, (false), rfl, H', ⟨by have := HJ2.out; have := HJ22.out; omega⟩, ⟨BK158.out⟩, ⟨BK166.out⟩, ⟨by repeat (first | (with_reducible first | exact HB.out | apply qh | apply qi | apply qj | refine qk ?_ GE158.out | refine qk ?_ GE166.out) | exact HB.out)⟩⟩
  rw [if_neg c588] at H
  have c588b0 : (a0_3 == 0) = false := beq_eq_false_iff_ne.mpr c588
  have c588b1 : (a0_3 != 0) = true := bne_iff_ne.mpr c588
  clear c588
  (first | rw [c588b0] | (simp only [i64_w, i32_w]; rw [c588b0]) | skip)
  have H' := qm H
  clear H
  have hnb591 := NB158_166.out
  have hnc591 := NB166_158.out
  obtain ⟨_, _, _, _, _, _, _, _, _, _, _, _, _, _, _, _⟩ := fc8 BK158.out
  go_wp2
  try any_goals (exfalso; rename_i x_ b_ h1_ h2_; exact absurd (show (some undef : Option Value) = some (Value.bool b_) from h1_) (by simp [undef]))
  go_meet
  case rel => exact ⟨_, ((a0_0 != 4)), rfl, H', ⟨by have := HJ2.out; have := HJ22.out; omega⟩, ⟨BK158.out⟩, ⟨BK166.out⟩, ⟨by repeat (first | (with_reducible first | exact HB.out | apply qh | apply qi | apply qj | refine qk ?_ GE158.out | refine qk ?_ GE166.out) | exact HB.out)⟩⟩
 clear HC587
 try clear c586
 obtain ⟨kq, x104_586, rfl, HA, HJ586, BK158, BK166, HB⟩ := hcut
 cases kq with
 | zero => exact absurd HA.out (by simp [impl_FrameOK.j2])
 | succ kj586 => ?_
 have H := HA.out
 clear HA
 simp only [impl_FrameOK.j2] at H
 by_cases c593 : x104_586 = true
 ·subst c593
  rw [if_pos rfl] at H
  obtain rfl := Option.some.inj H
  as_aux_lemma =>
   go_wp2
   try any_goals (exfalso; rename_i x_ b_ h1_ h2_; exact absurd (show (some undef : Option Value) = some (Value.bool b_) from h1_) (by simp [undef]))
   go_ret
   exact ⟨by first | rfl | (simp <;> rfl) | (simp [*] <;> rfl), by repeat (first | (with_reducible first | exact HB.out | apply qh | apply qi | apply qj | refine qk ?_ GE158.out | refine qk ?_ GE166.out) | exact HB.out)⟩
 replace c593 := Bool.eq_false_iff.mpr c593
 subst c593
 rw [if_neg nt] at H
 have hnbq := NB158_166.out
 have hncq := NB166_158.out
 obtain ⟨_, _, _, _, _, _, _, _, _, _, _, _, _, _, _, _⟩ := fc8 BK158.out
 go_upto_if 110 with (fail)
 by_cases c594 : a0_0 = 0
 ·rw [if_pos c594] at H
  have c594b0 : (a0_0 == 0) = true := beq_iff_eq.mpr c594
  have c594b1 : (a0_0 != 0) = false := bne_eq_false_iff_eq.mpr c594
  (first | rw [c594b0] | skip)
  clear c594
  by_cases c595 : a0_1 ≥ 1
  ·rw [if_pos c595] at H
   have c595b0 : decide (1 ≤ a0_1) = true := decide_eq_true c595
   clear c595
   obtain rfl := Option.some.inj H
   as_aux_lemma =>
    have hnb596 := NB158_166.out
    have hnc596 := NB166_158.out
    obtain ⟨_, _, _, _, _, _, _, _, _, _, _, _, _, _, _, _⟩ := fc8 BK158.out
    go_wp2
    try any_goals (exfalso; rename_i x_ b_ h1_ h2_; exact absurd (show (some undef : Option Value) = some (Value.bool b_) from h1_) (by simp [undef]))
    go_ret
    exact ⟨by first | rfl | (simp <;> rfl) | (simp [*] <;> rfl), by repeat (first | (with_reducible first | exact HB.out | apply qh | apply qi | apply qj | refine qk ?_ GE158.out | refine qk ?_ GE166.out) | exact HB.out)⟩
  rw [if_neg c595] at H
  have c595b0 : decide (1 ≤ a0_1) = false := decide_eq_false c595
  clear c595
  obtain rfl := Option.some.inj H
  as_aux_lemma =>
   have hnb598 := NB158_166.out
   have hnc598 := NB166_158.out
   obtain ⟨_, _, _, _, _, _, _, _, _, _, _, _, _, _, _, _⟩ := fc8 BK158.out
   go_wp2
   try any_goals (exfalso; rename_i x_ b_ h1_ h2_; exact absurd (show (some undef : Option Value) = some (Value.bool b_) from h1_) (by simp [undef]))
   go_ret
   exact ⟨by first | rfl | (simp <;> rfl) | (simp [*] <;> rfl), by repeat (first | (with_reducible first | exact HB.out | apply qh | apply qi | apply qj | refine qk ?_ GE158.out | refine qk ?_ GE166.out) | exact HB.out)⟩
 rw [if_neg c594] at H
 have c594b0 : (a0_0 == 0) = false := beq_eq_false_iff_ne.mpr c594
 have c594b1 : (a0_0 != 0) = true := bne_iff_ne.mpr c594
 (first | rw [c594b0] | skip)
 clear c594
 go_upto_if 120 with (fail)
 by_cases c600 : a0_0 = 2
 ·rw [if_pos c600] at H
  have c600b0 : (a0_0 == 2) = true := beq_iff_eq.mpr c600
  have c600b1 : (a0_0 != 2) = false := bne_eq_false_iff_eq.mpr c600
  (first | rw [c600b0] | skip)
  clear c600
  by_cases c601 : (l0_7.length : Int) > 0
  ·rw [if_pos c601] at H
   have c601b0 : decide (0 < (l0_7.length : Int)) = true := decide_eq_true c601
   have c601b1 : decide (0 < l0_7.length) = true := decide_eq_true (by omega)
   clear c601
   replace H := Option.bind_eq_some_iff.mp H
   obtain ⟨t170, A6020, H⟩ := H
   replace H : (some t170) = some r := H
   have A602 := qm A6020
   clear A6020
   obtain rfl := Option.some.inj H
   as_aux_lemma =>
    have hnb603 := NB158_166.out
    have hnc603 := NB166_158.out
    obtain ⟨_, _, _, _, _, _, _, _, _, _, _, _, _, _, _, _⟩ := fc8 BK158.out
    go_wp2_with (first | (go_at_call 77; (with_reducible refine (impl_rangesOK.calls kj586 _ _ l0_7 t170 _ ?side1 ?side2 A602.out).mono ?_); (case side1 => repeat (first | exact (Kd.C_below HR0_7.out HB.out) | (with_reducible refine Kd.C_alloc ?_ _) | (with_reducible refine Kd.C_drewN ?_ _) | (with_reducible refine Kd.C_drew ?_))); (case side2 => exact HC0_7.out); rintro e w605 ⟨rfl, hb⟩; have n0_ := qm (blk_below (g := gb158) BK158.out hb); have n1_ := qm (blk_below (g := gb166) BK166.out hb); have n2_ := qm (qt (by repeat (first | (with_reducible first | exact HB.out | apply qh | apply qi | apply qj | refine qk ?_ GE158.out | refine qk ?_ GE166.out) | exact HB.out)) hb); clear BK158; clear BK166; clear HB; have BK158 := n0_; have BK166 := n1_; have HB := n2_))
    go_ret
    exact ⟨by first | rfl | (simp <;> rfl) | (simp [*] <;> rfl), by repeat (first | (with_reducible first | exact HB.out | apply qh | apply qi | apply qj | refine qk ?_ GE158.out | refine qk ?_ GE166.out) | exact HB.out)⟩
  rw [if_neg c601] at H
  have c601b0 : decide (0 < (l0_7.length : Int)) = false := decide_eq_false c601
  have c601b1 : decide (0 < l0_7.length) = false := decide_eq_false (by omega)
  clear c601
  obtain rfl := Option.some.inj H
  as_aux_lemma =>
   have hnb606 := NB158_166.out
   have hnc606 := NB166_158.out
   obtain ⟨_, _, _, _, _, _, _, _, _, _, _, _, _, _, _, _⟩ := fc8 BK158.out
   go_wp2
   try any_goals (exfalso; rename_i x_ b_ h1_ h2_; exact absurd (show (some undef : Option Value) = some (Value.bool b_) from h1_) (by simp [undef]))
   go_ret
   exact ⟨by first | rfl | (simp <;> rfl) | (simp [*] <;> rfl), by repeat (first | (with_reducible first | exact HB.out | apply qh | apply qi | apply qj | refine qk ?_ GE158.out | refine qk ?_ GE166.out) | exact HB.out)⟩
 rw [if_neg c600] at H
 have c600b0 : (a0_0 == 2) = false := beq_eq_false_iff_ne.mpr c600
 have c600b1 : (a0_0 != 2) = true := bne_iff_ne.mpr c600
 (first | rw [c600b0] | skip)
 clear c600
 go_upto_if 131 with (fail)
 by_cases c608 : a0_0 = 6
 ·rw [if_pos c608] at H
  have c608b0 : (a0_0 == 6) = true := beq_iff_eq.mpr c608
  have c608b1 : (a0_0 != 6) = false := bne_eq_false_iff_eq.mpr c608
  (first | rw [c608b0] | skip)
  clear c608
  by_cases c609 : (l0_5.length : Int) ≤ 1500
  ·rw [if_pos c609] at H
   have c609b0 : decide ((l0_5.length : Int) ≤ 1500) = true := decide_eq_true c609
   have c609b1 : decide (l0_5.length ≤ 1500) = true := decide_eq_true (by omega)
   clear c609
   obtain rfl := Option.some.inj H
   as_aux_lemma =>
    have hnb610 := NB158_166.out
    have hnc610 := NB166_158.out
    obtain ⟨_, _, _, _, _, _, _, _, _, _, _, _, _, _, _, _⟩ := fc8 BK158.out
    go_wp2
    try any_goals (exfalso; rename_i x_ b_ h1_ h2_; exact absurd (show (some undef : Option Value) = some (Value.bool b_) from h1_) (by simp [undef]))
    go_ret
    exact ⟨by first | rfl | (simp <;> rfl) | (simp [*] <;> rfl), by repeat (first | (with_reducible first | exact HB.out | apply qh | apply qi | apply qj | refine qk ?_ GE158.out | refine qk ?_ GE166.out) | exact HB.out)⟩
  rw [if_neg c609] at H
  have c609b0 : decide ((l0_5.length : Int) ≤ 1500) = false := decide_eq_false c609
  have c609b1 : decide (l0_5.length ≤ 1500) = false := decide_eq_false (by omega)
  clear c609
  obtain rfl := Option.some.inj H
  as_aux_lemma =>
   have hnb612 := NB158_166.out
   have hnc612 := NB166_158.out
   obtain ⟨_, _, _, _, _, _, _, _, _, _, _, _, _, _, _, _⟩ := fc8 BK158.out
   go_wp2
   try any_goals (exfalso; rename_i x_ b_ h1_ h2_; exact absurd (show (some undef : Option Value) = some (Value.bool b_) from h1_) (by simp [undef]))
   go_ret
   exact ⟨by first | rfl | (simp <;> rfl) | (simp [*] <;> rfl), by repeat (first | (with_reducible first | exact HB.out | apply qh | apply qi | apply qj | refine qk ?_ GE158.out | refine qk ?_ GE166.out) | exact HB.out)⟩
 rw [if_neg c608] at H
 have c608b0 : (a0_0 == 6) = false := beq_eq_false_iff_ne.mpr c608
 have c608b1 : (a0_0 != 6) = true := bne_iff_ne.mpr c608
 (first | rw [c608b0] | skip)
 clear c608
 go_upto_if 142 with (fail)
 by_cases c614 : a0_0 = 7
 ·rw [if_pos c614] at H
  have c614b0 : (a0_0 == 7) = true := beq_iff_eq.mpr c614
  have c614b1 : (a0_0 != 7) = false := bne_eq_false_iff_eq.mpr c614
  (first | rw [c614b0] | skip)
  clear c614
  by_cases c615 : (l0_5.length : Int) ≥ 1
  ·rw [if_pos c615] at H
   have c615b0 : decide (1 ≤ (l0_5.length : Int)) = true := decide_eq_true c615
   have c615b1 : decide (1 ≤ l0_5.length) = true := decide_eq_true (by omega)
   clear c615
   obtain rfl := Option.some.inj H
   as_aux_lemma =>
    have hnb616 := NB158_166.out
    have hnc616 := NB166_158.out
    obtain ⟨_, _, _, _, _, _, _, _, _, _, _, _, _, _, _, _⟩ := fc8 BK158.out
    go_wp2
    try any_goals (exfalso; rename_i x_ b_ h1_ h2_; exact absurd (show (some undef : Option Value) = some (Value.bool b_) from h1_) (by simp [undef]))
    go_ret
    exact ⟨by first | rfl | (simp <;> rfl) | (simp [*] <;> rfl), by repeat (first | (with_reducible first | exact HB.out | apply qh | apply qi | apply qj | refine qk ?_ GE158.out | refine qk ?_ GE166.out) | exact HB.out)⟩
  rw [if_neg c615] at H
  have c615b0 : decide (1 ≤ (l0_5.length : Int)) = false := decide_eq_false c615
  have c615b1 : decide (1 ≤ l0_5.length) = false := decide_eq_false (by omega)
  clear c615
  obtain rfl := Option.some.inj H
  as_aux_lemma =>
   have hnb618 := NB158_166.out
   have hnc618 := NB166_158.out
   obtain ⟨_, _, _, _, _, _, _, _, _, _, _, _, _, _, _, _⟩ := fc8 BK158.out
   go_wp2
   try any_goals (exfalso; rename_i x_ b_ h1_ h2_; exact absurd (show (some undef : Option Value) = some (Value.bool b_) from h1_) (by simp [undef]))
   go_ret
   exact ⟨by first | rfl | (simp <;> rfl) | (simp [*] <;> rfl), by repeat (first | (with_reducible first | exact HB.out | apply qh | apply qi | apply qj | refine qk ?_ GE158.out | refine qk ?_ GE166.out) | exact HB.out)⟩
 rw [if_neg c614] at H
 have c614b0 : (a0_0 == 7) = false := beq_eq_false_iff_ne.mpr c614
 have c614b1 : (a0_0 != 7) = true := bne_iff_ne.mpr c614
 (first | rw [c614b0] | skip)
 clear c614
 go_upto_if 150 with (fail)
 by_cases c620 : a0_0 = 8
 ·rw [if_pos c620] at H
  have c620b0 : (a0_0 == 8) = true := beq_iff_eq.mpr c620
  have c620b1 : (a0_0 != 8) = false := bne_eq_false_iff_eq.mpr c620
  (first | rw [c620b0] | skip)
  clear c620
  by_cases c621 : (l0_5.length : Int) ≤ 1500
  ·rw [if_pos c621] at H
   have c621b0 : decide ((l0_5.length : Int) ≤ 1500) = true := decide_eq_true c621
   have c621b1 : decide (l0_5.length ≤ 1500) = true := decide_eq_true (by omega)
   clear c621
   obtain rfl := Option.some.inj H
   as_aux_lemma =>
    have hnb622 := NB158_166.out
    have hnc622 := NB166_158.out
    obtain ⟨_, _, _, _, _, _, _, _, _, _, _, _, _, _, _, _⟩ := fc8 BK158.out
    go_wp2
    try any_goals (exfalso; rename_i x_ b_ h1_ h2_; exact absurd (show (some undef : Option Value) = some (Value.bool b_) from h1_) (by simp [undef]))
    go_ret
    exact ⟨by first | rfl | (simp <;> rfl) | (simp [*] <;> rfl), by repeat (first | (with_reducible first | exact HB.out | apply qh | apply qi | apply qj | refine qk ?_ GE158.out | refine qk ?_ GE166.out) | exact HB.out)⟩
  rw [if_neg c621] at H
  have c621b0 : decide ((l0_5.length : Int) ≤ 1500) = false := decide_eq_false c621
  have c621b1 : decide (l0_5.length ≤ 1500) = false := decide_eq_false (by omega)
  clear c621
  obtain rfl := Option.some.inj H
  as_aux_lemma =>
   have hnb624 := NB158_166.out
   have hnc624 := NB166_158.out
   obtain ⟨_, _, _, _, _, _, _, _, _, _, _, _, _, _, _, _⟩ := fc8 BK158.out
   go_wp2
   try any_goals (exfalso; rename_i x_ b_ h1_ h2_; exact absurd (show (some undef : Option Value) = some (Value.bool b_) from h1_) (by simp [undef]))
   go_ret
   exact ⟨by first | rfl | (simp <;> rfl) | (simp [*] <;> rfl), by repeat (first | (with_reducible first | exact HB.out | apply qh | apply qi | apply qj | refine qk ?_ GE158.out | refine qk ?_ GE166.out) | exact HB.out)⟩
 rw [if_neg c620] at H
 have c620b0 : (a0_0 == 8) = false := beq_eq_false_iff_ne.mpr c620
 have c620b1 : (a0_0 != 8) = true := bne_iff_ne.mpr c620
 (first | rw [c620b0] | skip)
 clear c620
 have HC626 := qm H
 clear H
 have hnb627 := NB158_166.out
 have hnc627 := NB166_158.out
 obtain ⟨_, _, _, _, _, _, _, _, _, _, _, _, _, _, _, _⟩ := fc8 BK158.out
 go_upto_if 161 with (fail)
 go_cut [161] (fun v161 wc => ∃ (kq : Nat) (x161_625 : Bool), v161 = .bool x161_625 ∧ Aside0 (impl_FrameOK.j3 kq (l0_5.length : Int) a0_0 x161_625 a0_0 a0_1 a0_2 a0_3 a0_4 l0_5 l0_6 l0_7 = some r) ∧ Aside0 (kq ≤ kj586) ∧ Aside0 (wc.heap[gb158]? = some (.cells #[.int .i64 a0_0, .int .i64 a0_1, .int .i64 a0_2, .int .i64 a0_3, .bool a0_4, (.slice A0_5 l0_5.length c0_5), (.slice A0_6 l0_6.length c0_6), (.slice A0_7 l0_7.length c0_7)] 55 (0, 0))) ∧ Aside0 (wc.heap[gb166]? = some (.cells #[.bool t159, .bool t160, .bool t161, .bool t162, .bool t163, .bool t164] 84 (0, 0))) ∧ Aside0 (Below w.heap.size w wc))
 case first =>
  have H := HC626.out
  clear HC626
  by_cases c629 : a0_0 = 18
  ·rw [if_pos c629] at H
   have c629b0 : (a0_0 == 18) = true := beq_iff_eq.mpr c629
   have c629b1 : (a0_0 != 18) = false := bne_eq_false_iff_eq.mpr c629
   clear c629
   (first | rw [c629b0] | (simp only [i64_w, i32_w]; rw [c629b0]) | skip)
   have H' := qm H
   clear H
   as_aux_lemma =>
    go_wp2
    try any_goals (exfalso; rename_i x_ b_ h1_ h2_; exact absurd (show (some undef : Option Value) = some (Value.bool b_) from h1_) (by simp [undef]))
    go_meet
    case rel => exact ⟨_, ((a0_0 == 18)), (by first | rfl | (simp; done) | (simp [*]; done)), H', ⟨by have := HJ2.out; have := HJ22.out; have := HJ586.out; first | omega | exact Nat.le_refl _⟩, ⟨BK158.out⟩, ⟨BK166.out⟩, ⟨by repeat (first | (with_reducible first | exact HB.out | apply qh | apply qi | apply qj | refine qk ?_ GE158.out | refine qk ?_ GE166.out) | exact HB.out)⟩⟩
  rw [if_neg c629] at H
  have c629b0 : (a0_0 == 18) = false := beq_eq_false_iff_ne.mpr c629
  have c629b1 : (a0_0 != 18) = true := bne_iff_ne.mpr c629
  clear c629
  (first | rw [c629b0] | (simp only [i64_w, i32_w]; rw [c629b0]) | skip)
  have H' := qm H
  clear H
  as_aux_lemma =>
   go_wp2
   try any_goals (exfalso; rename_i x_ b_ h1_ h2_; exact absurd (show (some undef : Option Value) = some (Value.bool b_) from h1_) (by simp [undef]))
   go_meet
   case rel => exact ⟨_, ((a0_0 == 22)), rfl, H', ⟨by have := HJ2.out; have := HJ22.out; have := HJ586.out; omega⟩, ⟨BK158.out⟩, ⟨BK166.out⟩, ⟨by repeat (first | (with_reducible first | exact HB.out | apply qh | apply qi | apply qj | refine qk ?_ GE158.out | refine qk ?_ GE166.out) | exact HB.out)⟩⟩
 clear HC626
 try clear c593
 try clear c594
 try clear c594b0
 try clear c594b1
 try clear c600
 try clear c600b0
 try clear c600b1
 try clear c608
 try clear c608b0
 try clear c608b1
 try clear c614
 try clear c614b0
 try clear c614b1
 try clear c620
 try clear c620b0
 try clear c620b1
 obtain ⟨kq, x161_625, rfl, HA, HJ625, BK158, BK166, HB⟩ := hcut
 cases kq with
 | zero => exact absurd HA.out (by simp [impl_FrameOK.j3])
 | succ kj625 => ?_
 have H := HA.out
 clear HA
 simp only [impl_FrameOK.j3] at H
 by_cases c630 : x161_625 = true
 ·subst c630
  rw [if_pos rfl] at H
  by_cases c631 : a0_1 ≤ 1152921504606846976
  ·rw [if_pos c631] at H
   have c631b0 : decide (a0_1 ≤ 1152921504606846976) = true := decide_eq_true c631
   clear c631
   obtain rfl := Option.some.inj H
   as_aux_lemma =>
    have hnb632 := NB158_166.out
    have hnc632 := NB166_158.out
    obtain ⟨_, _, _, _, _, _, _, _, _, _, _, _, _, _, _, _⟩ := fc8 BK158.out
    go_wp2
    try any_goals (exfalso; rename_i x_ b_ h1_ h2_; exact absurd (show (some undef : Option Value) = some (Value.bool b_) from h1_) (by simp [undef]))
    go_ret
    exact ⟨by first | rfl | (simp <;> rfl) | (simp [*] <;> rfl), by repeat (first | (with_reducible first | exact HB.out | apply qh | apply qi | apply qj | refine qk ?_ GE158.out | refine qk ?_ GE166.out) | exact HB.out)⟩
  rw [if_neg c631] at H
  have c631b0 : decide (a0_1 ≤ 1152921504606846976) = false := decide_eq_false c631
  clear c631
  obtain rfl := Option.some.inj H
  as_aux_lemma =>
   have hnb634 := NB158_166.out
   have hnc634 := NB166_158.out
   obtain ⟨_, _, _, _, _, _, _, _, _, _, _, _, _, _, _, _⟩ := fc8 BK158.out
   go_wp2
   try any_goals (exfalso; rename_i x_ b_ h1_ h2_; exact absurd (show (some undef : Option Value) = some (Value.bool b_) from h1_) (by simp [undef]))
   go_ret
   exact ⟨by first | rfl | (simp <;> rfl) | (simp [*] <;> rfl), by repeat (first | (with_reducible first | exact HB.out | apply qh | apply qi | apply qj | refine qk ?_ GE158.out | refine qk ?_ GE166.out) | exact HB.out)⟩
 replace c630 := Bool.eq_false_iff.mpr c630
 subst c630
 rw [if_neg nt] at H
 go_upto_if 172 with (fail)
 by_cases c636 : a0_0 = 24
 ·rw [if_pos c636] at H
  have c636b0 : (a0_0 == 24) = true := beq_iff_eq.mpr c636
  have c636b1 : (a0_0 != 24) = false := bne_eq_false_iff_eq.mpr c636
  (first | rw [c636b0] | skip)
  clear c636
  by_cases c637 : a0_2 ≤ a0_1
  ·rw [if_pos c637] at H
   have c637b0 : decide (a0_2 ≤ a0_1) = true := decide_eq_true c637
   clear c637
   by_cases c638 : (l0_5.length : Int) ≥ 1
   ·rw [if_pos c638] at H
    have c638b0 : decide (1 ≤ (l0_5.length : Int)) = true := decide_eq_true c638
    have c638b1 : decide (1 ≤ l0_5.length) = true := decide_eq_true (by omega)
    clear c638
    by_cases c639 : (l0_5.length : Int) ≤ 8
    ·rw [if_pos c639] at H
     have c639b0 : decide ((l0_5.length : Int) ≤ 8) = true := decide_eq_true c639
     have c639b1 : decide (l0_5.length ≤ 8) = true := decide_eq_true (by omega)
     clear c639
     obtain rfl := Option.some.inj H
     as_aux_lemma =>
      have hnb640 := NB158_166.out
      have hnc640 := NB166_158.out
      obtain ⟨_, _, _, _, _, _, _, _, _, _, _, _, _, _, _, _⟩ := fc8 BK158.out
      go_wp2
      try any_goals (exfalso; rename_i x_ b_ h1_ h2_; exact absurd (show (some undef : Option Value) = some (Value.bool b_) from h1_) (by simp [undef]))
      go_ret
      exact ⟨by first | rfl | (simp <;> rfl) | (simp [*] <;> rfl), by repeat (first | (with_reducible first | exact HB.out | apply qh | apply qi | apply qj | refine qk ?_ GE158.out | refine qk ?_ GE166.out) | exact HB.out)⟩
    rw [if_neg c639] at H
    have c639b0 : decide ((l0_5.length : Int) ≤ 8) = false := decide_eq_false c639
    have c639b1 : decide (l0_5.length ≤ 8) = false := decide_eq_false (by omega)
    clear c639
    obtain rfl := Option.some.inj H
    as_aux_lemma =>
     have hnb642 := NB158_166.out
     have hnc642 := NB166_158.out
     obtain ⟨_, _, _, _, _, _, _, _, _, _, _, _, _, _, _, _⟩ := fc8 BK158.out
     go_wp2
     try any_goals (exfalso; rename_i x_ b_ h1_ h2_; exact absurd (show (some undef : Option Value) = some (Value.bool b_) from h1_) (by simp [undef]))
     go_ret
     exact ⟨by first | rfl | (simp <;> rfl) | (simp [*] <;> rfl), by repeat (first | (with_reducible first | exact HB.out | apply qh | apply qi | apply qj | refine qk ?_ GE158.out | refine qk ?_ GE166.out) | exact HB.out)⟩
   rw [if_neg c638] at H
   have c638b0 : decide (1 ≤ (l0_5.length : Int)) = false := decide_eq_false c638
   have c638b1 : decide (1 ≤ l0_5.length) = false := decide_eq_false (by omega)
   clear c638
   obtain rfl := Option.some.inj H
   as_aux_lemma =>
    have hnb644 := NB158_166.out
    have hnc644 := NB166_158.out
    obtain ⟨_, _, _, _, _, _, _, _, _, _, _, _, _, _, _, _⟩ := fc8 BK158.out
    go_wp2
    try any_goals (exfalso; rename_i x_ b_ h1_ h2_; exact absurd (show (some undef : Option Value) = some (Value.bool b_) from h1_) (by simp [undef]))
    go_ret
    exact ⟨by first | rfl | (simp <;> rfl) | (simp [*] <;> rfl), by repeat (first | (with_reducible first | exact HB.out | apply qh | apply qi | apply qj | refine qk ?_ GE158.out | refine qk ?_ GE166.out) | exact HB.out)⟩
  rw [if_neg c637] at H
  have c637b0 : decide (a0_2 ≤ a0_1) = false := decide_eq_false c637
  clear c637
  obtain rfl := Option.some.inj H
  as_aux_lemma =>
   have hnb646 := NB158_166.out
   have hnc646 := NB166_158.out
   obtain ⟨_, _, _, _, _, _, _, _, _, _, _, _, _, _, _, _⟩ := fc8 BK158.out
   go_wp2
   try any_goals (exfalso; rename_i x_ b_ h1_ h2_; exact absurd (show (some undef : Option Value) = some (Value.bool b_) from h1_) (by simp [undef]))
   go_ret
   exact ⟨by first | rfl | (simp <;> rfl) | (simp [*] <;> rfl), by repeat (first | (with_reducible first | exact HB.out | apply qh | apply qi | apply qj | refine qk ?_ GE158.out | refine qk ?_ GE166.out) | exact HB.out)⟩
 rw [if_neg c636] at H
 have c636b0 : (a0_0 == 24) = false := beq_eq_false_iff_ne.mpr c636
 have c636b1 : (a0_0 != 24) = true := bne_iff_ne.mpr c636
 (first | rw [c636b0] | skip)
 clear c636
 have HC648 := qm H
 clear H
 go_upto_if 193 with (fail)
 go_cut [193] (fun v193 wc => ∃ (kq : Nat) (x193_647 : Bool), v193 = .bool x193_647 ∧ Aside0 (impl_FrameOK.j4 kq (l0_5.length : Int) a0_0 x193_647 = some r) ∧ Aside0 (kq ≤ kj625) ∧ Aside0 (wc.heap[gb158]? = some (.cells #[.int .i64 a0_0, .int .i64 a0_1, .int .i64 a0_2, .int .i64 a0_3, .bool a0_4, (.slice A0_5 l0_5.length c0_5), (.slice A0_6 l0_6.length c0_6), (.slice A0_7 l0_7.length c0_7)] 55 (0, 0))) ∧ Aside0 (wc.heap[gb166]? = some (.cells #[.bool t159, .bool t160, .bool t161, .bool t162, .bool t163, .bool t164] 84 (0, 0))) ∧ Aside0 (Below w.heap.size w wc))
 case first =>
  have H := HC648.out
  clear HC648
  by_cases c649 : a0_0 = 26
  ·rw [if_pos c649] at H
   have c649b0 : (a0_0 == 26) = true := beq_iff_eq.mpr c649
   have c649b1 : (a0_0 != 26) = false := bne_eq_false_iff_eq.mpr c649
   clear c649
   (first | rw [c649b0] | (simp only [i64_w, i32_w]; rw [c649b0]) | skip)
   have H' := qm H
   clear H
   as_aux_lemma =>
    go_wp2
    try any_goals (exfalso; rename_i x_ b_ h1_ h2_; exact absurd (show (some undef : Option Value) = some (Value.bool b_) from h1_) (by simp [undef]))
    go_meet
    case rel => exact ⟨_, ((a0_0 == 26)), (by first | rfl | (simp; done) | (simp [*]; done)), H', ⟨by have := HJ2.out; have := HJ22.out; have := HJ586.out; have := HJ625.out; first | omega | exact Nat.le_refl _⟩, ⟨BK158.out⟩, ⟨BK166.out⟩, ⟨by repeat (first | (with_reducible first | exact HB.out | apply qh | apply qi | apply qj | refine qk ?_ GE158.out | refine qk ?_ GE166.out) | exact HB.out)⟩⟩
  rw [if_neg c649] at H
  have c649b0 : (a0_0 == 26) = false := beq_eq_false_iff_ne.mpr c649
  have c649b1 : (a0_0 != 26) = true := bne_iff_ne.mpr c649
  clear c649
  (first | rw [c649b0] | (simp only [i64_w, i32_w]; rw [c649b0]) | skip)
  have H' := qm H
  clear H
  as_aux_lemma =>
   go_wp2
   try any_goals (exfalso; rename_i x_ b_ h1_ h2_; exact absurd (show (some undef : Option Value) = some (Value.bool b_) from h1_) (by simp [undef]))
   go_meet
   case rel => exact ⟨_, ((a0_0 == 27)), rfl, H', ⟨by have := HJ2.out; have := HJ22.out; have := HJ586.out; have := HJ625.out; omega⟩, ⟨BK158.out⟩, ⟨BK166.out⟩, ⟨by repeat (first | (with_reducible first | exact HB.out | apply qh | apply qi | apply qj | refine qk ?_ GE158.out | refine qk ?_ GE166.out) | exact HB.out)⟩⟩
 clear HC648
 try clear c630
 try clear c636
 try clear c636b0
 try clear c636b1
 obtain ⟨kq, x193_647, rfl, HA, HJ647, BK158, BK166, HB⟩ := hcut
 cases kq with
 | zero => exact absurd HA.out (by simp [impl_FrameOK.j4])
 | succ kj647 => ?_
 have H := HA.out
 clear HA
 simp only [impl_FrameOK.j4] at H
 by_cases c650 : x193_647 = true
 ·subst c650
  rw [if_pos rfl] at H
  obtain rfl := Option.some.inj H
  as_aux_lemma =>
   go_wp2
   try any_goals (exfalso; rename_i x_ b_ h1_ h2_; exact absurd (show (some undef : Option Value) = some (Value.bool b_) from h1_) (by simp [undef]))
   go_ret
   exact ⟨by first | rfl | (simp <;> rfl) | (simp [*] <;> rfl), by repeat (first | (with_reducible first | exact HB.out | apply qh | apply qi | apply qj | refine qk ?_ GE158.out | refine qk ?_ GE166.out) | exact HB.out)⟩
 replace c650 := Bool.eq_false_iff.mpr c650
 subst c650
 rw [if_neg nt] at H
 have HC651 := qm H
 clear H
 go_upto_if 198 with (fail)
 go_cut [198] (fun v198 wc => ∃ (kq : Nat) (x198_650 : Bool), v198 = .bool x198_650 ∧ Aside0 (impl_FrameOK.j5 kq (l0_5.length : Int) a0_0 x198_650 = some r) ∧ Aside0 (kq ≤ kj647) ∧ Aside0 (wc.heap[gb158]? = some (.cells #[.int .i64 a0_0, .int .i64 a0_1, .int .i64 a0_2, .int .i64 a0_3, .bool a0_4, (.slice A0_5 l0_5.length c0_5), (.slice A0_6 l0_6.length c0_6), (.slice A0_7 l0_7.length c0_7)] 55 (0, 0))) ∧ Aside0 (wc.heap[gb166]? = some (.cells #[.bool t159, .bool t160, .bool t161, .bool t162, .bool t163, .bool t164] 84 (0, 0))) ∧ Aside0 (Below w.heap.size w wc))
 case first =>
  have H := HC651.out
  clear HC651
  by_cases c652 : a0_0 = 28
  ·rw [if_pos c652] at H
   have c652b0 : (a0_0 == 28) = true := beq_iff_eq.mpr c652
   have c652b1 : (a0_0 != 28) = false := bne_eq_false_iff_eq.mpr c652
   clear c652
   (first | rw [c652b0] | (simp only [i64_w, i32_w]; rw [c652b0]) | skip)
   have H' := qm H
   clear H
   as_aux_lemma =>
    go_wp2
    try any_goals (exfalso; rename_i x_ b_ h1_ h2_; exact absurd (show (some undef : Option Value) = some (Value.bool b_) from h1_) (by simp [undef]))
    go_meet
    case rel => exact ⟨_, ((a0_0 == 28)), (by first | rfl | (simp; done) | (simp [*]; done)), H', ⟨by have := HJ2.out; have := HJ22.out; have := HJ586.out; have := HJ625.out; have := HJ647.out; first | omega | exact Nat.le_refl _⟩, ⟨BK158.out⟩, ⟨BK166.out⟩, ⟨by repeat (first | (with_reducible first | exact HB.out | apply qh | apply qi | apply qj | refine qk ?_ GE158.out | refine qk ?_ GE166.out) | exact HB.out)⟩⟩
  rw [if_neg c652] at H
  have c652b0 : (a0_0 == 28) = false := beq_eq_false_iff_ne.mpr c652
  have c652b1 : (a0_0 != 28) = true := bne_iff_ne.mpr c652
  clear c652
  (first | rw [c652b0] | (simp only [i64_w, i32_w]; rw [c652b0]) | skip)
  have H' := qm H
  clear H
  as_aux_lemma =>
   go_wp2
   try any_goals (exfalso; rename_i x_ b_ h1_ h2_; exact absurd (show (some undef : Option Value) = some (Value.bool b_) from h1_) (by simp [undef]))
   go_meet
   case rel => exact ⟨_, ((a0_0 == 29)), rfl, H', ⟨by have := HJ2.out; have := HJ22.out; have := HJ586.out; have := HJ625.out; have := HJ647.out; omega⟩, ⟨BK158.out⟩, ⟨BK166.out⟩, ⟨by repeat (first | (with_reducible first | exact HB.out | apply qh | apply qi | apply qj | refine qk ?_ GE158.out | refine qk ?_ GE166.out) | exact HB.out)⟩⟩
 clear HC651
 try clear c630
 try clear c636
 try clear c636b0
 try clear c636b1
 try clear c650
 obtain ⟨kq, x198_650, rfl, HA, HJ650, BK158, BK166, HB⟩ := hcut
 cases kq with
 | zero => exact absurd HA.out (by simp [impl_FrameOK.j5])
 | succ kj650 => ?_
 have H := HA.out
 clear HA
 simp only [impl_FrameOK.j5] at H
 by_cases c653 : x198_650 = true
 ·subst c653
  rw [if_pos rfl] at H
  obtain rfl := Option.some.inj H
  as_aux_lemma =>
   go_wp2
   try any_goals (exfalso; rename_i x_ b_ h1_ h2_; exact absurd (show (some undef : Option Value) = some (Value.bool b_) from h1_) (by simp [undef]))
   go_ret
   exact ⟨by first | rfl | (simp <;> rfl) | (simp [*] <;> rfl), by repeat (first | (with_reducible first | exact HB.out | apply qh | apply qi | apply qj | refine qk ?_ GE158.out | refine qk ?_ GE166.out) | exact HB.out)⟩
 replace c653 := Bool.eq_false_iff.mpr c653
 subst c653
 rw [if_neg nt] at H
 go_upto_if 203 with (fail)
 by_cases c654 : a0_0 = 48
 ·rw [if_pos c654] at H
  have c654b0 : (a0_0 == 48) = true := beq_iff_eq.mpr c654
  have c654b1 : (a0_0 != 48) = false := bne_eq_false_iff_eq.mpr c654
  (first | rw [c654b0] | skip)
  clear c654
  obtain rfl := Option.some.inj H
  as_aux_lemma =>
   go_wp2
   try any_goals (exfalso; rename_i x_ b_ h1_ h2_; exact absurd (show (some undef : Option Value) = some (Value.bool b_) from h1_) (by simp [undef]))
   go_ret
   exact ⟨by first | rfl | (simp <;> rfl) | (simp [*] <;> rfl), by repeat (first | (with_reducible first | exact HB.out | apply qh | apply qi | apply qj | refine qk ?_ GE158.out | refine qk ?_ GE166.out) | exact HB.out)⟩
 rw [if_neg c654] at H
 have c654b0 : (a0_0 == 48) = false := beq_eq_false_iff_ne.mpr c654
 have c654b1 : (a0_0 != 48) = true := bne_iff_ne.mpr c654
 (first | rw [c654b0] | skip)
 clear c654
 obtain rfl := Option.some.inj H
 as_aux_lemma =>
  go_wp2
  try any_goals (exfalso; rename_i x_ b_ h1_ h2_; exact absurd (show (some undef : Option Value) = some (Value.bool b_) from h1_) (by simp [undef]))
  go_ret
  exact ⟨by first | rfl | (simp <;> rfl) | (simp [*] <;> rfl), by repeat (first | (with_reducible first | exact HB.out | apply qh | apply qi | apply qj | refine qk ?_ GE158.out | refine qk ?_ GE166.out) | exact HB.out)⟩
end Go.Proofs.Ytdojcdhlcnlohaa.SFnExactFrameBytes
