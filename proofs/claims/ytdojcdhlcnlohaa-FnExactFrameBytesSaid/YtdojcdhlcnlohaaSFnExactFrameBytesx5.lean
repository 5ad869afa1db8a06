/- The walk of functions that the law FnExactFrameBytes uses, written by program. -/
import Derived.Test.YtdojcdhlcnlohaaSFnExactFrameBytesx0
import Derived.Test.YtdojcdhlcnlohaaSFnExactFrameBytesx3
import Derived.Test.YtdojcdhlcnlohaaSFnExactFrameBytesx4
import Derived.Test.YtdojcdhlcnlohaaSteps2
namespace Go.Proofs.Ytdojcdhlcnlohaa.SFnExactFrameBytes
open Go.Proofs.Ytdojcdhlcnlohaa.Steps2 Go.RowKit Go.Proofs.YtdojcdhlcnlohaaW.PrintWords Go.Proofs.YtdojcdhlcnlohaaW.PrintLast Go.Proofs.YtdojcdhlcnlohaaW.PrintMore
open Go.Proofs.YtdojcdhlcnlohaaW.PrintWords renaming below_alloc → qh, pw_below_drewN → qi, below_drew1 → qj, below_set → qk, blk_drewN → ql, blk_drew → qn, blk_alloc → qo, blk_put → qp, blk_far → qr, below_size → qs, below_step → qt
open Go.Proofs.YtdojcdhlcnlohaaW.PrintWords.Aside0 renaming mk → qm
attribute [local go_sem] max2_int min2_int max_two min_two max_three min_three max_four min_four 
set_option linter.unusedVariables false
set_option linter.unusedSimpArgs false
/-! ### spec_FrameOK: function 39 -/
mutual
def spec_FrameOK.j0 : Nat → Bool → Int → Int → Int → Int → Bool → List Int → List Int → List (S105) → Bool → Bool → Bool → Bool → Bool → Bool → Int → Int → Int → Option (Bool)
 | 0, _, _, _, _, _, _, _, _, _, _, _, _, _, _, _, _, _, _ => none
 | k + 1, x66, x152000, x152001, x152002, x152003, x152004, x152005, x152006, x152007, x162000, x162001, x162002, x162003, x162004, x162005, x162006, x162007, x162008 => if x66 = true then (some false) else (if (x152005.length : Int) < x162006 then (spec_FrameOK.j1 k true x152000 x152001 x152002 x152003 x152004 x152005 x152006 x152007) else (if (x152005.length : Int) > x162007 then (spec_FrameOK.j1 k true x152000 x152001 x152002 x152003 x152004 x152005 x152006 x152007) else (if (x152006.length : Int) = x162008 then (if (x162005 != (decide ((x152007.length : Int) > 0))) = true then (spec_FrameOK.j1 k true x152000 x152001 x152002 x152003 x152004 x152005 x152006 x152007) else ((spec_l05RangesOK.f k x152007).bind fun t165 => (spec_FrameOK.j1 k (!t165) x152000 x152001 x152002 x152003 x152004 x152005 x152006 x152007))) else (spec_FrameOK.j1 k true x152000 x152001 x152002 x152003 x152004 x152005 x152006 x152007))))
def spec_FrameOK.j1 : Nat → Bool → Int → Int → Int → Int → Bool → List Int → List Int → List (S105) → Option (Bool)
 | 0, _, _, _, _, _, _, _, _, _ => none
 | k + 1, x103, x152000, x152001, x152002, x152003, x152004, x152005, x152006, x152007 => if x103 = true then (some false) else (if x152000 = 0 then (if x152001 ≥ 1 then (some (decide (x152001 ≤ 1500))) else (some false)) else (if x152000 = 18 then (spec_FrameOK.j2 k x152000 (x152000 == 18) x152000 x152001 x152002 x152003 x152004 x152005 x152006 x152007) else (spec_FrameOK.j2 k x152000 (x152000 == 22) x152000 x152001 x152002 x152003 x152004 x152005 x152006 x152007)))
def spec_FrameOK.j2 : Nat → Int → Bool → Int → Int → Int → Int → Bool → List Int → List Int → List (S105) → Option (Bool)
 | 0, _, _, _, _, _, _, _, _, _, _ => none
 | k + 1, x105, x116, x152000, x152001, x152002, x152003, x152004, x152005, x152006, x152007 => if x116 = true then (if x152001 ≤ 1152921504606846976 then (some (decide (x152002 ≤ 1))) else (some false)) else (if x105 = 6 then (some (decide (x152001 ≤ (wrap64 (4611686018427387903 - (x152005.length : Int)))))) else (if x105 = 8 then (some (decide (x152002 ≤ (wrap64 (4611686018427387903 - (x152005.length : Int)))))) else (if x105 = 24 then (some (decide (x152002 ≤ x152001))) else (some true))))
end
def spec_FrameOK.f (k : Nat) (a0_0 : Int) (a0_1 : Int) (a0_2 : Int) (a0_3 : Int) (a0_4 : Bool) (l0_5 : List Int) (l0_6 : List Int) (l0_7 : List (S105)) : Option (Bool) := (spec_l05Kind.f k a0_0).bind fun bt152 => (if bt152.1 = true then ((spec_l05Var.f a0_1).bind fun t162 => (if t162 = true then ((spec_l05Var.f a0_2).bind fun t163 => (if t163 = true then ((spec_l05Var.f a0_3).bind fun t164 => (if t164 = true then (if bt152.2.1 = true then (if bt152.2.2.1 = true then (if bt152.2.2.2.1 = true then (if bt152.2.2.2.2.1 = true then (spec_FrameOK.j0 k false a0_0 a0_1 a0_2 a0_3 a0_4 l0_5 l0_6 l0_7 bt152.1 bt152.2.1 bt152.2.2.1 bt152.2.2.2.1 bt152.2.2.2.2.1 bt152.2.2.2.2.2.1 bt152.2.2.2.2.2.2.1 bt152.2.2.2.2.2.2.2.1 bt152.2.2.2.2.2.2.2.2) else (spec_FrameOK.j0 k a0_4 a0_0 a0_1 a0_2 a0_3 a0_4 l0_5 l0_6 l0_7 bt152.1 bt152.2.1 bt152.2.2.1 bt152.2.2.2.1 bt152.2.2.2.2.1 bt152.2.2.2.2.2.1 bt152.2.2.2.2.2.2.1 bt152.2.2.2.2.2.2.2.1 bt152.2.2.2.2.2.2.2.2)) else (if a0_3 = 0 then (if bt152.2.2.2.2.1 = true then (spec_FrameOK.j0 k false a0_0 a0_1 a0_2 a0_3 a0_4 l0_5 l0_6 l0_7 bt152.1 bt152.2.1 bt152.2.2.1 bt152.2.2.2.1 bt152.2.2.2.2.1 bt152.2.2.2.2.2.1 bt152.2.2.2.2.2.2.1 bt152.2.2.2.2.2.2.2.1 bt152.2.2.2.2.2.2.2.2) else (spec_FrameOK.j0 k a0_4 a0_0 a0_1 a0_2 a0_3 a0_4 l0_5 l0_6 l0_7 bt152.1 bt152.2.1 bt152.2.2.1 bt152.2.2.2.1 bt152.2.2.2.2.1 bt152.2.2.2.2.2.1 bt152.2.2.2.2.2.2.1 bt152.2.2.2.2.2.2.2.1 bt152.2.2.2.2.2.2.2.2)) else (spec_FrameOK.j0 k true a0_0 a0_1 a0_2 a0_3 a0_4 l0_5 l0_6 l0_7 bt152.1 bt152.2.1 bt152.2.2.1 bt152.2.2.2.1 bt152.2.2.2.2.1 bt152.2.2.2.2.2.1 bt152.2.2.2.2.2.2.1 bt152.2.2.2.2.2.2.2.1 bt152.2.2.2.2.2.2.2.2))) else (if a0_2 = 0 then (if bt152.2.2.2.1 = true then (if bt152.2.2.2.2.1 = true then (spec_FrameOK.j0 k false a0_0 a0_1 a0_2 a0_3 a0_4 l0_5 l0_6 l0_7 bt152.1 bt152.2.1 bt152.2.2.1 bt152.2.2.2.1 bt152.2.2.2.2.1 bt152.2.2.2.2.2.1 bt152.2.2.2.2.2.2.1 bt152.2.2.2.2.2.2.2.1 bt152.2.2.2.2.2.2.2.2) else (spec_FrameOK.j0 k a0_4 a0_0 a0_1 a0_2 a0_3 a0_4 l0_5 l0_6 l0_7 bt152.1 bt152.2.1 bt152.2.2.1 bt152.2.2.2.1 bt152.2.2.2.2.1 bt152.2.2.2.2.2.1 bt152.2.2.2.2.2.2.1 bt152.2.2.2.2.2.2.2.1 bt152.2.2.2.2.2.2.2.2)) else (if a0_3 = 0 then (if bt152.2.2.2.2.1 = true then (spec_FrameOK.j0 k false a0_0 a0_1 a0_2 a0_3 a0_4 l0_5 l0_6 l0_7 bt152.1 bt152.2.1 bt152.2.2.1 bt152.2.2.2.1 bt152.2.2.2.2.1 bt152.2.2.2.2.2.1 bt152.2.2.2.2.2.2.1 bt152.2.2.2.2.2.2.2.1 bt152.2.2.2.2.2.2.2.2) else (spec_FrameOK.j0 k a0_4 a0_0 a0_1 a0_2 a0_3 a0_4 l0_5 l0_6 l0_7 bt152.1 bt152.2.1 bt152.2.2.1 bt152.2.2.2.1 bt152.2.2.2.2.1 bt152.2.2.2.2.2.1 bt152.2.2.2.2.2.2.1 bt152.2.2.2.2.2.2.2.1 bt152.2.2.2.2.2.2.2.2)) else (spec_FrameOK.j0 k true a0_0 a0_1 a0_2 a0_3 a0_4 l0_5 l0_6 l0_7 bt152.1 bt152.2.1 bt152.2.2.1 bt152.2.2.2.1 bt152.2.2.2.2.1 bt152.2.2.2.2.2.1 bt152.2.2.2.2.2.2.1 bt152.2.2.2.2.2.2.2.1 bt152.2.2.2.2.2.2.2.2))) else (spec_FrameOK.j0 k true a0_0 a0_1 a0_2 a0_3 a0_4 l0_5 l0_6 l0_7 bt152.1 bt152.2.1 bt152.2.2.1 bt152.2.2.2.1 bt152.2.2.2.2.1 bt152.2.2.2.2.2.1 bt152.2.2.2.2.2.2.1 bt152.2.2.2.2.2.2.2.1 bt152.2.2.2.2.2.2.2.2))) else (if a0_1 = 0 then (if bt152.2.2.1 = true then (if bt152.2.2.2.1 = true then (if bt152.2.2.2.2.1 = true then (spec_FrameOK.j0 k false a0_0 a0_1 a0_2 a0_3 a0_4 l0_5 l0_6 l0_7 bt152.1 bt152.2.1 bt152.2.2.1 bt152.2.2.2.1 bt152.2.2.2.2.1 bt152.2.2.2.2.2.1 bt152.2.2.2.2.2.2.1 bt152.2.2.2.2.2.2.2.1 bt152.2.2.2.2.2.2.2.2) else (spec_FrameOK.j0 k a0_4 a0_0 a0_1 a0_2 a0_3 a0_4 l0_5 l0_6 l0_7 bt152.1 bt152.2.1 bt152.2.2.1 bt152.2.2.2.1 bt152.2.2.2.2.1 bt152.2.2.2.2.2.1 bt152.2.2.2.2.2.2.1 bt152.2.2.2.2.2.2.2.1 bt152.2.2.2.2.2.2.2.2)) else (if a0_3 = 0 then (if bt152.2.2.2.2.1 = true then (spec_FrameOK.j0 k false a0_0 a0_1 a0_2 a0_3 a0_4 l0_5 l0_6 l0_7 bt152.1 bt152.2.1 bt152.2.2.1 bt152.2.2.2.1 bt152.2.2.2.2.1 bt152.2.2.2.2.2.1 bt152.2.2.2.2.2.2.1 bt152.2.2.2.2.2.2.2.1 bt152.2.2.2.2.2.2.2.2) else (spec_FrameOK.j0 k a0_4 a0_0 a0_1 a0_2 a0_3 a0_4 l0_5 l0_6 l0_7 bt152.1 bt152.2.1 bt152.2.2.1 bt152.2.2.2.1 bt152.2.2.2.2.1 bt152.2.2.2.2.2.1 bt152.2.2.2.2.2.2.1 bt152.2.2.2.2.2.2.2.1 bt152.2.2.2.2.2.2.2.2)) else (spec_FrameOK.j0 k true a0_0 a0_1 a0_2 a0_3 a0_4 l0_5 l0_6 l0_7 bt152.1 bt152.2.1 bt152.2.2.1 bt152.2.2.2.1 bt152.2.2.2.2.1 bt152.2.2.2.2.2.1 bt152.2.2.2.2.2.2.1 bt152.2.2.2.2.2.2.2.1 bt152.2.2.2.2.2.2.2.2))) else (if a0_2 = 0 then (if bt152.2.2.2.1 = true then (if bt152.2.2.2.2.1 = true then (spec_FrameOK.j0 k false a0_0 a0_1 a0_2 a0_3 a0_4 l0_5 l0_6 l0_7 bt152.1 bt152.2.1 bt152.2.2.1 bt152.2.2.2.1 bt152.2.2.2.2.1 bt152.2.2.2.2.2.1 bt152.2.2.2.2.2.2.1 bt152.2.2.2.2.2.2.2.1 bt152.2.2.2.2.2.2.2.2) else (spec_FrameOK.j0 k a0_4 a0_0 a0_1 a0_2 a0_3 a0_4 l0_5 l0_6 l0_7 bt152.1 bt152.2.1 bt152.2.2.1 bt152.2.2.2.1 bt152.2.2.2.2.1 bt152.2.2.2.2.2.1 bt152.2.2.2.2.2.2.1 bt152.2.2.2.2.2.2.2.1 bt152.2.2.2.2.2.2.2.2)) else (if a0_3 = 0 then (if bt152.2.2.2.2.1 = true then (spec_FrameOK.j0 k false a0_0 a0_1 a0_2 a0_3 a0_4 l0_5 l0_6 l0_7 bt152.1 bt152.2.1 bt152.2.2.1 bt152.2.2.2.1 bt152.2.2.2.2.1 bt152.2.2.2.2.2.1 bt152.2.2.2.2.2.2.1 bt152.2.2.2.2.2.2.2.1 bt152.2.2.2.2.2.2.2.2) else (spec_FrameOK.j0 k a0_4 a0_0 a0_1 a0_2 a0_3 a0_4 l0_5 l0_6 l0_7 bt152.1 bt152.2.1 bt152.2.2.1 bt152.2.2.2.1 bt152.2.2.2.2.1 bt152.2.2.2.2.2.1 bt152.2.2.2.2.2.2.1 bt152.2.2.2.2.2.2.2.1 bt152.2.2.2.2.2.2.2.2)) else (spec_FrameOK.j0 k true a0_0 a0_1 a0_2 a0_3 a0_4 l0_5 l0_6 l0_7 bt152.1 bt152.2.1 bt152.2.2.1 bt152.2.2.2.1 bt152.2.2.2.2.1 bt152.2.2.2.2.2.1 bt152.2.2.2.2.2.2.1 bt152.2.2.2.2.2.2.2.1 bt152.2.2.2.2.2.2.2.2))) else (spec_FrameOK.j0 k true a0_0 a0_1 a0_2 a0_3 a0_4 l0_5 l0_6 l0_7 bt152.1 bt152.2.1 bt152.2.2.1 bt152.2.2.2.1 bt152.2.2.2.2.1 bt152.2.2.2.2.2.1 bt152.2.2.2.2.2.2.1 bt152.2.2.2.2.2.2.2.1 bt152.2.2.2.2.2.2.2.2))) else (spec_FrameOK.j0 k true a0_0 a0_1 a0_2 a0_3 a0_4 l0_5 l0_6 l0_7 bt152.1 bt152.2.1 bt152.2.2.1 bt152.2.2.2.1 bt152.2.2.2.2.1 bt152.2.2.2.2.2.1 bt152.2.2.2.2.2.2.1 bt152.2.2.2.2.2.2.2.1 bt152.2.2.2.2.2.2.2.2))) else (spec_FrameOK.j0 k true a0_0 a0_1 a0_2 a0_3 a0_4 l0_5 l0_6 l0_7 bt152.1 bt152.2.1 bt152.2.2.1 bt152.2.2.2.1 bt152.2.2.2.2.1 bt152.2.2.2.2.2.1 bt152.2.2.2.2.2.2.1 bt152.2.2.2.2.2.2.2.1 bt152.2.2.2.2.2.2.2.2))) else (spec_FrameOK.j0 k true a0_0 a0_1 a0_2 a0_3 a0_4 l0_5 l0_6 l0_7 bt152.1 bt152.2.1 bt152.2.2.1 bt152.2.2.2.1 bt152.2.2.2.2.1 bt152.2.2.2.2.2.1 bt152.2.2.2.2.2.2.1 bt152.2.2.2.2.2.2.2.1 bt152.2.2.2.2.2.2.2.2))) else (spec_FrameOK.j0 k true a0_0 a0_1 a0_2 a0_3 a0_4 l0_5 l0_6 l0_7 bt152.1 bt152.2.1 bt152.2.2.1 bt152.2.2.2.1 bt152.2.2.2.2.1 bt152.2.2.2.2.2.1 bt152.2.2.2.2.2.2.1 bt152.2.2.2.2.2.2.2.1 bt152.2.2.2.2.2.2.2.2))) else (spec_FrameOK.j0 k true a0_0 a0_1 a0_2 a0_3 a0_4 l0_5 l0_6 l0_7 bt152.1 bt152.2.1 bt152.2.2.1 bt152.2.2.2.1 bt152.2.2.2.2.1 bt152.2.2.2.2.2.1 bt152.2.2.2.2.2.2.1 bt152.2.2.2.2.2.2.2.1 bt152.2.2.2.2.2.2.2.2))
theorem spec_FrameOK.mono_l : ∀ k, (∀ y0 y1 y2 y3 y4 y5 y6 y7 y8 y9 y10 y11 y12 y13 y14 y15 y16 y17, LeO (spec_FrameOK.j0 k y0 y1 y2 y3 y4 y5 y6 y7 y8 y9 y10 y11 y12 y13 y14 y15 y16 y17) (spec_FrameOK.j0 (k + 1) y0 y1 y2 y3 y4 y5 y6 y7 y8 y9 y10 y11 y12 y13 y14 y15 y16 y17)) ∧ (∀ y0 y1 y2 y3 y4 y5 y6 y7 y8, LeO (spec_FrameOK.j1 k y0 y1 y2 y3 y4 y5 y6 y7 y8) (spec_FrameOK.j1 (k + 1) y0 y1 y2 y3 y4 y5 y6 y7 y8)) ∧ (∀ y0 y1 y2 y3 y4 y5 y6 y7 y8 y9, LeO (spec_FrameOK.j2 k y0 y1 y2 y3 y4 y5 y6 y7 y8 y9) (spec_FrameOK.j2 (k + 1) y0 y1 y2 y3 y4 y5 y6 y7 y8 y9))
 | 0 => ⟨fun _ _ _ _ _ _ _ _ _ _ _ _ _ _ _ _ _ _ r h => by simp [spec_FrameOK.j0] at h, fun _ _ _ _ _ _ _ _ _ r h => by simp [spec_FrameOK.j1] at h, fun _ _ _ _ _ _ _ _ _ _ r h => by simp [spec_FrameOK.j2] at h⟩
 | k + 1 => by
  obtain ⟨ih0, ih1, ih2⟩ := spec_FrameOK.mono_l k
  refine ⟨?_, ?_, ?_⟩
  ·intro y0 y1 y2 y3 y4 y5 y6 y7 y8 y9 y10 y11 y12 y13 y14 y15 y16 y17
   unfold spec_FrameOK.j0
   repeat' first
   | (with_reducible apply ih0)
   | (with_reducible apply ih1)
   | (with_reducible apply ih2)
   | (with_reducible apply spec_l05Kind.mono)
   | (with_reducible apply spec_l05RangesOK.mono)
   | (with_reducible exact LeO.refl _)
   | (with_reducible exact LeO.none _)
   | (with_reducible refine LeO.ite ?_ ?_)
   | (with_reducible refine LeO.bind ?_ (fun _ => ?_))
  ·intro y0 y1 y2 y3 y4 y5 y6 y7 y8
   unfold spec_FrameOK.j1
   repeat' first
   | (with_reducible apply ih0)
   | (with_reducible apply ih1)
   | (with_reducible apply ih2)
   | (with_reducible apply spec_l05Kind.mono)
   | (with_reducible apply spec_l05RangesOK.mono)
   | (with_reducible exact LeO.refl _)
   | (with_reducible exact LeO.none _)
   | (with_reducible refine LeO.ite ?_ ?_)
   | (with_reducible refine LeO.bind ?_ (fun _ => ?_))
  ·intro y0 y1 y2 y3 y4 y5 y6 y7 y8 y9
   unfold spec_FrameOK.j2
   repeat' first
   | (with_reducible apply ih0)
   | (with_reducible apply ih1)
   | (with_reducible apply ih2)
   | (with_reducible apply spec_l05Kind.mono)
   | (with_reducible apply spec_l05RangesOK.mono)
   | (with_reducible exact LeO.refl _)
   | (with_reducible exact LeO.none _)
   | (with_reducible refine LeO.ite ?_ ?_)
   | (with_reducible refine LeO.bind ?_ (fun _ => ?_))
theorem spec_FrameOK.mono : ∀ a0 a1 a2 a3 a4 a5 a6 a7 k, LeO (spec_FrameOK.f k a0 a1 a2 a3 a4 a5 a6 a7) (spec_FrameOK.f (k + 1) a0 a1 a2 a3 a4 a5 a6 a7) := by
 intro a0 a1 a2 a3 a4 a5 a6 a7 k
 obtain ⟨ih0, ih1, ih2⟩ := spec_FrameOK.mono_l k
 unfold spec_FrameOK.f
 repeat' first
   | (with_reducible apply ih0)
   | (with_reducible apply ih1)
   | (with_reducible apply ih2)
   | (with_reducible apply spec_l05Kind.mono)
   | (with_reducible apply spec_l05RangesOK.mono)
   | (with_reducible exact LeO.refl _)
   | (with_reducible exact LeO.none _)
   | (with_reducible refine LeO.ite ?_ ?_)
   | (with_reducible refine LeO.bind ?_ (fun _ => ?_))
set_option maxHeartbeats 8000000 in
set_option maxRecDepth 100000 in
theorem spec_FrameOK.calls (k : Nat) (a0_0 : Int) (a0_1 : Int) (a0_2 : Int) (a0_3 : Int) (a0_4 : Bool) (A0_5 : Option Addr) (c0_5 : Nat) (l0_5 : List Int) (A0_6 : Option Addr) (c0_6 : Nat) (l0_6 : List Int) (A0_7 : Option Addr) (c0_7 : Nat) (l0_7 : List (S105)) (r : Bool) (w : World) (hr0_5 : Kd.C (Kd.int .u8) w A0_5 l0_5.length l0_5) (hc0_5 : l0_5.length ≤ c0_5) (hr0_6 : Kd.C (Kd.int .u8) w A0_6 l0_6.length l0_6) (hc0_6 : l0_6.length ≤ c0_6) (hr0_7 : Kd.C k105 w A0_7 l0_7.length l0_7) (hc0_7 : l0_7.length ≤ c0_7) (h : spec_FrameOK.f k a0_0 a0_1 a0_2 a0_3 a0_4 l0_5 l0_6 l0_7 = some r) :
  Calls Try.prog 39 #[.agg #[.int .i64 a0_0, .int .i64 a0_1, .int .i64 a0_2, .int .i64 a0_3, .bool a0_4, .slice A0_5 l0_5.length c0_5, .slice A0_6 l0_6.length c0_6, .slice A0_7 l0_7.length c0_7]] w fun e w' => e = .returned (.bool r) ∧ Below w.heap.size w w' := by
 have hu55 := Try.underlying55
 have hu81 := Try.underlying81
 have HR0_5 := qm hr0_5
 have HC0_5 := qm hc0_5
 clear hr0_5 hc0_5
 have HR0_6 := qm hr0_6
 have HC0_6 := qm hc0_6
 clear hr0_6 hc0_6
 have HR0_7 := qm hr0_7
 have HC0_7 := qm hc0_7
 clear hr0_7 hc0_7
 have HB := qm (Below.refl w.heap.size w)
 have H : ((spec_l05Kind.f k a0_0).bind fun bt152 => (if bt152.1 = true then ((spec_l05Var.f a0_1).bind fun t162 => (if t162 = true then ((spec_l05Var.f a0_2).bind fun t163 => (if t163 = true then ((spec_l05Var.f a0_3).bind fun t164 => (if t164 = true then (if bt152.2.1 = true then (if bt152.2.2.1 = true then (if bt152.2.2.2.1 = true then (if bt152.2.2.2.2.1 = true then (spec_FrameOK.j0 k false a0_0 a0_1 a0_2 a0_3 a0_4 l0_5 l0_6 l0_7 bt152.1 bt152.2.1 bt152.2.2.1 bt152.2.2.2.1 bt152.2.2.2.2.1 bt152.2.2.2.2.2.1 bt152.2.2.2.2.2.2.1 bt152.2.2.2.2.2.2.2.1 bt152.2.2.2.2.2.2.2.2) else (spec_FrameOK.j0 k a0_4 a0_0 a0_1 a0_2 a0_3 a0_4 l0_5 l0_6 l0_7 bt152.1 bt152.2.1 bt152.2.2.1 bt152.2.2.2.1 bt152.2.2.2.2.1 bt152.2.2.2.2.2.1 bt152.2.2.2.2.2.2.1 bt152.2.2.2.2.2.2.2.1 bt152.2.2.2.2.2.2.2.2)) else (if a0_3 = 0 then (if bt152.2.2.2.2.1 = true then (spec_FrameOK.j0 k false a0_0 a0_1 a0_2 a0_3 a0_4 l0_5 l0_6 l0_7 bt152.1 bt152.2.1 bt152.2.2.1 bt152.2.2.2.1 bt152.2.2.2.2.1 bt152.2.2.2.2.2.1 bt152.2.2.2.2.2.2.1 bt152.2.2.2.2.2.2.2.1 bt152.2.2.2.2.2.2.2.2) else (spec_FrameOK.j0 k a0_4 a0_0 a0_1 a0_2 a0_3 a0_4 l0_5 l0_6 l0_7 bt152.1 bt152.2.1 bt152.2.2.1 bt152.2.2.2.1 bt152.2.2.2.2.1 bt152.2.2.2.2.2.1 bt152.2.2.2.2.2.2.1 bt152.2.2.2.2.2.2.2.1 bt152.2.2.2.2.2.2.2.2)) else (spec_FrameOK.j0 k true a0_0 a0_1 a0_2 a0_3 a0_4 l0_5 l0_6 l0_7 bt152.1 bt152.2.1 bt152.2.2.1 bt152.2.2.2.1 bt152.2.2.2.2.1 bt152.2.2.2.2.2.1 bt152.2.2.2.2.2.2.1 bt152.2.2.2.2.2.2.2.1 bt152.2.2.2.2.2.2.2.2))) else (if a0_2 = 0 then (if bt152.2.2.2.1 = true then (if bt152.2.2.2.2.1 = true then (spec_FrameOK.j0 k false a0_0 a0_1 a0_2 a0_3 a0_4 l0_5 l0_6 l0_7 bt152.1 bt152.2.1 bt152.2.2.1 bt152.2.2.2.1 bt152.2.2.2.2.1 bt152.2.2.2.2.2.1 bt152.2.2.2.2.2.2.1 bt152.2.2.2.2.2.2.2.1 bt152.2.2.2.2.2.2.2.2) else (spec_FrameOK.j0 k a0_4 a0_0 a0_1 a0_2 a0_3 a0_4 l0_5 l0_6 l0_7 bt152.1 bt152.2.1 bt152.2.2.1 bt152.2.2.2.1 bt152.2.2.2.2.1 bt152.2.2.2.2.2.1 bt152.2.2.2.2.2.2.1 bt152.2.2.2.2.2.2.2.1 bt152.2.2.2.2.2.2.2.2)) else (if a0_3 = 0 then (if bt152.2.2.2.2.1 = true then (spec_FrameOK.j0 k false a0_0 a0_1 a0_2 a0_3 a0_4 l0_5 l0_6 l0_7 bt152.1 bt152.2.1 bt152.2.2.1 bt152.2.2.2.1 bt152.2.2.2.2.1 bt152.2.2.2.2.2.1 bt152.2.2.2.2.2.2.1 bt152.2.2.2.2.2.2.2.1 bt152.2.2.2.2.2.2.2.2) else (spec_FrameOK.j0 k a0_4 a0_0 a0_1 a0_2 a0_3 a0_4 l0_5 l0_6 l0_7 bt152.1 bt152.2.1 bt152.2.2.1 bt152.2.2.2.1 bt152.2.2.2.2.1 bt152.2.2.2.2.2.1 bt152.2.2.2.2.2.2.1 bt152.2.2.2.2.2.2.2.1 bt152.2.2.2.2.2.2.2.2)) else (spec_FrameOK.j0 k true a0_0 a0_1 a0_2 a0_3 a0_4 l0_5 l0_6 l0_7 bt152.1 bt152.2.1 bt152.2.2.1 bt152.2.2.2.1 bt152.2.2.2.2.1 bt152.2.2.2.2.2.1 bt152.2.2.2.2.2.2.1 bt152.2.2.2.2.2.2.2.1 bt152.2.2.2.2.2.2.2.2))) else (spec_FrameOK.j0 k true a0_0 a0_1 a0_2 a0_3 a0_4 l0_5 l0_6 l0_7 bt152.1 bt152.2.1 bt152.2.2.1 bt152.2.2.2.1 bt152.2.2.2.2.1 bt152.2.2.2.2.2.1 bt152.2.2.2.2.2.2.1 bt152.2.2.2.2.2.2.2.1 bt152.2.2.2.2.2.2.2.2))) else (if a0_1 = 0 then (if bt152.2.2.1 = true then (if bt152.2.2.2.1 = true then (if bt152.2.2.2.2.1 = true then (spec_FrameOK.j0 k false a0_0 a0_1 a0_2 a0_3 a0_4 l0_5 l0_6 l0_7 bt152.1 bt152.2.1 bt152.2.2.1 bt152.2.2.2.1 bt152.2.2.2.2.1 bt152.2.2.2.2.2.1 bt152.2.2.2.2.2.2.1 bt152.2.2.2.2.2.2.2.1 bt152.2.2.2.2.2.2.2.2) else (spec_FrameOK.j0 k a0_4 a0_0 a0_1 a0_2 a0_3 a0_4 l0_5 l0_6 l0_7 bt152.1 bt152.2.1 bt152.2.2.1 bt152.2.2.2.1 bt152.2.2.2.2.1 bt152.2.2.2.2.2.1 bt152.2.2.2.2.2.2.1 bt152.2.2.2.2.2.2.2.1 bt152.2.2.2.2.2.2.2.2)) else (if a0_3 = 0 then (if bt152.2.2.2.2.1 = true then (spec_FrameOK.j0 k false a0_0 a0_1 a0_2 a0_3 a0_4 l0_5 l0_6 l0_7 bt152.1 bt152.2.1 bt152.2.2.1 bt152.2.2.2.1 bt152.2.2.2.2.1 bt152.2.2.2.2.2.1 bt152.2.2.2.2.2.2.1 bt152.2.2.2.2.2.2.2.1 bt152.2.2.2.2.2.2.2.2) else (spec_FrameOK.j0 k a0_4 a0_0 a0_1 a0_2 a0_3 a0_4 l0_5 l0_6 l0_7 bt152.1 bt152.2.1 bt152.2.2.1 bt152.2.2.2.1 bt152.2.2.2.2.1 bt152.2.2.2.2.2.1 bt152.2.2.2.2.2.2.1 bt152.2.2.2.2.2.2.2.1 bt152.2.2.2.2.2.2.2.2)) else (spec_FrameOK.j0 k true a0_0 a0_1 a0_2 a0_3 a0_4 l0_5 l0_6 l0_7 bt152.1 bt152.2.1 bt152.2.2.1 bt152.2.2.2.1 bt152.2.2.2.2.1 bt152.2.2.2.2.2.1 bt152.2.2.2.2.2.2.1 bt152.2.2.2.2.2.2.2.1 bt152.2.2.2.2.2.2.2.2))) else (if a0_2 = 0 then (if bt152.2.2.2.1 = true then (if bt152.2.2.2.2.1 = true then (spec_FrameOK.j0 k false a0_0 a0_1 a0_2 a0_3 a0_4 l0_5 l0_6 l0_7 bt152.1 bt152.2.1 bt152.2.2.1 bt152.2.2.2.1 bt152.2.2.2.2.1 bt152.2.2.2.2.2.1 bt152.2.2.2.2.2.2.1 bt152.2.2.2.2.2.2.2.1 bt152.2.2.2.2.2.2.2.2) else (spec_FrameOK.j0 k a0_4 a0_0 a0_1 a0_2 a0_3 a0_4 l0_5 l0_6 l0_7 bt152.1 bt152.2.1 bt152.2.2.1 bt152.2.2.2.1 bt152.2.2.2.2.1 bt152.2.2.2.2.2.1 bt152.2.2.2.2.2.2.1 bt152.2.2.2.2.2.2.2.1 bt152.2.2.2.2.2.2.2.2)) else (if a0_3 = 0 then (if bt152.2.2.2.2.1 = true then (spec_FrameOK.j0 k false a0_0 a0_1 a0_2 a0_3 a0_4 l0_5 l0_6 l0_7 bt152.1 bt152.2.1 bt152.2.2.1 bt152.2.2.2.1 bt152.2.2.2.2.1 bt152.2.2.2.2.2.1 bt152.2.2.2.2.2.2.1 bt152.2.2.2.2.2.2.2.1 bt152.2.2.2.2.2.2.2.2) else (spec_FrameOK.j0 k a0_4 a0_0 a0_1 a0_2 a0_3 a0_4 l0_5 l0_6 l0_7 bt152.1 bt152.2.1 bt152.2.2.1 bt152.2.2.2.1 bt152.2.2.2.2.1 bt152.2.2.2.2.2.1 bt152.2.2.2.2.2.2.1 bt152.2.2.2.2.2.2.2.1 bt152.2.2.2.2.2.2.2.2)) else (spec_FrameOK.j0 k true a0_0 a0_1 a0_2 a0_3 a0_4 l0_5 l0_6 l0_7 bt152.1 bt152.2.1 bt152.2.2.1 bt152.2.2.2.1 bt152.2.2.2.2.1 bt152.2.2.2.2.2.1 bt152.2.2.2.2.2.2.1 bt152.2.2.2.2.2.2.2.1 bt152.2.2.2.2.2.2.2.2))) else (spec_FrameOK.j0 k true a0_0 a0_1 a0_2 a0_3 a0_4 l0_5 l0_6 l0_7 bt152.1 bt152.2.1 bt152.2.2.1 bt152.2.2.2.1 bt152.2.2.2.2.1 bt152.2.2.2.2.2.1 bt152.2.2.2.2.2.2.1 bt152.2.2.2.2.2.2.2.1 bt152.2.2.2.2.2.2.2.2))) else (spec_FrameOK.j0 k true a0_0 a0_1 a0_2 a0_3 a0_4 l0_5 l0_6 l0_7 bt152.1 bt152.2.1 bt152.2.2.1 bt152.2.2.2.1 bt152.2.2.2.2.1 bt152.2.2.2.2.2.1 bt152.2.2.2.2.2.2.1 bt152.2.2.2.2.2.2.2.1 bt152.2.2.2.2.2.2.2.2))) else (spec_FrameOK.j0 k true a0_0 a0_1 a0_2 a0_3 a0_4 l0_5 l0_6 l0_7 bt152.1 bt152.2.1 bt152.2.2.1 bt152.2.2.2.1 bt152.2.2.2.2.1 bt152.2.2.2.2.2.1 bt152.2.2.2.2.2.2.1 bt152.2.2.2.2.2.2.2.1 bt152.2.2.2.2.2.2.2.2))) else (spec_FrameOK.j0 k true a0_0 a0_1 a0_2 a0_3 a0_4 l0_5 l0_6 l0_7 bt152.1 bt152.2.1 bt152.2.2.1 bt152.2.2.2.1 bt152.2.2.2.2.1 bt152.2.2.2.2.2.1 bt152.2.2.2.2.2.2.1 bt152.2.2.2.2.2.2.2.1 bt152.2.2.2.2.2.2.2.2))) else (spec_FrameOK.j0 k true a0_0 a0_1 a0_2 a0_3 a0_4 l0_5 l0_6 l0_7 bt152.1 bt152.2.1 bt152.2.2.1 bt152.2.2.2.1 bt152.2.2.2.2.1 bt152.2.2.2.2.2.1 bt152.2.2.2.2.2.2.1 bt152.2.2.2.2.2.2.2.1 bt152.2.2.2.2.2.2.2.2))) else (spec_FrameOK.j0 k true a0_0 a0_1 a0_2 a0_3 a0_4 l0_5 l0_6 l0_7 bt152.1 bt152.2.1 bt152.2.2.1 bt152.2.2.2.1 bt152.2.2.2.2.1 bt152.2.2.2.2.2.1 bt152.2.2.2.2.2.2.1 bt152.2.2.2.2.2.2.2.1 bt152.2.2.2.2.2.2.2.2))) = some r := h
 clear h
 replace H := Option.bind_eq_some_iff.mp H
 obtain ⟨⟨t152, t153, t154, t155, t156, t157, t158, t159, t160⟩, A20, H⟩ := H
 try dsimp only at H
 have A2 := qm A20
 clear A20
 have HC3 := qm H
 clear H
 go_enter Try.func39, Try.ntmps39
 go_upto_region 2 with (first | ((with_reducible refine gate_dst (N := 1) rfl ?_); (try (refine gate_guard (by rfl) ?_; dsimp only)); refine box_event (by rfl) (N := 1) (by rfl) (cs := #[.int .i64 a0_0, .int .i64 a0_1, .int .i64 a0_2, .int .i64 a0_3, .bool a0_4, .slice A0_5 l0_5.length c0_5, .slice A0_6 l0_6.length c0_6, .slice A0_7 l0_7.length c0_7]) (t := 55) (by first | (go_simp; done) | (go_simp; rfl)) ?_; intro gb151 hg w4 hbox hb; have n0_ := qm (qt HB.out hb); have n1_ := qm (hbox); have n2_ := qm ((by rw [hg]; exact (qs HB.out) : w.heap.size ≤ gb151)); have n3_ := qm ((by rw [hg]; exact (qs HB.out) : w.heap.size ≤ gb151)); clear HB; have HB := n0_; have BK151 := n1_; have GW151 := n2_; have GE151 := n3_; clear hb hbox hg; obtain ⟨_, _, _, _, _, _, _, _, _, _, _, _, _, _, _, _⟩ := fc8 BK151.out) | ((with_reducible refine gate_callee (f := 71) rfl ?_); refine goesL_ (some 6) rfl rfl Try.func71 (by kernel_rfl) rfl #[.int .i64 a0_0] rfl (by (try simp only [m1, m2, m3]); first | done | rfl) ?_; (with_reducible refine (spec_l05Kind.calls k a0_0 t152 t153 t154 t155 t156 t157 t158 t159 t160 _ A2.out).mono ?_); rintro e w6 ⟨rfl, hb⟩; refine ⟨_, rfl, ?_⟩; have n0_ := qm (blk_below (g := gb151) BK151.out hb); have n1_ := qm (qt HB.out hb); clear BK151; clear HB; have BK151 := n0_; have HB := n1_) | ((with_reducible refine gate_dst (N := 3) rfl ?_); (try (refine gate_guard (by rfl) ?_; dsimp only)); refine box_event (by rfl) (N := 3) (by rfl) (cs := #[.bool false, .bool false, .bool false, .bool false, .bool false, .bool false, .int .i64 0, .int .i64 0, .int .i64 0]) (t := 81) (by first | (go_simp; done) | (go_simp; rfl)) ?_; intro gb161 hg w7 hbox hb; have n0_ := qm (blk_below (g := gb151) BK151.out hb); have n1_ := qm (qt HB.out hb); have n2_ := qm (hbox); have n3_ := qm ((by rw [hg]; exact (qs HB.out) : w.heap.size ≤ gb161)); have n4_ := qm ((by rw [hg]; exact (qs HB.out) : w.heap.size ≤ gb161)); have n5_ := qm ((by rw [hg]; exact Nat.ne_of_lt (blk_lt (g := gb151) (o := .cells #[.int .i64 a0_0, .int .i64 a0_1, .int .i64 a0_2, .int .i64 a0_3, .bool a0_4, .slice A0_5 l0_5.length c0_5, .slice A0_6 l0_6.length c0_6, .slice A0_7 l0_7.length c0_7] 55 (0, 0)) BK151.out) : gb151 ≠ gb161)); have n6_ := qm ((by rw [hg]; exact Nat.ne_of_gt (blk_lt (g := gb151) (o := .cells #[.int .i64 a0_0, .int .i64 a0_1, .int .i64 a0_2, .int .i64 a0_3, .bool a0_4, .slice A0_5 l0_5.length c0_5, .slice A0_6 l0_6.length c0_6, .slice A0_7 l0_7.length c0_7] 55 (0, 0)) BK151.out) : gb161 ≠ gb151)); clear BK151; clear HB; have BK151 := n0_; have HB := n1_; have BK161 := n2_; have GW161 := n3_; have GE161 := n4_; have NB151_161 := n5_; have NB161_151 := n6_; clear hb hbox hg; have hnb8 := NB161_151.out; have hnc8 := NB151_161.out; obtain ⟨_, _, _, _, _, _, _, _, _, _, _, _, _, _, _, _, _, _⟩ := fc9 BK161.out))
 (try simp only [Act.put, s1, s2, s3])
 refine gen_wp (fun w_ => Aside0 (w_.heap[gb151]? = some (.cells #[.int .i64 a0_0, .int .i64 a0_1, .int .i64 a0_2, .int .i64 a0_3, .bool a0_4, (.slice A0_5 l0_5.length c0_5), (.slice A0_6 l0_6.length c0_6), (.slice A0_7 l0_7.length c0_7)] 55 (0, 0))) ∧ Aside0 (w_.heap[gb161]? = some (.cells #[.bool t152, .bool t153, .bool t154, .bool t155, .bool t156, .bool t157, .int .i64 t158, .int .i64 t159, .int .i64 t160] 81 (0, 0))) ∧ Aside0 (Below w.heap.size w w_)) ⟨⟨by (with_reducible repeat (first | refine ql ?_ _ | refine qn ?_ | refine qo ?_ _)); refine qr ?_ NB151_161.out _; (with_reducible repeat (first | refine ql ?_ _ | refine qn ?_ | refine qo ?_ _)); refine qr ?_ NB151_161.out _; (with_reducible repeat (first | refine ql ?_ _ | refine qn ?_ | refine qo ?_ _)); refine qr ?_ NB151_161.out _; (with_reducible repeat (first | refine ql ?_ _ | refine qn ?_ | refine qo ?_ _)); refine qr ?_ NB151_161.out _; (with_reducible repeat (first | refine ql ?_ _ | refine qn ?_ | refine qo ?_ _)); refine qr ?_ NB151_161.out _; (with_reducible repeat (first | refine ql ?_ _ | refine qn ?_ | refine qo ?_ _)); refine qr ?_ NB151_161.out _; (with_reducible repeat (first | refine ql ?_ _ | refine qn ?_ | refine qo ?_ _)); refine qr ?_ NB151_161.out _; (with_reducible repeat (first | refine ql ?_ _ | refine qn ?_ | refine qo ?_ _)); refine qr ?_ NB151_161.out _; (with_reducible repeat (first | refine ql ?_ _ | refine qn ?_ | refine qo ?_ _)); refine qr ?_ NB151_161.out _; (with_reducible repeat (first | refine ql ?_ _ | refine qn ?_ | refine qo ?_ _)); exact BK151.out⟩, ⟨by (with_reducible repeat (first | refine ql ?_ _ | refine qn ?_ | refine qo ?_ _)); refine qp (cs := #[.bool t152, .bool t153, .bool t154, .bool t155, .bool t156, .bool t157, .int .i64 t158, .int .i64 t159, .int .i64 0]) ?_ 8 _ rfl; (with_reducible repeat (first | refine ql ?_ _ | refine qn ?_ | refine qo ?_ _)); refine qp (cs := #[.bool t152, .bool t153, .bool t154, .bool t155, .bool t156, .bool t157, .int .i64 t158, .int .i64 0, .int .i64 0]) ?_ 7 _ rfl; (with_reducible repeat (first | refine ql ?_ _ | refine qn ?_ | refine qo ?_ _)); refine qp (cs := #[.bool t152, .bool t153, .bool t154, .bool t155, .bool t156, .bool t157, .int .i64 0, .int .i64 0, .int .i64 0]) ?_ 6 _ rfl; (with_reducible repeat (first | refine ql ?_ _ | refine qn ?_ | refine qo ?_ _)); refine qp (cs := #[.bool t152, .bool t153, .bool t154, .bool t155, .bool t156, .bool false, .int .i64 0, .int .i64 0, .int .i64 0]) ?_ 5 _ rfl; (with_reducible repeat (first | refine ql ?_ _ | refine qn ?_ | refine qo ?_ _)); refine qp (cs := #[.bool t152, .bool t153, .bool t154, .bool t155, .bool false, .bool false, .int .i64 0, .int .i64 0, .int .i64 0]) ?_ 4 _ rfl; (with_reducible repeat (first | refine ql ?_ _ | refine qn ?_ | refine qo ?_ _)); refine qp (cs := #[.bool t152, .bool t153, .bool t154, .bool false, .bool false, .bool false, .int .i64 0, .int .i64 0, .int .i64 0]) ?_ 3 _ rfl; (with_reducible repeat (first | refine ql ?_ _ | refine qn ?_ | refine qo ?_ _)); refine qp (cs := #[.bool t152, .bool t153, .bool false, .bool false, .bool false, .bool false, .int .i64 0, .int .i64 0, .int .i64 0]) ?_ 2 _ rfl; (with_reducible repeat (first | refine ql ?_ _ | refine qn ?_ | refine qo ?_ _)); refine qp (cs := #[.bool t152, .bool false, .bool false, .bool false, .bool false, .bool false, .int .i64 0, .int .i64 0, .int .i64 0]) ?_ 1 _ rfl; (with_reducible repeat (first | refine ql ?_ _ | refine qn ?_ | refine qo ?_ _)); refine qp (cs := #[.bool false, .bool false, .bool false, .bool false, .bool false, .bool false, .int .i64 0, .int .i64 0, .int .i64 0]) ?_ 0 _ rfl; (with_reducible repeat (first | refine ql ?_ _ | refine qn ?_ | refine qo ?_ _)); exact BK161.out⟩, ⟨by repeat (first | (with_reducible first | exact HB.out | apply qh | apply qi | apply qj | refine qk ?_ GE151.out | refine qk ?_ GE161.out) | exact HB.out)⟩⟩ ?_
 clear BK151 BK161 HB
 rintro wS ⟨BK151, BK161, HB⟩
 go_cut [66] (fun v66 wc => ∃ (kq : Nat) (x66_2 : Bool), v66 = .bool x66_2 ∧ Aside0 (spec_FrameOK.j0 kq x66_2 a0_0 a0_1 a0_2 a0_3 a0_4 l0_5 l0_6 l0_7 t152 t153 t154 t155 t156 t157 t158 t159 t160 = some r) ∧ Aside0 (kq ≤ k) ∧ Aside0 (wc.heap[gb151]? = some (.cells #[.int .i64 a0_0, .int .i64 a0_1, .int .i64 a0_2, .int .i64 a0_3, .bool a0_4, (.slice A0_5 l0_5.length c0_5), (.slice A0_6 l0_6.length c0_6), (.slice A0_7 l0_7.length c0_7)] 55 (0, 0))) ∧ Aside0 (wc.heap[gb161]? = some (.cells #[.bool t152, .bool t153, .bool t154, .bool t155, .bool t156, .bool t157, .int .i64 t158, .int .i64 t159, .int .i64 t160] 81 (0, 0))) ∧ Aside0 (Below w.heap.size w wc))
 case first =>
  have H := HC3.out
  clear HC3
  by_cases c10 : t152 = true
  ·subst c10
   rw [if_pos rfl] at H
   replace H := Option.bind_eq_some_iff.mp H
   obtain ⟨t162, A110, H⟩ := H
   try dsimp only at H
   have A11 := qm A110
   clear A110
   by_cases c12 : t162 = true
   ·subst c12
    rw [if_pos rfl] at H
    replace H := Option.bind_eq_some_iff.mp H
    obtain ⟨t163, A130, H⟩ := H
    try dsimp only at H
    have A13 := qm A130
    clear A130
    by_cases c14 : t163 = true
    ·subst c14
     rw [if_pos rfl] at H
     replace H := Option.bind_eq_some_iff.mp H
     obtain ⟨t164, A150, H⟩ := H
     try dsimp only at H
     have A15 := qm A150
     clear A150
     by_cases c16 : t164 = true
     ·subst c16
      rw [if_pos rfl] at H
      by_cases c17 : t153 = true
      ·subst c17
       rw [if_pos rfl] at H
       by_cases c18 : t154 = true
       ·subst c18
        rw [if_pos rfl] at H
        by_cases c19 : t155 = true
        ·subst c19
         rw [if_pos rfl] at H
         by_cases c20 : t156 = true
         ·subst c20
          rw [if_pos rfl] at H
          have H' := qm H
          clear H
          have hnb21 := NB161_151.out
          have hnc21 := NB151_161.out
          obtain ⟨_, _, _, _, _, _, _, _, _, _, _, _, _, _, _, _, _, _⟩ := fc9 BK161.out
          obtain ⟨_, _, _, _, _, _, _, _, _, _, _, _, _, _, _, _⟩ := fc8 BK151.out
          go_wp2_with (first | (go_at_call 74; (with_reducible refine (spec_l05Var.calls a0_1 true _ A11.out).mono ?_); rintro e w' ⟨rfl, ⟨nd, rfl⟩⟩) | (go_at_call 74; (with_reducible refine (spec_l05Var.calls a0_2 true _ A13.out).mono ?_); rintro e w' ⟨rfl, ⟨nd, rfl⟩⟩) | (go_at_call 74; (with_reducible refine (spec_l05Var.calls a0_3 true _ A15.out).mono ?_); rintro e w' ⟨rfl, ⟨nd, rfl⟩⟩))
          go_meet
          case rel => exact ⟨_, (false), rfl, H', ⟨by first | omega | exact Nat.le_refl _⟩, ⟨BK151.out⟩, ⟨BK161.out⟩, ⟨by repeat (first | (with_reducible first | exact HB.out | apply qh | apply qi | apply qj | refine qk ?_ GE151.out | refine qk ?_ GE161.out) | exact HB.out)⟩⟩
         replace c20 := Bool.eq_false_iff.mpr c20
         subst c20
         rw [if_neg nt] at H
         have H' := qm H
         clear H
         have hnb24 := NB161_151.out
         have hnc24 := NB151_161.out
         obtain ⟨_, _, _, _, _, _, _, _, _, _, _, _, _, _, _, _, _, _⟩ := fc9 BK161.out
         obtain ⟨_, _, _, _, _, _, _, _, _, _, _, _, _, _, _, _⟩ := fc8 BK151.out
         go_wp2_with (first | (go_at_call 74; (with_reducible refine (spec_l05Var.calls a0_1 true _ A11.out).mono ?_); rintro e w' ⟨rfl, ⟨nd, rfl⟩⟩) | (go_at_call 74; (with_reducible refine (spec_l05Var.calls a0_2 true _ A13.out).mono ?_); rintro e w' ⟨rfl, ⟨nd, rfl⟩⟩) | (go_at_call 74; (with_reducible refine (spec_l05Var.calls a0_3 true _ A15.out).mono ?_); rintro e w' ⟨rfl, ⟨nd, rfl⟩⟩))
         go_meet
         case rel => exact ⟨_, (a0_4), rfl, H', ⟨by first | omega | exact Nat.le_refl _⟩, ⟨BK151.out⟩, ⟨BK161.out⟩, ⟨by repeat (first | (with_reducible first | exact HB.out | apply qh | apply qi | apply qj | refine qk ?_ GE151.out | refine qk ?_ GE161.out) | exact HB.out)⟩⟩
        replace c19 := Bool.eq_false_iff.mpr c19
        subst c19
        rw [if_neg nt] at H
        by_cases c27 : a0_3 = 0
        ·rw [if_pos c27] at H
         have c27b0 : (a0_3 == 0) = true := beq_iff_eq.mpr c27
         have c27b1 : (a0_3 != 0) = false := bne_eq_false_iff_eq.mpr c27
         clear c27
         (first | rw [c27b0] | (simp only [i64_w, i32_w]; rw [c27b0]) | skip)
         by_cases c28 : t156 = true
         ·subst c28
          rw [if_pos rfl] at H
          have H' := qm H
          clear H
          have hnb29 := NB161_151.out
          have hnc29 := NB151_161.out
          obtain ⟨_, _, _, _, _, _, _, _, _, _, _, _, _, _, _, _, _, _⟩ := fc9 BK161.out
          obtain ⟨_, _, _, _, _, _, _, _, _, _, _, _, _, _, _, _⟩ := fc8 BK151.out
          go_wp2_with (first | (go_at_call 74; (with_reducible refine (spec_l05Var.calls a0_1 true _ A11.out).mono ?_); rintro e w' ⟨rfl, ⟨nd, rfl⟩⟩) | (go_at_call 74; (with_reducible refine (spec_l05Var.calls a0_2 true _ A13.out).mono ?_); rintro e w' ⟨rfl, ⟨nd, rfl⟩⟩) | (go_at_call 74; (with_reducible refine (spec_l05Var.calls a0_3 true _ A15.out).mono ?_); rintro e w' ⟨rfl, ⟨nd, rfl⟩⟩))
          go_meet
          case rel => exact ⟨_, (false), rfl, H', ⟨by first | omega | exact Nat.le_refl _⟩, ⟨BK151.out⟩, ⟨BK161.out⟩, ⟨by repeat (first | (with_reducible first | exact HB.out | apply qh | apply qi | apply qj | refine qk ?_ GE151.out | refine qk ?_ GE161.out) | exact HB.out)⟩⟩
         replace c28 := Bool.eq_false_iff.mpr c28
         subst c28
         rw [if_neg nt] at H
         have H' := qm H
         clear H
         have hnb32 := NB161_151.out
         have hnc32 := NB151_161.out
         obtain ⟨_, _, _, _, _, _, _, _, _, _, _, _, _, _, _, _, _, _⟩ := fc9 BK161.out
         obtain ⟨_, _, _, _, _, _, _, _, _, _, _, _, _, _, _, _⟩ := fc8 BK151.out
         go_wp2_with (first | (go_at_call 74; (with_reducible refine (spec_l05Var.calls a0_1 true _ A11.out).mono ?_); rintro e w' ⟨rfl, ⟨nd, rfl⟩⟩) | (go_at_call 74; (with_reducible refine (spec_l05Var.calls a0_2 true _ A13.out).mono ?_); rintro e w' ⟨rfl, ⟨nd, rfl⟩⟩) | (go_at_call 74; (with_reducible refine (spec_l05Var.calls a0_3 true _ A15.out).mono ?_); rintro e w' ⟨rfl, ⟨nd, rfl⟩⟩))
         go_meet
         case rel => exact ⟨_, (a0_4), rfl, H', ⟨by first | omega | exact Nat.le_refl _⟩, ⟨BK151.out⟩, ⟨BK161.out⟩, ⟨by repeat (first | (with_reducible first | exact HB.out | apply qh | apply qi | apply qj | refine qk ?_ GE151.out | refine qk ?_ GE161.out) | exact HB.out)⟩⟩
        rw [if_neg c27] at H
        have c27b0 : (a0_3 == 0) = false := beq_eq_false_iff_ne.mpr c27
        have c27b1 : (a0_3 != 0) = true := bne_iff_ne.mpr c27
        (first | rw [c27b0] | (simp only [i64_w, i32_w]; rw [c27b0]) | skip)
        have H' := qm H
        clear H
        have hnb35 := NB161_151.out
        have hnc35 := NB151_161.out
        obtain ⟨_, _, _, _, _, _, _, _, _, _, _, _, _, _, _, _, _, _⟩ := fc9 BK161.out
        obtain ⟨_, _, _, _, _, _, _, _, _, _, _, _, _, _, _, _⟩ := fc8 BK151.out
        go_wp2_with (first | (go_at_call 74; (with_reducible refine (spec_l05Var.calls a0_1 true _ A11.out).mono ?_); rintro e w' ⟨rfl, ⟨nd, rfl⟩⟩) | (go_at_call 74; (with_reducible refine (spec_l05Var.calls a0_2 true _ A13.out).mono ?_); rintro e w' ⟨rfl, ⟨nd, rfl⟩⟩) | (go_at_call 74; (with_reducible refine (spec_l05Var.calls a0_3 true _ A15.out).mono ?_); rintro e w' ⟨rfl, ⟨nd, rfl⟩⟩))
        go_meet
        case rel => exact ⟨_, (true), rfl, H', ⟨by first | omega | exact Nat.le_refl _⟩, ⟨BK151.out⟩, ⟨BK161.out⟩, ⟨by repeat (first | (with_reducible first | exact HB.out | apply qh | apply qi | apply qj | refine qk ?_ GE151.out | refine qk ?_ GE161.out) | exact HB.out)⟩⟩
       replace c18 := Bool.eq_false_iff.mpr c18
       subst c18
       rw [if_neg nt] at H
       by_cases c38 : a0_2 = 0
       ·rw [if_pos c38] at H
        have c38b0 : (a0_2 == 0) = true := beq_iff_eq.mpr c38
        have c38b1 : (a0_2 != 0) = false := bne_eq_false_iff_eq.mpr c38
        clear c38
        by_cases c39 : t155 = true
        ·subst c39
         rw [if_pos rfl] at H
         by_cases c40 : t156 = true
         ·subst c40
          rw [if_pos rfl] at H
          have H' := qm H
          clear H
          have hnb41 := NB161_151.out
          have hnc41 := NB151_161.out
          obtain ⟨_, _, _, _, _, _, _, _, _, _, _, _, _, _, _, _, _, _⟩ := fc9 BK161.out
          obtain ⟨_, _, _, _, _, _, _, _, _, _, _, _, _, _, _, _⟩ := fc8 BK151.out
          go_wp2_with (first | (go_at_call 74; (with_reducible refine (spec_l05Var.calls a0_1 true _ A11.out).mono ?_); rintro e w' ⟨rfl, ⟨nd, rfl⟩⟩) | (go_at_call 74; (with_reducible refine (spec_l05Var.calls a0_2 true _ A13.out).mono ?_); rintro e w' ⟨rfl, ⟨nd, rfl⟩⟩) | (go_at_call 74; (with_reducible refine (spec_l05Var.calls a0_3 true _ A15.out).mono ?_); rintro e w' ⟨rfl, ⟨nd, rfl⟩⟩))
          go_meet
          case rel => exact ⟨_, (false), rfl, H', ⟨by first | omega | exact Nat.le_refl _⟩, ⟨BK151.out⟩, ⟨BK161.out⟩, ⟨by repeat (first | (with_reducible first | exact HB.out | apply qh | apply qi | apply qj | refine qk ?_ GE151.out | refine qk ?_ GE161.out) | exact HB.out)⟩⟩
         replace c40 := Bool.eq_false_iff.mpr c40
         subst c40
         rw [if_neg nt] at H
         have H' := qm H
         clear H
         have hnb44 := NB161_151.out
         have hnc44 := NB151_161.out
         obtain ⟨_, _, _, _, _, _, _, _, _, _, _, _, _, _, _, _, _, _⟩ := fc9 BK161.out
         obtain ⟨_, _, _, _, _, _, _, _, _, _, _, _, _, _, _, _⟩ := fc8 BK151.out
         go_wp2_with (first | (go_at_call 74; (with_reducible refine (spec_l05Var.calls a0_1 true _ A11.out).mono ?_); rintro e w' ⟨rfl, ⟨nd, rfl⟩⟩) | (go_at_call 74; (with_reducible refine (spec_l05Var.calls a0_2 true _ A13.out).mono ?_); rintro e w' ⟨rfl, ⟨nd, rfl⟩⟩) | (go_at_call 74; (with_reducible refine (spec_l05Var.calls a0_3 true _ A15.out).mono ?_); rintro e w' ⟨rfl, ⟨nd, rfl⟩⟩))
         go_meet
         case rel => exact ⟨_, (a0_4), rfl, H', ⟨by first | omega | exact Nat.le_refl _⟩, ⟨BK151.out⟩, ⟨BK161.out⟩, ⟨by repeat (first | (with_reducible first | exact HB.out | apply qh | apply qi | apply qj | refine qk ?_ GE151.out | refine qk ?_ GE161.out) | exact HB.out)⟩⟩
        replace c39 := Bool.eq_false_iff.mpr c39
        subst c39
        rw [if_neg nt] at H
        by_cases c47 : a0_3 = 0
        ·rw [if_pos c47] at H
         have c47b0 : (a0_3 == 0) = true := beq_iff_eq.mpr c47
         have c47b1 : (a0_3 != 0) = false := bne_eq_false_iff_eq.mpr c47
         clear c47
         by_cases c48 : t156 = true
         ·subst c48
          rw [if_pos rfl] at H
          have H' := qm H
          clear H
          have hnb49 := NB161_151.out
          have hnc49 := NB151_161.out
          obtain ⟨_, _, _, _, _, _, _, _, _, _, _, _, _, _, _, _, _, _⟩ := fc9 BK161.out
          obtain ⟨_, _, _, _, _, _, _, _, _, _, _, _, _, _, _, _⟩ := fc8 BK151.out
          go_wp2_with (first | (go_at_call 74; (with_reducible refine (spec_l05Var.calls a0_1 true _ A11.out).mono ?_); rintro e w' ⟨rfl, ⟨nd, rfl⟩⟩) | (go_at_call 74; (with_reducible refine (spec_l05Var.calls a0_2 true _ A13.out).mono ?_); rintro e w' ⟨rfl, ⟨nd, rfl⟩⟩) | (go_at_call 74; (with_reducible refine (spec_l05Var.calls a0_3 true _ A15.out).mono ?_); rintro e w' ⟨rfl, ⟨nd, rfl⟩⟩))
          go_meet
          case rel => exact ⟨_, (false), rfl, H', ⟨by first | omega | exact Nat.le_refl _⟩, ⟨BK151.out⟩, ⟨BK161.out⟩, ⟨by repeat (first | (with_reducible first | exact HB.out | apply qh | apply qi | apply qj | refine qk ?_ GE151.out | refine qk ?_ GE161.out) | exact HB.out)⟩⟩
         replace c48 := Bool.eq_false_iff.mpr c48
         subst c48
         rw [if_neg nt] at H
         have H' := qm H
         clear H
         have hnb52 := NB161_151.out
         have hnc52 := NB151_161.out
         obtain ⟨_, _, _, _, _, _, _, _, _, _, _, _, _, _, _, _, _, _⟩ := fc9 BK161.out
         obtain ⟨_, _, _, _, _, _, _, _, _, _, _, _, _, _, _, _⟩ := fc8 BK151.out
         go_wp2_with (first | (go_at_call 74; (with_reducible refine (spec_l05Var.calls a0_1 true _ A11.out).mono ?_); rintro e w' ⟨rfl, ⟨nd, rfl⟩⟩) | (go_at_call 74; (with_reducible refine (spec_l05Var.calls a0_2 true _ A13.out).mono ?_); rintro e w' ⟨rfl, ⟨nd, rfl⟩⟩) | (go_at_call 74; (with_reducible refine (spec_l05Var.calls a0_3 true _ A15.out).mono ?_); rintro e w' ⟨rfl, ⟨nd, rfl⟩⟩))
         go_meet
         case rel => exact ⟨_, (a0_4), rfl, H', ⟨by first | omega | exact Nat.le_refl _⟩, ⟨BK151.out⟩, ⟨BK161.out⟩, ⟨by repeat (first | (with_reducible first | exact HB.out | apply qh | apply qi | apply qj | refine qk ?_ GE151.out | refine qk ?_ GE161.out) | exact HB.out)⟩⟩
        rw [if_neg c47] at H
        have c47b0 : (a0_3 == 0) = false := beq_eq_false_iff_ne.mpr c47
        have c47b1 : (a0_3 != 0) = true := bne_iff_ne.mpr c47
        have H' := qm H
        clear H
        have hnb55 := NB161_151.out
        have hnc55 := NB151_161.out
        obtain ⟨_, _, _, _, _, _, _, _, _, _, _, _, _, _, _, _, _, _⟩ := fc9 BK161.out
        obtain ⟨_, _, _, _, _, _, _, _, _, _, _, _, _, _, _, _⟩ := fc8 BK151.out
        go_wp2_with (first | (go_at_call 74; (with_reducible refine (spec_l05Var.calls a0_1 true _ A11.out).mono ?_); rintro e w' ⟨rfl, ⟨nd, rfl⟩⟩) | (go_at_call 74; (with_reducible refine (spec_l05Var.calls a0_2 true _ A13.out).mono ?_); rintro e w' ⟨rfl, ⟨nd, rfl⟩⟩) | (go_at_call 74; (with_reducible refine (spec_l05Var.calls a0_3 true _ A15.out).mono ?_); rintro e w' ⟨rfl, ⟨nd, rfl⟩⟩))
        go_meet
        case rel => exact ⟨_, (true), rfl, H', ⟨by first | omega | exact Nat.le_refl _⟩, ⟨BK151.out⟩, ⟨BK161.out⟩, ⟨by repeat (first | (with_reducible first | exact HB.out | apply qh | apply qi | apply qj | refine qk ?_ GE151.out | refine qk ?_ GE161.out) | exact HB.out)⟩⟩
       rw [if_neg c38] at H
       have c38b0 : (a0_2 == 0) = false := beq_eq_false_iff_ne.mpr c38
       have c38b1 : (a0_2 != 0) = true := bne_iff_ne.mpr c38
       have H' := qm H
       clear H
       have hnb58 := NB161_151.out
       have hnc58 := NB151_161.out
       obtain ⟨_, _, _, _, _, _, _, _, _, _, _, _, _, _, _, _, _, _⟩ := fc9 BK161.out
       obtain ⟨_, _, _, _, _, _, _, _, _, _, _, _, _, _, _, _⟩ := fc8 BK151.out
       go_wp2_with (first | (go_at_call 74; (with_reducible refine (spec_l05Var.calls a0_1 true _ A11.out).mono ?_); rintro e w' ⟨rfl, ⟨nd, rfl⟩⟩) | (go_at_call 74; (with_reducible refine (spec_l05Var.calls a0_2 true _ A13.out).mono ?_); rintro e w' ⟨rfl, ⟨nd, rfl⟩⟩) | (go_at_call 74; (with_reducible refine (spec_l05Var.calls a0_3 true _ A15.out).mono ?_); rintro e w' ⟨rfl, ⟨nd, rfl⟩⟩))
       go_meet
       case rel => exact ⟨_, (true), rfl, H', ⟨by first | omega | exact Nat.le_refl _⟩, ⟨BK151.out⟩, ⟨BK161.out⟩, ⟨by repeat (first | (with_reducible first | exact HB.out | apply qh | apply qi | apply qj | refine qk ?_ GE151.out | refine qk ?_ GE161.out) | exact HB.out)⟩⟩
      replace c17 := Bool.eq_false_iff.mpr c17
      subst c17
      rw [if_neg nt] at H
      by_cases c61 : a0_1 = 0
      ·rw [if_pos c61] at H
       have c61b0 : (a0_1 == 0) = true := beq_iff_eq.mpr c61
       have c61b1 : (a0_1 != 0) = false := bne_eq_false_iff_eq.mpr c61
       clear c61
       by_cases c62 : t154 = true
       ·subst c62
        rw [if_pos rfl] at H
        by_cases c63 : t155 = true
        ·subst c63
         rw [if_pos rfl] at H
         by_cases c64 : t156 = true
         ·subst c64
          rw [if_pos rfl] at H
          have H' := qm H
          clear H
          have hnb65 := NB161_151.out
          have hnc65 := NB151_161.out
          obtain ⟨_, _, _, _, _, _, _, _, _, _, _, _, _, _, _, _, _, _⟩ := fc9 BK161.out
          obtain ⟨_, _, _, _, _, _, _, _, _, _, _, _, _, _, _, _⟩ := fc8 BK151.out
          go_wp2_with (first | (go_at_call 74; (with_reducible refine (spec_l05Var.calls a0_1 true _ A11.out).mono ?_); rintro e w' ⟨rfl, ⟨nd, rfl⟩⟩) | (go_at_call 74; (with_reducible refine (spec_l05Var.calls a0_2 true _ A13.out).mono ?_); rintro e w' ⟨rfl, ⟨nd, rfl⟩⟩) | (go_at_call 74; (with_reducible refine (spec_l05Var.calls a0_3 true _ A15.out).mono ?_); rintro e w' ⟨rfl, ⟨nd, rfl⟩⟩))
          go_meet
          case rel => exact ⟨_, (false), rfl, H', ⟨by first | omega | exact Nat.le_refl _⟩, ⟨BK151.out⟩, ⟨BK161.out⟩, ⟨by repeat (first | (with_reducible first | exact HB.out | apply qh | apply qi | apply qj | refine qk ?_ GE151.out | refine qk ?_ GE161.out) | exact HB.out)⟩⟩
         replace c64 := Bool.eq_false_iff.mpr c64
         subst c64
         rw [if_neg nt] at H
         have H' := qm H
         clear H
         have hnb68 := NB161_151.out
         have hnc68 := NB151_161.out
         obtain ⟨_, _, _, _, _, _, _, _, _, _, _, _, _, _, _, _, _, _⟩ := fc9 BK161.out
         obtain ⟨_, _, _, _, _, _, _, _, _, _, _, _, _, _, _, _⟩ := fc8 BK151.out
         go_wp2_with (first | (go_at_call 74; (with_reducible refine (spec_l05Var.calls a0_1 true _ A11.out).mono ?_); rintro e w' ⟨rfl, ⟨nd, rfl⟩⟩) | (go_at_call 74; (with_reducible refine (spec_l05Var.calls a0_2 true _ A13.out).mono ?_); rintro e w' ⟨rfl, ⟨nd, rfl⟩⟩) | (go_at_call 74; (with_reducible refine (spec_l05Var.calls a0_3 true _ A15.out).mono ?_); rintro e w' ⟨rfl, ⟨nd, rfl⟩⟩))
         go_meet
         case rel => exact ⟨_, (a0_4), rfl, H', ⟨by first | omega | exact Nat.le_refl _⟩, ⟨BK151.out⟩, ⟨BK161.out⟩, ⟨by repeat (first | (with_reducible first | exact HB.out | apply qh | apply qi | apply qj | refine qk ?_ GE151.out | refine qk ?_ GE161.out) | exact HB.out)⟩⟩
        replace c63 := Bool.eq_false_iff.mpr c63
        subst c63
        rw [if_neg nt] at H
        by_cases c71 : a0_3 = 0
        ·rw [if_pos c71] at H
         have c71b0 : (a0_3 == 0) = true := beq_iff_eq.mpr c71
         have c71b1 : (a0_3 != 0) = false := bne_eq_false_iff_eq.mpr c71
         clear c71
         by_cases c72 : t156 = true
         ·subst c72
          rw [if_pos rfl] at H
          have H' := qm H
          clear H
          have hnb73 := NB161_151.out
          have hnc73 := NB151_161.out
          obtain ⟨_, _, _, _, _, _, _, _, _, _, _, _, _, _, _, _, _, _⟩ := fc9 BK161.out
          obtain ⟨_, _, _, _, _, _, _, _, _, _, _, _, _, _, _, _⟩ := fc8 BK151.out
          go_wp2_with (first | (go_at_call 74; (with_reducible refine (spec_l05Var.calls a0_1 true _ A11.out).mono ?_); rintro e w' ⟨rfl, ⟨nd, rfl⟩⟩) | (go_at_call 74; (with_reducible refine (spec_l05Var.calls a0_2 true _ A13.out).mono ?_); rintro e w' ⟨rfl, ⟨nd, rfl⟩⟩) | (go_at_call 74; (with_reducible refine (spec_l05Var.calls a0_3 true _ A15.out).mono ?_); rintro e w' ⟨rfl, ⟨nd, rfl⟩⟩))
          go_meet
          case rel => exact ⟨_, (false), rfl, H', ⟨by first | omega | exact Nat.le_refl _⟩, ⟨BK151.out⟩, ⟨BK161.out⟩, ⟨by repeat (first | (with_reducible first | exact HB.out | apply qh | apply qi | apply qj | refine qk ?_ GE151.out | refine qk ?_ GE161.out) | exact HB.out)⟩⟩
         replace c72 := Bool.eq_false_iff.mpr c72
         subst c72
         rw [if_neg nt] at H
         have H' := qm H
         clear H
         have hnb76 := NB161_151.out
         have hnc76 := NB151_161.out
         obtain ⟨_, _, _, _, _, _, _, _, _, _, _, _, _, _, _, _, _, _⟩ := fc9 BK161.out
         obtain ⟨_, _, _, _, _, _, _, _, _, _, _, _, _, _, _, _⟩ := fc8 BK151.out
         go_wp2_with (first | (go_at_call 74; (with_reducible refine (spec_l05Var.calls a0_1 true _ A11.out).mono ?_); rintro e w' ⟨rfl, ⟨nd, rfl⟩⟩) | (go_at_call 74; (with_reducible refine (spec_l05Var.calls a0_2 true _ A13.out).mono ?_); rintro e w' ⟨rfl, ⟨nd, rfl⟩⟩) | (go_at_call 74; (with_reducible refine (spec_l05Var.calls a0_3 true _ A15.out).mono ?_); rintro e w' ⟨rfl, ⟨nd, rfl⟩⟩))
         go_meet
         case rel => exact ⟨_, (a0_4), rfl, H', ⟨by first | omega | exact Nat.le_refl _⟩, ⟨BK151.out⟩, ⟨BK161.out⟩, ⟨by repeat (first | (with_reducible first | exact HB.out | apply qh | apply qi | apply qj | refine qk ?_ GE151.out | refine qk ?_ GE161.out) | exact HB.out)⟩⟩
        rw [if_neg c71] at H
        have c71b0 : (a0_3 == 0) = false := beq_eq_false_iff_ne.mpr c71
        have c71b1 : (a0_3 != 0) = true := bne_iff_ne.mpr c71
        have H' := qm H
        clear H
        have hnb79 := NB161_151.out
        have hnc79 := NB151_161.out
        obtain ⟨_, _, _, _, _, _, _, _, _, _, _, _, _, _, _, _, _, _⟩ := fc9 BK161.out
        obtain ⟨_, _, _, _, _, _, _, _, _, _, _, _, _, _, _, _⟩ := fc8 BK151.out
        go_wp2_with (first | (go_at_call 74; (with_reducible refine (spec_l05Var.calls a0_1 true _ A11.out).mono ?_); rintro e w' ⟨rfl, ⟨nd, rfl⟩⟩) | (go_at_call 74; (with_reducible refine (spec_l05Var.calls a0_2 true _ A13.out).mono ?_); rintro e w' ⟨rfl, ⟨nd, rfl⟩⟩) | (go_at_call 74; (with_reducible refine (spec_l05Var.calls a0_3 true _ A15.out).mono ?_); rintro e w' ⟨rfl, ⟨nd, rfl⟩⟩))
        go_meet
        case rel => exact ⟨_, (true), rfl, H', ⟨by first | omega | exact Nat.le_refl _⟩, ⟨BK151.out⟩, ⟨BK161.out⟩, ⟨by repeat (first | (with_reducible first | exact HB.out | apply qh | apply qi | apply qj | refine qk ?_ GE151.out | refine qk ?_ GE161.out) | exact HB.out)⟩⟩
       replace c62 := Bool.eq_false_iff.mpr c62
       subst c62
       rw [if_neg nt] at H
       by_cases c82 : a0_2 = 0
       ·rw [if_pos c82] at H
        have c82b0 : (a0_2 == 0) = true := beq_iff_eq.mpr c82
        have c82b1 : (a0_2 != 0) = false := bne_eq_false_iff_eq.mpr c82
        clear c82
        by_cases c83 : t155 = true
        ·subst c83
         rw [if_pos rfl] at H
         by_cases c84 : t156 = true
         ·subst c84
          rw [if_pos rfl] at H
          have H' := qm H
          clear H
          have hnb85 := NB161_151.out
          have hnc85 := NB151_161.out
          obtain ⟨_, _, _, _, _, _, _, _, _, _, _, _, _, _, _, _, _, _⟩ := fc9 BK161.out
          obtain ⟨_, _, _, _, _, _, _, _, _, _, _, _, _, _, _, _⟩ := fc8 BK151.out
          go_wp2_with (first | (go_at_call 74; (with_reducible refine (spec_l05Var.calls a0_1 true _ A11.out).mono ?_); rintro e w' ⟨rfl, ⟨nd, rfl⟩⟩) | (go_at_call 74; (with_reducible refine (spec_l05Var.calls a0_2 true _ A13.out).mono ?_); rintro e w' ⟨rfl, ⟨nd, rfl⟩⟩) | (go_at_call 74; (with_reducible refine (spec_l05Var.calls a0_3 true _ A15.out).mono ?_); rintro e w' ⟨rfl, ⟨nd, rfl⟩⟩))
          go_meet
          case rel => exact ⟨_, (false), rfl, H', ⟨by first | omega | exact Nat.le_refl _⟩, ⟨BK151.out⟩, ⟨BK161.out⟩, ⟨by repeat (first | (with_reducible first | exact HB.out | apply qh | apply qi | apply qj | refine qk ?_ GE151.out | refine qk ?_ GE161.out) | exact HB.out)⟩⟩
         replace c84 := Bool.eq_false_iff.mpr c84
         subst c84
         rw [if_neg nt] at H
         have H' := qm H
         clear H
         have hnb88 := NB161_151.out
         have hnc88 := NB151_161.out
         obtain ⟨_, _, _, _, _, _, _, _, _, _, _, _, _, _, _, _, _, _⟩ := fc9 BK161.out
         obtain ⟨_, _, _, _, _, _, _, _, _, _, _, _, _, _, _, _⟩ := fc8 BK151.out
         go_wp2_with (first | (go_at_call 74; (with_reducible refine (spec_l05Var.calls a0_1 true _ A11.out).mono ?_); rintro e w' ⟨rfl, ⟨nd, rfl⟩⟩) | (go_at_call 74; (with_reducible refine (spec_l05Var.calls a0_2 true _ A13.out).mono ?_); rintro e w' ⟨rfl, ⟨nd, rfl⟩⟩) | (go_at_call 74; (with_reducible refine (spec_l05Var.calls a0_3 true _ A15.out).mono ?_); rintro e w' ⟨rfl, ⟨nd, rfl⟩⟩))
         go_meet
         case rel => exact ⟨_, (a0_4), rfl, H', ⟨by first | omega | exact Nat.le_refl _⟩, ⟨BK151.out⟩, ⟨BK161.out⟩, ⟨by repeat (first | (with_reducible first | exact HB.out | apply qh | apply qi | apply qj | refine qk ?_ GE151.out | refine qk ?_ GE161.out) | exact HB.out)⟩⟩
        replace c83 := Bool.eq_false_iff.mpr c83
        subst c83
        rw [if_neg nt] at H
        by_cases c91 : a0_3 = 0
        ·rw [if_pos c91] at H
         have c91b0 : (a0_3 == 0) = true := beq_iff_eq.mpr c91
         have c91b1 : (a0_3 != 0) = false := bne_eq_false_iff_eq.mpr c91
         clear c91
         by_cases c92 : t156 = true
         ·subst c92
          rw [if_pos rfl] at H
          have H' := qm H
          clear H
          have hnb93 := NB161_151.out
          have hnc93 := NB151_161.out
          obtain ⟨_, _, _, _, _, _, _, _, _, _, _, _, _, _, _, _, _, _⟩ := fc9 BK161.out
          obtain ⟨_, _, _, _, _, _, _, _, _, _, _, _, _, _, _, _⟩ := fc8 BK151.out
          go_wp2_with (first | (go_at_call 74; (with_reducible refine (spec_l05Var.calls a0_1 true _ A11.out).mono ?_); rintro e w' ⟨rfl, ⟨nd, rfl⟩⟩) | (go_at_call 74; (with_reducible refine (spec_l05Var.calls a0_2 true _ A13.out).mono ?_); rintro e w' ⟨rfl, ⟨nd, rfl⟩⟩) | (go_at_call 74; (with_reducible refine (spec_l05Var.calls a0_3 true _ A15.out).mono ?_); rintro e w' ⟨rfl, ⟨nd, rfl⟩⟩))
          go_meet
          case rel => exact ⟨_, (false), rfl, H', ⟨by first | omega | exact Nat.le_refl _⟩, ⟨BK151.out⟩, ⟨BK161.out⟩, ⟨by repeat (first | (with_reducible first | exact HB.out | apply qh | apply qi | apply qj | refine qk ?_ GE151.out | refine qk ?_ GE161.out) | exact HB.out)⟩⟩
         replace c92 := Bool.eq_false_iff.mpr c92
         subst c92
         rw [if_neg nt] at H
         have H' := qm H
         clear H
         have hnb96 := NB161_151.out
         have hnc96 := NB151_161.out
         obtain ⟨_, _, _, _, _, _, _, _, _, _, _, _, _, _, _, _, _, _⟩ := fc9 BK161.out
         obtain ⟨_, _, _, _, _, _, _, _, _, _, _, _, _, _, _, _⟩ := fc8 BK151.out
         go_wp2_with (first | (go_at_call 74; (with_reducible refine (spec_l05Var.calls a0_1 true _ A11.out).mono ?_); rintro e w' ⟨rfl, ⟨nd, rfl⟩⟩) | (go_at_call 74; (with_reducible refine (spec_l05Var.calls a0_2 true _ A13.out).mono ?_); rintro e w' ⟨rfl, ⟨nd, rfl⟩⟩) | (go_at_call 74; (with_reducible refine (spec_l05Var.calls a0_3 true _ A15.out).mono ?_); rintro e w' ⟨rfl, ⟨nd, rfl⟩⟩))
         go_meet
         case rel => exact ⟨_, (a0_4), rfl, H', ⟨by first | omega | exact Nat.le_refl _⟩, ⟨BK151.out⟩, ⟨BK161.out⟩, ⟨by repeat (first | (with_reducible first | exact HB.out | apply qh | apply qi | apply qj | refine qk ?_ GE151.out | refine qk ?_ GE161.out) | exact HB.out)⟩⟩
        rw [if_neg c91] at H
        have c91b0 : (a0_3 == 0) = false := beq_eq_false_iff_ne.mpr c91
        have c91b1 : (a0_3 != 0) = true := bne_iff_ne.mpr c91
        have H' := qm H
        clear H
        have hnb99 := NB161_151.out
        have hnc99 := NB151_161.out
        obtain ⟨_, _, _, _, _, _, _, _, _, _, _, _, _, _, _, _, _, _⟩ := fc9 BK161.out
        obtain ⟨_, _, _, _, _, _, _, _, _, _, _, _, _, _, _, _⟩ := fc8 BK151.out
        go_wp2_with (first | (go_at_call 74; (with_reducible refine (spec_l05Var.calls a0_1 true _ A11.out).mono ?_); rintro e w' ⟨rfl, ⟨nd, rfl⟩⟩) | (go_at_call 74; (with_reducible refine (spec_l05Var.calls a0_2 true _ A13.out).mono ?_); rintro e w' ⟨rfl, ⟨nd, rfl⟩⟩) | (go_at_call 74; (with_reducible refine (spec_l05Var.calls a0_3 true _ A15.out).mono ?_); rintro e w' ⟨rfl, ⟨nd, rfl⟩⟩))
        go_meet
        case rel => exact ⟨_, (true), rfl, H', ⟨by first | omega | exact Nat.le_refl _⟩, ⟨BK151.out⟩, ⟨BK161.out⟩, ⟨by repeat (first | (with_reducible first | exact HB.out | apply qh | apply qi | apply qj | refine qk ?_ GE151.out | refine qk ?_ GE161.out) | exact HB.out)⟩⟩
       rw [if_neg c82] at H
       have c82b0 : (a0_2 == 0) = false := beq_eq_false_iff_ne.mpr c82
       have c82b1 : (a0_2 != 0) = true := bne_iff_ne.mpr c82
       have H' := qm H
       clear H
       have hnb102 := NB161_151.out
       have hnc102 := NB151_161.out
       obtain ⟨_, _, _, _, _, _, _, _, _, _, _, _, _, _, _, _, _, _⟩ := fc9 BK161.out
       obtain ⟨_, _, _, _, _, _, _, _, _, _, _, _, _, _, _, _⟩ := fc8 BK151.out
       go_wp2_with (first | (go_at_call 74; (with_reducible refine (spec_l05Var.calls a0_1 true _ A11.out).mono ?_); rintro e w' ⟨rfl, ⟨nd, rfl⟩⟩) | (go_at_call 74; (with_reducible refine (spec_l05Var.calls a0_2 true _ A13.out).mono ?_); rintro e w' ⟨rfl, ⟨nd, rfl⟩⟩) | (go_at_call 74; (with_reducible refine (spec_l05Var.calls a0_3 true _ A15.out).mono ?_); rintro e w' ⟨rfl, ⟨nd, rfl⟩⟩))
       go_meet
       case rel => exact ⟨_, (true), rfl, H', ⟨by first | omega | exact Nat.le_refl _⟩, ⟨BK151.out⟩, ⟨BK161.out⟩, ⟨by repeat (first | (with_reducible first | exact HB.out | apply qh | apply qi | apply qj | refine qk ?_ GE151.out | refine qk ?_ GE161.out) | exact HB.out)⟩⟩
      rw [if_neg c61] at H
      have c61b0 : (a0_1 == 0) = false := beq_eq_false_iff_ne.mpr c61
      have c61b1 : (a0_1 != 0) = true := bne_iff_ne.mpr c61
      have H' := qm H
      clear H
      have hnb105 := NB161_151.out
      have hnc105 := NB151_161.out
      obtain ⟨_, _, _, _, _, _, _, _, _, _, _, _, _, _, _, _, _, _⟩ := fc9 BK161.out
      obtain ⟨_, _, _, _, _, _, _, _, _, _, _, _, _, _, _, _⟩ := fc8 BK151.out
      go_wp2_with (first | (go_at_call 74; (with_reducible refine (spec_l05Var.calls a0_1 true _ A11.out).mono ?_); rintro e w' ⟨rfl, ⟨nd, rfl⟩⟩) | (go_at_call 74; (with_reducible refine (spec_l05Var.calls a0_2 true _ A13.out).mono ?_); rintro e w' ⟨rfl, ⟨nd, rfl⟩⟩) | (go_at_call 74; (with_reducible refine (spec_l05Var.calls a0_3 true _ A15.out).mono ?_); rintro e w' ⟨rfl, ⟨nd, rfl⟩⟩))
      go_meet
      case rel => exact ⟨_, (true), rfl, H', ⟨by first | omega | exact Nat.le_refl _⟩, ⟨BK151.out⟩, ⟨BK161.out⟩, ⟨by repeat (first | (with_reducible first | exact HB.out | apply qh | apply qi | apply qj | refine qk ?_ GE151.out | refine qk ?_ GE161.out) | exact HB.out)⟩⟩
     replace c16 := Bool.eq_false_iff.mpr c16
     subst c16
     rw [if_neg nt] at H
     have H' := qm H
     clear H
     have hnb108 := NB161_151.out
     have hnc108 := NB151_161.out
     obtain ⟨_, _, _, _, _, _, _, _, _, _, _, _, _, _, _, _, _, _⟩ := fc9 BK161.out
     obtain ⟨_, _, _, _, _, _, _, _, _, _, _, _, _, _, _, _⟩ := fc8 BK151.out
     go_wp2_with (first | (go_at_call 74; (with_reducible refine (spec_l05Var.calls a0_1 true _ A11.out).mono ?_); rintro e w' ⟨rfl, ⟨nd, rfl⟩⟩) | (go_at_call 74; (with_reducible refine (spec_l05Var.calls a0_2 true _ A13.out).mono ?_); rintro e w' ⟨rfl, ⟨nd, rfl⟩⟩) | (go_at_call 74; (with_reducible refine (spec_l05Var.calls a0_3 false _ A15.out).mono ?_); rintro e w' ⟨rfl, ⟨nd, rfl⟩⟩))
     go_meet
     case rel => exact ⟨_, (true), rfl, H', ⟨by first | omega | exact Nat.le_refl _⟩, ⟨BK151.out⟩, ⟨BK161.out⟩, ⟨by repeat (first | (with_reducible first | exact HB.out | apply qh | apply qi | apply qj | refine qk ?_ GE151.out | refine qk ?_ GE161.out) | exact HB.out)⟩⟩
    replace c14 := Bool.eq_false_iff.mpr c14
    subst c14
    rw [if_neg nt] at H
    have H' := qm H
    clear H
    have hnb111 := NB161_151.out
    have hnc111 := NB151_161.out
    obtain ⟨_, _, _, _, _, _, _, _, _, _, _, _, _, _, _, _, _, _⟩ := fc9 BK161.out
    obtain ⟨_, _, _, _, _, _, _, _, _, _, _, _, _, _, _, _⟩ := fc8 BK151.out
    go_wp2_with (first | (go_at_call 74; (with_reducible refine (spec_l05Var.calls a0_1 true _ A11.out).mono ?_); rintro e w' ⟨rfl, ⟨nd, rfl⟩⟩) | (go_at_call 74; (with_reducible refine (spec_l05Var.calls a0_2 false _ A13.out).mono ?_); rintro e w' ⟨rfl, ⟨nd, rfl⟩⟩))
    go_meet
    case rel => exact ⟨_, (true), rfl, H', ⟨by first | omega | exact Nat.le_refl _⟩, ⟨BK151.out⟩, ⟨BK161.out⟩, ⟨by repeat (first | (with_reducible first | exact HB.out | apply qh | apply qi | apply qj | refine qk ?_ GE151.out | refine qk ?_ GE161.out) | exact HB.out)⟩⟩
   replace c12 := Bool.eq_false_iff.mpr c12
   subst c12
   rw [if_neg nt] at H
   have H' := qm H
   clear H
   have hnb114 := NB161_151.out
   have hnc114 := NB151_161.out
   obtain ⟨_, _, _, _, _, _, _, _, _, _, _, _, _, _, _, _, _, _⟩ := fc9 BK161.out
   obtain ⟨_, _, _, _, _, _, _, _, _, _, _, _, _, _, _, _⟩ := fc8 BK151.out
   go_wp2_with (first | (go_at_call 74; (with_reducible refine (spec_l05Var.calls a0_1 false _ A11.out).mono ?_); rintro e w' ⟨rfl, ⟨nd, rfl⟩⟩))
   go_meet
   case rel => exact ⟨_, (true), rfl, H', ⟨by first | omega | exact Nat.le_refl _⟩, ⟨BK151.out⟩, ⟨BK161.out⟩, ⟨by repeat (first | (with_reducible first | exact HB.out | apply qh | apply qi | apply qj | refine qk ?_ GE151.out | refine qk ?_ GE161.out) | exact HB.out)⟩⟩
  replace c10 := Bool.eq_false_iff.mpr c10
  subst c10
  rw [if_neg nt] at H
  have H' := qm H
  clear H
  have hnb117 := NB161_151.out
  have hnc117 := NB151_161.out
  obtain ⟨_, _, _, _, _, _, _, _, _, _, _, _, _, _, _, _, _, _⟩ := fc9 BK161.out
  go_wp2
  go_meet
  case rel => exact ⟨_, (true), rfl, H', ⟨by first | omega | exact Nat.le_refl _⟩, ⟨BK151.out⟩, ⟨BK161.out⟩, ⟨by repeat (first | (with_reducible first | exact HB.out | apply qh | apply qi | apply qj | refine qk ?_ GE151.out | refine qk ?_ GE161.out) | exact HB.out)⟩⟩
 clear HC3
 obtain ⟨kq, x66_2, rfl, HA, HJ2, BK151, BK161, HB⟩ := hcut
 cases kq with
 | zero => exact absurd HA.out (by simp [spec_FrameOK.j0])
 | succ kj2 => ?_
 have H := HA.out
 clear HA
 simp only [spec_FrameOK.j0] at H
 by_cases c119 : x66_2 = true
 ·subst c119
  rw [if_pos rfl] at H
  obtain rfl := Option.some.inj H
  go_wp2
  go_ret
  exact ⟨by first | rfl | (simp <;> rfl) | (simp [*] <;> rfl), by repeat (first | (with_reducible first | exact HB.out | apply qh | apply qi | apply qj | refine qk ?_ GE151.out | refine qk ?_ GE161.out) | exact HB.out)⟩
 replace c119 := Bool.eq_false_iff.mpr c119
 subst c119
 rw [if_neg nt] at H
 have HC120 := qm H
 clear H
 go_upto_region 4 with (fail)
 go_cut [103] (fun v103 wc => ∃ (kq : Nat) (x103_119 : Bool), v103 = .bool x103_119 ∧ Aside0 (spec_FrameOK.j1 kq x103_119 a0_0 a0_1 a0_2 a0_3 a0_4 l0_5 l0_6 l0_7 = some r) ∧ Aside0 (kq ≤ kj2) ∧ Aside0 (wc.heap[gb151]? = some (.cells #[.int .i64 a0_0, .int .i64 a0_1, .int .i64 a0_2, .int .i64 a0_3, .bool a0_4, (.slice A0_5 l0_5.length c0_5), (.slice A0_6 l0_6.length c0_6), (.slice A0_7 l0_7.length c0_7)] 55 (0, 0))) ∧ Aside0 (wc.heap[gb161]? = some (.cells #[.bool t152, .bool t153, .bool t154, .bool t155, .bool t156, .bool t157, .int .i64 t158, .int .i64 t159, .int .i64 t160] 81 (0, 0))) ∧ Aside0 (Below w.heap.size w wc))
 case first =>
  have H := HC120.out
  clear HC120
  by_cases c121 : (l0_5.length : Int) < t158
  ·rw [if_pos c121] at H
   have c121b0 : decide ((l0_5.length : Int) < t158) = true := decide_eq_true c121
   clear c121
   (first | rw [c121b0] | (simp only [i64_w, i32_w]; rw [c121b0]) | skip)
   have H' := qm H
   clear H
   have hnb122 := NB151_161.out
   have hnc122 := NB161_151.out
   obtain ⟨_, _, _, _, _, _, _, _, _, _, _, _, _, _, _, _⟩ := fc8 BK151.out
   obtain ⟨_, _, _, _, _, _, _, _, _, _, _, _, _, _, _, _, _, _⟩ := fc9 BK161.out
   go_wp2
   go_meet
   case rel => exact ⟨_, (true), rfl, H', ⟨by have := HJ2.out; omega⟩, ⟨BK151.out⟩, ⟨BK161.out⟩, ⟨by repeat (first | (with_reducible first | exact HB.out | apply qh | apply qi | apply qj | refine qk ?_ GE151.out | refine qk ?_ GE161.out) | exact HB.out)⟩⟩
  rw [if_neg c121] at H
  have c121b0 : decide ((l0_5.length : Int) < t158) = false := decide_eq_false c121
  clear c121
  (first | rw [c121b0] | (simp only [i64_w, i32_w]; rw [c121b0]) | skip)
  by_cases c125 : (l0_5.length : Int) > t159
  ·rw [if_pos c125] at H
   have c125b0 : decide (t159 < (l0_5.length : Int)) = true := decide_eq_true c125
   clear c125
   have H' := qm H
   clear H
   have hnb126 := NB151_161.out
   have hnc126 := NB161_151.out
   obtain ⟨_, _, _, _, _, _, _, _, _, _, _, _, _, _, _, _⟩ := fc8 BK151.out
   obtain ⟨_, _, _, _, _, _, _, _, _, _, _, _, _, _, _, _, _, _⟩ := fc9 BK161.out
   go_wp2
   go_meet
   case rel => exact ⟨_, (true), rfl, H', ⟨by have := HJ2.out; omega⟩, ⟨BK151.out⟩, ⟨BK161.out⟩, ⟨by repeat (first | (with_reducible first | exact HB.out | apply qh | apply qi | apply qj | refine qk ?_ GE151.out | refine qk ?_ GE161.out) | exact HB.out)⟩⟩
  rw [if_neg c125] at H
  have c125b0 : decide (t159 < (l0_5.length : Int)) = false := decide_eq_false c125
  clear c125
  by_cases c129 : (l0_6.length : Int) = t160
  ·rw [if_pos c129] at H
   have c129b0 : ((l0_6.length : Int) == t160) = true := beq_iff_eq.mpr c129
   have c129b1 : ((l0_6.length : Int) != t160) = false := bne_eq_false_iff_eq.mpr c129
   clear c129
   by_cases c130 : (t157 != (decide ((l0_7.length : Int) > 0))) = true
   ·rw [if_pos c130] at H
    (try (have c130b00 : (t157 != (decide (0 < (l0_7.length : Int)))) = true := by simpa using c130))
    (try (have c130b01 : (t157 != (decide (0 < l0_7.length))) = true := by simpa using c130))
    (try (have c130b10 : decide (t157 = (decide (0 < (l0_7.length : Int)))) = false := by simpa using c130))
    (try (have c130b11 : decide (t157 = (decide (0 < l0_7.length))) = false := by simpa using c130))
    (try (have c130b20 : (t157 == (decide (0 < (l0_7.length : Int)))) = false := by simpa using c130))
    (try (have c130b21 : (t157 == (decide (0 < l0_7.length))) = false := by simpa using c130))
    (try (have c130b30 : ¬ (t157 = (decide (0 < (l0_7.length : Int)))) := by simpa using c130))
    (try (have c130b31 : ¬ (t157 = (decide (0 < l0_7.length))) := by simpa using c130))
    clear c130
    have H' := qm H
    clear H
    have hnb131 := NB151_161.out
    have hnc131 := NB161_151.out
    obtain ⟨_, _, _, _, _, _, _, _, _, _, _, _, _, _, _, _⟩ := fc8 BK151.out
    obtain ⟨_, _, _, _, _, _, _, _, _, _, _, _, _, _, _, _, _, _⟩ := fc9 BK161.out
    go_wp2
    go_meet
    case rel => exact ⟨_, (true), rfl, H', ⟨by have := HJ2.out; omega⟩, ⟨BK151.out⟩, ⟨BK161.out⟩, ⟨by repeat (first | (with_reducible first | exact HB.out | apply qh | apply qi | apply qj | refine qk ?_ GE151.out | refine qk ?_ GE161.out) | exact HB.out)⟩⟩
   rw [if_neg c130] at H
   (try (have c130b00 : (t157 != (decide (0 < (l0_7.length : Int)))) = false := by simpa using c130))
   (try (have c130b01 : (t157 != (decide (0 < l0_7.length))) = false := by simpa using c130))
   (try (have c130b10 : decide (t157 = (decide (0 < (l0_7.length : Int)))) = true := by simpa using c130))
   (try (have c130b11 : decide (t157 = (decide (0 < l0_7.length))) = true := by simpa using c130))
   (try (have c130b20 : (t157 == (decide (0 < (l0_7.length : Int)))) = true := by simpa using c130))
   (try (have c130b21 : (t157 == (decide (0 < l0_7.length))) = true := by simpa using c130))
   clear c130
   replace H := Option.bind_eq_some_iff.mp H
   obtain ⟨t165, A1340, H⟩ := H
   try dsimp only at H
   have A134 := qm A1340
   clear A1340
   have H' := qm H
   clear H
   have hnb135 := NB151_161.out
   have hnc135 := NB161_151.out
   obtain ⟨_, _, _, _, _, _, _, _, _, _, _, _, _, _, _, _⟩ := fc8 BK151.out
   obtain ⟨_, _, _, _, _, _, _, _, _, _, _, _, _, _, _, _, _, _⟩ := fc9 BK161.out
   go_wp2_with (first | (go_at_call 75; (with_reducible refine (spec_l05RangesOK.calls kj2 _ _ l0_7 t165 _ ?side1 ?side2 A134.out).mono ?_); (case side1 => repeat (first | exact (Kd.C_below HR0_7.out HB.out) | (with_reducible refine Kd.C_alloc ?_ _) | (with_reducible refine Kd.C_drewN ?_ _) | (with_reducible refine Kd.C_drew ?_))); (case side2 => exact HC0_7.out); rintro e w138 ⟨rfl, hb⟩; have n0_ := qm (blk_below (g := gb151) BK151.out hb); have n1_ := qm (blk_below (g := gb161) BK161.out hb); have n2_ := qm (qt (by repeat (first | (with_reducible first | exact HB.out | apply qh | apply qi | apply qj | refine qk ?_ GE151.out | refine qk ?_ GE161.out) | exact HB.out)) hb); clear BK151; clear BK161; clear HB; have BK151 := n0_; have BK161 := n1_; have HB := n2_))
   go_meet
   case rel => exact ⟨_, (!t165), rfl, H', ⟨by have := HJ2.out; omega⟩, ⟨BK151.out⟩, ⟨BK161.out⟩, ⟨by repeat (first | (with_reducible first | exact HB.out | apply qh | apply qi | apply qj | refine qk ?_ GE151.out | refine qk ?_ GE161.out) | exact HB.out)⟩⟩
  rw [if_neg c129] at H
  have c129b0 : ((l0_6.length : Int) == t160) = false := beq_eq_false_iff_ne.mpr c129
  have c129b1 : ((l0_6.length : Int) != t160) = true := bne_iff_ne.mpr c129
  have H' := qm H
  clear H
  have hnb139 := NB151_161.out
  have hnc139 := NB161_151.out
  obtain ⟨_, _, _, _, _, _, _, _, _, _, _, _, _, _, _, _⟩ := fc8 BK151.out
  obtain ⟨_, _, _, _, _, _, _, _, _, _, _, _, _, _, _, _, _, _⟩ := fc9 BK161.out
  go_wp2
  go_meet
  case rel => exact ⟨_, (true), rfl, H', ⟨by have := HJ2.out; omega⟩, ⟨BK151.out⟩, ⟨BK161.out⟩, ⟨by repeat (first | (with_reducible first | exact HB.out | apply qh | apply qi | apply qj | refine qk ?_ GE151.out | refine qk ?_ GE161.out) | exact HB.out)⟩⟩
 clear HC120
 try clear c119
 obtain ⟨kq, x103_119, rfl, HA, HJ119, BK151, BK161, HB⟩ := hcut
 cases kq with
 | zero => exact absurd HA.out (by simp [spec_FrameOK.j1])
 | succ kj119 => ?_
 have H := HA.out
 clear HA
 simp only [spec_FrameOK.j1] at H
 by_cases c142 : x103_119 = true
 ·subst c142
  rw [if_pos rfl] at H
  obtain rfl := Option.some.inj H
  go_wp2
  go_ret
  exact ⟨by first | rfl | (simp <;> rfl) | (simp [*] <;> rfl), by repeat (first | (with_reducible first | exact HB.out | apply qh | apply qi | apply qj | refine qk ?_ GE151.out | refine qk ?_ GE161.out) | exact HB.out)⟩
 replace c142 := Bool.eq_false_iff.mpr c142
 subst c142
 rw [if_neg nt] at H
 by_cases c143 : a0_0 = 0
 ·rw [if_pos c143] at H
  have c143b0 : (a0_0 == 0) = true := beq_iff_eq.mpr c143
  have c143b1 : (a0_0 != 0) = false := bne_eq_false_iff_eq.mpr c143
  clear c143
  by_cases c144 : a0_1 ≥ 1
  ·rw [if_pos c144] at H
   have c144b0 : decide (1 ≤ a0_1) = true := decide_eq_true c144
   clear c144
   obtain rfl := Option.some.inj H
   have hnb145 := NB151_161.out
   have hnc145 := NB161_151.out
   obtain ⟨_, _, _, _, _, _, _, _, _, _, _, _, _, _, _, _⟩ := fc8 BK151.out
   go_wp2
   go_ret
   exact ⟨by first | rfl | (simp <;> rfl) | (simp [*] <;> rfl), by repeat (first | (with_reducible first | exact HB.out | apply qh | apply qi | apply qj | refine qk ?_ GE151.out | refine qk ?_ GE161.out) | exact HB.out)⟩
  rw [if_neg c144] at H
  have c144b0 : decide (1 ≤ a0_1) = false := decide_eq_false c144
  clear c144
  obtain rfl := Option.some.inj H
  have hnb147 := NB151_161.out
  have hnc147 := NB161_151.out
  obtain ⟨_, _, _, _, _, _, _, _, _, _, _, _, _, _, _, _⟩ := fc8 BK151.out
  go_wp2
  go_ret
  exact ⟨by first | rfl | (simp <;> rfl) | (simp [*] <;> rfl), by repeat (first | (with_reducible first | exact HB.out | apply qh | apply qi | apply qj | refine qk ?_ GE151.out | refine qk ?_ GE161.out) | exact HB.out)⟩
 rw [if_neg c143] at H
 have c143b0 : (a0_0 == 0) = false := beq_eq_false_iff_ne.mpr c143
 have c143b1 : (a0_0 != 0) = true := bne_iff_ne.mpr c143
 have HC149 := qm H
 clear H
 have hnb150 := NB151_161.out
 have hnc150 := NB161_151.out
 obtain ⟨_, _, _, _, _, _, _, _, _, _, _, _, _, _, _, _⟩ := fc8 BK151.out
 go_upto_if 116 with (fail)
 go_cut [116] (fun v116 wc => ∃ (kq : Nat) (x116_148 : Bool), v116 = .bool x116_148 ∧ Aside0 (spec_FrameOK.j2 kq a0_0 x116_148 a0_0 a0_1 a0_2 a0_3 a0_4 l0_5 l0_6 l0_7 = some r) ∧ Aside0 (kq ≤ kj119) ∧ Aside0 (wc.heap[gb151]? = some (.cells #[.int .i64 a0_0, .int .i64 a0_1, .int .i64 a0_2, .int .i64 a0_3, .bool a0_4, (.slice A0_5 l0_5.length c0_5), (.slice A0_6 l0_6.length c0_6), (.slice A0_7 l0_7.length c0_7)] 55 (0, 0))) ∧ Aside0 (wc.heap[gb161]? = some (.cells #[.bool t152, .bool t153, .bool t154, .bool t155, .bool t156, .bool t157, .int .i64 t158, .int .i64 t159, .int .i64 t160] 81 (0, 0))) ∧ Aside0 (Below w.heap.size w wc))
 case first =>
  have H := HC149.out
  clear HC149
  by_cases c152 : a0_0 = 18
  ·rw [if_pos c152] at H
   have c152b0 : (a0_0 == 18) = true := beq_iff_eq.mpr c152
   have c152b1 : (a0_0 != 18) = false := bne_eq_false_iff_eq.mpr c152
   clear c152
   (first | rw [c152b0] | (simp only [i64_w, i32_w]; rw [c152b0]) | skip)
   have H' := qm H
   clear H
   go_wp2
   go_meet
   case rel => exact ⟨_, ((a0_0 == 18)), (by first | rfl | (simp; done) | (simp [*]; done)), H', ⟨by have := HJ2.out; have := HJ119.out; first | omega | exact Nat.le_refl _⟩, ⟨BK151.out⟩, ⟨BK161.out⟩, ⟨by repeat (first | (with_reducible first | exact HB.out | apply qh | apply qi | apply qj | refine qk ?_ GE151.out | refine qk ?_ GE161.out) | exact HB.out)⟩⟩
  rw [if_neg c152] at H
  have c152b0 : (a0_0 == 18) = false := beq_eq_false_iff_ne.mpr c152
  have c152b1 : (a0_0 != 18) = true := bne_iff_ne.mpr c152
  (first | rw [c152b0] | (simp only [i64_w, i32_w]; rw [c152b0]) | skip)
  have H' := qm H
  clear H
  go_wp2
  go_meet
  case rel => exact ⟨_, ((a0_0 == 22)), rfl, H', ⟨by have := HJ2.out; have := HJ119.out; omega⟩, ⟨BK151.out⟩, ⟨BK161.out⟩, ⟨by repeat (first | (with_reducible first | exact HB.out | apply qh | apply qi | apply qj | refine qk ?_ GE151.out | refine qk ?_ GE161.out) | exact HB.out)⟩⟩
 clear HC149
 try clear c142
 try clear c143
 try clear c143b0
 try clear c143b1
 obtain ⟨kq, x116_148, rfl, HA, HJ148, BK151, BK161, HB⟩ := hcut
 cases kq with
 | zero => exact absurd HA.out (by simp [spec_FrameOK.j2])
 | succ kj148 => ?_
 have H := HA.out
 clear HA
 simp only [spec_FrameOK.j2] at H
 by_cases c153 : x116_148 = true
 ·subst c153
  rw [if_pos rfl] at H
  by_cases c154 : a0_1 ≤ 1152921504606846976
  ·rw [if_pos c154] at H
   have c154b0 : decide (a0_1 ≤ 1152921504606846976) = true := decide_eq_true c154
   clear c154
   obtain rfl := Option.some.inj H
   have hnb155 := NB151_161.out
   have hnc155 := NB161_151.out
   obtain ⟨_, _, _, _, _, _, _, _, _, _, _, _, _, _, _, _⟩ := fc8 BK151.out
   go_wp2
   go_ret
   exact ⟨by first | rfl | (simp <;> rfl) | (simp [*] <;> rfl), by repeat (first | (with_reducible first | exact HB.out | apply qh | apply qi | apply qj | refine qk ?_ GE151.out | refine qk ?_ GE161.out) | exact HB.out)⟩
  rw [if_neg c154] at H
  have c154b0 : decide (a0_1 ≤ 1152921504606846976) = false := decide_eq_false c154
  clear c154
  obtain rfl := Option.some.inj H
  have hnb157 := NB151_161.out
  have hnc157 := NB161_151.out
  obtain ⟨_, _, _, _, _, _, _, _, _, _, _, _, _, _, _, _⟩ := fc8 BK151.out
  go_wp2
  go_ret
  exact ⟨by first | rfl | (simp <;> rfl) | (simp [*] <;> rfl), by repeat (first | (with_reducible first | exact HB.out | apply qh | apply qi | apply qj | refine qk ?_ GE151.out | refine qk ?_ GE161.out) | exact HB.out)⟩
 replace c153 := Bool.eq_false_iff.mpr c153
 subst c153
 rw [if_neg nt] at H
 by_cases c159 : a0_0 = 6
 ·rw [if_pos c159] at H
  have c159b0 : (a0_0 == 6) = true := beq_iff_eq.mpr c159
  have c159b1 : (a0_0 != 6) = false := bne_eq_false_iff_eq.mpr c159
  clear c159
  obtain rfl := Option.some.inj H
  have hnb160 := NB151_161.out
  have hnc160 := NB161_151.out
  obtain ⟨_, _, _, _, _, _, _, _, _, _, _, _, _, _, _, _⟩ := fc8 BK151.out
  go_wp2
  go_ret
  exact ⟨by first | rfl | (simp <;> rfl) | (simp [*] <;> rfl), by repeat (first | (with_reducible first | exact HB.out | apply qh | apply qi | apply qj | refine qk ?_ GE151.out | refine qk ?_ GE161.out) | exact HB.out)⟩
 rw [if_neg c159] at H
 have c159b0 : (a0_0 == 6) = false := beq_eq_false_iff_ne.mpr c159
 have c159b1 : (a0_0 != 6) = true := bne_iff_ne.mpr c159
 by_cases c162 : a0_0 = 8
 ·rw [if_pos c162] at H
  have c162b0 : (a0_0 == 8) = true := beq_iff_eq.mpr c162
  have c162b1 : (a0_0 != 8) = false := bne_eq_false_iff_eq.mpr c162
  clear c162
  obtain rfl := Option.some.inj H
  have hnb163 := NB151_161.out
  have hnc163 := NB161_151.out
  obtain ⟨_, _, _, _, _, _, _, _, _, _, _, _, _, _, _, _⟩ := fc8 BK151.out
  go_wp2
  go_ret
  exact ⟨by first | rfl | (simp <;> rfl) | (simp [*] <;> rfl), by repeat (first | (with_reducible first | exact HB.out | apply qh | apply qi | apply qj | refine qk ?_ GE151.out | refine qk ?_ GE161.out) | exact HB.out)⟩
 rw [if_neg c162] at H
 have c162b0 : (a0_0 == 8) = false := beq_eq_false_iff_ne.mpr c162
 have c162b1 : (a0_0 != 8) = true := bne_iff_ne.mpr c162
 by_cases c165 : a0_0 = 24
 ·rw [if_pos c165] at H
  have c165b0 : (a0_0 == 24) = true := beq_iff_eq.mpr c165
  have c165b1 : (a0_0 != 24) = false := bne_eq_false_iff_eq.mpr c165
  clear c165
  obtain rfl := Option.some.inj H
  have hnb166 := NB151_161.out
  have hnc166 := NB161_151.out
  obtain ⟨_, _, _, _, _, _, _, _, _, _, _, _, _, _, _, _⟩ := fc8 BK151.out
  go_wp2
  go_ret
  exact ⟨by first | rfl | (simp <;> rfl) | (simp [*] <;> rfl), by repeat (first | (with_reducible first | exact HB.out | apply qh | apply qi | apply qj | refine qk ?_ GE151.out | refine qk ?_ GE161.out) | exact HB.out)⟩
 rw [if_neg c165] at H
 have c165b0 : (a0_0 == 24) = false := beq_eq_false_iff_ne.mpr c165
 have c165b1 : (a0_0 != 24) = true := bne_iff_ne.mpr c165
 obtain rfl := Option.some.inj H
 go_wp2
 go_ret
 exact ⟨by first | rfl | (simp <;> rfl) | (simp [*] <;> rfl), by repeat (first | (with_reducible first | exact HB.out | apply qh | apply qi | apply qj | refine qk ?_ GE151.out | refine qk ?_ GE161.out) | exact HB.out)⟩
end Go.Proofs.Ytdojcdhlcnlohaa.SFnExactFrameBytes
