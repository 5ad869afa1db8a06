/- The walk of functions that the law FnExactAckedBy uses, written by program. -/
import Derived.Test.YtdojcdhlcnlohaaSFnExactAckedByx0
import Derived.Test.YtdojcdhlcnlohaaSFnExactAckedByx4
import Derived.Test.YtdojcdhlcnlohaaSFnExactAckedByx5
import Derived.Test.YtdojcdhlcnlohaaSteps
namespace Go.Proofs.Ytdojcdhlcnlohaa.SFnExactAckedBy
open Go.RowKit Go.Proofs.YtdojcdhlcnlohaaW.PrintWords Go.Proofs.YtdojcdhlcnlohaaW.PrintLast Go.Proofs.YtdojcdhlcnlohaaW.PrintMore
attribute [local go_sem] max2_int min2_int max_two min_two max_three min_three max_four min_four   -- for this text's walks alone
set_option linter.unusedVariables false
set_option linter.unusedSimpArgs false

/-! ### spec_FrameOK: function 39 -/
mutual
def spec_FrameOK.j0 : Nat → Bool → Int → Int → Int → Int → Bool → List Int → List Int → List (S105) → Bool → Bool → Bool → Bool → Bool → Bool → Int → Int → Int → Option (Bool)
 | 0, _, _, _, _, _, _, _, _, _, _, _, _, _, _, _, _, _, _ => none
 | k + 1, x66, x169000, x169001, x169002, x169003, x169004, x169005, x169006, x169007, x179000, x179001, x179002, x179003, x179004, x179005, x179006, x179007, x179008 => if x66 = true then (some false) else (if (x169005.length : Int) < x179006 then (spec_FrameOK.j1 k true x169000 x169001 x169002 x169003 x169004 x169005 x169006 x169007) else (if (x169005.length : Int) > x179007 then (spec_FrameOK.j1 k true x169000 x169001 x169002 x169003 x169004 x169005 x169006 x169007) else (if (x169006.length : Int) = x179008 then (if (x179005 != (decide ((x169007.length : Int) > 0))) = true then (spec_FrameOK.j1 k true x169000 x169001 x169002 x169003 x169004 x169005 x169006 x169007) else ((spec_l05RangesOK.f k x169007).bind fun t182 => (spec_FrameOK.j1 k (!t182) x169000 x169001 x169002 x169003 x169004 x169005 x169006 x169007))) else (spec_FrameOK.j1 k true x169000 x169001 x169002 x169003 x169004 x169005 x169006 x169007))))
def spec_FrameOK.j1 : Nat → Bool → Int → Int → Int → Int → Bool → List Int → List Int → List (S105) → Option (Bool)
 | 0, _, _, _, _, _, _, _, _, _ => none
 | k + 1, x103, x169000, x169001, x169002, x169003, x169004, x169005, x169006, x169007 => if x103 = true then (some false) else (if x169000 = 0 then (if x169001 ≥ 1 then (some (decide (x169001 ≤ 1500))) else (some false)) else (if x169000 = 18 then (spec_FrameOK.j2 k x169000 (x169000 == 18) x169000 x169001 x169002 x169003 x169004 x169005 x169006 x169007) else (spec_FrameOK.j2 k x169000 (x169000 == 22) x169000 x169001 x169002 x169003 x169004 x169005 x169006 x169007)))
def spec_FrameOK.j2 : Nat → Int → Bool → Int → Int → Int → Int → Bool → List Int → List Int → List (S105) → Option (Bool)
 | 0, _, _, _, _, _, _, _, _, _, _ => none
 | k + 1, x105, x116, x169000, x169001, x169002, x169003, x169004, x169005, x169006, x169007 => if x116 = true then (if x169001 ≤ 1152921504606846976 then (some (decide (x169002 ≤ 1))) else (some false)) else (if x105 = 6 then (some (decide (x169001 ≤ (wrap64 (4611686018427387903 - (x169005.length : Int)))))) else (if x105 = 8 then (some (decide (x169002 ≤ (wrap64 (4611686018427387903 - (x169005.length : Int)))))) else (if x105 = 24 then (some (decide (x169002 ≤ x169001))) else (some true))))
end
def spec_FrameOK.f (k : Nat) (a0_0 : Int) (a0_1 : Int) (a0_2 : Int) (a0_3 : Int) (a0_4 : Bool) (l0_5 : List Int) (l0_6 : List Int) (l0_7 : List (S105)) : Option (Bool) := (spec_l05Kind.f k a0_0).bind fun bt169 => (if bt169.1 = true then ((spec_l05Var.f a0_1).bind fun t179 => (if t179 = true then ((spec_l05Var.f a0_2).bind fun t180 => (if t180 = true then ((spec_l05Var.f a0_3).bind fun t181 => (if t181 = true then (if bt169.2.1 = true then (if bt169.2.2.1 = true then (if bt169.2.2.2.1 = true then (if bt169.2.2.2.2.1 = true then (spec_FrameOK.j0 k false a0_0 a0_1 a0_2 a0_3 a0_4 l0_5 l0_6 l0_7 bt169.1 bt169.2.1 bt169.2.2.1 bt169.2.2.2.1 bt169.2.2.2.2.1 bt169.2.2.2.2.2.1 bt169.2.2.2.2.2.2.1 bt169.2.2.2.2.2.2.2.1 bt169.2.2.2.2.2.2.2.2) else (spec_FrameOK.j0 k a0_4 a0_0 a0_1 a0_2 a0_3 a0_4 l0_5 l0_6 l0_7 bt169.1 bt169.2.1 bt169.2.2.1 bt169.2.2.2.1 bt169.2.2.2.2.1 bt169.2.2.2.2.2.1 bt169.2.2.2.2.2.2.1 bt169.2.2.2.2.2.2.2.1 bt169.2.2.2.2.2.2.2.2)) else (if a0_3 = 0 then (if bt169.2.2.2.2.1 = true then (spec_FrameOK.j0 k false a0_0 a0_1 a0_2 a0_3 a0_4 l0_5 l0_6 l0_7 bt169.1 bt169.2.1 bt169.2.2.1 bt169.2.2.2.1 bt169.2.2.2.2.1 bt169.2.2.2.2.2.1 bt169.2.2.2.2.2.2.1 bt169.2.2.2.2.2.2.2.1 bt169.2.2.2.2.2.2.2.2) else (spec_FrameOK.j0 k a0_4 a0_0 a0_1 a0_2 a0_3 a0_4 l0_5 l0_6 l0_7 bt169.1 bt169.2.1 bt169.2.2.1 bt169.2.2.2.1 bt169.2.2.2.2.1 bt169.2.2.2.2.2.1 bt169.2.2.2.2.2.2.1 bt169.2.2.2.2.2.2.2.1 bt169.2.2.2.2.2.2.2.2)) else (spec_FrameOK.j0 k true a0_0 a0_1 a0_2 a0_3 a0_4 l0_5 l0_6 l0_7 bt169.1 bt169.2.1 bt169.2.2.1 bt169.2.2.2.1 bt169.2.2.2.2.1 bt169.2.2.2.2.2.1 bt169.2.2.2.2.2.2.1 bt169.2.2.2.2.2.2.2.1 bt169.2.2.2.2.2.2.2.2))) else (if a0_2 = 0 then (if bt169.2.2.2.1 = true then (if bt169.2.2.2.2.1 = true then (spec_FrameOK.j0 k false a0_0 a0_1 a0_2 a0_3 a0_4 l0_5 l0_6 l0_7 bt169.1 bt169.2.1 bt169.2.2.1 bt169.2.2.2.1 bt169.2.2.2.2.1 bt169.2.2.2.2.2.1 bt169.2.2.2.2.2.2.1 bt169.2.2.2.2.2.2.2.1 bt169.2.2.2.2.2.2.2.2) else (spec_FrameOK.j0 k a0_4 a0_0 a0_1 a0_2 a0_3 a0_4 l0_5 l0_6 l0_7 bt169.1 bt169.2.1 bt169.2.2.1 bt169.2.2.2.1 bt169.2.2.2.2.1 bt169.2.2.2.2.2.1 bt169.2.2.2.2.2.2.1 bt169.2.2.2.2.2.2.2.1 bt169.2.2.2.2.2.2.2.2)) else (if a0_3 = 0 then (if bt169.2.2.2.2.1 = true then (spec_FrameOK.j0 k false a0_0 a0_1 a0_2 a0_3 a0_4 l0_5 l0_6 l0_7 bt169.1 bt169.2.1 bt169.2.2.1 bt169.2.2.2.1 bt169.2.2.2.2.1 bt169.2.2.2.2.2.1 bt169.2.2.2.2.2.2.1 bt169.2.2.2.2.2.2.2.1 bt169.2.2.2.2.2.2.2.2) else (spec_FrameOK.j0 k a0_4 a0_0 a0_1 a0_2 a0_3 a0_4 l0_5 l0_6 l0_7 bt169.1 bt169.2.1 bt169.2.2.1 bt169.2.2.2.1 bt169.2.2.2.2.1 bt169.2.2.2.2.2.1 bt169.2.2.2.2.2.2.1 bt169.2.2.2.2.2.2.2.1 bt169.2.2.2.2.2.2.2.2)) else (spec_FrameOK.j0 k true a0_0 a0_1 a0_2 a0_3 a0_4 l0_5 l0_6 l0_7 bt169.1 bt169.2.1 bt169.2.2.1 bt169.2.2.2.1 bt169.2.2.2.2.1 bt169.2.2.2.2.2.1 bt169.2.2.2.2.2.2.1 bt169.2.2.2.2.2.2.2.1 bt169.2.2.2.2.2.2.2.2))) else (spec_FrameOK.j0 k true a0_0 a0_1 a0_2 a0_3 a0_4 l0_5 l0_6 l0_7 bt169.1 bt169.2.1 bt169.2.2.1 bt169.2.2.2.1 bt169.2.2.2.2.1 bt169.2.2.2.2.2.1 bt169.2.2.2.2.2.2.1 bt169.2.2.2.2.2.2.2.1 bt169.2.2.2.2.2.2.2.2))) else (if a0_1 = 0 then (if bt169.2.2.1 = true then (if bt169.2.2.2.1 = true then (if bt169.2.2.2.2.1 = true then (spec_FrameOK.j0 k false a0_0 a0_1 a0_2 a0_3 a0_4 l0_5 l0_6 l0_7 bt169.1 bt169.2.1 bt169.2.2.1 bt169.2.2.2.1 bt169.2.2.2.2.1 bt169.2.2.2.2.2.1 bt169.2.2.2.2.2.2.1 bt169.2.2.2.2.2.2.2.1 bt169.2.2.2.2.2.2.2.2) else (spec_FrameOK.j0 k a0_4 a0_0 a0_1 a0_2 a0_3 a0_4 l0_5 l0_6 l0_7 bt169.1 bt169.2.1 bt169.2.2.1 bt169.2.2.2.1 bt169.2.2.2.2.1 bt169.2.2.2.2.2.1 bt169.2.2.2.2.2.2.1 bt169.2.2.2.2.2.2.2.1 bt169.2.2.2.2.2.2.2.2)) else (if a0_3 = 0 then (if bt169.2.2.2.2.1 = true then (spec_FrameOK.j0 k false a0_0 a0_1 a0_2 a0_3 a0_4 l0_5 l0_6 l0_7 bt169.1 bt169.2.1 bt169.2.2.1 bt169.2.2.2.1 bt169.2.2.2.2.1 bt169.2.2.2.2.2.1 bt169.2.2.2.2.2.2.1 bt169.2.2.2.2.2.2.2.1 bt169.2.2.2.2.2.2.2.2) else (spec_FrameOK.j0 k a0_4 a0_0 a0_1 a0_2 a0_3 a0_4 l0_5 l0_6 l0_7 bt169.1 bt169.2.1 bt169.2.2.1 bt169.2.2.2.1 bt169.2.2.2.2.1 bt169.2.2.2.2.2.1 bt169.2.2.2.2.2.2.1 bt169.2.2.2.2.2.2.2.1 bt169.2.2.2.2.2.2.2.2)) else (spec_FrameOK.j0 k true a0_0 a0_1 a0_2 a0_3 a0_4 l0_5 l0_6 l0_7 bt169.1 bt169.2.1 bt169.2.2.1 bt169.2.2.2.1 bt169.2.2.2.2.1 bt169.2.2.2.2.2.1 bt169.2.2.2.2.2.2.1 bt169.2.2.2.2.2.2.2.1 bt169.2.2.2.2.2.2.2.2))) else (if a0_2 = 0 then (if bt169.2.2.2.1 = true then (if bt169.2.2.2.2.1 = true then (spec_FrameOK.j0 k false a0_0 a0_1 a0_2 a0_3 a0_4 l0_5 l0_6 l0_7 bt169.1 bt169.2.1 bt169.2.2.1 bt169.2.2.2.1 bt169.2.2.2.2.1 bt169.2.2.2.2.2.1 bt169.2.2.2.2.2.2.1 bt169.2.2.2.2.2.2.2.1 bt169.2.2.2.2.2.2.2.2) else (spec_FrameOK.j0 k a0_4 a0_0 a0_1 a0_2 a0_3 a0_4 l0_5 l0_6 l0_7 bt169.1 bt169.2.1 bt169.2.2.1 bt169.2.2.2.1 bt169.2.2.2.2.1 bt169.2.2.2.2.2.1 bt169.2.2.2.2.2.2.1 bt169.2.2.2.2.2.2.2.1 bt169.2.2.2.2.2.2.2.2)) else (if a0_3 = 0 then (if bt169.2.2.2.2.1 = true then (spec_FrameOK.j0 k false a0_0 a0_1 a0_2 a0_3 a0_4 l0_5 l0_6 l0_7 bt169.1 bt169.2.1 bt169.2.2.1 bt169.2.2.2.1 bt169.2.2.2.2.1 bt169.2.2.2.2.2.1 bt169.2.2.2.2.2.2.1 bt169.2.2.2.2.2.2.2.1 bt169.2.2.2.2.2.2.2.2) else (spec_FrameOK.j0 k a0_4 a0_0 a0_1 a0_2 a0_3 a0_4 l0_5 l0_6 l0_7 bt169.1 bt169.2.1 bt169.2.2.1 bt169.2.2.2.1 bt169.2.2.2.2.1 bt169.2.2.2.2.2.1 bt169.2.2.2.2.2.2.1 bt169.2.2.2.2.2.2.2.1 bt169.2.2.2.2.2.2.2.2)) else (spec_FrameOK.j0 k true a0_0 a0_1 a0_2 a0_3 a0_4 l0_5 l0_6 l0_7 bt169.1 bt169.2.1 bt169.2.2.1 bt169.2.2.2.1 bt169.2.2.2.2.1 bt169.2.2.2.2.2.1 bt169.2.2.2.2.2.2.1 bt169.2.2.2.2.2.2.2.1 bt169.2.2.2.2.2.2.2.2))) else (spec_FrameOK.j0 k true a0_0 a0_1 a0_2 a0_3 a0_4 l0_5 l0_6 l0_7 bt169.1 bt169.2.1 bt169.2.2.1 bt169.2.2.2.1 bt169.2.2.2.2.1 bt169.2.2.2.2.2.1 bt169.2.2.2.2.2.2.1 bt169.2.2.2.2.2.2.2.1 bt169.2.2.2.2.2.2.2.2))) else (spec_FrameOK.j0 k true a0_0 a0_1 a0_2 a0_3 a0_4 l0_5 l0_6 l0_7 bt169.1 bt169.2.1 bt169.2.2.1 bt169.2.2.2.1 bt169.2.2.2.2.1 bt169.2.2.2.2.2.1 bt169.2.2.2.2.2.2.1 bt169.2.2.2.2.2.2.2.1 bt169.2.2.2.2.2.2.2.2))) else (spec_FrameOK.j0 k true a0_0 a0_1 a0_2 a0_3 a0_4 l0_5 l0_6 l0_7 bt169.1 bt169.2.1 bt169.2.2.1 bt169.2.2.2.1 bt169.2.2.2.2.1 bt169.2.2.2.2.2.1 bt169.2.2.2.2.2.2.1 bt169.2.2.2.2.2.2.2.1 bt169.2.2.2.2.2.2.2.2))) else (spec_FrameOK.j0 k true a0_0 a0_1 a0_2 a0_3 a0_4 l0_5 l0_6 l0_7 bt169.1 bt169.2.1 bt169.2.2.1 bt169.2.2.2.1 bt169.2.2.2.2.1 bt169.2.2.2.2.2.1 bt169.2.2.2.2.2.2.1 bt169.2.2.2.2.2.2.2.1 bt169.2.2.2.2.2.2.2.2))) else (spec_FrameOK.j0 k true a0_0 a0_1 a0_2 a0_3 a0_4 l0_5 l0_6 l0_7 bt169.1 bt169.2.1 bt169.2.2.1 bt169.2.2.2.1 bt169.2.2.2.2.1 bt169.2.2.2.2.2.1 bt169.2.2.2.2.2.2.1 bt169.2.2.2.2.2.2.2.1 bt169.2.2.2.2.2.2.2.2))) else (spec_FrameOK.j0 k true a0_0 a0_1 a0_2 a0_3 a0_4 l0_5 l0_6 l0_7 bt169.1 bt169.2.1 bt169.2.2.1 bt169.2.2.2.1 bt169.2.2.2.2.1 bt169.2.2.2.2.2.1 bt169.2.2.2.2.2.2.1 bt169.2.2.2.2.2.2.2.1 bt169.2.2.2.2.2.2.2.2))
theorem spec_FrameOK.mono_l : ∀ k, (∀ y0 y1 y2 y3 y4 y5 y6 y7 y8 y9 y10 y11 y12 y13 y14 y15 y16 y17, LeO (spec_FrameOK.j0 k y0 y1 y2 y3 y4 y5 y6 y7 y8 y9 y10 y11 y12 y13 y14 y15 y16 y17) (spec_FrameOK.j0 (k + 1) y0 y1 y2 y3 y4 y5 y6 y7 y8 y9 y10 y11 y12 y13 y14 y15 y16 y17)) ∧ (∀ y0 y1 y2 y3 y4 y5 y6 y7 y8, LeO (spec_FrameOK.j1 k y0 y1 y2 y3 y4 y5 y6 y7 y8) (spec_FrameOK.j1 (k + 1) y0 y1 y2 y3 y4 y5 y6 y7 y8)) ∧ (∀ y0 y1 y2 y3 y4 y5 y6 y7 y8 y9, LeO (spec_FrameOK.j2 k y0 y1 y2 y3 y4 y5 y6 y7 y8 y9) (spec_FrameOK.j2 (k + 1) y0 y1 y2 y3 y4 y5 y6 y7 y8 y9))
 | 0 => ⟨fun _ _ _ _ _ _ _ _ _ _ _ _ _ _ _ _ _ _ r h => by simp [spec_FrameOK.j0] at h, fun _ _ _ _ _ _ _ _ _ r h => by simp [spec_FrameOK.j1] at h, fun _ _ _ _ _ _ _ _ _ _ r h => by simp [spec_FrameOK.j2] at h⟩
 | k + 1 => by
  obtain ⟨ih0, ih1, ih2⟩ := spec_FrameOK.mono_l k
  refine ⟨?_, ?_, ?_⟩
  ·intro y0 y1 y2 y3 y4 y5 y6 y7 y8 y9 y10 y11 y12 y13 y14 y15 y16 y17
   unfold spec_FrameOK.j0
   repeat' first
   | (with_reducible exact ih0 _ _ _ _ _ _ _ _ _ _ _ _ _ _ _ _ _ _)
   | (with_reducible exact ih1 _ _ _ _ _ _ _ _ _)
   | (with_reducible exact ih2 _ _ _ _ _ _ _ _ _ _)
   | (with_reducible exact spec_l05Kind.mono _ _)
   | (with_reducible exact spec_l05RangesOK.mono _ _)
   | (with_reducible exact LeO.refl _)
   | (with_reducible exact LeO.none _)
   | (with_reducible refine LeO.ite ?_ ?_)
   | (with_reducible refine LeO.bind ?_ (fun _ => ?_))
   | exact ih0 _ _ _ _ _ _ _ _ _ _ _ _ _ _ _ _ _ _
   | exact ih1 _ _ _ _ _ _ _ _ _
   | exact ih2 _ _ _ _ _ _ _ _ _ _
   | exact spec_l05Kind.mono _ _
   | exact spec_l05RangesOK.mono _ _
   | exact LeO.none _
   | refine LeO.ite ?_ ?_
   | refine LeO.bind ?_ (fun _ => ?_)
  ·intro y0 y1 y2 y3 y4 y5 y6 y7 y8
   unfold spec_FrameOK.j1
   repeat' first
   | (with_reducible exact ih0 _ _ _ _ _ _ _ _ _ _ _ _ _ _ _ _ _ _)
   | (with_reducible exact ih1 _ _ _ _ _ _ _ _ _)
   | (with_reducible exact ih2 _ _ _ _ _ _ _ _ _ _)
   | (with_reducible exact spec_l05Kind.mono _ _)
   | (with_reducible exact spec_l05RangesOK.mono _ _)
   | (with_reducible exact LeO.refl _)
   | (with_reducible exact LeO.none _)
   | (with_reducible refine LeO.ite ?_ ?_)
   | (with_reducible refine LeO.bind ?_ (fun _ => ?_))
   | exact ih0 _ _ _ _ _ _ _ _ _ _ _ _ _ _ _ _ _ _
   | exact ih1 _ _ _ _ _ _ _ _ _
   | exact ih2 _ _ _ _ _ _ _ _ _ _
   | exact spec_l05Kind.mono _ _
   | exact spec_l05RangesOK.mono _ _
   | exact LeO.none _
   | refine LeO.ite ?_ ?_
   | refine LeO.bind ?_ (fun _ => ?_)
  ·intro y0 y1 y2 y3 y4 y5 y6 y7 y8 y9
   unfold spec_FrameOK.j2
   repeat' first
   | (with_reducible exact ih0 _ _ _ _ _ _ _ _ _ _ _ _ _ _ _ _ _ _)
   | (with_reducible exact ih1 _ _ _ _ _ _ _ _ _)
   | (with_reducible exact ih2 _ _ _ _ _ _ _ _ _ _)
   | (with_reducible exact spec_l05Kind.mono _ _)
   | (with_reducible exact spec_l05RangesOK.mono _ _)
   | (with_reducible exact LeO.refl _)
   | (with_reducible exact LeO.none _)
   | (with_reducible refine LeO.ite ?_ ?_)
   | (with_reducible refine LeO.bind ?_ (fun _ => ?_))
   | exact ih0 _ _ _ _ _ _ _ _ _ _ _ _ _ _ _ _ _ _
   | exact ih1 _ _ _ _ _ _ _ _ _
   | exact ih2 _ _ _ _ _ _ _ _ _ _
   | exact spec_l05Kind.mono _ _
   | exact spec_l05RangesOK.mono _ _
   | exact LeO.none _
   | refine LeO.ite ?_ ?_
   | refine LeO.bind ?_ (fun _ => ?_)
theorem spec_FrameOK.mono : ∀ a0 a1 a2 a3 a4 a5 a6 a7 k, LeO (spec_FrameOK.f k a0 a1 a2 a3 a4 a5 a6 a7) (spec_FrameOK.f (k + 1) a0 a1 a2 a3 a4 a5 a6 a7) := by
 intro a0 a1 a2 a3 a4 a5 a6 a7 k
 obtain ⟨ih0, ih1, ih2⟩ := spec_FrameOK.mono_l k
 unfold spec_FrameOK.f
 repeat' first
   | (with_reducible exact ih0 _ _ _ _ _ _ _ _ _ _ _ _ _ _ _ _ _ _)
   | (with_reducible exact ih1 _ _ _ _ _ _ _ _ _)
   | (with_reducible exact ih2 _ _ _ _ _ _ _ _ _ _)
   | (with_reducible exact spec_l05Kind.mono _ _)
   | (with_reducible exact spec_l05RangesOK.mono _ _)
   | (with_reducible exact LeO.refl _)
   | (with_reducible exact LeO.none _)
   | (with_reducible refine LeO.ite ?_ ?_)
   | (with_reducible refine LeO.bind ?_ (fun _ => ?_))
   | exact ih0 _ _ _ _ _ _ _ _ _ _ _ _ _ _ _ _ _ _
   | exact ih1 _ _ _ _ _ _ _ _ _
   | exact ih2 _ _ _ _ _ _ _ _ _ _
   | exact spec_l05Kind.mono _ _
   | exact spec_l05RangesOK.mono _ _
   | exact LeO.none _
   | refine LeO.ite ?_ ?_
   | refine LeO.bind ?_ (fun _ => ?_)
set_option maxHeartbeats 8000000 in
set_option maxRecDepth 100000 in
theorem spec_FrameOK.calls (k : Nat) (a0_0 : Int) (a0_1 : Int) (a0_2 : Int) (a0_3 : Int) (a0_4 : Bool) (A0_5 : Option Addr) (c0_5 : Nat) (l0_5 : List Int) (A0_6 : Option Addr) (c0_6 : Nat) (l0_6 : List Int) (A0_7 : Option Addr) (c0_7 : Nat) (l0_7 : List (S105)) (r : Bool) (w : World) (hr0_5 : Kd.C (Kd.int .u8) w A0_5 l0_5.length l0_5) (hc0_5 : l0_5.length ≤ c0_5) (hr0_6 : Kd.C (Kd.int .u8) w A0_6 l0_6.length l0_6) (hc0_6 : l0_6.length ≤ c0_6) (hr0_7 : Kd.C k105 w A0_7 l0_7.length l0_7) (hc0_7 : l0_7.length ≤ c0_7) (h : spec_FrameOK.f k a0_0 a0_1 a0_2 a0_3 a0_4 l0_5 l0_6 l0_7 = some r) :
  Calls Try.prog 39 #[.agg #[.int .i64 a0_0, .int .i64 a0_1, .int .i64 a0_2, .int .i64 a0_3, .bool a0_4, .slice A0_5 l0_5.length c0_5, .slice A0_6 l0_6.length c0_6, .slice A0_7 l0_7.length c0_7]] w fun e w' => e = .returned (.bool r) ∧ Below w.heap.size w w' := by
 have hu55 := Try.underlying55
 have hu81 := Try.underlying81
 have HR0_5 := Aside0.mk hr0_5
 have HC0_5 := Aside0.mk hc0_5
 clear hr0_5 hc0_5
 have HR0_6 := Aside0.mk hr0_6
 have HC0_6 := Aside0.mk hc0_6
 clear hr0_6 hc0_6
 have HR0_7 := Aside0.mk hr0_7
 have HC0_7 := Aside0.mk hc0_7
 clear hr0_7 hc0_7
 have HB := Aside0.mk (Below.refl w.heap.size w)
 have H : ((spec_l05Kind.f k a0_0).bind fun bt169 => (if bt169.1 = true then ((spec_l05Var.f a0_1).bind fun t179 => (if t179 = true then ((spec_l05Var.f a0_2).bind fun t180 => (if t180 = true then ((spec_l05Var.f a0_3).bind fun t181 => (if t181 = true then (if bt169.2.1 = true then (if bt169.2.2.1 = true then (if bt169.2.2.2.1 = true then (if bt169.2.2.2.2.1 = true then (spec_FrameOK.j0 k false a0_0 a0_1 a0_2 a0_3 a0_4 l0_5 l0_6 l0_7 bt169.1 bt169.2.1 bt169.2.2.1 bt169.2.2.2.1 bt169.2.2.2.2.1 bt169.2.2.2.2.2.1 bt169.2.2.2.2.2.2.1 bt169.2.2.2.2.2.2.2.1 bt169.2.2.2.2.2.2.2.2) else (spec_FrameOK.j0 k a0_4 a0_0 a0_1 a0_2 a0_3 a0_4 l0_5 l0_6 l0_7 bt169.1 bt169.2.1 bt169.2.2.1 bt169.2.2.2.1 bt169.2.2.2.2.1 bt169.2.2.2.2.2.1 bt169.2.2.2.2.2.2.1 bt169.2.2.2.2.2.2.2.1 bt169.2.2.2.2.2.2.2.2)) else (if a0_3 = 0 then (if bt169.2.2.2.2.1 = true then (spec_FrameOK.j0 k false a0_0 a0_1 a0_2 a0_3 a0_4 l0_5 l0_6 l0_7 bt169.1 bt169.2.1 bt169.2.2.1 bt169.2.2.2.1 bt169.2.2.2.2.1 bt169.2.2.2.2.2.1 bt169.2.2.2.2.2.2.1 bt169.2.2.2.2.2.2.2.1 bt169.2.2.2.2.2.2.2.2) else (spec_FrameOK.j0 k a0_4 a0_0 a0_1 a0_2 a0_3 a0_4 l0_5 l0_6 l0_7 bt169.1 bt169.2.1 bt169.2.2.1 bt169.2.2.2.1 bt169.2.2.2.2.1 bt169.2.2.2.2.2.1 bt169.2.2.2.2.2.2.1 bt169.2.2.2.2.2.2.2.1 bt169.2.2.2.2.2.2.2.2)) else (spec_FrameOK.j0 k true a0_0 a0_1 a0_2 a0_3 a0_4 l0_5 l0_6 l0_7 bt169.1 bt169.2.1 bt169.2.2.1 bt169.2.2.2.1 bt169.2.2.2.2.1 bt169.2.2.2.2.2.1 bt169.2.2.2.2.2.2.1 bt169.2.2.2.2.2.2.2.1 bt169.2.2.2.2.2.2.2.2))) else (if a0_2 = 0 then (if bt169.2.2.2.1 = true then (if bt169.2.2.2.2.1 = true then (spec_FrameOK.j0 k false a0_0 a0_1 a0_2 a0_3 a0_4 l0_5 l0_6 l0_7 bt169.1 bt169.2.1 bt169.2.2.1 bt169.2.2.2.1 bt169.2.2.2.2.1 bt169.2.2.2.2.2.1 bt169.2.2.2.2.2.2.1 bt169.2.2.2.2.2.2.2.1 bt169.2.2.2.2.2.2.2.2) else (spec_FrameOK.j0 k a0_4 a0_0 a0_1 a0_2 a0_3 a0_4 l0_5 l0_6 l0_7 bt169.1 bt169.2.1 bt169.2.2.1 bt169.2.2.2.1 bt169.2.2.2.2.1 bt169.2.2.2.2.2.1 bt169.2.2.2.2.2.2.1 bt169.2.2.2.2.2.2.2.1 bt169.2.2.2.2.2.2.2.2)) else (if a0_3 = 0 then (if bt169.2.2.2.2.1 = true then (spec_FrameOK.j0 k false a0_0 a0_1 a0_2 a0_3 a0_4 l0_5 l0_6 l0_7 bt169.1 bt169.2.1 bt169.2.2.1 bt169.2.2.2.1 bt169.2.2.2.2.1 bt169.2.2.2.2.2.1 bt169.2.2.2.2.2.2.1 bt169.2.2.2.2.2.2.2.1 bt169.2.2.2.2.2.2.2.2) else (spec_FrameOK.j0 k a0_4 a0_0 a0_1 a0_2 a0_3 a0_4 l0_5 l0_6 l0_7 bt169.1 bt169.2.1 bt169.2.2.1 bt169.2.2.2.1 bt169.2.2.2.2.1 bt169.2.2.2.2.2.1 bt169.2.2.2.2.2.2.1 bt169.2.2.2.2.2.2.2.1 bt169.2.2.2.2.2.2.2.2)) else (spec_FrameOK.j0 k true a0_0 a0_1 a0_2 a0_3 a0_4 l0_5 l0_6 l0_7 bt169.1 bt169.2.1 bt169.2.2.1 bt169.2.2.2.1 bt169.2.2.2.2.1 bt169.2.2.2.2.2.1 bt169.2.2.2.2.2.2.1 bt169.2.2.2.2.2.2.2.1 bt169.2.2.2.2.2.2.2.2))) else (spec_FrameOK.j0 k true a0_0 a0_1 a0_2 a0_3 a0_4 l0_5 l0_6 l0_7 bt169.1 bt169.2.1 bt169.2.2.1 bt169.2.2.2.1 bt169.2.2.2.2.1 bt169.2.2.2.2.2.1 bt169.2.2.2.2.2.2.1 bt169.2.2.2.2.2.2.2.1 bt169.2.2.2.2.2.2.2.2))) else (if a0_1 = 0 then (if bt169.2.2.1 = true then (if bt169.2.2.2.1 = true then (if bt169.2.2.2.2.1 = true then (spec_FrameOK.j0 k false a0_0 a0_1 a0_2 a0_3 a0_4 l0_5 l0_6 l0_7 bt169.1 bt169.2.1 bt169.2.2.1 bt169.2.2.2.1 bt169.2.2.2.2.1 bt169.2.2.2.2.2.1 bt169.2.2.2.2.2.2.1 bt169.2.2.2.2.2.2.2.1 bt169.2.2.2.2.2.2.2.2) else (spec_FrameOK.j0 k a0_4 a0_0 a0_1 a0_2 a0_3 a0_4 l0_5 l0_6 l0_7 bt169.1 bt169.2.1 bt169.2.2.1 bt169.2.2.2.1 bt169.2.2.2.2.1 bt169.2.2.2.2.2.1 bt169.2.2.2.2.2.2.1 bt169.2.2.2.2.2.2.2.1 bt169.2.2.2.2.2.2.2.2)) else (if a0_3 = 0 then (if bt169.2.2.2.2.1 = true then (spec_FrameOK.j0 k false a0_0 a0_1 a0_2 a0_3 a0_4 l0_5 l0_6 l0_7 bt169.1 bt169.2.1 bt169.2.2.1 bt169.2.2.2.1 bt169.2.2.2.2.1 bt169.2.2.2.2.2.1 bt169.2.2.2.2.2.2.1 bt169.2.2.2.2.2.2.2.1 bt169.2.2.2.2.2.2.2.2) else (spec_FrameOK.j0 k a0_4 a0_0 a0_1 a0_2 a0_3 a0_4 l0_5 l0_6 l0_7 bt169.1 bt169.2.1 bt169.2.2.1 bt169.2.2.2.1 bt169.2.2.2.2.1 bt169.2.2.2.2.2.1 bt169.2.2.2.2.2.2.1 bt169.2.2.2.2.2.2.2.1 bt169.2.2.2.2.2.2.2.2)) else (spec_FrameOK.j0 k true a0_0 a0_1 a0_2 a0_3 a0_4 l0_5 l0_6 l0_7 bt169.1 bt169.2.1 bt169.2.2.1 bt169.2.2.2.1 bt169.2.2.2.2.1 bt169.2.2.2.2.2.1 bt169.2.2.2.2.2.2.1 bt169.2.2.2.2.2.2.2.1 bt169.2.2.2.2.2.2.2.2))) else (if a0_2 = 0 then (if bt169.2.2.2.1 = true then (if bt169.2.2.2.2.1 = true then (spec_FrameOK.j0 k false a0_0 a0_1 a0_2 a0_3 a0_4 l0_5 l0_6 l0_7 bt169.1 bt169.2.1 bt169.2.2.1 bt169.2.2.2.1 bt169.2.2.2.2.1 bt169.2.2.2.2.2.1 bt169.2.2.2.2.2.2.1 bt169.2.2.2.2.2.2.2.1 bt169.2.2.2.2.2.2.2.2) else (spec_FrameOK.j0 k a0_4 a0_0 a0_1 a0_2 a0_3 a0_4 l0_5 l0_6 l0_7 bt169.1 bt169.2.1 bt169.2.2.1 bt169.2.2.2.1 bt169.2.2.2.2.1 bt169.2.2.2.2.2.1 bt169.2.2.2.2.2.2.1 bt169.2.2.2.2.2.2.2.1 bt169.2.2.2.2.2.2.2.2)) else (if a0_3 = 0 then (if bt169.2.2.2.2.1 = true then (spec_FrameOK.j0 k false a0_0 a0_1 a0_2 a0_3 a0_4 l0_5 l0_6 l0_7 bt169.1 bt169.2.1 bt169.2.2.1 bt169.2.2.2.1 bt169.2.2.2.2.1 bt169.2.2.2.2.2.1 bt169.2.2.2.2.2.2.1 bt169.2.2.2.2.2.2.2.1 bt169.2.2.2.2.2.2.2.2) else (spec_FrameOK.j0 k a0_4 a0_0 a0_1 a0_2 a0_3 a0_4 l0_5 l0_6 l0_7 bt169.1 bt169.2.1 bt169.2.2.1 bt169.2.2.2.1 bt169.2.2.2.2.1 bt169.2.2.2.2.2.1 bt169.2.2.2.2.2.2.1 bt169.2.2.2.2.2.2.2.1 bt169.2.2.2.2.2.2.2.2)) else (spec_FrameOK.j0 k true a0_0 a0_1 a0_2 a0_3 a0_4 l0_5 l0_6 l0_7 bt169.1 bt169.2.1 bt169.2.2.1 bt169.2.2.2.1 bt169.2.2.2.2.1 bt169.2.2.2.2.2.1 bt169.2.2.2.2.2.2.1 bt169.2.2.2.2.2.2.2.1 bt169.2.2.2.2.2.2.2.2))) else (spec_FrameOK.j0 k true a0_0 a0_1 a0_2 a0_3 a0_4 l0_5 l0_6 l0_7 bt169.1 bt169.2.1 bt169.2.2.1 bt169.2.2.2.1 bt169.2.2.2.2.1 bt169.2.2.2.2.2.1 bt169.2.2.2.2.2.2.1 bt169.2.2.2.2.2.2.2.1 bt169.2.2.2.2.2.2.2.2))) else (spec_FrameOK.j0 k true a0_0 a0_1 a0_2 a0_3 a0_4 l0_5 l0_6 l0_7 bt169.1 bt169.2.1 bt169.2.2.1 bt169.2.2.2.1 bt169.2.2.2.2.1 bt169.2.2.2.2.2.1 bt169.2.2.2.2.2.2.1 bt169.2.2.2.2.2.2.2.1 bt169.2.2.2.2.2.2.2.2))) else (spec_FrameOK.j0 k true a0_0 a0_1 a0_2 a0_3 a0_4 l0_5 l0_6 l0_7 bt169.1 bt169.2.1 bt169.2.2.1 bt169.2.2.2.1 bt169.2.2.2.2.1 bt169.2.2.2.2.2.1 bt169.2.2.2.2.2.2.1 bt169.2.2.2.2.2.2.2.1 bt169.2.2.2.2.2.2.2.2))) else (spec_FrameOK.j0 k true a0_0 a0_1 a0_2 a0_3 a0_4 l0_5 l0_6 l0_7 bt169.1 bt169.2.1 bt169.2.2.1 bt169.2.2.2.1 bt169.2.2.2.2.1 bt169.2.2.2.2.2.1 bt169.2.2.2.2.2.2.1 bt169.2.2.2.2.2.2.2.1 bt169.2.2.2.2.2.2.2.2))) else (spec_FrameOK.j0 k true a0_0 a0_1 a0_2 a0_3 a0_4 l0_5 l0_6 l0_7 bt169.1 bt169.2.1 bt169.2.2.1 bt169.2.2.2.1 bt169.2.2.2.2.1 bt169.2.2.2.2.2.1 bt169.2.2.2.2.2.2.1 bt169.2.2.2.2.2.2.2.1 bt169.2.2.2.2.2.2.2.2))) else (spec_FrameOK.j0 k true a0_0 a0_1 a0_2 a0_3 a0_4 l0_5 l0_6 l0_7 bt169.1 bt169.2.1 bt169.2.2.1 bt169.2.2.2.1 bt169.2.2.2.2.1 bt169.2.2.2.2.2.1 bt169.2.2.2.2.2.2.1 bt169.2.2.2.2.2.2.2.1 bt169.2.2.2.2.2.2.2.2))) = some r := h
 clear h
 replace H := Option.bind_eq_some_iff.mp H
 obtain ⟨⟨t169, t170, t171, t172, t173, t174, t175, t176, t177⟩, A20, H⟩ := H
 try dsimp only at H
 have A2 := Aside0.mk A20
 clear A20
 have HC3 := Aside0.mk H
 clear H
 go_enter Try.func39, Try.ntmps39
 go_upto_region 2 with (first | ((with_reducible refine gate_dst (N := 1) rfl ?_); (try (refine gate_guard (by rfl) ?_; dsimp only)); refine box_event ?hg (N := 1) ?hd (cs := #[.int .i64 a0_0, .int .i64 a0_1, .int .i64 a0_2, .int .i64 a0_3, .bool a0_4, .slice A0_5 l0_5.length c0_5, .slice A0_6 l0_6.length c0_6, .slice A0_7 l0_7.length c0_7]) (t := 55) ?hr ?_; (case hd => rfl); (case hg => rfl); (case hr => first | (go_simp; done) | (go_simp; rfl)); intro gb168 hg w4 hbox hb; have n0_ := Aside0.mk (below_step (by repeat (first | (with_reducible first | exact HB.out | apply below_alloc | apply pw_below_drewN | apply below_drew1) | exact HB.out)) hb); have n1_ := Aside0.mk (hbox); have n2_ := Aside0.mk ((by rw [hg]; exact (below_size (by repeat (first | (with_reducible first | exact HB.out | apply below_alloc | apply pw_below_drewN | apply below_drew1) | exact HB.out))) : w.heap.size ≤ gb168)); have n3_ := Aside0.mk ((by rw [hg]; exact (below_size (by repeat (first | (with_reducible first | exact HB.out | apply below_alloc | apply pw_below_drewN | apply below_drew1) | exact HB.out))) : w.heap.size ≤ gb168)); clear HB; have HB := n0_; have BK168 := n1_; have GW168 := n2_; have GE168 := n3_; clear n0_ n1_ n2_ n3_; clear hb hbox hg; obtain ⟨z8_0, z8_1, z8_2, z8_3, z8_4, z8_5, z8_6, z8_7, z8_8, z8_9, z8_10, z8_11, z8_12, z8_13, z8_14, z8_15⟩ := fc8 BK168.out) | ((with_reducible refine gate_callee (f := 71) rfl ?_); refine goesL_ (some 6) rfl rfl Try.func71 (by kernel_rfl) rfl #[.int .i64 a0_0] rfl (by (try simp only [List.map_toArray, List.map_cons, List.map_nil]); first | done | rfl | (simp only [List.length_drop, List.length_take]; rfl)) ?_; (with_reducible refine (spec_l05Kind.calls k a0_0 t169 t170 t171 t172 t173 t174 t175 t176 t177 _ A2.out).mono ?_); rintro e w6 ⟨rfl, hb⟩; refine ⟨_, rfl, ?_⟩; have n0_ := Aside0.mk (blk_below (g := gb168) (o := .cells #[.int .i64 a0_0, .int .i64 a0_1, .int .i64 a0_2, .int .i64 a0_3, .bool a0_4, .slice A0_5 l0_5.length c0_5, .slice A0_6 l0_6.length c0_6, .slice A0_7 l0_7.length c0_7] 55 (0, 0)) (by (with_reducible repeat (first | refine blk_drewN ?_ _ | refine blk_drew ?_ | refine blk_alloc ?_ _)); exact BK168.out) hb); have n1_ := Aside0.mk (below_step (by repeat (first | (with_reducible first | exact HB.out | apply below_alloc | apply pw_below_drewN | apply below_drew1 | refine below_set ?_ GE168.out) | exact HB.out)) hb); clear BK168; clear HB; have BK168 := n0_; have HB := n1_; clear n0_ n1_; (try clear hb); (try clear hb2); (try clear hk); (try clear hi)) | ((with_reducible refine gate_dst (N := 3) rfl ?_); (try (refine gate_guard (by rfl) ?_; dsimp only)); refine box_event ?hg (N := 3) ?hd (cs := #[.bool false, .bool false, .bool false, .bool false, .bool false, .bool false, .int .i64 0, .int .i64 0, .int .i64 0]) (t := 81) ?hr ?_; (case hd => rfl); (case hg => rfl); (case hr => first | (go_simp; done) | (go_simp; rfl)); intro gb178 hg w7 hbox hb; have n0_ := Aside0.mk (blk_below (g := gb168) (o := .cells #[.int .i64 a0_0, .int .i64 a0_1, .int .i64 a0_2, .int .i64 a0_3, .bool a0_4, .slice A0_5 l0_5.length c0_5, .slice A0_6 l0_6.length c0_6, .slice A0_7 l0_7.length c0_7] 55 (0, 0)) (by (with_reducible repeat (first | refine blk_drewN ?_ _ | refine blk_drew ?_ | refine blk_alloc ?_ _)); exact BK168.out) hb); have n1_ := Aside0.mk (below_step (by repeat (first | (with_reducible first | exact HB.out | apply below_alloc | apply pw_below_drewN | apply below_drew1 | refine below_set ?_ GE168.out) | exact HB.out)) hb); have n2_ := Aside0.mk (hbox); have n3_ := Aside0.mk ((by rw [hg]; exact (below_size (by repeat (first | (with_reducible first | exact HB.out | apply below_alloc | apply pw_below_drewN | apply below_drew1 | refine below_set ?_ GE168.out) | exact HB.out))) : w.heap.size ≤ gb178)); have n4_ := Aside0.mk ((by rw [hg]; exact (below_size (by repeat (first | (with_reducible first | exact HB.out | apply below_alloc | apply pw_below_drewN | apply below_drew1 | refine below_set ?_ GE168.out) | exact HB.out))) : w.heap.size ≤ gb178)); have n5_ := Aside0.mk ((by rw [hg]; exact Nat.ne_of_lt (blk_lt (g := gb168) (o := .cells #[.int .i64 a0_0, .int .i64 a0_1, .int .i64 a0_2, .int .i64 a0_3, .bool a0_4, .slice A0_5 l0_5.length c0_5, .slice A0_6 l0_6.length c0_6, .slice A0_7 l0_7.length c0_7] 55 (0, 0)) (by (with_reducible repeat (first | refine blk_drewN ?_ _ | refine blk_drew ?_ | refine blk_alloc ?_ _)); exact BK168.out)) : gb168 ≠ gb178)); have n6_ := Aside0.mk ((by rw [hg]; exact Nat.ne_of_gt (blk_lt (g := gb168) (o := .cells #[.int .i64 a0_0, .int .i64 a0_1, .int .i64 a0_2, .int .i64 a0_3, .bool a0_4, .slice A0_5 l0_5.length c0_5, .slice A0_6 l0_6.length c0_6, .slice A0_7 l0_7.length c0_7] 55 (0, 0)) (by (with_reducible repeat (first | refine blk_drewN ?_ _ | refine blk_drew ?_ | refine blk_alloc ?_ _)); exact BK168.out)) : gb178 ≠ gb168)); clear BK168; clear HB; have BK168 := n0_; have HB := n1_; have BK178 := n2_; have GW178 := n3_; have GE178 := n4_; have NB168_178 := n5_; have NB178_168 := n6_; clear n0_ n1_ n2_ n3_ n4_ n5_ n6_; clear hb hbox hg; have hnb8 := NB178_168.out; have hnc8 := NB168_178.out; obtain ⟨z9_0, z9_1, z9_2, z9_3, z9_4, z9_5, z9_6, z9_7, z9_8, z9_9, z9_10, z9_11, z9_12, z9_13, z9_14, z9_15, z9_16, z9_17⟩ := fc9 BK178.out))
 (try simp only [Act.put, List.setIfInBounds_toArray, List.set_cons_zero, List.set_cons_succ])
 refine Steps.gen_wp (fun w_ => Aside0 (w_.heap[gb168]? = some (.cells #[.int .i64 a0_0, .int .i64 a0_1, .int .i64 a0_2, .int .i64 a0_3, .bool a0_4, (.slice A0_5 l0_5.length c0_5), (.slice A0_6 l0_6.length c0_6), (.slice A0_7 l0_7.length c0_7)] 55 (0, 0))) ∧ Aside0 (w_.heap[gb178]? = some (.cells #[.bool t169, .bool t170, .bool t171, .bool t172, .bool t173, .bool t174, .int .i64 t175, .int .i64 t176, .int .i64 t177] 81 (0, 0))) ∧ Aside0 (Below w.heap.size w w_)) ⟨⟨by (with_reducible repeat (first | refine blk_drewN ?_ _ | refine blk_drew ?_ | refine blk_alloc ?_ _)); refine blk_far ?_ NB168_178.out _; (with_reducible repeat (first | refine blk_drewN ?_ _ | refine blk_drew ?_ | refine blk_alloc ?_ _)); refine blk_far ?_ NB168_178.out _; (with_reducible repeat (first | refine blk_drewN ?_ _ | refine blk_drew ?_ | refine blk_alloc ?_ _)); refine blk_far ?_ NB168_178.out _; (with_reducible repeat (first | refine blk_drewN ?_ _ | refine blk_drew ?_ | refine blk_alloc ?_ _)); refine blk_far ?_ NB168_178.out _; (with_reducible repeat (first | refine blk_drewN ?_ _ | refine blk_drew ?_ | refine blk_alloc ?_ _)); refine blk_far ?_ NB168_178.out _; (with_reducible repeat (first | refine blk_drewN ?_ _ | refine blk_drew ?_ | refine blk_alloc ?_ _)); refine blk_far ?_ NB168_178.out _; (with_reducible repeat (first | refine blk_drewN ?_ _ | refine blk_drew ?_ | refine blk_alloc ?_ _)); refine blk_far ?_ NB168_178.out _; (with_reducible repeat (first | refine blk_drewN ?_ _ | refine blk_drew ?_ | refine blk_alloc ?_ _)); refine blk_far ?_ NB168_178.out _; (with_reducible repeat (first | refine blk_drewN ?_ _ | refine blk_drew ?_ | refine blk_alloc ?_ _)); refine blk_far ?_ NB168_178.out _; (with_reducible repeat (first | refine blk_drewN ?_ _ | refine blk_drew ?_ | refine blk_alloc ?_ _)); exact BK168.out⟩, ⟨by (with_reducible repeat (first | refine blk_drewN ?_ _ | refine blk_drew ?_ | refine blk_alloc ?_ _)); refine blk_put (cs := #[.bool t169, .bool t170, .bool t171, .bool t172, .bool t173, .bool t174, .int .i64 t175, .int .i64 t176, .int .i64 0]) ?_ 8 _ rfl; (with_reducible repeat (first | refine blk_drewN ?_ _ | refine blk_drew ?_ | refine blk_alloc ?_ _)); refine blk_put (cs := #[.bool t169, .bool t170, .bool t171, .bool t172, .bool t173, .bool t174, .int .i64 t175, .int .i64 0, .int .i64 0]) ?_ 7 _ rfl; (with_reducible repeat (first | refine blk_drewN ?_ _ | refine blk_drew ?_ | refine blk_alloc ?_ _)); refine blk_put (cs := #[.bool t169, .bool t170, .bool t171, .bool t172, .bool t173, .bool t174, .int .i64 0, .int .i64 0, .int .i64 0]) ?_ 6 _ rfl; (with_reducible repeat (first | refine blk_drewN ?_ _ | refine blk_drew ?_ | refine blk_alloc ?_ _)); refine blk_put (cs := #[.bool t169, .bool t170, .bool t171, .bool t172, .bool t173, .bool false, .int .i64 0, .int .i64 0, .int .i64 0]) ?_ 5 _ rfl; (with_reducible repeat (first | refine blk_drewN ?_ _ | refine blk_drew ?_ | refine blk_alloc ?_ _)); refine blk_put (cs := #[.bool t169, .bool t170, .bool t171, .bool t172, .bool false, .bool false, .int .i64 0, .int .i64 0, .int .i64 0]) ?_ 4 _ rfl; (with_reducible repeat (first | refine blk_drewN ?_ _ | refine blk_drew ?_ | refine blk_alloc ?_ _)); refine blk_put (cs := #[.bool t169, .bool t170, .bool t171, .bool false, .bool false, .bool false, .int .i64 0, .int .i64 0, .int .i64 0]) ?_ 3 _ rfl; (with_reducible repeat (first | refine blk_drewN ?_ _ | refine blk_drew ?_ | refine blk_alloc ?_ _)); refine blk_put (cs := #[.bool t169, .bool t170, .bool false, .bool false, .bool false, .bool false, .int .i64 0, .int .i64 0, .int .i64 0]) ?_ 2 _ rfl; (with_reducible repeat (first | refine blk_drewN ?_ _ | refine blk_drew ?_ | refine blk_alloc ?_ _)); refine blk_put (cs := #[.bool t169, .bool false, .bool false, .bool false, .bool false, .bool false, .int .i64 0, .int .i64 0, .int .i64 0]) ?_ 1 _ rfl; (with_reducible repeat (first | refine blk_drewN ?_ _ | refine blk_drew ?_ | refine blk_alloc ?_ _)); refine blk_put (cs := #[.bool false, .bool false, .bool false, .bool false, .bool false, .bool false, .int .i64 0, .int .i64 0, .int .i64 0]) ?_ 0 _ rfl; (with_reducible repeat (first | refine blk_drewN ?_ _ | refine blk_drew ?_ | refine blk_alloc ?_ _)); exact BK178.out⟩, ⟨by repeat (first | (with_reducible first | exact HB.out | apply below_alloc | apply pw_below_drewN | apply below_drew1 | refine below_set ?_ GE168.out | refine below_set ?_ GE178.out) | exact HB.out)⟩⟩ ?_
 clear BK168 BK178 HB
 rintro wS ⟨BK168, BK178, HB⟩
 go_cut [66] (fun v66 wc => ∃ (kq : Nat) (x66_2 : Bool), v66 = .bool x66_2 ∧ Aside0 (spec_FrameOK.j0 kq x66_2 a0_0 a0_1 a0_2 a0_3 a0_4 l0_5 l0_6 l0_7 t169 t170 t171 t172 t173 t174 t175 t176 t177 = some r) ∧ Aside0 (kq ≤ k) ∧ Aside0 (wc.heap[gb168]? = some (.cells #[.int .i64 a0_0, .int .i64 a0_1, .int .i64 a0_2, .int .i64 a0_3, .bool a0_4, (.slice A0_5 l0_5.length c0_5), (.slice A0_6 l0_6.length c0_6), (.slice A0_7 l0_7.length c0_7)] 55 (0, 0))) ∧ Aside0 (wc.heap[gb178]? = some (.cells #[.bool t169, .bool t170, .bool t171, .bool t172, .bool t173, .bool t174, .int .i64 t175, .int .i64 t176, .int .i64 t177] 81 (0, 0))) ∧ Aside0 (Below w.heap.size w wc))
 case first =>
  have H := HC3.out
  clear HC3
  by_cases c10 : t169 = true
  ·subst c10
   rw [if_pos rfl] at H
   replace H := Option.bind_eq_some_iff.mp H
   obtain ⟨t179, A110, H⟩ := H
   try dsimp only at H
   have A11 := Aside0.mk A110
   clear A110
   by_cases c12 : t179 = true
   ·subst c12
    rw [if_pos rfl] at H
    replace H := Option.bind_eq_some_iff.mp H
    obtain ⟨t180, A130, H⟩ := H
    try dsimp only at H
    have A13 := Aside0.mk A130
    clear A130
    by_cases c14 : t180 = true
    ·subst c14
     rw [if_pos rfl] at H
     replace H := Option.bind_eq_some_iff.mp H
     obtain ⟨t181, A150, H⟩ := H
     try dsimp only at H
     have A15 := Aside0.mk A150
     clear A150
     by_cases c16 : t181 = true
     ·subst c16
      rw [if_pos rfl] at H
      by_cases c17 : t170 = true
      ·subst c17
       rw [if_pos rfl] at H
       by_cases c18 : t171 = true
       ·subst c18
        rw [if_pos rfl] at H
        by_cases c19 : t172 = true
        ·subst c19
         rw [if_pos rfl] at H
         by_cases c20 : t173 = true
         ·subst c20
          rw [if_pos rfl] at H
          have H' := Aside0.mk H
          clear H
          have hnb21 := NB178_168.out
          have hnc21 := NB168_178.out
          obtain ⟨z9_0, z9_1, z9_2, z9_3, z9_4, z9_5, z9_6, z9_7, z9_8, z9_9, z9_10, z9_11, z9_12, z9_13, z9_14, z9_15, z9_16, z9_17⟩ := fc9 BK178.out
          obtain ⟨z8_0, z8_1, z8_2, z8_3, z8_4, z8_5, z8_6, z8_7, z8_8, z8_9, z8_10, z8_11, z8_12, z8_13, z8_14, z8_15⟩ := fc8 BK168.out
          go_wp2_with (first | (go_at_call 74; (with_reducible refine (spec_l05Var.calls a0_1 true _ A11.out).mono ?_); rintro e w' ⟨rfl, ⟨nd, rfl⟩⟩) | (go_at_call 74; (with_reducible refine (spec_l05Var.calls a0_2 true _ A13.out).mono ?_); rintro e w' ⟨rfl, ⟨nd, rfl⟩⟩) | (go_at_call 74; (with_reducible refine (spec_l05Var.calls a0_3 true _ A15.out).mono ?_); rintro e w' ⟨rfl, ⟨nd, rfl⟩⟩))
          go_meet
          case rel => exact ⟨_, (false), (by first | rfl | (simp; done) | (simp [*]; done)), H', ⟨by first | omega | exact Nat.le_refl _⟩, ⟨by (with_reducible repeat (first | refine blk_drewN ?_ _ | refine blk_drew ?_ | refine blk_alloc ?_ _)); exact BK168.out⟩, ⟨by (with_reducible repeat (first | refine blk_drewN ?_ _ | refine blk_drew ?_ | refine blk_alloc ?_ _)); exact BK178.out⟩, ⟨by repeat (first | (with_reducible first | exact HB.out | apply below_alloc | apply pw_below_drewN | apply below_drew1 | refine below_set ?_ GE168.out | refine below_set ?_ GE178.out) | exact HB.out)⟩⟩
         ·replace c20 := Bool.eq_false_iff.mpr c20
          subst c20
          rw [if_neg (show ¬ (false = true) by decide)] at H
          have H' := Aside0.mk H
          clear H
          have hnb24 := NB178_168.out
          have hnc24 := NB168_178.out
          obtain ⟨z9_0, z9_1, z9_2, z9_3, z9_4, z9_5, z9_6, z9_7, z9_8, z9_9, z9_10, z9_11, z9_12, z9_13, z9_14, z9_15, z9_16, z9_17⟩ := fc9 BK178.out
          obtain ⟨z8_0, z8_1, z8_2, z8_3, z8_4, z8_5, z8_6, z8_7, z8_8, z8_9, z8_10, z8_11, z8_12, z8_13, z8_14, z8_15⟩ := fc8 BK168.out
          go_wp2_with (first | (go_at_call 74; (with_reducible refine (spec_l05Var.calls a0_1 true _ A11.out).mono ?_); rintro e w' ⟨rfl, ⟨nd, rfl⟩⟩) | (go_at_call 74; (with_reducible refine (spec_l05Var.calls a0_2 true _ A13.out).mono ?_); rintro e w' ⟨rfl, ⟨nd, rfl⟩⟩) | (go_at_call 74; (with_reducible refine (spec_l05Var.calls a0_3 true _ A15.out).mono ?_); rintro e w' ⟨rfl, ⟨nd, rfl⟩⟩))
          go_meet
          case rel => exact ⟨_, (a0_4), (by first | rfl | (simp; done) | (simp [*]; done)), H', ⟨by first | omega | exact Nat.le_refl _⟩, ⟨by (with_reducible repeat (first | refine blk_drewN ?_ _ | refine blk_drew ?_ | refine blk_alloc ?_ _)); exact BK168.out⟩, ⟨by (with_reducible repeat (first | refine blk_drewN ?_ _ | refine blk_drew ?_ | refine blk_alloc ?_ _)); exact BK178.out⟩, ⟨by repeat (first | (with_reducible first | exact HB.out | apply below_alloc | apply pw_below_drewN | apply below_drew1 | refine below_set ?_ GE168.out | refine below_set ?_ GE178.out) | exact HB.out)⟩⟩
        ·replace c19 := Bool.eq_false_iff.mpr c19
         subst c19
         rw [if_neg (show ¬ (false = true) by decide)] at H
         by_cases c27 : a0_3 = 0
         ·rw [if_pos c27] at H
          have c27b0 : (a0_3 == 0) = true := beq_iff_eq.mpr c27
          have c27b1 : (a0_3 != 0) = false := bne_eq_false_iff_eq.mpr c27
          clear c27
          (first | rw [c27b0] | (simp only [i64_w, i32_w]; rw [c27b0]) | skip)
          by_cases c28 : t173 = true
          ·subst c28
           rw [if_pos rfl] at H
           have H' := Aside0.mk H
           clear H
           have hnb29 := NB178_168.out
           have hnc29 := NB168_178.out
           obtain ⟨z9_0, z9_1, z9_2, z9_3, z9_4, z9_5, z9_6, z9_7, z9_8, z9_9, z9_10, z9_11, z9_12, z9_13, z9_14, z9_15, z9_16, z9_17⟩ := fc9 BK178.out
           obtain ⟨z8_0, z8_1, z8_2, z8_3, z8_4, z8_5, z8_6, z8_7, z8_8, z8_9, z8_10, z8_11, z8_12, z8_13, z8_14, z8_15⟩ := fc8 BK168.out
           go_wp2_with (first | (go_at_call 74; (with_reducible refine (spec_l05Var.calls a0_1 true _ A11.out).mono ?_); rintro e w' ⟨rfl, ⟨nd, rfl⟩⟩) | (go_at_call 74; (with_reducible refine (spec_l05Var.calls a0_2 true _ A13.out).mono ?_); rintro e w' ⟨rfl, ⟨nd, rfl⟩⟩) | (go_at_call 74; (with_reducible refine (spec_l05Var.calls a0_3 true _ A15.out).mono ?_); rintro e w' ⟨rfl, ⟨nd, rfl⟩⟩))
           go_meet
           case rel => exact ⟨_, (false), (by first | rfl | (simp; done) | (simp [*]; done)), H', ⟨by first | omega | exact Nat.le_refl _⟩, ⟨by (with_reducible repeat (first | refine blk_drewN ?_ _ | refine blk_drew ?_ | refine blk_alloc ?_ _)); exact BK168.out⟩, ⟨by (with_reducible repeat (first | refine blk_drewN ?_ _ | refine blk_drew ?_ | refine blk_alloc ?_ _)); exact BK178.out⟩, ⟨by repeat (first | (with_reducible first | exact HB.out | apply below_alloc | apply pw_below_drewN | apply below_drew1 | refine below_set ?_ GE168.out | refine below_set ?_ GE178.out) | exact HB.out)⟩⟩
          ·replace c28 := Bool.eq_false_iff.mpr c28
           subst c28
           rw [if_neg (show ¬ (false = true) by decide)] at H
           have H' := Aside0.mk H
           clear H
           have hnb32 := NB178_168.out
           have hnc32 := NB168_178.out
           obtain ⟨z9_0, z9_1, z9_2, z9_3, z9_4, z9_5, z9_6, z9_7, z9_8, z9_9, z9_10, z9_11, z9_12, z9_13, z9_14, z9_15, z9_16, z9_17⟩ := fc9 BK178.out
           obtain ⟨z8_0, z8_1, z8_2, z8_3, z8_4, z8_5, z8_6, z8_7, z8_8, z8_9, z8_10, z8_11, z8_12, z8_13, z8_14, z8_15⟩ := fc8 BK168.out
           go_wp2_with (first | (go_at_call 74; (with_reducible refine (spec_l05Var.calls a0_1 true _ A11.out).mono ?_); rintro e w' ⟨rfl, ⟨nd, rfl⟩⟩) | (go_at_call 74; (with_reducible refine (spec_l05Var.calls a0_2 true _ A13.out).mono ?_); rintro e w' ⟨rfl, ⟨nd, rfl⟩⟩) | (go_at_call 74; (with_reducible refine (spec_l05Var.calls a0_3 true _ A15.out).mono ?_); rintro e w' ⟨rfl, ⟨nd, rfl⟩⟩))
           go_meet
           case rel => exact ⟨_, (a0_4), (by first | rfl | (simp; done) | (simp [*]; done)), H', ⟨by first | omega | exact Nat.le_refl _⟩, ⟨by (with_reducible repeat (first | refine blk_drewN ?_ _ | refine blk_drew ?_ | refine blk_alloc ?_ _)); exact BK168.out⟩, ⟨by (with_reducible repeat (first | refine blk_drewN ?_ _ | refine blk_drew ?_ | refine blk_alloc ?_ _)); exact BK178.out⟩, ⟨by repeat (first | (with_reducible first | exact HB.out | apply below_alloc | apply pw_below_drewN | apply below_drew1 | refine below_set ?_ GE168.out | refine below_set ?_ GE178.out) | exact HB.out)⟩⟩
         ·rw [if_neg c27] at H
          have c27b0 : (a0_3 == 0) = false := beq_eq_false_iff_ne.mpr c27
          have c27b1 : (a0_3 != 0) = true := bne_iff_ne.mpr c27
          (first | rw [c27b0] | (simp only [i64_w, i32_w]; rw [c27b0]) | skip)
          have H' := Aside0.mk H
          clear H
          have hnb35 := NB178_168.out
          have hnc35 := NB168_178.out
          obtain ⟨z9_0, z9_1, z9_2, z9_3, z9_4, z9_5, z9_6, z9_7, z9_8, z9_9, z9_10, z9_11, z9_12, z9_13, z9_14, z9_15, z9_16, z9_17⟩ := fc9 BK178.out
          obtain ⟨z8_0, z8_1, z8_2, z8_3, z8_4, z8_5, z8_6, z8_7, z8_8, z8_9, z8_10, z8_11, z8_12, z8_13, z8_14, z8_15⟩ := fc8 BK168.out
          go_wp2_with (first | (go_at_call 74; (with_reducible refine (spec_l05Var.calls a0_1 true _ A11.out).mono ?_); rintro e w' ⟨rfl, ⟨nd, rfl⟩⟩) | (go_at_call 74; (with_reducible refine (spec_l05Var.calls a0_2 true _ A13.out).mono ?_); rintro e w' ⟨rfl, ⟨nd, rfl⟩⟩) | (go_at_call 74; (with_reducible refine (spec_l05Var.calls a0_3 true _ A15.out).mono ?_); rintro e w' ⟨rfl, ⟨nd, rfl⟩⟩))
          go_meet
          case rel => exact ⟨_, (true), (by first | rfl | (simp; done) | (simp [*]; done)), H', ⟨by first | omega | exact Nat.le_refl _⟩, ⟨by (with_reducible repeat (first | refine blk_drewN ?_ _ | refine blk_drew ?_ | refine blk_alloc ?_ _)); exact BK168.out⟩, ⟨by (with_reducible repeat (first | refine blk_drewN ?_ _ | refine blk_drew ?_ | refine blk_alloc ?_ _)); exact BK178.out⟩, ⟨by repeat (first | (with_reducible first | exact HB.out | apply below_alloc | apply pw_below_drewN | apply below_drew1 | refine below_set ?_ GE168.out | refine below_set ?_ GE178.out) | exact HB.out)⟩⟩
       ·replace c18 := Bool.eq_false_iff.mpr c18
        subst c18
        rw [if_neg (show ¬ (false = true) by decide)] at H
        by_cases c38 : a0_2 = 0
        ·rw [if_pos c38] at H
         have c38b0 : (a0_2 == 0) = true := beq_iff_eq.mpr c38
         have c38b1 : (a0_2 != 0) = false := bne_eq_false_iff_eq.mpr c38
         clear c38
         by_cases c39 : t172 = true
         ·subst c39
          rw [if_pos rfl] at H
          by_cases c40 : t173 = true
          ·subst c40
           rw [if_pos rfl] at H
           have H' := Aside0.mk H
           clear H
           have hnb41 := NB178_168.out
           have hnc41 := NB168_178.out
           obtain ⟨z9_0, z9_1, z9_2, z9_3, z9_4, z9_5, z9_6, z9_7, z9_8, z9_9, z9_10, z9_11, z9_12, z9_13, z9_14, z9_15, z9_16, z9_17⟩ := fc9 BK178.out
           obtain ⟨z8_0, z8_1, z8_2, z8_3, z8_4, z8_5, z8_6, z8_7, z8_8, z8_9, z8_10, z8_11, z8_12, z8_13, z8_14, z8_15⟩ := fc8 BK168.out
           go_wp2_with (first | (go_at_call 74; (with_reducible refine (spec_l05Var.calls a0_1 true _ A11.out).mono ?_); rintro e w' ⟨rfl, ⟨nd, rfl⟩⟩) | (go_at_call 74; (with_reducible refine (spec_l05Var.calls a0_2 true _ A13.out).mono ?_); rintro e w' ⟨rfl, ⟨nd, rfl⟩⟩) | (go_at_call 74; (with_reducible refine (spec_l05Var.calls a0_3 true _ A15.out).mono ?_); rintro e w' ⟨rfl, ⟨nd, rfl⟩⟩))
           go_meet
           case rel => exact ⟨_, (false), (by first | rfl | (simp; done) | (simp [*]; done)), H', ⟨by first | omega | exact Nat.le_refl _⟩, ⟨by (with_reducible repeat (first | refine blk_drewN ?_ _ | refine blk_drew ?_ | refine blk_alloc ?_ _)); exact BK168.out⟩, ⟨by (with_reducible repeat (first | refine blk_drewN ?_ _ | refine blk_drew ?_ | refine blk_alloc ?_ _)); exact BK178.out⟩, ⟨by repeat (first | (with_reducible first | exact HB.out | apply below_alloc | apply pw_below_drewN | apply below_drew1 | refine below_set ?_ GE168.out | refine below_set ?_ GE178.out) | exact HB.out)⟩⟩
          ·replace c40 := Bool.eq_false_iff.mpr c40
           subst c40
           rw [if_neg (show ¬ (false = true) by decide)] at H
           have H' := Aside0.mk H
           clear H
           have hnb44 := NB178_168.out
           have hnc44 := NB168_178.out
           obtain ⟨z9_0, z9_1, z9_2, z9_3, z9_4, z9_5, z9_6, z9_7, z9_8, z9_9, z9_10, z9_11, z9_12, z9_13, z9_14, z9_15, z9_16, z9_17⟩ := fc9 BK178.out
           obtain ⟨z8_0, z8_1, z8_2, z8_3, z8_4, z8_5, z8_6, z8_7, z8_8, z8_9, z8_10, z8_11, z8_12, z8_13, z8_14, z8_15⟩ := fc8 BK168.out
           go_wp2_with (first | (go_at_call 74; (with_reducible refine (spec_l05Var.calls a0_1 true _ A11.out).mono ?_); rintro e w' ⟨rfl, ⟨nd, rfl⟩⟩) | (go_at_call 74; (with_reducible refine (spec_l05Var.calls a0_2 true _ A13.out).mono ?_); rintro e w' ⟨rfl, ⟨nd, rfl⟩⟩) | (go_at_call 74; (with_reducible refine (spec_l05Var.calls a0_3 true _ A15.out).mono ?_); rintro e w' ⟨rfl, ⟨nd, rfl⟩⟩))
           go_meet
           case rel => exact ⟨_, (a0_4), (by first | rfl | (simp; done) | (simp [*]; done)), H', ⟨by first | omega | exact Nat.le_refl _⟩, ⟨by (with_reducible repeat (first | refine blk_drewN ?_ _ | refine blk_drew ?_ | refine blk_alloc ?_ _)); exact BK168.out⟩, ⟨by (with_reducible repeat (first | refine blk_drewN ?_ _ | refine blk_drew ?_ | refine blk_alloc ?_ _)); exact BK178.out⟩, ⟨by repeat (first | (with_reducible first | exact HB.out | apply below_alloc | apply pw_below_drewN | apply below_drew1 | refine below_set ?_ GE168.out | refine below_set ?_ GE178.out) | exact HB.out)⟩⟩
         ·replace c39 := Bool.eq_false_iff.mpr c39
          subst c39
          rw [if_neg (show ¬ (false = true) by decide)] at H
          by_cases c47 : a0_3 = 0
          ·rw [if_pos c47] at H
           have c47b0 : (a0_3 == 0) = true := beq_iff_eq.mpr c47
           have c47b1 : (a0_3 != 0) = false := bne_eq_false_iff_eq.mpr c47
           clear c47
           by_cases c48 : t173 = true
           ·subst c48
            rw [if_pos rfl] at H
            have H' := Aside0.mk H
            clear H
            have hnb49 := NB178_168.out
            have hnc49 := NB168_178.out
            obtain ⟨z9_0, z9_1, z9_2, z9_3, z9_4, z9_5, z9_6, z9_7, z9_8, z9_9, z9_10, z9_11, z9_12, z9_13, z9_14, z9_15, z9_16, z9_17⟩ := fc9 BK178.out
            obtain ⟨z8_0, z8_1, z8_2, z8_3, z8_4, z8_5, z8_6, z8_7, z8_8, z8_9, z8_10, z8_11, z8_12, z8_13, z8_14, z8_15⟩ := fc8 BK168.out
            go_wp2_with (first | (go_at_call 74; (with_reducible refine (spec_l05Var.calls a0_1 true _ A11.out).mono ?_); rintro e w' ⟨rfl, ⟨nd, rfl⟩⟩) | (go_at_call 74; (with_reducible refine (spec_l05Var.calls a0_2 true _ A13.out).mono ?_); rintro e w' ⟨rfl, ⟨nd, rfl⟩⟩) | (go_at_call 74; (with_reducible refine (spec_l05Var.calls a0_3 true _ A15.out).mono ?_); rintro e w' ⟨rfl, ⟨nd, rfl⟩⟩))
            go_meet
            case rel => exact ⟨_, (false), (by first | rfl | (simp; done) | (simp [*]; done)), H', ⟨by first | omega | exact Nat.le_refl _⟩, ⟨by (with_reducible repeat (first | refine blk_drewN ?_ _ | refine blk_drew ?_ | refine blk_alloc ?_ _)); exact BK168.out⟩, ⟨by (with_reducible repeat (first | refine blk_drewN ?_ _ | refine blk_drew ?_ | refine blk_alloc ?_ _)); exact BK178.out⟩, ⟨by repeat (first | (with_reducible first | exact HB.out | apply below_alloc | apply pw_below_drewN | apply below_drew1 | refine below_set ?_ GE168.out | refine below_set ?_ GE178.out) | exact HB.out)⟩⟩
           ·replace c48 := Bool.eq_false_iff.mpr c48
            subst c48
            rw [if_neg (show ¬ (false = true) by decide)] at H
            have H' := Aside0.mk H
            clear H
            have hnb52 := NB178_168.out
            have hnc52 := NB168_178.out
            obtain ⟨z9_0, z9_1, z9_2, z9_3, z9_4, z9_5, z9_6, z9_7, z9_8, z9_9, z9_10, z9_11, z9_12, z9_13, z9_14, z9_15, z9_16, z9_17⟩ := fc9 BK178.out
            obtain ⟨z8_0, z8_1, z8_2, z8_3, z8_4, z8_5, z8_6, z8_7, z8_8, z8_9, z8_10, z8_11, z8_12, z8_13, z8_14, z8_15⟩ := fc8 BK168.out
            go_wp2_with (first | (go_at_call 74; (with_reducible refine (spec_l05Var.calls a0_1 true _ A11.out).mono ?_); rintro e w' ⟨rfl, ⟨nd, rfl⟩⟩) | (go_at_call 74; (with_reducible refine (spec_l05Var.calls a0_2 true _ A13.out).mono ?_); rintro e w' ⟨rfl, ⟨nd, rfl⟩⟩) | (go_at_call 74; (with_reducible refine (spec_l05Var.calls a0_3 true _ A15.out).mono ?_); rintro e w' ⟨rfl, ⟨nd, rfl⟩⟩))
            go_meet
            case rel => exact ⟨_, (a0_4), (by first | rfl | (simp; done) | (simp [*]; done)), H', ⟨by first | omega | exact Nat.le_refl _⟩, ⟨by (with_reducible repeat (first | refine blk_drewN ?_ _ | refine blk_drew ?_ | refine blk_alloc ?_ _)); exact BK168.out⟩, ⟨by (with_reducible repeat (first | refine blk_drewN ?_ _ | refine blk_drew ?_ | refine blk_alloc ?_ _)); exact BK178.out⟩, ⟨by repeat (first | (with_reducible first | exact HB.out | apply below_alloc | apply pw_below_drewN | apply below_drew1 | refine below_set ?_ GE168.out | refine below_set ?_ GE178.out) | exact HB.out)⟩⟩
          ·rw [if_neg c47] at H
           have c47b0 : (a0_3 == 0) = false := beq_eq_false_iff_ne.mpr c47
           have c47b1 : (a0_3 != 0) = true := bne_iff_ne.mpr c47
           have H' := Aside0.mk H
           clear H
           have hnb55 := NB178_168.out
           have hnc55 := NB168_178.out
           obtain ⟨z9_0, z9_1, z9_2, z9_3, z9_4, z9_5, z9_6, z9_7, z9_8, z9_9, z9_10, z9_11, z9_12, z9_13, z9_14, z9_15, z9_16, z9_17⟩ := fc9 BK178.out
           obtain ⟨z8_0, z8_1, z8_2, z8_3, z8_4, z8_5, z8_6, z8_7, z8_8, z8_9, z8_10, z8_11, z8_12, z8_13, z8_14, z8_15⟩ := fc8 BK168.out
           go_wp2_with (first | (go_at_call 74; (with_reducible refine (spec_l05Var.calls a0_1 true _ A11.out).mono ?_); rintro e w' ⟨rfl, ⟨nd, rfl⟩⟩) | (go_at_call 74; (with_reducible refine (spec_l05Var.calls a0_2 true _ A13.out).mono ?_); rintro e w' ⟨rfl, ⟨nd, rfl⟩⟩) | (go_at_call 74; (with_reducible refine (spec_l05Var.calls a0_3 true _ A15.out).mono ?_); rintro e w' ⟨rfl, ⟨nd, rfl⟩⟩))
           go_meet
           case rel => exact ⟨_, (true), (by first | rfl | (simp; done) | (simp [*]; done)), H', ⟨by first | omega | exact Nat.le_refl _⟩, ⟨by (with_reducible repeat (first | refine blk_drewN ?_ _ | refine blk_drew ?_ | refine blk_alloc ?_ _)); exact BK168.out⟩, ⟨by (with_reducible repeat (first | refine blk_drewN ?_ _ | refine blk_drew ?_ | refine blk_alloc ?_ _)); exact BK178.out⟩, ⟨by repeat (first | (with_reducible first | exact HB.out | apply below_alloc | apply pw_below_drewN | apply below_drew1 | refine below_set ?_ GE168.out | refine below_set ?_ GE178.out) | exact HB.out)⟩⟩
        ·rw [if_neg c38] at H
         have c38b0 : (a0_2 == 0) = false := beq_eq_false_iff_ne.mpr c38
         have c38b1 : (a0_2 != 0) = true := bne_iff_ne.mpr c38
         have H' := Aside0.mk H
         clear H
         have hnb58 := NB178_168.out
         have hnc58 := NB168_178.out
         obtain ⟨z9_0, z9_1, z9_2, z9_3, z9_4, z9_5, z9_6, z9_7, z9_8, z9_9, z9_10, z9_11, z9_12, z9_13, z9_14, z9_15, z9_16, z9_17⟩ := fc9 BK178.out
         obtain ⟨z8_0, z8_1, z8_2, z8_3, z8_4, z8_5, z8_6, z8_7, z8_8, z8_9, z8_10, z8_11, z8_12, z8_13, z8_14, z8_15⟩ := fc8 BK168.out
         go_wp2_with (first | (go_at_call 74; (with_reducible refine (spec_l05Var.calls a0_1 true _ A11.out).mono ?_); rintro e w' ⟨rfl, ⟨nd, rfl⟩⟩) | (go_at_call 74; (with_reducible refine (spec_l05Var.calls a0_2 true _ A13.out).mono ?_); rintro e w' ⟨rfl, ⟨nd, rfl⟩⟩) | (go_at_call 74; (with_reducible refine (spec_l05Var.calls a0_3 true _ A15.out).mono ?_); rintro e w' ⟨rfl, ⟨nd, rfl⟩⟩))
         go_meet
         case rel => exact ⟨_, (true), (by first | rfl | (simp; done) | (simp [*]; done)), H', ⟨by first | omega | exact Nat.le_refl _⟩, ⟨by (with_reducible repeat (first | refine blk_drewN ?_ _ | refine blk_drew ?_ | refine blk_alloc ?_ _)); exact BK168.out⟩, ⟨by (with_reducible repeat (first | refine blk_drewN ?_ _ | refine blk_drew ?_ | refine blk_alloc ?_ _)); exact BK178.out⟩, ⟨by repeat (first | (with_reducible first | exact HB.out | apply below_alloc | apply pw_below_drewN | apply below_drew1 | refine below_set ?_ GE168.out | refine below_set ?_ GE178.out) | exact HB.out)⟩⟩
      ·replace c17 := Bool.eq_false_iff.mpr c17
       subst c17
       rw [if_neg (show ¬ (false = true) by decide)] at H
       by_cases c61 : a0_1 = 0
       ·rw [if_pos c61] at H
        have c61b0 : (a0_1 == 0) = true := beq_iff_eq.mpr c61
        have c61b1 : (a0_1 != 0) = false := bne_eq_false_iff_eq.mpr c61
        clear c61
        by_cases c62 : t171 = true
        ·subst c62
         rw [if_pos rfl] at H
         by_cases c63 : t172 = true
         ·subst c63
          rw [if_pos rfl] at H
          by_cases c64 : t173 = true
          ·subst c64
           rw [if_pos rfl] at H
           have H' := Aside0.mk H
           clear H
           have hnb65 := NB178_168.out
           have hnc65 := NB168_178.out
           obtain ⟨z9_0, z9_1, z9_2, z9_3, z9_4, z9_5, z9_6, z9_7, z9_8, z9_9, z9_10, z9_11, z9_12, z9_13, z9_14, z9_15, z9_16, z9_17⟩ := fc9 BK178.out
           obtain ⟨z8_0, z8_1, z8_2, z8_3, z8_4, z8_5, z8_6, z8_7, z8_8, z8_9, z8_10, z8_11, z8_12, z8_13, z8_14, z8_15⟩ := fc8 BK168.out
           go_wp2_with (first | (go_at_call 74; (with_reducible refine (spec_l05Var.calls a0_1 true _ A11.out).mono ?_); rintro e w' ⟨rfl, ⟨nd, rfl⟩⟩) | (go_at_call 74; (with_reducible refine (spec_l05Var.calls a0_2 true _ A13.out).mono ?_); rintro e w' ⟨rfl, ⟨nd, rfl⟩⟩) | (go_at_call 74; (with_reducible refine (spec_l05Var.calls a0_3 true _ A15.out).mono ?_); rintro e w' ⟨rfl, ⟨nd, rfl⟩⟩))
           go_meet
           case rel => exact ⟨_, (false), (by first | rfl | (simp; done) | (simp [*]; done)), H', ⟨by first | omega | exact Nat.le_refl _⟩, ⟨by (with_reducible repeat (first | refine blk_drewN ?_ _ | refine blk_drew ?_ | refine blk_alloc ?_ _)); exact BK168.out⟩, ⟨by (with_reducible repeat (first | refine blk_drewN ?_ _ | refine blk_drew ?_ | refine blk_alloc ?_ _)); exact BK178.out⟩, ⟨by repeat (first | (with_reducible first | exact HB.out | apply below_alloc | apply pw_below_drewN | apply below_drew1 | refine below_set ?_ GE168.out | refine below_set ?_ GE178.out) | exact HB.out)⟩⟩
          ·replace c64 := Bool.eq_false_iff.mpr c64
           subst c64
           rw [if_neg (show ¬ (false = true) by decide)] at H
           have H' := Aside0.mk H
           clear H
           have hnb68 := NB178_168.out
           have hnc68 := NB168_178.out
           obtain ⟨z9_0, z9_1, z9_2, z9_3, z9_4, z9_5, z9_6, z9_7, z9_8, z9_9, z9_10, z9_11, z9_12, z9_13, z9_14, z9_15, z9_16, z9_17⟩ := fc9 BK178.out
           obtain ⟨z8_0, z8_1, z8_2, z8_3, z8_4, z8_5, z8_6, z8_7, z8_8, z8_9, z8_10, z8_11, z8_12, z8_13, z8_14, z8_15⟩ := fc8 BK168.out
           go_wp2_with (first | (go_at_call 74; (with_reducible refine (spec_l05Var.calls a0_1 true _ A11.out).mono ?_); rintro e w' ⟨rfl, ⟨nd, rfl⟩⟩) | (go_at_call 74; (with_reducible refine (spec_l05Var.calls a0_2 true _ A13.out).mono ?_); rintro e w' ⟨rfl, ⟨nd, rfl⟩⟩) | (go_at_call 74; (with_reducible refine (spec_l05Var.calls a0_3 true _ A15.out).mono ?_); rintro e w' ⟨rfl, ⟨nd, rfl⟩⟩))
           go_meet
           case rel => exact ⟨_, (a0_4), (by first | rfl | (simp; done) | (simp [*]; done)), H', ⟨by first | omega | exact Nat.le_refl _⟩, ⟨by (with_reducible repeat (first | refine blk_drewN ?_ _ | refine blk_drew ?_ | refine blk_alloc ?_ _)); exact BK168.out⟩, ⟨by (with_reducible repeat (first | refine blk_drewN ?_ _ | refine blk_drew ?_ | refine blk_alloc ?_ _)); exact BK178.out⟩, ⟨by repeat (first | (with_reducible first | exact HB.out | apply below_alloc | apply pw_below_drewN | apply below_drew1 | refine below_set ?_ GE168.out | refine below_set ?_ GE178.out) | exact HB.out)⟩⟩
         ·replace c63 := Bool.eq_false_iff.mpr c63
          subst c63
          rw [if_neg (show ¬ (false = true) by decide)] at H
          by_cases c71 : a0_3 = 0
          ·rw [if_pos c71] at H
           have c71b0 : (a0_3 == 0) = true := beq_iff_eq.mpr c71
           have c71b1 : (a0_3 != 0) = false := bne_eq_false_iff_eq.mpr c71
           clear c71
           by_cases c72 : t173 = true
           ·subst c72
            rw [if_pos rfl] at H
            have H' := Aside0.mk H
            clear H
            have hnb73 := NB178_168.out
            have hnc73 := NB168_178.out
            obtain ⟨z9_0, z9_1, z9_2, z9_3, z9_4, z9_5, z9_6, z9_7, z9_8, z9_9, z9_10, z9_11, z9_12, z9_13, z9_14, z9_15, z9_16, z9_17⟩ := fc9 BK178.out
            obtain ⟨z8_0, z8_1, z8_2, z8_3, z8_4, z8_5, z8_6, z8_7, z8_8, z8_9, z8_10, z8_11, z8_12, z8_13, z8_14, z8_15⟩ := fc8 BK168.out
            go_wp2_with (first | (go_at_call 74; (with_reducible refine (spec_l05Var.calls a0_1 true _ A11.out).mono ?_); rintro e w' ⟨rfl, ⟨nd, rfl⟩⟩) | (go_at_call 74; (with_reducible refine (spec_l05Var.calls a0_2 true _ A13.out).mono ?_); rintro e w' ⟨rfl, ⟨nd, rfl⟩⟩) | (go_at_call 74; (with_reducible refine (spec_l05Var.calls a0_3 true _ A15.out).mono ?_); rintro e w' ⟨rfl, ⟨nd, rfl⟩⟩))
            go_meet
            case rel => exact ⟨_, (false), (by first | rfl | (simp; done) | (simp [*]; done)), H', ⟨by first | omega | exact Nat.le_refl _⟩, ⟨by (with_reducible repeat (first | refine blk_drewN ?_ _ | refine blk_drew ?_ | refine blk_alloc ?_ _)); exact BK168.out⟩, ⟨by (with_reducible repeat (first | refine blk_drewN ?_ _ | refine blk_drew ?_ | refine blk_alloc ?_ _)); exact BK178.out⟩, ⟨by repeat (first | (with_reducible first | exact HB.out | apply below_alloc | apply pw_below_drewN | apply below_drew1 | refine below_set ?_ GE168.out | refine below_set ?_ GE178.out) | exact HB.out)⟩⟩
           ·replace c72 := Bool.eq_false_iff.mpr c72
            subst c72
            rw [if_neg (show ¬ (false = true) by decide)] at H
            have H' := Aside0.mk H
            clear H
            have hnb76 := NB178_168.out
            have hnc76 := NB168_178.out
            obtain ⟨z9_0, z9_1, z9_2, z9_3, z9_4, z9_5, z9_6, z9_7, z9_8, z9_9, z9_10, z9_11, z9_12, z9_13, z9_14, z9_15, z9_16, z9_17⟩ := fc9 BK178.out
            obtain ⟨z8_0, z8_1, z8_2, z8_3, z8_4, z8_5, z8_6, z8_7, z8_8, z8_9, z8_10, z8_11, z8_12, z8_13, z8_14, z8_15⟩ := fc8 BK168.out
            go_wp2_with (first | (go_at_call 74; (with_reducible refine (spec_l05Var.calls a0_1 true _ A11.out).mono ?_); rintro e w' ⟨rfl, ⟨nd, rfl⟩⟩) | (go_at_call 74; (with_reducible refine (spec_l05Var.calls a0_2 true _ A13.out).mono ?_); rintro e w' ⟨rfl, ⟨nd, rfl⟩⟩) | (go_at_call 74; (with_reducible refine (spec_l05Var.calls a0_3 true _ A15.out).mono ?_); rintro e w' ⟨rfl, ⟨nd, rfl⟩⟩))
            go_meet
            case rel => exact ⟨_, (a0_4), (by first | rfl | (simp; done) | (simp [*]; done)), H', ⟨by first | omega | exact Nat.le_refl _⟩, ⟨by (with_reducible repeat (first | refine blk_drewN ?_ _ | refine blk_drew ?_ | refine blk_alloc ?_ _)); exact BK168.out⟩, ⟨by (with_reducible repeat (first | refine blk_drewN ?_ _ | refine blk_drew ?_ | refine blk_alloc ?_ _)); exact BK178.out⟩, ⟨by repeat (first | (with_reducible first | exact HB.out | apply below_alloc | apply pw_below_drewN | apply below_drew1 | refine below_set ?_ GE168.out | refine below_set ?_ GE178.out) | exact HB.out)⟩⟩
          ·rw [if_neg c71] at H
           have c71b0 : (a0_3 == 0) = false := beq_eq_false_iff_ne.mpr c71
           have c71b1 : (a0_3 != 0) = true := bne_iff_ne.mpr c71
           have H' := Aside0.mk H
           clear H
           have hnb79 := NB178_168.out
           have hnc79 := NB168_178.out
           obtain ⟨z9_0, z9_1, z9_2, z9_3, z9_4, z9_5, z9_6, z9_7, z9_8, z9_9, z9_10, z9_11, z9_12, z9_13, z9_14, z9_15, z9_16, z9_17⟩ := fc9 BK178.out
           obtain ⟨z8_0, z8_1, z8_2, z8_3, z8_4, z8_5, z8_6, z8_7, z8_8, z8_9, z8_10, z8_11, z8_12, z8_13, z8_14, z8_15⟩ := fc8 BK168.out
           go_wp2_with (first | (go_at_call 74; (with_reducible refine (spec_l05Var.calls a0_1 true _ A11.out).mono ?_); rintro e w' ⟨rfl, ⟨nd, rfl⟩⟩) | (go_at_call 74; (with_reducible refine (spec_l05Var.calls a0_2 true _ A13.out).mono ?_); rintro e w' ⟨rfl, ⟨nd, rfl⟩⟩) | (go_at_call 74; (with_reducible refine (spec_l05Var.calls a0_3 true _ A15.out).mono ?_); rintro e w' ⟨rfl, ⟨nd, rfl⟩⟩))
           go_meet
           case rel => exact ⟨_, (true), (by first | rfl | (simp; done) | (simp [*]; done)), H', ⟨by first | omega | exact Nat.le_refl _⟩, ⟨by (with_reducible repeat (first | refine blk_drewN ?_ _ | refine blk_drew ?_ | refine blk_alloc ?_ _)); exact BK168.out⟩, ⟨by (with_reducible repeat (first | refine blk_drewN ?_ _ | refine blk_drew ?_ | refine blk_alloc ?_ _)); exact BK178.out⟩, ⟨by repeat (first | (with_reducible first | exact HB.out | apply below_alloc | apply pw_below_drewN | apply below_drew1 | refine below_set ?_ GE168.out | refine below_set ?_ GE178.out) | exact HB.out)⟩⟩
        ·replace c62 := Bool.eq_false_iff.mpr c62
         subst c62
         rw [if_neg (show ¬ (false = true) by decide)] at H
         by_cases c82 : a0_2 = 0
         ·rw [if_pos c82] at H
          have c82b0 : (a0_2 == 0) = true := beq_iff_eq.mpr c82
          have c82b1 : (a0_2 != 0) = false := bne_eq_false_iff_eq.mpr c82
          clear c82
          by_cases c83 : t172 = true
          ·subst c83
           rw [if_pos rfl] at H
           by_cases c84 : t173 = true
           ·subst c84
            rw [if_pos rfl] at H
            have H' := Aside0.mk H
            clear H
            have hnb85 := NB178_168.out
            have hnc85 := NB168_178.out
            obtain ⟨z9_0, z9_1, z9_2, z9_3, z9_4, z9_5, z9_6, z9_7, z9_8, z9_9, z9_10, z9_11, z9_12, z9_13, z9_14, z9_15, z9_16, z9_17⟩ := fc9 BK178.out
            obtain ⟨z8_0, z8_1, z8_2, z8_3, z8_4, z8_5, z8_6, z8_7, z8_8, z8_9, z8_10, z8_11, z8_12, z8_13, z8_14, z8_15⟩ := fc8 BK168.out
            go_wp2_with (first | (go_at_call 74; (with_reducible refine (spec_l05Var.calls a0_1 true _ A11.out).mono ?_); rintro e w' ⟨rfl, ⟨nd, rfl⟩⟩) | (go_at_call 74; (with_reducible refine (spec_l05Var.calls a0_2 true _ A13.out).mono ?_); rintro e w' ⟨rfl, ⟨nd, rfl⟩⟩) | (go_at_call 74; (with_reducible refine (spec_l05Var.calls a0_3 true _ A15.out).mono ?_); rintro e w' ⟨rfl, ⟨nd, rfl⟩⟩))
            go_meet
            case rel => exact ⟨_, (false), (by first | rfl | (simp; done) | (simp [*]; done)), H', ⟨by first | omega | exact Nat.le_refl _⟩, ⟨by (with_reducible repeat (first | refine blk_drewN ?_ _ | refine blk_drew ?_ | refine blk_alloc ?_ _)); exact BK168.out⟩, ⟨by (with_reducible repeat (first | refine blk_drewN ?_ _ | refine blk_drew ?_ | refine blk_alloc ?_ _)); exact BK178.out⟩, ⟨by repeat (first | (with_reducible first | exact HB.out | apply below_alloc | apply pw_below_drewN | apply below_drew1 | refine below_set ?_ GE168.out | refine below_set ?_ GE178.out) | exact HB.out)⟩⟩
           ·replace c84 := Bool.eq_false_iff.mpr c84
            subst c84
            rw [if_neg (show ¬ (false = true) by decide)] at H
            have H' := Aside0.mk H
            clear H
            have hnb88 := NB178_168.out
            have hnc88 := NB168_178.out
            obtain ⟨z9_0, z9_1, z9_2, z9_3, z9_4, z9_5, z9_6, z9_7, z9_8, z9_9, z9_10, z9_11, z9_12, z9_13, z9_14, z9_15, z9_16, z9_17⟩ := fc9 BK178.out
            obtain ⟨z8_0, z8_1, z8_2, z8_3, z8_4, z8_5, z8_6, z8_7, z8_8, z8_9, z8_10, z8_11, z8_12, z8_13, z8_14, z8_15⟩ := fc8 BK168.out
            go_wp2_with (first | (go_at_call 74; (with_reducible refine (spec_l05Var.calls a0_1 true _ A11.out).mono ?_); rintro e w' ⟨rfl, ⟨nd, rfl⟩⟩) | (go_at_call 74; (with_reducible refine (spec_l05Var.calls a0_2 true _ A13.out).mono ?_); rintro e w' ⟨rfl, ⟨nd, rfl⟩⟩) | (go_at_call 74; (with_reducible refine (spec_l05Var.calls a0_3 true _ A15.out).mono ?_); rintro e w' ⟨rfl, ⟨nd, rfl⟩⟩))
            go_meet
            case rel => exact ⟨_, (a0_4), (by first | rfl | (simp; done) | (simp [*]; done)), H', ⟨by first | omega | exact Nat.le_refl _⟩, ⟨by (with_reducible repeat (first | refine blk_drewN ?_ _ | refine blk_drew ?_ | refine blk_alloc ?_ _)); exact BK168.out⟩, ⟨by (with_reducible repeat (first | refine blk_drewN ?_ _ | refine blk_drew ?_ | refine blk_alloc ?_ _)); exact BK178.out⟩, ⟨by repeat (first | (with_reducible first | exact HB.out | apply below_alloc | apply pw_below_drewN | apply below_drew1 | refine below_set ?_ GE168.out | refine below_set ?_ GE178.out) | exact HB.out)⟩⟩
          ·replace c83 := Bool.eq_false_iff.mpr c83
           subst c83
           rw [if_neg (show ¬ (false = true) by decide)] at H
           by_cases c91 : a0_3 = 0
           ·rw [if_pos c91] at H
            have c91b0 : (a0_3 == 0) = true := beq_iff_eq.mpr c91
            have c91b1 : (a0_3 != 0) = false := bne_eq_false_iff_eq.mpr c91
            clear c91
            by_cases c92 : t173 = true
            ·subst c92
             rw [if_pos rfl] at H
             have H' := Aside0.mk H
             clear H
             have hnb93 := NB178_168.out
             have hnc93 := NB168_178.out
             obtain ⟨z9_0, z9_1, z9_2, z9_3, z9_4, z9_5, z9_6, z9_7, z9_8, z9_9, z9_10, z9_11, z9_12, z9_13, z9_14, z9_15, z9_16, z9_17⟩ := fc9 BK178.out
             obtain ⟨z8_0, z8_1, z8_2, z8_3, z8_4, z8_5, z8_6, z8_7, z8_8, z8_9, z8_10, z8_11, z8_12, z8_13, z8_14, z8_15⟩ := fc8 BK168.out
             go_wp2_with (first | (go_at_call 74; (with_reducible refine (spec_l05Var.calls a0_1 true _ A11.out).mono ?_); rintro e w' ⟨rfl, ⟨nd, rfl⟩⟩) | (go_at_call 74; (with_reducible refine (spec_l05Var.calls a0_2 true _ A13.out).mono ?_); rintro e w' ⟨rfl, ⟨nd, rfl⟩⟩) | (go_at_call 74; (with_reducible refine (spec_l05Var.calls a0_3 true _ A15.out).mono ?_); rintro e w' ⟨rfl, ⟨nd, rfl⟩⟩))
             go_meet
             case rel => exact ⟨_, (false), (by first | rfl | (simp; done) | (simp [*]; done)), H', ⟨by first | omega | exact Nat.le_refl _⟩, ⟨by (with_reducible repeat (first | refine blk_drewN ?_ _ | refine blk_drew ?_ | refine blk_alloc ?_ _)); exact BK168.out⟩, ⟨by (with_reducible repeat (first | refine blk_drewN ?_ _ | refine blk_drew ?_ | refine blk_alloc ?_ _)); exact BK178.out⟩, ⟨by repeat (first | (with_reducible first | exact HB.out | apply below_alloc | apply pw_below_drewN | apply below_drew1 | refine below_set ?_ GE168.out | refine below_set ?_ GE178.out) | exact HB.out)⟩⟩
            ·replace c92 := Bool.eq_false_iff.mpr c92
             subst c92
             rw [if_neg (show ¬ (false = true) by decide)] at H
             have H' := Aside0.mk H
             clear H
             have hnb96 := NB178_168.out
             have hnc96 := NB168_178.out
             obtain ⟨z9_0, z9_1, z9_2, z9_3, z9_4, z9_5, z9_6, z9_7, z9_8, z9_9, z9_10, z9_11, z9_12, z9_13, z9_14, z9_15, z9_16, z9_17⟩ := fc9 BK178.out
             obtain ⟨z8_0, z8_1, z8_2, z8_3, z8_4, z8_5, z8_6, z8_7, z8_8, z8_9, z8_10, z8_11, z8_12, z8_13, z8_14, z8_15⟩ := fc8 BK168.out
             go_wp2_with (first | (go_at_call 74; (with_reducible refine (spec_l05Var.calls a0_1 true _ A11.out).mono ?_); rintro e w' ⟨rfl, ⟨nd, rfl⟩⟩) | (go_at_call 74; (with_reducible refine (spec_l05Var.calls a0_2 true _ A13.out).mono ?_); rintro e w' ⟨rfl, ⟨nd, rfl⟩⟩) | (go_at_call 74; (with_reducible refine (spec_l05Var.calls a0_3 true _ A15.out).mono ?_); rintro e w' ⟨rfl, ⟨nd, rfl⟩⟩))
             go_meet
             case rel => exact ⟨_, (a0_4), (by first | rfl | (simp; done) | (simp [*]; done)), H', ⟨by first | omega | exact Nat.le_refl _⟩, ⟨by (with_reducible repeat (first | refine blk_drewN ?_ _ | refine blk_drew ?_ | refine blk_alloc ?_ _)); exact BK168.out⟩, ⟨by (with_reducible repeat (first | refine blk_drewN ?_ _ | refine blk_drew ?_ | refine blk_alloc ?_ _)); exact BK178.out⟩, ⟨by repeat (first | (with_reducible first | exact HB.out | apply below_alloc | apply pw_below_drewN | apply below_drew1 | refine below_set ?_ GE168.out | refine below_set ?_ GE178.out) | exact HB.out)⟩⟩
           ·rw [if_neg c91] at H
            have c91b0 : (a0_3 == 0) = false := beq_eq_false_iff_ne.mpr c91
            have c91b1 : (a0_3 != 0) = true := bne_iff_ne.mpr c91
            have H' := Aside0.mk H
            clear H
            have hnb99 := NB178_168.out
            have hnc99 := NB168_178.out
            obtain ⟨z9_0, z9_1, z9_2, z9_3, z9_4, z9_5, z9_6, z9_7, z9_8, z9_9, z9_10, z9_11, z9_12, z9_13, z9_14, z9_15, z9_16, z9_17⟩ := fc9 BK178.out
            obtain ⟨z8_0, z8_1, z8_2, z8_3, z8_4, z8_5, z8_6, z8_7, z8_8, z8_9, z8_10, z8_11, z8_12, z8_13, z8_14, z8_15⟩ := fc8 BK168.out
            go_wp2_with (first | (go_at_call 74; (with_reducible refine (spec_l05Var.calls a0_1 true _ A11.out).mono ?_); rintro e w' ⟨rfl, ⟨nd, rfl⟩⟩) | (go_at_call 74; (with_reducible refine (spec_l05Var.calls a0_2 true _ A13.out).mono ?_); rintro e w' ⟨rfl, ⟨nd, rfl⟩⟩) | (go_at_call 74; (with_reducible refine (spec_l05Var.calls a0_3 true _ A15.out).mono ?_); rintro e w' ⟨rfl, ⟨nd, rfl⟩⟩))
            go_meet
            case rel => exact ⟨_, (true), (by first | rfl | (simp; done) | (simp [*]; done)), H', ⟨by first | omega | exact Nat.le_refl _⟩, ⟨by (with_reducible repeat (first | refine blk_drewN ?_ _ | refine blk_drew ?_ | refine blk_alloc ?_ _)); exact BK168.out⟩, ⟨by (with_reducible repeat (first | refine blk_drewN ?_ _ | refine blk_drew ?_ | refine blk_alloc ?_ _)); exact BK178.out⟩, ⟨by repeat (first | (with_reducible first | exact HB.out | apply below_alloc | apply pw_below_drewN | apply below_drew1 | refine below_set ?_ GE168.out | refine below_set ?_ GE178.out) | exact HB.out)⟩⟩
         ·rw [if_neg c82] at H
          have c82b0 : (a0_2 == 0) = false := beq_eq_false_iff_ne.mpr c82
          have c82b1 : (a0_2 != 0) = true := bne_iff_ne.mpr c82
          have H' := Aside0.mk H
          clear H
          have hnb102 := NB178_168.out
          have hnc102 := NB168_178.out
          obtain ⟨z9_0, z9_1, z9_2, z9_3, z9_4, z9_5, z9_6, z9_7, z9_8, z9_9, z9_10, z9_11, z9_12, z9_13, z9_14, z9_15, z9_16, z9_17⟩ := fc9 BK178.out
          obtain ⟨z8_0, z8_1, z8_2, z8_3, z8_4, z8_5, z8_6, z8_7, z8_8, z8_9, z8_10, z8_11, z8_12, z8_13, z8_14, z8_15⟩ := fc8 BK168.out
          go_wp2_with (first | (go_at_call 74; (with_reducible refine (spec_l05Var.calls a0_1 true _ A11.out).mono ?_); rintro e w' ⟨rfl, ⟨nd, rfl⟩⟩) | (go_at_call 74; (with_reducible refine (spec_l05Var.calls a0_2 true _ A13.out).mono ?_); rintro e w' ⟨rfl, ⟨nd, rfl⟩⟩) | (go_at_call 74; (with_reducible refine (spec_l05Var.calls a0_3 true _ A15.out).mono ?_); rintro e w' ⟨rfl, ⟨nd, rfl⟩⟩))
          go_meet
          case rel => exact ⟨_, (true), (by first | rfl | (simp; done) | (simp [*]; done)), H', ⟨by first | omega | exact Nat.le_refl _⟩, ⟨by (with_reducible repeat (first | refine blk_drewN ?_ _ | refine blk_drew ?_ | refine blk_alloc ?_ _)); exact BK168.out⟩, ⟨by (with_reducible repeat (first | refine blk_drewN ?_ _ | refine blk_drew ?_ | refine blk_alloc ?_ _)); exact BK178.out⟩, ⟨by repeat (first | (with_reducible first | exact HB.out | apply below_alloc | apply pw_below_drewN | apply below_drew1 | refine below_set ?_ GE168.out | refine below_set ?_ GE178.out) | exact HB.out)⟩⟩
       ·rw [if_neg c61] at H
        have c61b0 : (a0_1 == 0) = false := beq_eq_false_iff_ne.mpr c61
        have c61b1 : (a0_1 != 0) = true := bne_iff_ne.mpr c61
        have H' := Aside0.mk H
        clear H
        have hnb105 := NB178_168.out
        have hnc105 := NB168_178.out
        obtain ⟨z9_0, z9_1, z9_2, z9_3, z9_4, z9_5, z9_6, z9_7, z9_8, z9_9, z9_10, z9_11, z9_12, z9_13, z9_14, z9_15, z9_16, z9_17⟩ := fc9 BK178.out
        obtain ⟨z8_0, z8_1, z8_2, z8_3, z8_4, z8_5, z8_6, z8_7, z8_8, z8_9, z8_10, z8_11, z8_12, z8_13, z8_14, z8_15⟩ := fc8 BK168.out
        go_wp2_with (first | (go_at_call 74; (with_reducible refine (spec_l05Var.calls a0_1 true _ A11.out).mono ?_); rintro e w' ⟨rfl, ⟨nd, rfl⟩⟩) | (go_at_call 74; (with_reducible refine (spec_l05Var.calls a0_2 true _ A13.out).mono ?_); rintro e w' ⟨rfl, ⟨nd, rfl⟩⟩) | (go_at_call 74; (with_reducible refine (spec_l05Var.calls a0_3 true _ A15.out).mono ?_); rintro e w' ⟨rfl, ⟨nd, rfl⟩⟩))
        go_meet
        case rel => exact ⟨_, (true), (by first | rfl | (simp; done) | (simp [*]; done)), H', ⟨by first | omega | exact Nat.le_refl _⟩, ⟨by (with_reducible repeat (first | refine blk_drewN ?_ _ | refine blk_drew ?_ | refine blk_alloc ?_ _)); exact BK168.out⟩, ⟨by (with_reducible repeat (first | refine blk_drewN ?_ _ | refine blk_drew ?_ | refine blk_alloc ?_ _)); exact BK178.out⟩, ⟨by repeat (first | (with_reducible first | exact HB.out | apply below_alloc | apply pw_below_drewN | apply below_drew1 | refine below_set ?_ GE168.out | refine below_set ?_ GE178.out) | exact HB.out)⟩⟩
     ·replace c16 := Bool.eq_false_iff.mpr c16
      subst c16
      rw [if_neg (show ¬ (false = true) by decide)] at H
      have H' := Aside0.mk H
      clear H
      have hnb108 := NB178_168.out
      have hnc108 := NB168_178.out
      obtain ⟨z9_0, z9_1, z9_2, z9_3, z9_4, z9_5, z9_6, z9_7, z9_8, z9_9, z9_10, z9_11, z9_12, z9_13, z9_14, z9_15, z9_16, z9_17⟩ := fc9 BK178.out
      obtain ⟨z8_0, z8_1, z8_2, z8_3, z8_4, z8_5, z8_6, z8_7, z8_8, z8_9, z8_10, z8_11, z8_12, z8_13, z8_14, z8_15⟩ := fc8 BK168.out
      go_wp2_with (first | (go_at_call 74; (with_reducible refine (spec_l05Var.calls a0_1 true _ A11.out).mono ?_); rintro e w' ⟨rfl, ⟨nd, rfl⟩⟩) | (go_at_call 74; (with_reducible refine (spec_l05Var.calls a0_2 true _ A13.out).mono ?_); rintro e w' ⟨rfl, ⟨nd, rfl⟩⟩) | (go_at_call 74; (with_reducible refine (spec_l05Var.calls a0_3 false _ A15.out).mono ?_); rintro e w' ⟨rfl, ⟨nd, rfl⟩⟩))
      go_meet
      case rel => exact ⟨_, (true), (by first | rfl | (simp; done) | (simp [*]; done)), H', ⟨by first | omega | exact Nat.le_refl _⟩, ⟨by (with_reducible repeat (first | refine blk_drewN ?_ _ | refine blk_drew ?_ | refine blk_alloc ?_ _)); exact BK168.out⟩, ⟨by (with_reducible repeat (first | refine blk_drewN ?_ _ | refine blk_drew ?_ | refine blk_alloc ?_ _)); exact BK178.out⟩, ⟨by repeat (first | (with_reducible first | exact HB.out | apply below_alloc | apply pw_below_drewN | apply below_drew1 | refine below_set ?_ GE168.out | refine below_set ?_ GE178.out) | exact HB.out)⟩⟩
    ·replace c14 := Bool.eq_false_iff.mpr c14
     subst c14
     rw [if_neg (show ¬ (false = true) by decide)] at H
     have H' := Aside0.mk H
     clear H
     have hnb111 := NB178_168.out
     have hnc111 := NB168_178.out
     obtain ⟨z9_0, z9_1, z9_2, z9_3, z9_4, z9_5, z9_6, z9_7, z9_8, z9_9, z9_10, z9_11, z9_12, z9_13, z9_14, z9_15, z9_16, z9_17⟩ := fc9 BK178.out
     obtain ⟨z8_0, z8_1, z8_2, z8_3, z8_4, z8_5, z8_6, z8_7, z8_8, z8_9, z8_10, z8_11, z8_12, z8_13, z8_14, z8_15⟩ := fc8 BK168.out
     go_wp2_with (first | (go_at_call 74; (with_reducible refine (spec_l05Var.calls a0_1 true _ A11.out).mono ?_); rintro e w' ⟨rfl, ⟨nd, rfl⟩⟩) | (go_at_call 74; (with_reducible refine (spec_l05Var.calls a0_2 false _ A13.out).mono ?_); rintro e w' ⟨rfl, ⟨nd, rfl⟩⟩))
     go_meet
     case rel => exact ⟨_, (true), (by first | rfl | (simp; done) | (simp [*]; done)), H', ⟨by first | omega | exact Nat.le_refl _⟩, ⟨by (with_reducible repeat (first | refine blk_drewN ?_ _ | refine blk_drew ?_ | refine blk_alloc ?_ _)); exact BK168.out⟩, ⟨by (with_reducible repeat (first | refine blk_drewN ?_ _ | refine blk_drew ?_ | refine blk_alloc ?_ _)); exact BK178.out⟩, ⟨by repeat (first | (with_reducible first | exact HB.out | apply below_alloc | apply pw_below_drewN | apply below_drew1 | refine below_set ?_ GE168.out | refine below_set ?_ GE178.out) | exact HB.out)⟩⟩
   ·replace c12 := Bool.eq_false_iff.mpr c12
    subst c12
    rw [if_neg (show ¬ (false = true) by decide)] at H
    have H' := Aside0.mk H
    clear H
    have hnb114 := NB178_168.out
    have hnc114 := NB168_178.out
    obtain ⟨z9_0, z9_1, z9_2, z9_3, z9_4, z9_5, z9_6, z9_7, z9_8, z9_9, z9_10, z9_11, z9_12, z9_13, z9_14, z9_15, z9_16, z9_17⟩ := fc9 BK178.out
    obtain ⟨z8_0, z8_1, z8_2, z8_3, z8_4, z8_5, z8_6, z8_7, z8_8, z8_9, z8_10, z8_11, z8_12, z8_13, z8_14, z8_15⟩ := fc8 BK168.out
    go_wp2_with (first | (go_at_call 74; (with_reducible refine (spec_l05Var.calls a0_1 false _ A11.out).mono ?_); rintro e w' ⟨rfl, ⟨nd, rfl⟩⟩))
    go_meet
    case rel => exact ⟨_, (true), (by first | rfl | (simp; done) | (simp [*]; done)), H', ⟨by first | omega | exact Nat.le_refl _⟩, ⟨by (with_reducible repeat (first | refine blk_drewN ?_ _ | refine blk_drew ?_ | refine blk_alloc ?_ _)); exact BK168.out⟩, ⟨by (with_reducible repeat (first | refine blk_drewN ?_ _ | refine blk_drew ?_ | refine blk_alloc ?_ _)); exact BK178.out⟩, ⟨by repeat (first | (with_reducible first | exact HB.out | apply below_alloc | apply pw_below_drewN | apply below_drew1 | refine below_set ?_ GE168.out | refine below_set ?_ GE178.out) | exact HB.out)⟩⟩
  ·replace c10 := Bool.eq_false_iff.mpr c10
   subst c10
   rw [if_neg (show ¬ (false = true) by decide)] at H
   have H' := Aside0.mk H
   clear H
   have hnb117 := NB178_168.out
   have hnc117 := NB168_178.out
   obtain ⟨z9_0, z9_1, z9_2, z9_3, z9_4, z9_5, z9_6, z9_7, z9_8, z9_9, z9_10, z9_11, z9_12, z9_13, z9_14, z9_15, z9_16, z9_17⟩ := fc9 BK178.out
   go_wp2
   go_meet
   case rel => exact ⟨_, (true), (by first | rfl | (simp; done) | (simp [*]; done)), H', ⟨by first | omega | exact Nat.le_refl _⟩, ⟨by (with_reducible repeat (first | refine blk_drewN ?_ _ | refine blk_drew ?_ | refine blk_alloc ?_ _)); exact BK168.out⟩, ⟨by (with_reducible repeat (first | refine blk_drewN ?_ _ | refine blk_drew ?_ | refine blk_alloc ?_ _)); exact BK178.out⟩, ⟨by repeat (first | (with_reducible first | exact HB.out | apply below_alloc | apply pw_below_drewN | apply below_drew1 | refine below_set ?_ GE168.out | refine below_set ?_ GE178.out) | exact HB.out)⟩⟩
 case rest =>
  clear HC3
  try clear c1
  try clear p2
  try clear c6
  try clear c7
  try clear c8
  try clear c9
  try clear c10
  try clear c11
  try clear c12
  try clear c14
  try clear c16
  try clear c61
  try clear c61b0
  try clear c61b1
  try clear c62
  try clear c71
  try clear c71b0
  try clear c71b1
  try clear c79
  try clear c82
  try clear c82b0
  try clear c82b1
  try clear c83
  try clear c84
  try clear c85
  try clear c88
  try clear c91
  try clear c91b0
  try clear c91b1
  try clear c92
  try clear c93
  try clear c96
  try clear c99
  try clear c102
  try clear c105
  try clear c108
  try clear c111
  try clear c114
  try clear c117
  try clear z8_0 z8_1 z8_2 z8_3 z8_4 z8_5 z8_6 z8_7 z8_8 z8_9 z8_10 z8_11 z8_12 z8_13 z8_14 z8_15
  try clear z9_0 z9_1 z9_2 z9_3 z9_4 z9_5 z9_6 z9_7 z9_8 z9_9 z9_10 z9_11 z9_12 z9_13 z9_14 z9_15 z9_16 z9_17
  obtain ⟨kq, x66_2, rfl, HA, HJ2, BK168, BK178, HB⟩ := hcut
  cases kq with
  | zero => exact absurd HA.out (by simp [spec_FrameOK.j0])
  | succ kj2 =>
   have H := HA.out
   clear HA
   simp only [spec_FrameOK.j0] at H
   by_cases c119 : x66_2 = true
   ·subst c119
    rw [if_pos rfl] at H
    obtain rfl := Option.some.inj H
    go_wp2
    go_ret
    exact ⟨by first | rfl | (simp [errW_none, errW_some] <;> rfl) | (simp [*, errW_none, errW_some] <;> rfl), by repeat (first | (with_reducible first | exact HB.out | apply below_alloc | apply pw_below_drewN | apply below_drew1 | refine below_set ?_ GE168.out | refine below_set ?_ GE178.out) | exact HB.out)⟩
   ·replace c119 := Bool.eq_false_iff.mpr c119
    subst c119
    rw [if_neg (show ¬ (false = true) by decide)] at H
    have HC120 := Aside0.mk H
    clear H
    go_upto_region 4 with (fail)
    go_cut [103] (fun v103 wc => ∃ (kq : Nat) (x103_119 : Bool), v103 = .bool x103_119 ∧ Aside0 (spec_FrameOK.j1 kq x103_119 a0_0 a0_1 a0_2 a0_3 a0_4 l0_5 l0_6 l0_7 = some r) ∧ Aside0 (kq ≤ kj2) ∧ Aside0 (wc.heap[gb168]? = some (.cells #[.int .i64 a0_0, .int .i64 a0_1, .int .i64 a0_2, .int .i64 a0_3, .bool a0_4, (.slice A0_5 l0_5.length c0_5), (.slice A0_6 l0_6.length c0_6), (.slice A0_7 l0_7.length c0_7)] 55 (0, 0))) ∧ Aside0 (wc.heap[gb178]? = some (.cells #[.bool t169, .bool t170, .bool t171, .bool t172, .bool t173, .bool t174, .int .i64 t175, .int .i64 t176, .int .i64 t177] 81 (0, 0))) ∧ Aside0 (Below w.heap.size w wc))
    case first =>
     have H := HC120.out
     clear HC120
     by_cases c121 : (l0_5.length : Int) < t175
     ·rw [if_pos c121] at H
      have c121b0 : decide ((l0_5.length : Int) < t175) = true := decide_eq_true c121
      clear c121
      (first | rw [c121b0] | (simp only [i64_w, i32_w]; rw [c121b0]) | skip)
      have H' := Aside0.mk H
      clear H
      have hnb122 := NB168_178.out
      have hnc122 := NB178_168.out
      obtain ⟨z8_0, z8_1, z8_2, z8_3, z8_4, z8_5, z8_6, z8_7, z8_8, z8_9, z8_10, z8_11, z8_12, z8_13, z8_14, z8_15⟩ := fc8 BK168.out
      obtain ⟨z9_0, z9_1, z9_2, z9_3, z9_4, z9_5, z9_6, z9_7, z9_8, z9_9, z9_10, z9_11, z9_12, z9_13, z9_14, z9_15, z9_16, z9_17⟩ := fc9 BK178.out
      go_wp2
      go_meet
      case rel => exact ⟨_, (true), (by first | rfl | (simp; done) | (simp [*]; done)), H', ⟨by have := HJ2.out; first | omega | exact Nat.le_refl _⟩, ⟨BK168.out⟩, ⟨BK178.out⟩, ⟨by repeat (first | (with_reducible first | exact HB.out | apply below_alloc | apply pw_below_drewN | apply below_drew1 | refine below_set ?_ GE168.out | refine below_set ?_ GE178.out) | exact HB.out)⟩⟩
     ·rw [if_neg c121] at H
      have c121b0 : decide ((l0_5.length : Int) < t175) = false := decide_eq_false c121
      clear c121
      (first | rw [c121b0] | (simp only [i64_w, i32_w]; rw [c121b0]) | skip)
      by_cases c125 : (l0_5.length : Int) > t176
      ·rw [if_pos c125] at H
       have c125b0 : decide (t176 < (l0_5.length : Int)) = true := decide_eq_true c125
       clear c125
       have H' := Aside0.mk H
       clear H
       have hnb126 := NB168_178.out
       have hnc126 := NB178_168.out
       obtain ⟨z8_0, z8_1, z8_2, z8_3, z8_4, z8_5, z8_6, z8_7, z8_8, z8_9, z8_10, z8_11, z8_12, z8_13, z8_14, z8_15⟩ := fc8 BK168.out
       obtain ⟨z9_0, z9_1, z9_2, z9_3, z9_4, z9_5, z9_6, z9_7, z9_8, z9_9, z9_10, z9_11, z9_12, z9_13, z9_14, z9_15, z9_16, z9_17⟩ := fc9 BK178.out
       go_wp2
       go_meet
       case rel => exact ⟨_, (true), (by first | rfl | (simp; done) | (simp [*]; done)), H', ⟨by have := HJ2.out; first | omega | exact Nat.le_refl _⟩, ⟨BK168.out⟩, ⟨BK178.out⟩, ⟨by repeat (first | (with_reducible first | exact HB.out | apply below_alloc | apply pw_below_drewN | apply below_drew1 | refine below_set ?_ GE168.out | refine below_set ?_ GE178.out) | exact HB.out)⟩⟩
      ·rw [if_neg c125] at H
       have c125b0 : decide (t176 < (l0_5.length : Int)) = false := decide_eq_false c125
       clear c125
       by_cases c129 : (l0_6.length : Int) = t177
       ·rw [if_pos c129] at H
        have c129b0 : ((l0_6.length : Int) == t177) = true := beq_iff_eq.mpr c129
        have c129b1 : ((l0_6.length : Int) != t177) = false := bne_eq_false_iff_eq.mpr c129
        clear c129
        by_cases c130 : (t174 != (decide ((l0_7.length : Int) > 0))) = true
        ·rw [if_pos c130] at H
         (try (have c130b00 : (t174 != (decide (0 < (l0_7.length : Int)))) = true := by simpa using c130))
         (try (have c130b01 : (t174 != (decide (0 < l0_7.length))) = true := by simpa using c130))
         (try (have c130b10 : decide (t174 = (decide (0 < (l0_7.length : Int)))) = false := by simpa using c130))
         (try (have c130b11 : decide (t174 = (decide (0 < l0_7.length))) = false := by simpa using c130))
         (try (have c130b20 : (t174 == (decide (0 < (l0_7.length : Int)))) = false := by simpa using c130))
         (try (have c130b21 : (t174 == (decide (0 < l0_7.length))) = false := by simpa using c130))
         (try (have c130b30 : ¬ (t174 = (decide (0 < (l0_7.length : Int)))) := by simpa using c130))
         (try (have c130b31 : ¬ (t174 = (decide (0 < l0_7.length))) := by simpa using c130))
         clear c130
         have H' := Aside0.mk H
         clear H
         have hnb131 := NB168_178.out
         have hnc131 := NB178_168.out
         obtain ⟨z8_0, z8_1, z8_2, z8_3, z8_4, z8_5, z8_6, z8_7, z8_8, z8_9, z8_10, z8_11, z8_12, z8_13, z8_14, z8_15⟩ := fc8 BK168.out
         obtain ⟨z9_0, z9_1, z9_2, z9_3, z9_4, z9_5, z9_6, z9_7, z9_8, z9_9, z9_10, z9_11, z9_12, z9_13, z9_14, z9_15, z9_16, z9_17⟩ := fc9 BK178.out
         go_wp2
         go_meet
         case rel => exact ⟨_, (true), (by first | rfl | (simp; done) | (simp [*]; done)), H', ⟨by have := HJ2.out; first | omega | exact Nat.le_refl _⟩, ⟨BK168.out⟩, ⟨BK178.out⟩, ⟨by repeat (first | (with_reducible first | exact HB.out | apply below_alloc | apply pw_below_drewN | apply below_drew1 | refine below_set ?_ GE168.out | refine below_set ?_ GE178.out) | exact HB.out)⟩⟩
        ·rw [if_neg c130] at H
         (try (have c130b00 : (t174 != (decide (0 < (l0_7.length : Int)))) = false := by simpa using c130))
         (try (have c130b01 : (t174 != (decide (0 < l0_7.length))) = false := by simpa using c130))
         (try (have c130b10 : decide (t174 = (decide (0 < (l0_7.length : Int)))) = true := by simpa using c130))
         (try (have c130b11 : decide (t174 = (decide (0 < l0_7.length))) = true := by simpa using c130))
         (try (have c130b20 : (t174 == (decide (0 < (l0_7.length : Int)))) = true := by simpa using c130))
         (try (have c130b21 : (t174 == (decide (0 < l0_7.length))) = true := by simpa using c130))
         clear c130
         replace H := Option.bind_eq_some_iff.mp H
         obtain ⟨t182, A1340, H⟩ := H
         try dsimp only at H
         have A134 := Aside0.mk A1340
         clear A1340
         have H' := Aside0.mk H
         clear H
         have hnb135 := NB168_178.out
         have hnc135 := NB178_168.out
         obtain ⟨z8_0, z8_1, z8_2, z8_3, z8_4, z8_5, z8_6, z8_7, z8_8, z8_9, z8_10, z8_11, z8_12, z8_13, z8_14, z8_15⟩ := fc8 BK168.out
         obtain ⟨z9_0, z9_1, z9_2, z9_3, z9_4, z9_5, z9_6, z9_7, z9_8, z9_9, z9_10, z9_11, z9_12, z9_13, z9_14, z9_15, z9_16, z9_17⟩ := fc9 BK178.out
         go_wp2_with (first | (go_at_call 75; (with_reducible refine (spec_l05RangesOK.calls kj2 _ _ l0_7 t182 _ ?side1 ?side2 A134.out).mono ?_); (case side1 => repeat (first | exact (Kd.C_below HR0_7.out HB.out) | (with_reducible refine Kd.C_alloc ?_ _) | (with_reducible refine Kd.C_drewN ?_ _) | (with_reducible refine Kd.C_drew ?_))); (case side2 => exact HC0_7.out); rintro e w138 ⟨rfl, hb⟩; have n0_ := Aside0.mk (blk_below (g := gb168) (o := .cells #[.int .i64 a0_0, .int .i64 a0_1, .int .i64 a0_2, .int .i64 a0_3, .bool a0_4, .slice A0_5 l0_5.length c0_5, .slice A0_6 l0_6.length c0_6, .slice A0_7 l0_7.length c0_7] 55 (0, 0)) (by (with_reducible repeat (first | refine blk_drewN ?_ _ | refine blk_drew ?_ | refine blk_alloc ?_ _)); exact BK168.out) hb); have n1_ := Aside0.mk (blk_below (g := gb178) (o := .cells #[.bool t169, .bool t170, .bool t171, .bool t172, .bool t173, .bool t174, .int .i64 t175, .int .i64 t176, .int .i64 t177] 81 (0, 0)) (by (with_reducible repeat (first | refine blk_drewN ?_ _ | refine blk_drew ?_ | refine blk_alloc ?_ _)); exact BK178.out) hb); have n2_ := Aside0.mk (below_step (by repeat (first | (with_reducible first | exact HB.out | apply below_alloc | apply pw_below_drewN | apply below_drew1 | refine below_set ?_ GE168.out | refine below_set ?_ GE178.out) | exact HB.out)) hb); clear BK168; clear BK178; clear HB; have BK168 := n0_; have BK178 := n1_; have HB := n2_; clear n0_ n1_ n2_; (try clear hb); (try clear hb2); (try clear hk); (try clear hi)))
         go_meet
         case rel => exact ⟨_, (!t182), (by first | rfl | (simp; done) | (simp [*]; done)), H', ⟨by have := HJ2.out; first | omega | exact Nat.le_refl _⟩, ⟨BK168.out⟩, ⟨BK178.out⟩, ⟨by repeat (first | (with_reducible first | exact HB.out | apply below_alloc | apply pw_below_drewN | apply below_drew1 | refine below_set ?_ GE168.out | refine below_set ?_ GE178.out) | exact HB.out)⟩⟩
       ·rw [if_neg c129] at H
        have c129b0 : ((l0_6.length : Int) == t177) = false := beq_eq_false_iff_ne.mpr c129
        have c129b1 : ((l0_6.length : Int) != t177) = true := bne_iff_ne.mpr c129
        have H' := Aside0.mk H
        clear H
        have hnb139 := NB168_178.out
        have hnc139 := NB178_168.out
        obtain ⟨z8_0, z8_1, z8_2, z8_3, z8_4, z8_5, z8_6, z8_7, z8_8, z8_9, z8_10, z8_11, z8_12, z8_13, z8_14, z8_15⟩ := fc8 BK168.out
        obtain ⟨z9_0, z9_1, z9_2, z9_3, z9_4, z9_5, z9_6, z9_7, z9_8, z9_9, z9_10, z9_11, z9_12, z9_13, z9_14, z9_15, z9_16, z9_17⟩ := fc9 BK178.out
        go_wp2
        go_meet
        case rel => exact ⟨_, (true), (by first | rfl | (simp; done) | (simp [*]; done)), H', ⟨by have := HJ2.out; first | omega | exact Nat.le_refl _⟩, ⟨BK168.out⟩, ⟨BK178.out⟩, ⟨by repeat (first | (with_reducible first | exact HB.out | apply below_alloc | apply pw_below_drewN | apply below_drew1 | refine below_set ?_ GE168.out | refine below_set ?_ GE178.out) | exact HB.out)⟩⟩
    case rest =>
     clear HC120
     try clear c1
     try clear p2
     try clear c11
     try clear c12
     try clear c13
     try clear c119
     try clear c121
     try clear c121b0
     try clear c122
     try clear c125
     try clear c125b0
     try clear c126
     try clear c129
     try clear c129b0
     try clear c129b1
     try clear c130
     try clear c130b0
     try clear c130b00
     try clear c130b01
     try clear c130b1
     try clear c130b10
     try clear c130b11
     try clear c130b2
     try clear c130b20
     try clear c130b21
     try clear c131
     try clear c135
     try clear c139
     try clear z8_0 z8_1 z8_2 z8_3 z8_4 z8_5 z8_6 z8_7 z8_8 z8_9 z8_10 z8_11 z8_12 z8_13 z8_14 z8_15
     try clear z9_0 z9_1 z9_2 z9_3 z9_4 z9_5 z9_6 z9_7 z9_8 z9_9 z9_10 z9_11 z9_12 z9_13 z9_14 z9_15 z9_16 z9_17
     obtain ⟨kq, x103_119, rfl, HA, HJ119, BK168, BK178, HB⟩ := hcut
     cases kq with
     | zero => exact absurd HA.out (by simp [spec_FrameOK.j1])
     | succ kj119 =>
      have H := HA.out
      clear HA
      simp only [spec_FrameOK.j1] at H
      by_cases c142 : x103_119 = true
      ·subst c142
       rw [if_pos rfl] at H
       obtain rfl := Option.some.inj H
       go_wp2
       go_ret
       exact ⟨by first | rfl | (simp [errW_none, errW_some] <;> rfl) | (simp [*, errW_none, errW_some] <;> rfl), by repeat (first | (with_reducible first | exact HB.out | apply below_alloc | apply pw_below_drewN | apply below_drew1 | refine below_set ?_ GE168.out | refine below_set ?_ GE178.out) | exact HB.out)⟩
      ·replace c142 := Bool.eq_false_iff.mpr c142
       subst c142
       rw [if_neg (show ¬ (false = true) by decide)] at H
       by_cases c143 : a0_0 = 0
       ·rw [if_pos c143] at H
        have c143b0 : (a0_0 == 0) = true := beq_iff_eq.mpr c143
        have c143b1 : (a0_0 != 0) = false := bne_eq_false_iff_eq.mpr c143
        clear c143
        by_cases c144 : a0_1 ≥ 1
        ·rw [if_pos c144] at H
         have c144b0 : decide (1 ≤ a0_1) = true := decide_eq_true c144
         clear c144
         obtain rfl := Option.some.inj H
         have hnb145 := NB168_178.out
         have hnc145 := NB178_168.out
         obtain ⟨z8_0, z8_1, z8_2, z8_3, z8_4, z8_5, z8_6, z8_7, z8_8, z8_9, z8_10, z8_11, z8_12, z8_13, z8_14, z8_15⟩ := fc8 BK168.out
         go_wp2
         go_ret
         exact ⟨by first | rfl | (simp [errW_none, errW_some] <;> rfl) | (simp [*, errW_none, errW_some] <;> rfl), by repeat (first | (with_reducible first | exact HB.out | apply below_alloc | apply pw_below_drewN | apply below_drew1 | refine below_set ?_ GE168.out | refine below_set ?_ GE178.out) | exact HB.out)⟩
        ·rw [if_neg c144] at H
         have c144b0 : decide (1 ≤ a0_1) = false := decide_eq_false c144
         clear c144
         obtain rfl := Option.some.inj H
         have hnb147 := NB168_178.out
         have hnc147 := NB178_168.out
         obtain ⟨z8_0, z8_1, z8_2, z8_3, z8_4, z8_5, z8_6, z8_7, z8_8, z8_9, z8_10, z8_11, z8_12, z8_13, z8_14, z8_15⟩ := fc8 BK168.out
         go_wp2
         go_ret
         exact ⟨by first | rfl | (simp [errW_none, errW_some] <;> rfl) | (simp [*, errW_none, errW_some] <;> rfl), by repeat (first | (with_reducible first | exact HB.out | apply below_alloc | apply pw_below_drewN | apply below_drew1 | refine below_set ?_ GE168.out | refine below_set ?_ GE178.out) | exact HB.out)⟩
       ·rw [if_neg c143] at H
        have c143b0 : (a0_0 == 0) = false := beq_eq_false_iff_ne.mpr c143
        have c143b1 : (a0_0 != 0) = true := bne_iff_ne.mpr c143
        have HC149 := Aside0.mk H
        clear H
        have hnb150 := NB168_178.out
        have hnc150 := NB178_168.out
        obtain ⟨z8_0, z8_1, z8_2, z8_3, z8_4, z8_5, z8_6, z8_7, z8_8, z8_9, z8_10, z8_11, z8_12, z8_13, z8_14, z8_15⟩ := fc8 BK168.out
        go_upto_if 116 with (fail)
        go_cut [116] (fun v116 wc => ∃ (kq : Nat) (x116_148 : Bool), v116 = .bool x116_148 ∧ Aside0 (spec_FrameOK.j2 kq a0_0 x116_148 a0_0 a0_1 a0_2 a0_3 a0_4 l0_5 l0_6 l0_7 = some r) ∧ Aside0 (kq ≤ kj119) ∧ Aside0 (wc.heap[gb168]? = some (.cells #[.int .i64 a0_0, .int .i64 a0_1, .int .i64 a0_2, .int .i64 a0_3, .bool a0_4, (.slice A0_5 l0_5.length c0_5), (.slice A0_6 l0_6.length c0_6), (.slice A0_7 l0_7.length c0_7)] 55 (0, 0))) ∧ Aside0 (wc.heap[gb178]? = some (.cells #[.bool t169, .bool t170, .bool t171, .bool t172, .bool t173, .bool t174, .int .i64 t175, .int .i64 t176, .int .i64 t177] 81 (0, 0))) ∧ Aside0 (Below w.heap.size w wc))
        case first =>
         have H := HC149.out
         clear HC149
         by_cases c152 : a0_0 = 18
         ·rw [if_pos c152] at H
          have c152b0 : (a0_0 == 18) = true := beq_iff_eq.mpr c152
          have c152b1 : (a0_0 != 18) = false := bne_eq_false_iff_eq.mpr c152
          clear c152
          (first | rw [c152b0] | (simp only [i64_w, i32_w]; rw [c152b0]) | skip)
          have H' := Aside0.mk H
          clear H
          go_wp2
          go_meet
          case rel => exact ⟨_, ((a0_0 == 18)), (by first | rfl | (simp; done) | (simp [*]; done)), H', ⟨by have := HJ2.out; have := HJ119.out; first | omega | exact Nat.le_refl _⟩, ⟨BK168.out⟩, ⟨BK178.out⟩, ⟨by repeat (first | (with_reducible first | exact HB.out | apply below_alloc | apply pw_below_drewN | apply below_drew1 | refine below_set ?_ GE168.out | refine below_set ?_ GE178.out) | exact HB.out)⟩⟩
         ·rw [if_neg c152] at H
          have c152b0 : (a0_0 == 18) = false := beq_eq_false_iff_ne.mpr c152
          have c152b1 : (a0_0 != 18) = true := bne_iff_ne.mpr c152
          (first | rw [c152b0] | (simp only [i64_w, i32_w]; rw [c152b0]) | skip)
          have H' := Aside0.mk H
          clear H
          go_wp2
          go_meet
          case rel => exact ⟨_, ((a0_0 == 22)), (by first | rfl | (simp; done) | (simp [*]; done)), H', ⟨by have := HJ2.out; have := HJ119.out; first | omega | exact Nat.le_refl _⟩, ⟨BK168.out⟩, ⟨BK178.out⟩, ⟨by repeat (first | (with_reducible first | exact HB.out | apply below_alloc | apply pw_below_drewN | apply below_drew1 | refine below_set ?_ GE168.out | refine below_set ?_ GE178.out) | exact HB.out)⟩⟩
        case rest =>
         clear HC149
         try clear c1
         try clear p2
         try clear c14
         try clear c15
         try clear c142
         try clear c143
         try clear c143b0
         try clear c143b1
         try clear c144
         try clear c144b0
         try clear c145
         try clear c147
         try clear c150
         try clear c152
         try clear c152b0
         try clear c152b1
         try clear z8_0 z8_1 z8_2 z8_3 z8_4 z8_5 z8_6 z8_7 z8_8 z8_9 z8_10 z8_11 z8_12 z8_13 z8_14 z8_15
         try clear z9_0 z9_1 z9_2 z9_3 z9_4 z9_5 z9_6 z9_7 z9_8 z9_9 z9_10 z9_11 z9_12 z9_13 z9_14 z9_15 z9_16 z9_17
         obtain ⟨kq, x116_148, rfl, HA, HJ148, BK168, BK178, HB⟩ := hcut
         cases kq with
         | zero => exact absurd HA.out (by simp [spec_FrameOK.j2])
         | succ kj148 =>
          have H := HA.out
          clear HA
          simp only [spec_FrameOK.j2] at H
          by_cases c153 : x116_148 = true
          ·subst c153
           rw [if_pos rfl] at H
           by_cases c154 : a0_1 ≤ 1152921504606846976
           ·rw [if_pos c154] at H
            have c154b0 : decide (a0_1 ≤ 1152921504606846976) = true := decide_eq_true c154
            clear c154
            obtain rfl := Option.some.inj H
            have hnb155 := NB168_178.out
            have hnc155 := NB178_168.out
            obtain ⟨z8_0, z8_1, z8_2, z8_3, z8_4, z8_5, z8_6, z8_7, z8_8, z8_9, z8_10, z8_11, z8_12, z8_13, z8_14, z8_15⟩ := fc8 BK168.out
            go_wp2
            go_ret
            exact ⟨by first | rfl | (simp [errW_none, errW_some] <;> rfl) | (simp [*, errW_none, errW_some] <;> rfl), by repeat (first | (with_reducible first | exact HB.out | apply below_alloc | apply pw_below_drewN | apply below_drew1 | refine below_set ?_ GE168.out | refine below_set ?_ GE178.out) | exact HB.out)⟩
           ·rw [if_neg c154] at H
            have c154b0 : decide (a0_1 ≤ 1152921504606846976) = false := decide_eq_false c154
            clear c154
            obtain rfl := Option.some.inj H
            have hnb157 := NB168_178.out
            have hnc157 := NB178_168.out
            obtain ⟨z8_0, z8_1, z8_2, z8_3, z8_4, z8_5, z8_6, z8_7, z8_8, z8_9, z8_10, z8_11, z8_12, z8_13, z8_14, z8_15⟩ := fc8 BK168.out
            go_wp2
            go_ret
            exact ⟨by first | rfl | (simp [errW_none, errW_some] <;> rfl) | (simp [*, errW_none, errW_some] <;> rfl), by repeat (first | (with_reducible first | exact HB.out | apply below_alloc | apply pw_below_drewN | apply below_drew1 | refine below_set ?_ GE168.out | refine below_set ?_ GE178.out) | exact HB.out)⟩
          ·replace c153 := Bool.eq_false_iff.mpr c153
           subst c153
           rw [if_neg (show ¬ (false = true) by decide)] at H
           by_cases c159 : a0_0 = 6
           ·rw [if_pos c159] at H
            have c159b0 : (a0_0 == 6) = true := beq_iff_eq.mpr c159
            have c159b1 : (a0_0 != 6) = false := bne_eq_false_iff_eq.mpr c159
            clear c159
            obtain rfl := Option.some.inj H
            have hnb160 := NB168_178.out
            have hnc160 := NB178_168.out
            obtain ⟨z8_0, z8_1, z8_2, z8_3, z8_4, z8_5, z8_6, z8_7, z8_8, z8_9, z8_10, z8_11, z8_12, z8_13, z8_14, z8_15⟩ := fc8 BK168.out
            go_wp2
            go_ret
            exact ⟨by first | rfl | (simp [errW_none, errW_some] <;> rfl) | (simp [*, errW_none, errW_some] <;> rfl), by repeat (first | (with_reducible first | exact HB.out | apply below_alloc | apply pw_below_drewN | apply below_drew1 | refine below_set ?_ GE168.out | refine below_set ?_ GE178.out) | exact HB.out)⟩
           ·rw [if_neg c159] at H
            have c159b0 : (a0_0 == 6) = false := beq_eq_false_iff_ne.mpr c159
            have c159b1 : (a0_0 != 6) = true := bne_iff_ne.mpr c159
            by_cases c162 : a0_0 = 8
            ·rw [if_pos c162] at H
             have c162b0 : (a0_0 == 8) = true := beq_iff_eq.mpr c162
             have c162b1 : (a0_0 != 8) = false := bne_eq_false_iff_eq.mpr c162
             clear c162
             obtain rfl := Option.some.inj H
             have hnb163 := NB168_178.out
             have hnc163 := NB178_168.out
             obtain ⟨z8_0, z8_1, z8_2, z8_3, z8_4, z8_5, z8_6, z8_7, z8_8, z8_9, z8_10, z8_11, z8_12, z8_13, z8_14, z8_15⟩ := fc8 BK168.out
             go_wp2
             go_ret
             exact ⟨by first | rfl | (simp [errW_none, errW_some] <;> rfl) | (simp [*, errW_none, errW_some] <;> rfl), by repeat (first | (with_reducible first | exact HB.out | apply below_alloc | apply pw_below_drewN | apply below_drew1 | refine below_set ?_ GE168.out | refine below_set ?_ GE178.out) | exact HB.out)⟩
            ·rw [if_neg c162] at H
             have c162b0 : (a0_0 == 8) = false := beq_eq_false_iff_ne.mpr c162
             have c162b1 : (a0_0 != 8) = true := bne_iff_ne.mpr c162
             by_cases c165 : a0_0 = 24
             ·rw [if_pos c165] at H
              have c165b0 : (a0_0 == 24) = true := beq_iff_eq.mpr c165
              have c165b1 : (a0_0 != 24) = false := bne_eq_false_iff_eq.mpr c165
              clear c165
              obtain rfl := Option.some.inj H
              have hnb166 := NB168_178.out
              have hnc166 := NB178_168.out
              obtain ⟨z8_0, z8_1, z8_2, z8_3, z8_4, z8_5, z8_6, z8_7, z8_8, z8_9, z8_10, z8_11, z8_12, z8_13, z8_14, z8_15⟩ := fc8 BK168.out
              go_wp2
              go_ret
              exact ⟨by first | rfl | (simp [errW_none, errW_some] <;> rfl) | (simp [*, errW_none, errW_some] <;> rfl), by repeat (first | (with_reducible first | exact HB.out | apply below_alloc | apply pw_below_drewN | apply below_drew1 | refine below_set ?_ GE168.out | refine below_set ?_ GE178.out) | exact HB.out)⟩
             ·rw [if_neg c165] at H
              have c165b0 : (a0_0 == 24) = false := beq_eq_false_iff_ne.mpr c165
              have c165b1 : (a0_0 != 24) = true := bne_iff_ne.mpr c165
              obtain rfl := Option.some.inj H
              go_wp2
              go_ret
              exact ⟨by first | rfl | (simp [errW_none, errW_some] <;> rfl) | (simp [*, errW_none, errW_some] <;> rfl), by repeat (first | (with_reducible first | exact HB.out | apply below_alloc | apply pw_below_drewN | apply below_drew1 | refine below_set ?_ GE168.out | refine below_set ?_ GE178.out) | exact HB.out)⟩

end Go.Proofs.Ytdojcdhlcnlohaa.SFnExactAckedBy
