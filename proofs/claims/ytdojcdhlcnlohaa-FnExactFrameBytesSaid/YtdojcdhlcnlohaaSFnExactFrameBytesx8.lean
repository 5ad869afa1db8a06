/- The walk of functions that the law FnExactFrameBytes uses, written by program. -/
import Derived.Test.YtdojcdhlcnlohaaSFnExactFrameBytesx0
import Derived.Test.YtdojcdhlcnlohaaSFnExactFrameBytesx5
import Derived.Test.YtdojcdhlcnlohaaSFnExactFrameBytesx6
import Derived.Test.YtdojcdhlcnlohaaSFnExactFrameBytesx7
import Derived.Test.YtdojcdhlcnlohaaSteps2
namespace Go.Proofs.Ytdojcdhlcnlohaa.SFnExactFrameBytes
open Go.Proofs.Ytdojcdhlcnlohaa.Steps2 Go.RowKit Go.Proofs.YtdojcdhlcnlohaaW.PrintWords Go.Proofs.YtdojcdhlcnlohaaW.PrintLast Go.Proofs.YtdojcdhlcnlohaaW.PrintMore
open Go.Proofs.YtdojcdhlcnlohaaW.PrintWords renaming below_alloc → qh, pw_below_drewN → qi, below_drew1 → qj, below_set → qk, blk_drew → qn, below_size → qs, below_step → qt, blk_below → qv
open Go.Proofs.YtdojcdhlcnlohaaW.PrintWords.Kd renaming R_alloc → qb, R_drewN → qc, R_drew → qd, R_mono → qg
open Go.Proofs.YtdojcdhlcnlohaaW.PrintWords.Aside0 renaming mk → qm
attribute [local go_sem] max2_int min2_int max_two min_two max_three min_three max_four min_four 
set_option linter.unusedVariables false
set_option linter.unusedSimpArgs false
/-! ### spec_FrameBytes: function 43 -/
mutual
def spec_FrameBytes.j0 : Nat → List Int → Int → Bool → Int → Int → Int → Int → Bool → List Int → List Int → List (S105) → Option (List Int × Int)
 | 0, _, _, _, _, _, _, _, _, _, _, _ => none
 | k + 1, x4, x15, x37, x227000, x227001, x227002, x227003, x227004, x227005, x227006, x227007 => if x37 = true then ((spec_l05N.f k x4 x227001).bind fun t249 => ((spec_l05N.f k t249 x227002).bind fun t252 => (some (t252, 0)))) else (if x15 = 18 then (spec_FrameBytes.j1 k x4 x15 (x15 == 18) x227000 x227001 x227002 x227003 x227004 x227005 x227006 x227007) else (spec_FrameBytes.j1 k x4 x15 (x15 == 22) x227000 x227001 x227002 x227003 x227004 x227005 x227006 x227007))
def spec_FrameBytes.j1 : Nat → List Int → Int → Bool → Int → Int → Int → Int → Bool → List Int → List Int → List (S105) → Option (List Int × Int)
 | 0, _, _, _, _, _, _, _, _, _, _, _ => none
 | k + 1, x4, x15, x48, x227000, x227001, x227002, x227003, x227004, x227005, x227006, x227007 => if x48 = true then ((spec_l05N.f k (([(wrap64 (x227000 + x227002)) % 256] : List Int)) x227001).bind fun t258 => (some (t258, 0))) else (if x15 = 16 then (spec_FrameBytes.j2 k x4 x15 (x15 == 16) x227000 x227001 x227002 x227003 x227004 x227005 x227006 x227007) else (if x15 = 20 then (spec_FrameBytes.j2 k x4 x15 (x15 == 20) x227000 x227001 x227002 x227003 x227004 x227005 x227006 x227007) else (spec_FrameBytes.j2 k x4 x15 (x15 == 25) x227000 x227001 x227002 x227003 x227004 x227005 x227006 x227007)))
def spec_FrameBytes.j2 : Nat → List Int → Int → Bool → Int → Int → Int → Int → Bool → List Int → List Int → List (S105) → Option (List Int × Int)
 | 0, _, _, _, _, _, _, _, _, _, _, _ => none
 | k + 1, x4, x15, x61, x227000, x227001, x227002, x227003, x227004, x227005, x227006, x227007 => if x61 = true then ((spec_l05N.f k x4 x227001).bind fun t261 => (some (t261, 0))) else (if x15 = 6 then (spec_FrameBytes.j3 k x4 x15 (x15 == 6) x227000 x227001 x227002 x227003 x227004 x227005 x227006 x227007) else (spec_FrameBytes.j3 k x4 x15 (x15 == 29) x227000 x227001 x227002 x227003 x227004 x227005 x227006 x227007))
def spec_FrameBytes.j3 : Nat → List Int → Int → Bool → Int → Int → Int → Int → Bool → List Int → List Int → List (S105) → Option (List Int × Int)
 | 0, _, _, _, _, _, _, _, _, _, _, _ => none
 | k + 1, x4, x15, x69, x227000, x227001, x227002, x227003, x227004, x227005, x227006, x227007 => if x69 = true then ((spec_l05N.f k x4 x227001).bind fun t264 => ((spec_l05Counted.f k t264 x227005).bind fun t267 => (some (t267, 0)))) else (if x15 = 7 then ((spec_l05Counted.f k x4 x227005).bind fun t270 => (some (t270, 0))) else (if x15 = 8 then (if x227004 = true then (spec_FrameBytes.j4 k (10 + 1) x227000 x227001 x227002 x227003 x227004 x227005 x227006 x227007) else (spec_FrameBytes.j4 k 10 x227000 x227001 x227002 x227003 x227004 x227005 x227006 x227007)) else (if x15 = 24 then ((spec_l05N.f k x4 x227001).bind fun t294 => ((spec_l05N.f k t294 x227002).bind fun t297 => ((some (([((x227005.length : Int)) % 256] : List Int) : List Int)).bind fun y300 => (if t297.length + y300.length < 140737488355328 then ((some (t297 ++ y300 : List Int)).bind fun y303 => (if y303.length + x227005.length < 140737488355328 then ((some (y303 ++ x227005 : List Int)).bind fun y306 => (if y306.length + x227006.length < 140737488355328 then (some ((y306 ++ x227006), 0)) else (none))) else (none))) else (none))))) else (if x15 = 26 then (spec_FrameBytes.j5 k x4 x15 (x15 == 26) x227000 x227001 x227002 x227003 x227004 x227005 x227006 x227007) else (spec_FrameBytes.j5 k x4 x15 (x15 == 27) x227000 x227001 x227002 x227003 x227004 x227005 x227006 x227007)))))
def spec_FrameBytes.j4 : Nat → Int → Int → Int → Int → Int → Bool → List Int → List Int → List (S105) → Option (List Int × Int)
 | 0, _, _, _, _, _, _, _, _, _ => none
 | k + 1, x5, x227000, x227001, x227002, x227003, x227004, x227005, x227006, x227007 => if x227002 = 0 then ((spec_l05N.f k (([(x5) % 256] : List Int)) x227001).bind fun t276 => ((spec_l05Counted.f k t276 x227005).bind fun t279 => (some (t279, 0)))) else ((spec_l05N.f k (([(wrap64 (x5 + 4)) % 256] : List Int)) x227001).bind fun t285 => ((spec_l05N.f k t285 x227002).bind fun t288 => ((spec_l05Counted.f k t288 x227005).bind fun t291 => (some (t291, 0)))))
def spec_FrameBytes.j5 : Nat → List Int → Int → Bool → Int → Int → Int → Int → Bool → List Int → List Int → List (S105) → Option (List Int × Int)
 | 0, _, _, _, _, _, _, _, _, _, _, _ => none
 | k + 1, x4, x15, x136, x227000, x227001, x227002, x227003, x227004, x227005, x227006, x227007 => if x136 = true then (if x4.length + x227005.length < 140737488355328 then (some ((x4 ++ x227005), 0)) else (none)) else (if x15 = 28 then ((spec_l05N.f k x4 x227001).bind fun t315 => ((spec_l05N.f k t315 x227002).bind fun t318 => ((spec_l05Counted.f k t318 x227005).bind fun t321 => (some (t321, 0))))) else (if x15 = 48 then ((spec_l05Counted.f k (([49] : List Int)) x227005).bind fun t327 => (some (t327, 0))) else (some (x4, 0))))
end
def spec_FrameBytes.f (k : Nat) (a0_0 : Int) (a0_1 : Int) (a0_2 : Int) (a0_3 : Int) (a0_4 : Bool) (l0_5 : List Int) (l0_6 : List Int) (l0_7 : List (S105)) : Option (List Int × Int) := (spec_FrameOK.f k a0_0 a0_1 a0_2 a0_3 a0_4 l0_5 l0_6 l0_7).bind fun t227 => (if t227 = true then ((some (([(a0_0) % 256] : List Int) : List Int)).bind fun y231 => (if a0_0 = 0 then (if 0 ≤ a0_1 then (if (a0_1 : Int).toNat ≤ 281474976710656 then (some ((List.replicate (a0_1 : Int).toNat 0), 0)) else (none)) else (none)) else (if a0_0 = 2 then ((spec_l05AckBytes.f k a0_0 a0_1 a0_2 a0_3 a0_4 l0_5 l0_6 l0_7).bind fun t237 => (some (t237, 0))) else (if a0_0 = 4 then ((spec_l05N.f k y231 a0_1).bind fun t240 => ((spec_l05N.f k t240 a0_2).bind fun t243 => ((spec_l05N.f k t243 a0_3).bind fun t246 => (some (t246, 0))))) else (if a0_0 = 5 then (spec_FrameBytes.j0 k y231 a0_0 (a0_0 == 5) a0_0 a0_1 a0_2 a0_3 a0_4 l0_5 l0_6 l0_7) else (if a0_0 = 17 then (spec_FrameBytes.j0 k y231 a0_0 (a0_0 == 17) a0_0 a0_1 a0_2 a0_3 a0_4 l0_5 l0_6 l0_7) else (spec_FrameBytes.j0 k y231 a0_0 (a0_0 == 21) a0_0 a0_1 a0_2 a0_3 a0_4 l0_5 l0_6 l0_7))))))) else (some ((([] : List Int)), 1)))
theorem spec_FrameBytes.mono_l : ∀ k, (∀ y0 y1 y2 y3 y4 y5 y6 y7 y8 y9 y10, LeO (spec_FrameBytes.j0 k y0 y1 y2 y3 y4 y5 y6 y7 y8 y9 y10) (spec_FrameBytes.j0 (k + 1) y0 y1 y2 y3 y4 y5 y6 y7 y8 y9 y10)) ∧ (∀ y0 y1 y2 y3 y4 y5 y6 y7 y8 y9 y10, LeO (spec_FrameBytes.j1 k y0 y1 y2 y3 y4 y5 y6 y7 y8 y9 y10) (spec_FrameBytes.j1 (k + 1) y0 y1 y2 y3 y4 y5 y6 y7 y8 y9 y10)) ∧ (∀ y0 y1 y2 y3 y4 y5 y6 y7 y8 y9 y10, LeO (spec_FrameBytes.j2 k y0 y1 y2 y3 y4 y5 y6 y7 y8 y9 y10) (spec_FrameBytes.j2 (k + 1) y0 y1 y2 y3 y4 y5 y6 y7 y8 y9 y10)) ∧ (∀ y0 y1 y2 y3 y4 y5 y6 y7 y8 y9 y10, LeO (spec_FrameBytes.j3 k y0 y1 y2 y3 y4 y5 y6 y7 y8 y9 y10) (spec_FrameBytes.j3 (k + 1) y0 y1 y2 y3 y4 y5 y6 y7 y8 y9 y10)) ∧ (∀ y0 y1 y2 y3 y4 y5 y6 y7 y8, LeO (spec_FrameBytes.j4 k y0 y1 y2 y3 y4 y5 y6 y7 y8) (spec_FrameBytes.j4 (k + 1) y0 y1 y2 y3 y4 y5 y6 y7 y8)) ∧ (∀ y0 y1 y2 y3 y4 y5 y6 y7 y8 y9 y10, LeO (spec_FrameBytes.j5 k y0 y1 y2 y3 y4 y5 y6 y7 y8 y9 y10) (spec_FrameBytes.j5 (k + 1) y0 y1 y2 y3 y4 y5 y6 y7 y8 y9 y10))
 | 0 => ⟨fun _ _ _ _ _ _ _ _ _ _ _ r h => by simp [spec_FrameBytes.j0] at h, fun _ _ _ _ _ _ _ _ _ _ _ r h => by simp [spec_FrameBytes.j1] at h, fun _ _ _ _ _ _ _ _ _ _ _ r h => by simp [spec_FrameBytes.j2] at h, fun _ _ _ _ _ _ _ _ _ _ _ r h => by simp [spec_FrameBytes.j3] at h, fun _ _ _ _ _ _ _ _ _ r h => by simp [spec_FrameBytes.j4] at h, fun _ _ _ _ _ _ _ _ _ _ _ r h => by simp [spec_FrameBytes.j5] at h⟩
 | k + 1 => by
  obtain ⟨ih0, ih1, ih2, ih3, ih4, ih5⟩ := spec_FrameBytes.mono_l k
  refine ⟨?_, ?_, ?_, ?_, ?_, ?_⟩
  ·intro y0 y1 y2 y3 y4 y5 y6 y7 y8 y9 y10
   unfold spec_FrameBytes.j0
   repeat' first
   | (with_reducible apply ih0)
   | (with_reducible apply ih1)
   | (with_reducible apply ih2)
   | (with_reducible apply ih3)
   | (with_reducible apply ih4)
   | (with_reducible apply ih5)
   | (with_reducible apply spec_FrameOK.mono)
   | (with_reducible apply spec_l05AckBytes.mono)
   | (with_reducible apply spec_l05Counted.mono)
   | (with_reducible apply spec_l05N.mono)
   | (with_reducible exact LeO.refl _)
   | (with_reducible exact LeO.none _)
   | (with_reducible refine LeO.ite ?_ ?_)
   | (with_reducible refine LeO.bind ?_ (fun _ => ?_))
  ·intro y0 y1 y2 y3 y4 y5 y6 y7 y8 y9 y10
   unfold spec_FrameBytes.j1
   repeat' first
   | (with_reducible apply ih0)
   | (with_reducible apply ih1)
   | (with_reducible apply ih2)
   | (with_reducible apply ih3)
   | (with_reducible apply ih4)
   | (with_reducible apply ih5)
   | (with_reducible apply spec_FrameOK.mono)
   | (with_reducible apply spec_l05AckBytes.mono)
   | (with_reducible apply spec_l05Counted.mono)
   | (with_reducible apply spec_l05N.mono)
   | (with_reducible exact LeO.refl _)
   | (with_reducible exact LeO.none _)
   | (with_reducible refine LeO.ite ?_ ?_)
   | (with_reducible refine LeO.bind ?_ (fun _ => ?_))
  ·intro y0 y1 y2 y3 y4 y5 y6 y7 y8 y9 y10
   unfold spec_FrameBytes.j2
   repeat' first
   | (with_reducible apply ih0)
   | (with_reducible apply ih1)
   | (with_reducible apply ih2)
   | (with_reducible apply ih3)
   | (with_reducible apply ih4)
   | (with_reducible apply ih5)
   | (with_reducible apply spec_FrameOK.mono)
   | (with_reducible apply spec_l05AckBytes.mono)
   | (with_reducible apply spec_l05Counted.mono)
   | (with_reducible apply spec_l05N.mono)
   | (with_reducible exact LeO.refl _)
   | (with_reducible exact LeO.none _)
   | (with_reducible refine LeO.ite ?_ ?_)
   | (with_reducible refine LeO.bind ?_ (fun _ => ?_))
  ·intro y0 y1 y2 y3 y4 y5 y6 y7 y8 y9 y10
   unfold spec_FrameBytes.j3
   repeat' first
   | (with_reducible apply ih0)
   | (with_reducible apply ih1)
   | (with_reducible apply ih2)
   | (with_reducible apply ih3)
   | (with_reducible apply ih4)
   | (with_reducible apply ih5)
   | (with_reducible apply spec_FrameOK.mono)
   | (with_reducible apply spec_l05AckBytes.mono)
   | (with_reducible apply spec_l05Counted.mono)
   | (with_reducible apply spec_l05N.mono)
   | (with_reducible exact LeO.refl _)
   | (with_reducible exact LeO.none _)
   | (with_reducible refine LeO.ite ?_ ?_)
   | (with_reducible refine LeO.bind ?_ (fun _ => ?_))
  ·intro y0 y1 y2 y3 y4 y5 y6 y7 y8
   unfold spec_FrameBytes.j4
   repeat' first
   | (with_reducible apply ih0)
   | (with_reducible apply ih1)
   | (with_reducible apply ih2)
   | (with_reducible apply ih3)
   | (with_reducible apply ih4)
   | (with_reducible apply ih5)
   | (with_reducible apply spec_FrameOK.mono)
   | (with_reducible apply spec_l05AckBytes.mono)
   | (with_reducible apply spec_l05Counted.mono)
   | (with_reducible apply spec_l05N.mono)
   | (with_reducible exact LeO.refl _)
   | (with_reducible exact LeO.none _)
   | (with_reducible refine LeO.ite ?_ ?_)
   | (with_reducible refine LeO.bind ?_ (fun _ => ?_))
  ·intro y0 y1 y2 y3 y4 y5 y6 y7 y8 y9 y10
   unfold spec_FrameBytes.j5
   repeat' first
   | (with_reducible apply ih0)
   | (with_reducible apply ih1)
   | (with_reducible apply ih2)
   | (with_reducible apply ih3)
   | (with_reducible apply ih4)
   | (with_reducible apply ih5)
   | (with_reducible apply spec_FrameOK.mono)
   | (with_reducible apply spec_l05AckBytes.mono)
   | (with_reducible apply spec_l05Counted.mono)
   | (with_reducible apply spec_l05N.mono)
   | (with_reducible exact LeO.refl _)
   | (with_reducible exact LeO.none _)
   | (with_reducible refine LeO.ite ?_ ?_)
   | (with_reducible refine LeO.bind ?_ (fun _ => ?_))
theorem spec_FrameBytes.mono : ∀ a0 a1 a2 a3 a4 a5 a6 a7 k, LeO (spec_FrameBytes.f k a0 a1 a2 a3 a4 a5 a6 a7) (spec_FrameBytes.f (k + 1) a0 a1 a2 a3 a4 a5 a6 a7) := by
 intro a0 a1 a2 a3 a4 a5 a6 a7 k
 obtain ⟨ih0, ih1, ih2, ih3, ih4, ih5⟩ := spec_FrameBytes.mono_l k
 unfold spec_FrameBytes.f
 repeat' first
   | (with_reducible apply ih0)
   | (with_reducible apply ih1)
   | (with_reducible apply ih2)
   | (with_reducible apply ih3)
   | (with_reducible apply ih4)
   | (with_reducible apply ih5)
   | (with_reducible apply spec_FrameOK.mono)
   | (with_reducible apply spec_l05AckBytes.mono)
   | (with_reducible apply spec_l05Counted.mono)
   | (with_reducible apply spec_l05N.mono)
   | (with_reducible exact LeO.refl _)
   | (with_reducible exact LeO.none _)
   | (with_reducible refine LeO.ite ?_ ?_)
   | (with_reducible refine LeO.bind ?_ (fun _ => ?_))
def spec_FrameBytes.T10 : Bool × List (List Nat × List Nat) := (true, [([], []), ([], []), ([1], [1]), ([0, 2], [0, 2]), ([], []), ([4], [4]), ([3, 5, 3], [3, 5]), ([], []), ([7], [7]), ([6, 8, 6], [6, 8]), ([9, 9, 0, 1, 2, 3, 4, 5, 6, 7, 8, 9], [0, 9])])
def spec_FrameBytes.B10 : List Nat := [0, 0, 2, 7, 0, 16, 63, 0, 128, 511, 1023]
theorem spec_FrameBytes.tab10 : rtab .any (opsOf Try.f43 10) = spec_FrameBytes.T10 := by kernel_rfl
theorem spec_FrameBytes.bits10 : waitsOk spec_FrameBytes.T10.2 spec_FrameBytes.B10 = true := by kernel_rfl
def spec_FrameBytes.T14 : Bool × List (List Nat × List Nat) := (true, [([], []), ([], []), ([1], [1]), ([0, 2], [0, 2]), ([], []), ([4], [4]), ([3, 5, 3], [3, 5]), ([6, 6, 0, 1, 2, 3, 4, 5, 6], [0, 6])])
def spec_FrameBytes.B14 : List Nat := [0, 0, 2, 7, 0, 16, 63, 127]
theorem spec_FrameBytes.tab14 : rtab .any (opsOf Try.f43 14) = spec_FrameBytes.T14 := by kernel_rfl
theorem spec_FrameBytes.bits14 : waitsOk spec_FrameBytes.T14.2 spec_FrameBytes.B14 = true := by kernel_rfl
def spec_FrameBytes.T24 : Bool × List (List Nat × List Nat) := (true, [([], []), ([], []), ([1], [1]), ([0, 2], [0, 2]), ([], []), ([4], [4]), ([3, 5, 3], [3, 5]), ([6, 6, 0, 1, 2, 3, 4, 5, 6], [0, 6])])
def spec_FrameBytes.B24 : List Nat := [0, 0, 2, 7, 0, 16, 63, 127]
theorem spec_FrameBytes.tab24 : rtab .any (opsOf Try.f43 24) = spec_FrameBytes.T24 := by kernel_rfl
theorem spec_FrameBytes.bits24 : waitsOk spec_FrameBytes.T24.2 spec_FrameBytes.B24 = true := by kernel_rfl
def spec_FrameBytes.T32 : Bool × List (List Nat × List Nat) := (true, [([], []), ([0], [0]), ([1], [1]), ([2], [2]), ([], []), ([4], [4]), ([3, 5], [3, 5]), ([], []), ([7], [7]), ([6, 8, 6], [6, 8]), ([9, 9, 0, 1, 2, 3, 4, 5, 6, 7, 8, 9], [9])])
def spec_FrameBytes.B32 : List Nat := [0, 1, 3, 7, 0, 16, 63, 0, 128, 511, 1023]
theorem spec_FrameBytes.tab32 : rtab .any (opsOf Try.f43 32) = spec_FrameBytes.T32 := by kernel_rfl
theorem spec_FrameBytes.bits32 : waitsOk spec_FrameBytes.T32.2 spec_FrameBytes.B32 = true := by kernel_rfl
def spec_FrameBytes.T36 : Bool × List (List Nat × List Nat) := (true, [([], []), ([], []), ([1], [1]), ([0, 2], [0, 2]), ([], []), ([4], [4]), ([3, 5, 3], [3, 5]), ([], []), ([7], [7]), ([8], [8]), ([9], [9]), ([10], [10]), ([6, 11, 6], [6, 11]), ([12, 12, 0, 1, 2, 3, 4, 5, 6, 7, 8, 9, 10, 11, 12], [0, 12])])
def spec_FrameBytes.B36 : List Nat := [0, 0, 2, 7, 0, 16, 63, 0, 128, 384, 896, 1920, 4095, 8191]
theorem spec_FrameBytes.tab36 : rtab .any (opsOf Try.f43 36) = spec_FrameBytes.T36 := by kernel_rfl
theorem spec_FrameBytes.bits36 : waitsOk spec_FrameBytes.T36.2 spec_FrameBytes.B36 = true := by kernel_rfl
def spec_FrameBytes.T37 : Bool × List (List Nat × List Nat) := (true, [([], []), ([], []), ([1], [1]), ([0, 2], [0, 2]), ([], []), ([4], [4]), ([3, 5, 3], [3, 5]), ([6, 6, 0, 1, 2, 3, 4, 5, 6], [0, 6])])
def spec_FrameBytes.B37 : List Nat := [0, 0, 2, 7, 0, 16, 63, 127]
theorem spec_FrameBytes.tab37 : rtab .any (opsOf Try.f43 37) = spec_FrameBytes.T37 := by kernel_rfl
theorem spec_FrameBytes.bits37 : waitsOk spec_FrameBytes.T37.2 spec_FrameBytes.B37 = true := by kernel_rfl
def spec_FrameBytes.T42 : Bool × List (List Nat × List Nat) := (true, [([], []), ([], []), ([1], [1]), ([0, 2], [0, 2]), ([], []), ([4], [4]), ([3, 5, 3], [3, 5]), ([], []), ([7], [7]), ([6, 8, 6], [6, 8]), ([9, 9, 0, 1, 2, 3, 4, 5, 6, 7, 8, 9], [0, 9])])
def spec_FrameBytes.B42 : List Nat := [0, 0, 2, 7, 0, 16, 63, 0, 128, 511, 1023]
theorem spec_FrameBytes.tab42 : rtab .any (opsOf Try.f43 42) = spec_FrameBytes.T42 := by kernel_rfl
theorem spec_FrameBytes.bits42 : waitsOk spec_FrameBytes.T42.2 spec_FrameBytes.B42 = true := by kernel_rfl
set_option maxHeartbeats 8000000 in
set_option maxRecDepth 100000 in
theorem spec_FrameBytes.calls (k : Nat) (a0_0 : Int) (a0_1 : Int) (a0_2 : Int) (a0_3 : Int) (a0_4 : Bool) (A0_5 : Option Addr) (c0_5 : Nat) (l0_5 : List Int) (A0_6 : Option Addr) (c0_6 : Nat) (l0_6 : List Int) (A0_7 : Option Addr) (c0_7 : Nat) (l0_7 : List (S105)) (r1 : List Int) (r2 : Int) (w : World) (hr0_5 : Kd.C (Kd.int .u8) w A0_5 l0_5.length l0_5) (hc0_5 : l0_5.length ≤ c0_5) (hr0_6 : Kd.C (Kd.int .u8) w A0_6 l0_6.length l0_6) (hc0_6 : l0_6.length ≤ c0_6) (hr0_7 : Kd.C k105 w A0_7 l0_7.length l0_7) (hc0_7 : l0_7.length ≤ c0_7) (h : spec_FrameBytes.f k a0_0 a0_1 a0_2 a0_3 a0_4 l0_5 l0_6 l0_7 = some (r1, r2)) :
  Calls Try.prog 43 #[.agg #[.int .i64 a0_0, .int .i64 a0_1, .int .i64 a0_2, .int .i64 a0_3, .bool a0_4, .slice A0_5 l0_5.length c0_5, .slice A0_6 l0_6.length c0_6, .slice A0_7 l0_7.length c0_7]] w fun e w' => ∃ v0_ : Value, e = .returned (.tuple #[v0_, .int .i64 r2]) ∧ Kd.R (Kd.int .u8) 5 w' w.heap.size (fun _ => True) v0_ r1 ∧ Below w.heap.size w w' := by
 have hu55 := Try.underlying55
 have HR0_5 := qm hr0_5
 have HC0_5 := qm hc0_5
 clear hr0_5 hc0_5
 have HR0_6 := qm hr0_6
 have HC0_6 := qm hc0_6
 clear hr0_6 hc0_6
 have HR0_7 := qm hr0_7
 have HC0_7 := qm hc0_7
 clear hr0_7 hc0_7
 have HB := qm (Below.refl w.heap.size w)
 have H : ((spec_FrameOK.f k a0_0 a0_1 a0_2 a0_3 a0_4 l0_5 l0_6 l0_7).bind fun t227 => (if t227 = true then ((some (([(a0_0) % 256] : List Int) : List Int)).bind fun y231 => (if a0_0 = 0 then (if 0 ≤ a0_1 then (if (a0_1 : Int).toNat ≤ 281474976710656 then (some ((List.replicate (a0_1 : Int).toNat 0), 0)) else (none)) else (none)) else (if a0_0 = 2 then ((spec_l05AckBytes.f k a0_0 a0_1 a0_2 a0_3 a0_4 l0_5 l0_6 l0_7).bind fun t237 => (some (t237, 0))) else (if a0_0 = 4 then ((spec_l05N.f k y231 a0_1).bind fun t240 => ((spec_l05N.f k t240 a0_2).bind fun t243 => ((spec_l05N.f k t243 a0_3).bind fun t246 => (some (t246, 0))))) else (if a0_0 = 5 then (spec_FrameBytes.j0 k y231 a0_0 (a0_0 == 5) a0_0 a0_1 a0_2 a0_3 a0_4 l0_5 l0_6 l0_7) else (if a0_0 = 17 then (spec_FrameBytes.j0 k y231 a0_0 (a0_0 == 17) a0_0 a0_1 a0_2 a0_3 a0_4 l0_5 l0_6 l0_7) else (spec_FrameBytes.j0 k y231 a0_0 (a0_0 == 21) a0_0 a0_1 a0_2 a0_3 a0_4 l0_5 l0_6 l0_7))))))) else (some ((([] : List Int)), 1)))) = some (r1, r2) := h
 clear h
 replace H := Option.bind_eq_some_iff.mp H
 obtain ⟨t227, A20, H⟩ := H
 try dsimp only at H
 have A2 := qm A20
 clear A20
 by_cases c3 : t227 = true
 ·subst c3
  rw [if_pos rfl] at H
  obtain ⟨y231, hy231⟩ : ∃ y_ : List Int, y_ = (([(a0_0) % 256] : List Int)) := ⟨_, rfl⟩
  replace H : (if a0_0 = 0 then (if 0 ≤ a0_1 then (if (a0_1 : Int).toNat ≤ 281474976710656 then (some ((List.replicate (a0_1 : Int).toNat 0), 0)) else (none)) else (none)) else (if a0_0 = 2 then ((spec_l05AckBytes.f k a0_0 a0_1 a0_2 a0_3 a0_4 l0_5 l0_6 l0_7).bind fun t237 => (some (t237, 0))) else (if a0_0 = 4 then ((spec_l05N.f k y231 a0_1).bind fun t240 => ((spec_l05N.f k t240 a0_2).bind fun t243 => ((spec_l05N.f k t243 a0_3).bind fun t246 => (some (t246, 0))))) else (if a0_0 = 5 then (spec_FrameBytes.j0 k y231 a0_0 (a0_0 == 5) a0_0 a0_1 a0_2 a0_3 a0_4 l0_5 l0_6 l0_7) else (if a0_0 = 17 then (spec_FrameBytes.j0 k y231 a0_0 (a0_0 == 17) a0_0 a0_1 a0_2 a0_3 a0_4 l0_5 l0_6 l0_7) else (spec_FrameBytes.j0 k y231 a0_0 (a0_0 == 21) a0_0 a0_1 a0_2 a0_3 a0_4 l0_5 l0_6 l0_7)))))) = some (r1, r2) := by first | (rw [hy231]; with_reducible exact H) | (have H2_ := (Option.bind_some _ _).symm.trans H; rw [hy231]; with_reducible exact H2_) | (have H2_ := (Option.bind_some _ _).symm.trans H; with_reducible exact H2_) | with_reducible exact H | (rw [hy231]; exact H) | exact H
  have Ny231 := qm hy231
  clear hy231
  by_cases c4 : a0_0 = 0
  ·rw [if_pos c4] at H
   have c4b0 : (a0_0 == 0) = true := beq_iff_eq.mpr c4
   have c4b1 : (a0_0 != 0) = false := bne_eq_false_iff_eq.mpr c4
   clear c4
   by_cases c5 : 0 ≤ a0_1
   ·rw [if_pos c5] at H
    have c5b0 := eq_true c5
    have c5b1 : decide (0 ≤ a0_1) = true := decide_eq_true c5
    clear c5
    by_cases c6 : (a0_1 : Int).toNat ≤ 281474976710656
    ·rw [if_pos c6] at H
     have c6b0 := eq_true c6
     have c6b1 : decide ((a0_1 : Int).toNat ≤ 281474976710656) = true := decide_eq_true c6
     clear c6
     obtain ⟨y234, hy234⟩ : ∃ y_ : List Int, y_ = (List.replicate (a0_1 : Int).toNat 0) := ⟨_, rfl⟩
     replace H : (some (y234, 0)) = some (r1, r2) := by first | (rw [hy234]; with_reducible exact H) | (have H2_ := (Option.bind_some _ _).symm.trans H; rw [hy234]; with_reducible exact H2_) | (have H2_ := (Option.bind_some _ _).symm.trans H; with_reducible exact H2_) | with_reducible exact H | (rw [hy234]; exact H) | exact H
     have Ny234 := qm hy234
     clear hy234
     simp only [Option.some.injEq, Prod.mk.injEq] at H
     obtain ⟨rfl, rfl⟩ := H
     go_enter Try.func43, Try.ntmps43
     go_wp2_with (first | ((with_reducible refine gate_dst (N := 1) rfl ?_); refine box_event (by rfl) (N := 1) (by rfl) (cs := #[.int .i64 a0_0, .int .i64 a0_1, .int .i64 a0_2, .int .i64 a0_3, .bool a0_4, .slice A0_5 l0_5.length c0_5, .slice A0_6 l0_6.length c0_6, .slice A0_7 l0_7.length c0_7]) (t := 55) (by first | (go_simp; done) | (go_simp; rfl)) ?_; intro gb226 hg w7 hbox hb; have n0_ := qm (qt HB.out hb); have n1_ := qm (hbox); have n2_ := qm ((by rw [hg]; exact (qs HB.out) : w.heap.size ≤ gb226)); have n3_ := qm ((by rw [hg]; exact (qs HB.out) : w.heap.size ≤ gb226)); clear HB; have HB := n0_; have BK226 := n1_; have GW226 := n2_; have GE226 := n3_; clear hb hbox hg; obtain ⟨_, _, _, _, _, _, _, _, _, _, _, _, _, _, _, _⟩ := fc8 BK226.out) | ((with_reducible refine gate_callee (f := 39) rfl ?_); refine goesL_ (some 7) rfl rfl Try.func39 (by kernel_rfl) rfl #[.agg #[.int .i64 a0_0, .int .i64 a0_1, .int .i64 a0_2, .int .i64 a0_3, .bool a0_4, .slice A0_5 l0_5.length c0_5, .slice A0_6 l0_6.length c0_6, .slice A0_7 l0_7.length c0_7]] rfl (by (try simp only [m1, m2, m3]); first | done | rfl) ?_; (with_reducible refine (spec_FrameOK.calls k a0_0 a0_1 a0_2 a0_3 a0_4 _ _ l0_5 _ _ l0_6 _ _ l0_7 true _ ?side1 ?side2 ?side3 ?side4 ?side5 ?side6 A2.out).mono ?_); (case side1 => repeat (first | exact (Kd.C_below HR0_5.out HB.out) | (with_reducible refine Kd.C_alloc ?_ _) | (with_reducible refine Kd.C_drewN ?_ _) | (with_reducible refine Kd.C_drew ?_))); (case side2 => exact HC0_5.out); (case side3 => repeat (first | exact (Kd.C_below HR0_6.out HB.out) | (with_reducible refine Kd.C_alloc ?_ _) | (with_reducible refine Kd.C_drewN ?_ _) | (with_reducible refine Kd.C_drew ?_))); (case side4 => exact HC0_6.out); (case side5 => repeat (first | exact (Kd.C_below HR0_7.out HB.out) | (with_reducible refine Kd.C_alloc ?_ _) | (with_reducible refine Kd.C_drewN ?_ _) | (with_reducible refine Kd.C_drew ?_))); (case side6 => exact HC0_7.out); rintro e w9 ⟨rfl, hb⟩; refine ⟨_, rfl, ?_⟩; have n0_ := qm (qv (g := gb226) BK226.out hb); have n1_ := qm (qt HB.out hb); clear BK226; clear HB; have BK226 := n0_; have HB := n1_; obtain ⟨_, _, _, _, _, _, _, _, _, _, _, _, _, _, _, _⟩ := fc8 BK226.out) | ((with_reducible refine gate_dst (N := 13) rfl ?_); refine Kd.R_lit (Kd.int .u8) _ 5 ?hg (N := 13) ?hd (xs := ([(a0_0) % 256] : List Int)) (inner := [.int .u8 ((a0_0) % 256)]) (ok := fun _ => True) (okp := fun _ => True) ?hr ?hp (fun _ hk => hk) trivial (Below.refl _ _) (Nat.le_refl _) (by simp) ?_; (case hd => rfl); (case hg => rfl); (case hr => first | (go_simp; done) | (go_simp; rfl)); (case hp => exact (Reps.one (show Kd.M (Kd.int .u8) _ _ _ ((a0_0) % 256) [.int .u8 ((a0_0) % 256)] from rfl) (Reps.none _ _))); intro v232 w11 ho12 hb hg_ hnew_; clear hg_ hnew_; (first | rw [← Ny231.out] at ho12 | (simp only [Int.reduceToNat] at ho12; rw [← Ny231.out] at ho12)); have n0_ := qm (Kd.R_lower ho12 (qs HB.out)); have n1_ := qm (qv (g := gb226) BK226.out hb); have n2_ := qm (qt HB.out hb); clear BK226; clear HB; have HO233 := n0_; have BK226 := n1_; have HB := n2_; clear hb ho12; obtain ⟨_, _, _, _, _, _, _, _, _, _, _, _, _, _, _, _⟩ := fc8 BK226.out) | ((with_reducible refine gate_dst (N := 20) rfl ?_); refine Kd.R_make (Kd.int .u8) _ 5 rfl (N := 20) rfl 22 _ _ rfl a0_1 rfl rfl Try.underlying22 (.int .u8 0) 1 info5 rfl (by decide) (by omega) 0 (ok := fun _ => True) (okp := fun _ => True) rfl (fun _ hk => hk) trivial (of_decide_eq_true (by assumption)) (Nat.le_trans (Nat.mul_le_mul_right _ (of_decide_eq_true (by assumption) : a0_1.toNat ≤ 281474976710656)) (by omega)) (Below.refl _ _) (Nat.le_refl _) ?_; intro v235 w14 ho15 hb hg_ hnew_; clear hg_ hnew_; (first | rw [← Ny234.out] at ho15 | (simp only [Int.reduceToNat] at ho15; rw [← Ny234.out] at ho15)); have n0_ := qm (Kd.R_elder' HO233.out (Kd.R_base ho15) hb); have n1_ := qm (Kd.R_lower (Kd.R_new' ho15 (Kd.R_lt HO233.out)) (qs HB.out)); have n2_ := qm (qv (g := gb226) BK226.out hb); have n3_ := qm (qt HB.out hb); clear HO233; clear BK226; clear HB; have HO233 := n0_; have HO236 := n1_; have BK226 := n2_; have HB := n3_; clear hb ho15))
     go_ret2
     exact ⟨_, by first | rfl | (simp <;> rfl) | (simp [*] <;> rfl), by (with_reducible repeat (first | apply qb | apply qc | apply qd)); exact qg HO236.out (fun _ hk => trivial), HB.out⟩
    rw [if_neg c6] at H
    exact absurd H (by simp)
   rw [if_neg c5] at H
   exact absurd H (by simp)
  rw [if_neg c4] at H
  have c4b0 : (a0_0 == 0) = false := beq_eq_false_iff_ne.mpr c4
  have c4b1 : (a0_0 != 0) = true := bne_iff_ne.mpr c4
  by_cases c16 : a0_0 = 2
  ·rw [if_pos c16] at H
   have c16b0 : (a0_0 == 2) = true := beq_iff_eq.mpr c16
   have c16b1 : (a0_0 != 2) = false := bne_eq_false_iff_eq.mpr c16
   clear c16
   replace H := Option.bind_eq_some_iff.mp H
   obtain ⟨t237, A170, H⟩ := H
   replace H : (some (t237, 0)) = some (r1, r2) := H
   have A17 := qm A170
   clear A170
   simp only [Option.some.injEq, Prod.mk.injEq] at H
   obtain ⟨rfl, rfl⟩ := H
   go_enter Try.func43, Try.ntmps43
   go_wp2_with (first | ((with_reducible refine gate_dst (N := 1) rfl ?_); refine box_event (by rfl) (N := 1) (by rfl) (cs := #[.int .i64 a0_0, .int .i64 a0_1, .int .i64 a0_2, .int .i64 a0_3, .bool a0_4, .slice A0_5 l0_5.length c0_5, .slice A0_6 l0_6.length c0_6, .slice A0_7 l0_7.length c0_7]) (t := 55) (by first | (go_simp; done) | (go_simp; rfl)) ?_; intro gb226 hg w18 hbox hb; have n0_ := qm (qt HB.out hb); have n1_ := qm (hbox); have n2_ := qm ((by rw [hg]; exact (qs HB.out) : w.heap.size ≤ gb226)); have n3_ := qm ((by rw [hg]; exact (qs HB.out) : w.heap.size ≤ gb226)); clear HB; have HB := n0_; have BK226 := n1_; have GW226 := n2_; have GE226 := n3_; clear hb hbox hg; obtain ⟨_, _, _, _, _, _, _, _, _, _, _, _, _, _, _, _⟩ := fc8 BK226.out) | ((with_reducible refine gate_callee (f := 39) rfl ?_); refine goesL_ (some 7) rfl rfl Try.func39 (by kernel_rfl) rfl #[.agg #[.int .i64 a0_0, .int .i64 a0_1, .int .i64 a0_2, .int .i64 a0_3, .bool a0_4, .slice A0_5 l0_5.length c0_5, .slice A0_6 l0_6.length c0_6, .slice A0_7 l0_7.length c0_7]] rfl (by (try simp only [m1, m2, m3]); first | done | rfl) ?_; (with_reducible refine (spec_FrameOK.calls k a0_0 a0_1 a0_2 a0_3 a0_4 _ _ l0_5 _ _ l0_6 _ _ l0_7 true _ ?side1 ?side2 ?side3 ?side4 ?side5 ?side6 A2.out).mono ?_); (case side1 => repeat (first | exact (Kd.C_below HR0_5.out HB.out) | (with_reducible refine Kd.C_alloc ?_ _) | (with_reducible refine Kd.C_drewN ?_ _) | (with_reducible refine Kd.C_drew ?_))); (case side2 => exact HC0_5.out); (case side3 => repeat (first | exact (Kd.C_below HR0_6.out HB.out) | (with_reducible refine Kd.C_alloc ?_ _) | (with_reducible refine Kd.C_drewN ?_ _) | (with_reducible refine Kd.C_drew ?_))); (case side4 => exact HC0_6.out); (case side5 => repeat (first | exact (Kd.C_below HR0_7.out HB.out) | (with_reducible refine Kd.C_alloc ?_ _) | (with_reducible refine Kd.C_drewN ?_ _) | (with_reducible refine Kd.C_drew ?_))); (case side6 => exact HC0_7.out); rintro e w20 ⟨rfl, hb⟩; refine ⟨_, rfl, ?_⟩; have n0_ := qm (qv (g := gb226) BK226.out hb); have n1_ := qm (qt HB.out hb); clear BK226; clear HB; have BK226 := n0_; have HB := n1_; obtain ⟨_, _, _, _, _, _, _, _, _, _, _, _, _, _, _, _⟩ := fc8 BK226.out) | ((with_reducible refine gate_dst (N := 13) rfl ?_); refine Kd.R_lit (Kd.int .u8) _ 5 ?hg (N := 13) ?hd (xs := ([(a0_0) % 256] : List Int)) (inner := [.int .u8 ((a0_0) % 256)]) (ok := fun _ => True) (okp := fun _ => True) ?hr ?hp (fun _ hk => hk) trivial (Below.refl _ _) (Nat.le_refl _) (by simp) ?_; (case hd => rfl); (case hg => rfl); (case hr => first | (go_simp; done) | (go_simp; rfl)); (case hp => exact (Reps.one (show Kd.M (Kd.int .u8) _ _ _ ((a0_0) % 256) [.int .u8 ((a0_0) % 256)] from rfl) (Reps.none _ _))); intro v232 w22 ho23 hb hg_ hnew_; clear hg_ hnew_; (first | rw [← Ny231.out] at ho23 | (simp only [Int.reduceToNat] at ho23; rw [← Ny231.out] at ho23)); have n0_ := qm (Kd.R_lower ho23 (qs HB.out)); have n1_ := qm (qv (g := gb226) BK226.out hb); have n2_ := qm (qt HB.out hb); clear BK226; clear HB; have HO233 := n0_; have BK226 := n1_; have HB := n2_; clear hb ho23; obtain ⟨_, _, _, _, _, _, _, _, _, _, _, _, _, _, _, _⟩ := fc8 BK226.out) | ((with_reducible refine gate_callee (f := 79) rfl ?_); refine goesL_ (some 24) rfl rfl Try.func79 (by kernel_rfl) rfl #[.agg #[.int .i64 a0_0, .int .i64 a0_1, .int .i64 a0_2, .int .i64 a0_3, .bool a0_4, .slice A0_5 l0_5.length c0_5, .slice A0_6 l0_6.length c0_6, .slice A0_7 l0_7.length c0_7]] rfl (by (try simp only [m1, m2, m3]); first | done | rfl) ?_; (with_reducible refine (spec_l05AckBytes.calls k a0_0 a0_1 a0_2 a0_3 a0_4 _ _ l0_5 _ _ l0_6 _ _ l0_7 t237 _ ?side1 ?side2 ?side3 ?side4 ?side5 ?side6 A17.out).mono ?_); (case side1 => repeat (first | exact (Kd.C_below HR0_5.out HB.out) | (with_reducible refine Kd.C_alloc ?_ _) | (with_reducible refine Kd.C_drewN ?_ _) | (with_reducible refine Kd.C_drew ?_))); (case side2 => exact HC0_5.out); (case side3 => repeat (first | exact (Kd.C_below HR0_6.out HB.out) | (with_reducible refine Kd.C_alloc ?_ _) | (with_reducible refine Kd.C_drewN ?_ _) | (with_reducible refine Kd.C_drew ?_))); (case side4 => exact HC0_6.out); (case side5 => repeat (first | exact (Kd.C_below HR0_7.out HB.out) | (with_reducible refine Kd.C_alloc ?_ _) | (with_reducible refine Kd.C_drewN ?_ _) | (with_reducible refine Kd.C_drew ?_))); (case side6 => exact HC0_7.out); rintro e w25 ⟨v238, rfl, ho0, hb⟩; refine ⟨_, rfl, ?_⟩; have n0_ := qm (Kd.R_elder' HO233.out (Kd.R_base ho0) hb); have n1_ := qm (Kd.R_lower (Kd.R_new' ho0 (Kd.R_lt HO233.out)) (qs HB.out)); have n2_ := qm (qv (g := gb226) BK226.out hb); have n3_ := qm (qt HB.out hb); clear HO233; clear BK226; clear HB; have HO233 := n0_; have HO239 := n1_; have BK226 := n2_; have HB := n3_))
   go_ret2
   exact ⟨_, by first | rfl | (simp <;> rfl) | (simp [*] <;> rfl), by (with_reducible repeat (first | apply qb | apply qc | apply qd)); exact qg HO239.out (fun _ hk => trivial), HB.out⟩
  rw [if_neg c16] at H
  have c16b0 : (a0_0 == 2) = false := beq_eq_false_iff_ne.mpr c16
  have c16b1 : (a0_0 != 2) = true := bne_iff_ne.mpr c16
  by_cases c26 : a0_0 = 4
  ·rw [if_pos c26] at H
   have c26b0 : (a0_0 == 4) = true := beq_iff_eq.mpr c26
   have c26b1 : (a0_0 != 4) = false := bne_eq_false_iff_eq.mpr c26
   clear c26
   replace H := Option.bind_eq_some_iff.mp H
   obtain ⟨t240, A270, H⟩ := H
   try dsimp only at H
   have A27 := qm A270
   clear A270
   replace H := Option.bind_eq_some_iff.mp H
   obtain ⟨t243, A280, H⟩ := H
   try dsimp only at H
   have A28 := qm A280
   clear A280
   replace H := Option.bind_eq_some_iff.mp H
   obtain ⟨t246, A290, H⟩ := H
   replace H : (some (t246, 0)) = some (r1, r2) := H
   have A29 := qm A290
   clear A290
   simp only [Option.some.injEq, Prod.mk.injEq] at H
   obtain ⟨rfl, rfl⟩ := H
   go_enter Try.func43, Try.ntmps43
   try go_wp2_with (first | ((with_reducible refine gate_dst (N := 1) rfl ?_); refine box_event (by rfl) (N := 1) (by rfl) (cs := #[.int .i64 a0_0, .int .i64 a0_1, .int .i64 a0_2, .int .i64 a0_3, .bool a0_4, .slice A0_5 l0_5.length c0_5, .slice A0_6 l0_6.length c0_6, .slice A0_7 l0_7.length c0_7]) (t := 55) (by first | (go_simp; done) | (go_simp; rfl)) ?_; intro gb226 hg w30 hbox hb; have n0_ := qm (qt HB.out hb); have n1_ := qm (hbox); have n2_ := qm ((by rw [hg]; exact (qs HB.out) : w.heap.size ≤ gb226)); have n3_ := qm ((by rw [hg]; exact (qs HB.out) : w.heap.size ≤ gb226)); clear HB; have HB := n0_; have BK226 := n1_; have GW226 := n2_; have GE226 := n3_; clear hb hbox hg; obtain ⟨_, _, _, _, _, _, _, _, _, _, _, _, _, _, _, _⟩ := fc8 BK226.out) | ((with_reducible refine gate_callee (f := 39) rfl ?_); refine goesL_ (some 7) rfl rfl Try.func39 (by kernel_rfl) rfl #[.agg #[.int .i64 a0_0, .int .i64 a0_1, .int .i64 a0_2, .int .i64 a0_3, .bool a0_4, .slice A0_5 l0_5.length c0_5, .slice A0_6 l0_6.length c0_6, .slice A0_7 l0_7.length c0_7]] rfl (by (try simp only [m1, m2, m3]); first | done | rfl) ?_; (with_reducible refine (spec_FrameOK.calls k a0_0 a0_1 a0_2 a0_3 a0_4 _ _ l0_5 _ _ l0_6 _ _ l0_7 true _ ?side1 ?side2 ?side3 ?side4 ?side5 ?side6 A2.out).mono ?_); (case side1 => repeat (first | exact (Kd.C_below HR0_5.out HB.out) | (with_reducible refine Kd.C_alloc ?_ _) | (with_reducible refine Kd.C_drewN ?_ _) | (with_reducible refine Kd.C_drew ?_))); (case side2 => exact HC0_5.out); (case side3 => repeat (first | exact (Kd.C_below HR0_6.out HB.out) | (with_reducible refine Kd.C_alloc ?_ _) | (with_reducible refine Kd.C_drewN ?_ _) | (with_reducible refine Kd.C_drew ?_))); (case side4 => exact HC0_6.out); (case side5 => repeat (first | exact (Kd.C_below HR0_7.out HB.out) | (with_reducible refine Kd.C_alloc ?_ _) | (with_reducible refine Kd.C_drewN ?_ _) | (with_reducible refine Kd.C_drew ?_))); (case side6 => exact HC0_7.out); rintro e w32 ⟨rfl, hb⟩; refine ⟨_, rfl, ?_⟩; have n0_ := qm (qv (g := gb226) BK226.out hb); have n1_ := qm (qt HB.out hb); clear BK226; clear HB; have BK226 := n0_; have HB := n1_; obtain ⟨_, _, _, _, _, _, _, _, _, _, _, _, _, _, _, _⟩ := fc8 BK226.out) | ((with_reducible refine gate_dst (N := 13) rfl ?_); refine Kd.R_lit (Kd.int .u8) _ 5 ?hg (N := 13) ?hd (xs := ([(a0_0) % 256] : List Int)) (inner := [.int .u8 ((a0_0) % 256)]) (ok := fun _ => True) (okp := fun _ => True) ?hr ?hp (fun _ hk => hk) trivial (Below.refl _ _) (Nat.le_refl _) (by simp) ?_; (case hd => rfl); (case hg => rfl); (case hr => first | (go_simp; done) | (go_simp; rfl)); (case hp => exact (Reps.one (show Kd.M (Kd.int .u8) _ _ _ ((a0_0) % 256) [.int .u8 ((a0_0) % 256)] from rfl) (Reps.none _ _))); intro v232 w34 ho35 hb hg_ hnew_; clear hg_ hnew_; (first | rw [← Ny231.out] at ho35 | (simp only [Int.reduceToNat] at ho35; rw [← Ny231.out] at ho35)); have n0_ := qm (Kd.R_lower ho35 (qs HB.out)); have n1_ := qm (qv (g := gb226) BK226.out hb); have n2_ := qm (qt HB.out hb); clear BK226; clear HB; have HO233 := n0_; have BK226 := n1_; have HB := n2_; clear hb ho35; obtain ⟨_, _, _, _, _, _, _, _, _, _, _, _, _, _, _, _⟩ := fc8 BK226.out))
   have n0_ := qm (qd HO233.out)
   have n1_ := qm (qn BK226.out)
   have n2_ := qm (qj HB.out)
   clear HO233
   clear BK226
   clear HB
   have HO233 := n0_
   have BK226 := n1_
   have HB := n2_
   clear n0_ n1_ n2_
   obtain ⟨Ao38, co38, eo38⟩ := Kd.R_slice HO233.out
   (first | subst eo38 | (injection eo38 with f1_ f2_ f3_; have f4_ := f1_.symm; have f5_ := f3_.symm; clear f1_ f2_ f3_; subst f4_; subst f5_))
   refine start_ (n := 11) (S := fun w' => w'.cell? ⟨gb226, 0, none⟩ = some (.int .i64 a0_0) ∧ w'.cell? ⟨gb226, 1, none⟩ = some (.int .i64 a0_1) ∧ w'.cell? ⟨gb226, 2, none⟩ = some (.int .i64 a0_2) ∧ w'.cell? ⟨gb226, 3, none⟩ = some (.int .i64 a0_3) ∧ w'.cell? ⟨gb226, 4, none⟩ = some (.bool a0_4) ∧ w'.cell? ⟨gb226, 5, none⟩ = some (.slice A0_5 l0_5.length c0_5) ∧ w'.cell? ⟨gb226, 6, none⟩ = some (.slice A0_6 l0_6.length c0_6) ∧ w'.cell? ⟨gb226, 7, none⟩ = some (.slice A0_7 l0_7.length c0_7)) (ds := []) (bm 0 11) (by kernel_rfl) rfl rfl (fz8 BK226.out) (fun hHeld => ?_); refine with_tabW spec_FrameBytes.tab10 spec_FrameBytes.bits10 (fun HT_ HW_ => ?_)
   generalize w34.drew = w37 at HO233 BK226 HB hHeld ⊢
   refine pu 0 27 (bm 1 11) HT_ (h := ⟨_, by intro w'; go_simp; with_reducible rfl, _, by simp only [Act.put, s1, s2, s3, i64_w, i32_w]; rfl, ?_⟩)
   refine pu 1 28 (bm 2 11) HT_ (h := ⟨_, by intro w'; go_simp; with_reducible rfl, _, by simp only [Act.put, s1, s2, s3, i64_w, i32_w]; rfl, ?_⟩)
   refine pu 4 31 (bb 19 11) HT_ (h := ⟨_, by intro w'; go_simp; with_reducible rfl, _, by simp only [Act.put, s1, s2, s3, i64_w, i32_w]; rfl, ?_⟩)
   refine pu 7 34 (bb 147 11) HT_ (h := ⟨_, by intro w'; go_simp; with_reducible rfl, _, by simp only [Act.put, s1, s2, s3, i64_w, i32_w]; rfl, ?_⟩)
   refine tk 2 29 (bb 151 11) HT_ HW_ (hS := hHeld) (h := ⟨_, by rintro w' ⟨s0, s1, s2, s3, s4, s5, s6, s7⟩; go_simp; with_reducible rfl, _, by simp only [Act.put, s1, s2, s3, i64_w, i32_w]; rfl, ?_⟩)
   refine tk 5 32 (bb 183 11) HT_ HW_ (hS := hHeld) (h := ⟨_, by rintro w' ⟨s0, s1, s2, s3, s4, s5, s6, s7⟩; go_simp; with_reducible rfl, _, by simp only [Act.put, s1, s2, s3, i64_w, i32_w]; rfl, ?_⟩)
   refine tk 8 35 (bb 439 11) HT_ HW_ (hS := hHeld) (h := ⟨_, by rintro w' ⟨s0, s1, s2, s3, s4, s5, s6, s7⟩; go_simp; with_reducible rfl, _, by simp only [Act.put, s1, s2, s3, i64_w, i32_w]; rfl, ?_⟩)
   refine one_ (i := 3) (N := some 30) (bb 447 11) rfl rfl (one_of HT_.out (by kernel_rfl)) (by decide) (fun K hK => ?_)
   refine goes_ Try.func80 (by kernel_rfl) rfl #[.slice Ao38 y231.length co38, .int .i64 a0_1] (by rfl) rfl rfl (by (try simp only [m1, m2, m3]); first | done | rfl) ?_
   with_reducible refine (spec_l05N.calls k (fun k_ => some k_ = (.slice Ao38 y231.length co38 : Value).ownBlock) (.slice Ao38 y231.length co38) y231 a0_1 t240 w _ ?side1 ?side2 A27.out).mono ?_
   (case side1 => repeat (first | (with_reducible first | exact HB.out | apply qh | apply qi | apply qj | refine qk ?_ GE226.out) | exact HB.out))
   (case side2 => exact Kd.R_tight rfl HO233.out)
   rintro e w39 ⟨v241, rfl, ho0, hb, hkp⟩
   refine ⟨_, rfl, ?_⟩
   have n0_ := qm (blk_kept BK226.out hkp (fun hs_ => (fun e_ => (Kd.R_ne HO233.out BK226.out (by decide)) e_) hs_))
   have n1_ := qm (qg (ok' := fun k_ => True) ho0 (fun k_ hk_ => trivial))
   have n2_ := qm (hb)
   clear BK226
   clear HB
   clear HO233
   have BK226 := n0_
   have HO242 := n1_
   have HB := n2_
   clear n0_ n1_ n2_
   (try clear hb)
   (try clear hkp)
   (try clear ho0)
   obtain ⟨Ao40, co40, eo40⟩ := Kd.R_slice HO242.out
   (first | subst eo40 | (injection eo40 with f1_ f2_ f3_; have f4_ := f1_.symm; have f5_ := f3_.symm; clear f1_ f2_ f3_; subst f4_; subst f5_))
   refine hK.out _ _ (fz8 BK226.out) (fun hHeld => ?_)
   clear hK K
   refine norm_ (a' := ?_) ?_ ?_
   rotate_left
   ·show Act.put _ (some 30) _ = _
    simp only [Act.put, s1, s2, s3, i64_w, i32_w]
    rfl
   refine one_ (i := 6) (N := some 33) (bm 9 11) rfl rfl (one_of HT_.out (by kernel_rfl)) (by decide) (fun K hK => ?_)
   refine goes_ Try.func80 (by kernel_rfl) rfl #[.slice Ao40 t240.length co40, .int .i64 a0_2] (by rfl) rfl rfl (by (try simp only [m1, m2, m3]); first | done | rfl) ?_
   with_reducible refine (spec_l05N.calls k (fun k_ => some k_ = (.slice Ao40 t240.length co40 : Value).ownBlock) (.slice Ao40 t240.length co40) t240 a0_2 t243 w _ ?side1 ?side2 A28.out).mono ?_
   (case side1 => repeat (first | (with_reducible first | exact HB.out | apply qh | apply qi | apply qj | refine qk ?_ GE226.out) | exact HB.out))
   (case side2 => exact Kd.R_tight rfl HO242.out)
   rintro e w41 ⟨v244, rfl, ho0, hb, hkp⟩
   refine ⟨_, rfl, ?_⟩
   have n0_ := qm (blk_kept BK226.out hkp (fun hs_ => (fun e_ => (Kd.R_ne HO242.out BK226.out (by decide)) e_) hs_))
   have n1_ := qm (qg (ok' := fun k_ => True) ho0 (fun k_ hk_ => trivial))
   have n2_ := qm (hb)
   clear BK226
   clear HB
   clear HO242
   have BK226 := n0_
   have HO245 := n1_
   have HB := n2_
   clear n0_ n1_ n2_
   (try clear hb)
   (try clear hkp)
   (try clear ho0)
   obtain ⟨Ao42, co42, eo42⟩ := Kd.R_slice HO245.out
   (first | subst eo42 | (injection eo42 with f1_ f2_ f3_; have f4_ := f1_.symm; have f5_ := f3_.symm; clear f1_ f2_ f3_; subst f4_; subst f5_))
   refine hK.out _ _ (fz8 BK226.out) (fun hHeld => ?_)
   clear hK K
   refine norm_ (a' := ?_) ?_ ?_
   rotate_left
   ·show Act.put _ (some 33) _ = _
    simp only [Act.put, s1, s2, s3, i64_w, i32_w]
    rfl
   refine one_ (i := 9) (N := some 36) (bm 10 11) rfl rfl (one_of HT_.out (by kernel_rfl)) (by decide) (fun K hK => ?_)
   refine goes_ Try.func80 (by kernel_rfl) rfl #[.slice Ao42 t243.length co42, .int .i64 a0_3] (by rfl) rfl rfl (by (try simp only [m1, m2, m3]); first | done | rfl) ?_
   with_reducible refine (spec_l05N.calls k (fun k_ => some k_ = (.slice Ao42 t243.length co42 : Value).ownBlock) (.slice Ao42 t243.length co42) t243 a0_3 t246 w _ ?side1 ?side2 A29.out).mono ?_
   (case side1 => repeat (first | (with_reducible first | exact HB.out | apply qh | apply qi | apply qj | refine qk ?_ GE226.out) | exact HB.out))
   (case side2 => exact Kd.R_tight rfl HO245.out)
   rintro e w43 ⟨v247, rfl, ho0, hb, hkp⟩
   refine ⟨_, rfl, ?_⟩
   have n0_ := qm (blk_kept BK226.out hkp (fun hs_ => (fun e_ => (Kd.R_ne HO245.out BK226.out (by decide)) e_) hs_))
   have n1_ := qm (qg (ok' := fun k_ => True) ho0 (fun k_ hk_ => trivial))
   have n2_ := qm (hb)
   clear BK226
   clear HB
   clear HO245
   have BK226 := n0_
   have HO248 := n1_
   have HB := n2_
   clear n0_ n1_ n2_
   (try clear hb)
   (try clear hkp)
   (try clear ho0)
   refine hK.out _ _ (fz8 BK226.out) (fun hHeld => ?_)
   clear hK K
   refine norm_ (a' := ?_) ?_ ?_
   rotate_left
   ·show Act.put _ (some 36) _ = _
    simp only [Act.put, s1, s2, s3, i64_w, i32_w]
    rfl
   refine pu 10 4 (bm 11 11) HT_ (h := ⟨_, by intro w'; go_simp; with_reducible rfl, _, by simp only [Act.put, s1, s2, s3, i64_w, i32_w]; rfl, ?_⟩)
   refine done_ (done_of HT_.out (by kernel_rfl)) ?_
   try go_wp2
   go_ret2
   exact ⟨_, by first | rfl | (simp <;> rfl) | (simp [*] <;> rfl), HO248.out, HB.out⟩
  rw [if_neg c26] at H
  have c26b0 : (a0_0 == 4) = false := beq_eq_false_iff_ne.mpr c26
  have c26b1 : (a0_0 != 4) = true := bne_iff_ne.mpr c26
  have HC44 := qm H
  clear H
  go_enter Try.func43, Try.ntmps43
  go_upto_if 37 with (first | ((with_reducible refine gate_dst (N := 1) rfl ?_); refine box_event (by rfl) (N := 1) (by rfl) (cs := #[.int .i64 a0_0, .int .i64 a0_1, .int .i64 a0_2, .int .i64 a0_3, .bool a0_4, .slice A0_5 l0_5.length c0_5, .slice A0_6 l0_6.length c0_6, .slice A0_7 l0_7.length c0_7]) (t := 55) (by first | (go_simp; done) | (go_simp; rfl)) ?_; intro gb226 hg w45 hbox hb; have n0_ := qm (qt HB.out hb); have n1_ := qm (hbox); have n2_ := qm ((by rw [hg]; exact (qs HB.out) : w.heap.size ≤ gb226)); have n3_ := qm ((by rw [hg]; exact (qs HB.out) : w.heap.size ≤ gb226)); clear HB; have HB := n0_; have BK226 := n1_; have GW226 := n2_; have GE226 := n3_; clear hb hbox hg; obtain ⟨_, _, _, _, _, _, _, _, _, _, _, _, _, _, _, _⟩ := fc8 BK226.out) | ((with_reducible refine gate_callee (f := 39) rfl ?_); refine goesL_ (some 7) rfl rfl Try.func39 (by kernel_rfl) rfl #[.agg #[.int .i64 a0_0, .int .i64 a0_1, .int .i64 a0_2, .int .i64 a0_3, .bool a0_4, .slice A0_5 l0_5.length c0_5, .slice A0_6 l0_6.length c0_6, .slice A0_7 l0_7.length c0_7]] rfl (by (try simp only [m1, m2, m3]); first | done | rfl) ?_; (with_reducible refine (spec_FrameOK.calls k a0_0 a0_1 a0_2 a0_3 a0_4 _ _ l0_5 _ _ l0_6 _ _ l0_7 true _ ?side1 ?side2 ?side3 ?side4 ?side5 ?side6 A2.out).mono ?_); (case side1 => repeat (first | exact (Kd.C_below HR0_5.out HB.out) | (with_reducible refine Kd.C_alloc ?_ _) | (with_reducible refine Kd.C_drewN ?_ _) | (with_reducible refine Kd.C_drew ?_))); (case side2 => exact HC0_5.out); (case side3 => repeat (first | exact (Kd.C_below HR0_6.out HB.out) | (with_reducible refine Kd.C_alloc ?_ _) | (with_reducible refine Kd.C_drewN ?_ _) | (with_reducible refine Kd.C_drew ?_))); (case side4 => exact HC0_6.out); (case side5 => repeat (first | exact (Kd.C_below HR0_7.out HB.out) | (with_reducible refine Kd.C_alloc ?_ _) | (with_reducible refine Kd.C_drewN ?_ _) | (with_reducible refine Kd.C_drew ?_))); (case side6 => exact HC0_7.out); rintro e w47 ⟨rfl, hb⟩; refine ⟨_, rfl, ?_⟩; have n0_ := qm (qv (g := gb226) BK226.out hb); have n1_ := qm (qt HB.out hb); clear BK226; clear HB; have BK226 := n0_; have HB := n1_; obtain ⟨_, _, _, _, _, _, _, _, _, _, _, _, _, _, _, _⟩ := fc8 BK226.out) | ((with_reducible refine gate_dst (N := 13) rfl ?_); refine Kd.R_lit (Kd.int .u8) _ 5 ?hg (N := 13) ?hd (xs := ([(a0_0) % 256] : List Int)) (inner := [.int .u8 ((a0_0) % 256)]) (ok := fun _ => True) (okp := fun _ => True) ?hr ?hp (fun _ hk => hk) trivial (Below.refl _ _) (Nat.le_refl _) (by simp) ?_; (case hd => rfl); (case hg => rfl); (case hr => first | (go_simp; done) | (go_simp; rfl)); (case hp => exact (Reps.one (show Kd.M (Kd.int .u8) _ _ _ ((a0_0) % 256) [.int .u8 ((a0_0) % 256)] from rfl) (Reps.none _ _))); intro v232 w49 ho50 hb hg_ hnew_; clear hg_ hnew_; (first | rw [← Ny231.out] at ho50 | (simp only [Int.reduceToNat] at ho50; rw [← Ny231.out] at ho50)); have n0_ := qm (Kd.R_lower ho50 (qs HB.out)); have n1_ := qm (qv (g := gb226) BK226.out hb); have n2_ := qm (qt HB.out hb); clear BK226; clear HB; have HO233 := n0_; have BK226 := n1_; have HB := n2_; clear hb ho50; obtain ⟨_, _, _, _, _, _, _, _, _, _, _, _, _, _, _, _⟩ := fc8 BK226.out))
  (try simp only [Act.put, s1, s2, s3])
  go_cut [37] (fun v37 wc => ∃ (kq : Nat) (x37_43 : Bool), v37 = .bool x37_43 ∧ Aside0 (spec_FrameBytes.j0 kq y231 a0_0 x37_43 a0_0 a0_1 a0_2 a0_3 a0_4 l0_5 l0_6 l0_7 = some (r1, r2)) ∧ Aside0 (kq ≤ k) ∧ Aside0 (Kd.R (Kd.int .u8) 5 wc w.heap.size (fun _ => True) v232 y231) ∧ Aside0 (wc.heap[gb226]? = some (.cells #[.int .i64 a0_0, .int .i64 a0_1, .int .i64 a0_2, .int .i64 a0_3, .bool a0_4, (.slice A0_5 l0_5.length c0_5), (.slice A0_6 l0_6.length c0_6), (.slice A0_7 l0_7.length c0_7)] 55 (0, 0))) ∧ Aside0 (Below w.heap.size w wc))
  case first =>
   have H := HC44.out
   clear HC44
   by_cases c52 : a0_0 = 5
   ·rw [if_pos c52] at H
    have c52b0 : (a0_0 == 5) = true := beq_iff_eq.mpr c52
    have c52b1 : (a0_0 != 5) = false := bne_eq_false_iff_eq.mpr c52
    clear c52
    (first | rw [c52b0] | (simp only [i64_w, i32_w]; rw [c52b0]) | skip)
    have H' := qm H
    clear H
    go_wp2
    go_meet
    case rel => exact ⟨_, ((a0_0 == 5)), (by first | rfl | (simp; done) | (simp [*]; done)), H', ⟨by first | omega | exact Nat.le_refl _⟩, ⟨by (with_reducible repeat (first | apply qb | apply qc | apply qd)); exact HO233.out⟩, ⟨BK226.out⟩, ⟨by repeat (first | (with_reducible first | exact HB.out | apply qh | apply qi | apply qj | refine qk ?_ GE226.out) | exact HB.out)⟩⟩
   rw [if_neg c52] at H
   have c52b0 : (a0_0 == 5) = false := beq_eq_false_iff_ne.mpr c52
   have c52b1 : (a0_0 != 5) = true := bne_iff_ne.mpr c52
   (first | rw [c52b0] | (simp only [i64_w, i32_w]; rw [c52b0]) | skip)
   by_cases c53 : a0_0 = 17
   ·rw [if_pos c53] at H
    have c53b0 : (a0_0 == 17) = true := beq_iff_eq.mpr c53
    have c53b1 : (a0_0 != 17) = false := bne_eq_false_iff_eq.mpr c53
    clear c53
    have H' := qm H
    clear H
    go_wp2
    go_meet
    case rel => exact ⟨_, ((a0_0 == 17)), (by first | rfl | (simp; done) | (simp [*]; done)), H', ⟨by first | omega | exact Nat.le_refl _⟩, ⟨by (with_reducible repeat (first | apply qb | apply qc | apply qd)); exact HO233.out⟩, ⟨BK226.out⟩, ⟨by repeat (first | (with_reducible first | exact HB.out | apply qh | apply qi | apply qj | refine qk ?_ GE226.out) | exact HB.out)⟩⟩
   rw [if_neg c53] at H
   have c53b0 : (a0_0 == 17) = false := beq_eq_false_iff_ne.mpr c53
   have c53b1 : (a0_0 != 17) = true := bne_iff_ne.mpr c53
   have H' := qm H
   clear H
   go_wp2
   go_meet
   case rel => exact ⟨_, ((a0_0 == 21)), rfl, H', ⟨by first | omega | exact Nat.le_refl _⟩, ⟨HO233.out⟩, ⟨BK226.out⟩, ⟨HB.out⟩⟩
  clear HC44
  try clear c3
  try clear c4
  try clear c4b0
  try clear c4b1
  try clear c16
  try clear c16b0
  try clear c16b1
  try clear c26
  try clear c26b0
  try clear c26b1
  obtain ⟨kq, x37_43, rfl, HA, HJ43, HO_4, BK226, HB⟩ := hcut
  cases kq with
  | zero => exact absurd HA.out (by simp [spec_FrameBytes.j0])
  | succ kj43 => ?_
  have H := HA.out
  clear HA
  simp only [spec_FrameBytes.j0] at H
  by_cases c54 : x37_43 = true
  ·subst c54
   rw [if_pos rfl] at H
   replace H := Option.bind_eq_some_iff.mp H
   obtain ⟨t249, A550, H⟩ := H
   try dsimp only at H
   have A55 := qm A550
   clear A550
   replace H := Option.bind_eq_some_iff.mp H
   obtain ⟨t252, A560, H⟩ := H
   replace H : (some (t252, 0)) = some (r1, r2) := H
   have A56 := qm A560
   clear A560
   simp only [Option.some.injEq, Prod.mk.injEq] at H
   obtain ⟨rfl, rfl⟩ := H
   try go_wp2
   have n0_ := qm (qd HO_4.out)
   have n1_ := qm (qn BK226.out)
   have n2_ := qm (qj HB.out)
   clear HO_4
   clear BK226
   clear HB
   have HO_4 := n0_
   have BK226 := n1_
   have HB := n2_
   clear n0_ n1_ n2_
   obtain ⟨Ao58, co58, eo58⟩ := Kd.R_slice HO_4.out
   (first | subst eo58 | (injection eo58 with f1_ f2_ f3_; have f4_ := f1_.symm; have f5_ := f3_.symm; clear f1_ f2_ f3_; subst f4_; subst f5_))
   refine start_ (n := 8) (S := fun w' => w'.cell? ⟨gb226, 0, none⟩ = some (.int .i64 a0_0) ∧ w'.cell? ⟨gb226, 1, none⟩ = some (.int .i64 a0_1) ∧ w'.cell? ⟨gb226, 2, none⟩ = some (.int .i64 a0_2) ∧ w'.cell? ⟨gb226, 3, none⟩ = some (.int .i64 a0_3) ∧ w'.cell? ⟨gb226, 4, none⟩ = some (.bool a0_4) ∧ w'.cell? ⟨gb226, 5, none⟩ = some (.slice A0_5 l0_5.length c0_5) ∧ w'.cell? ⟨gb226, 6, none⟩ = some (.slice A0_6 l0_6.length c0_6) ∧ w'.cell? ⟨gb226, 7, none⟩ = some (.slice A0_7 l0_7.length c0_7)) (ds := []) (bm 0 8) (by kernel_rfl) rfl rfl (fz8 BK226.out) (fun hHeld => ?_); refine with_tabW spec_FrameBytes.tab14 spec_FrameBytes.bits14 (fun HT_ HW_ => ?_)
   generalize wc.drew = w57 at HO_4 BK226 HB hHeld ⊢
   refine pu 0 41 (bm 1 8) HT_ (h := ⟨_, by intro w'; go_simp; with_reducible rfl, _, by simp only [Act.put, s1, s2, s3, i64_w, i32_w]; rfl, ?_⟩)
   refine pu 1 42 (bm 2 8) HT_ (h := ⟨_, by intro w'; go_simp; with_reducible rfl, _, by simp only [Act.put, s1, s2, s3, i64_w, i32_w]; rfl, ?_⟩)
   refine pu 4 45 (bb 19 8) HT_ (h := ⟨_, by intro w'; go_simp; with_reducible rfl, _, by simp only [Act.put, s1, s2, s3, i64_w, i32_w]; rfl, ?_⟩)
   refine tk 2 43 (bb 23 8) HT_ HW_ (hS := hHeld) (h := ⟨_, by rintro w' ⟨s0, s1, s2, s3, s4, s5, s6, s7⟩; go_simp; with_reducible rfl, _, by simp only [Act.put, s1, s2, s3, i64_w, i32_w]; rfl, ?_⟩)
   refine tk 5 46 (bb 55 8) HT_ HW_ (hS := hHeld) (h := ⟨_, by rintro w' ⟨s0, s1, s2, s3, s4, s5, s6, s7⟩; go_simp; with_reducible rfl, _, by simp only [Act.put, s1, s2, s3, i64_w, i32_w]; rfl, ?_⟩)
   refine one_ (i := 3) (N := some 44) (bm 6 8) rfl rfl (one_of HT_.out (by kernel_rfl)) (by decide) (fun K hK => ?_)
   refine goes_ Try.func80 (by kernel_rfl) rfl #[.slice Ao58 y231.length co58, .int .i64 a0_1] (by rfl) rfl rfl (by (try simp only [m1, m2, m3]); first | done | rfl) ?_
   with_reducible refine (spec_l05N.calls kj43 (fun k_ => some k_ = (.slice Ao58 y231.length co58 : Value).ownBlock) (.slice Ao58 y231.length co58) y231 a0_1 t249 w _ ?side1 ?side2 A55.out).mono ?_
   (case side1 => repeat (first | (with_reducible first | exact HB.out | apply qh | apply qi | apply qj | refine qk ?_ GE226.out) | exact HB.out))
   (case side2 => exact Kd.R_tight rfl HO_4.out)
   rintro e w59 ⟨v250, rfl, ho0, hb, hkp⟩
   refine ⟨_, rfl, ?_⟩
   have n0_ := qm (blk_kept BK226.out hkp (fun hs_ => (fun e_ => (Kd.R_ne HO_4.out BK226.out (by decide)) e_) hs_))
   have n1_ := qm (qg (ok' := fun k_ => True) ho0 (fun k_ hk_ => trivial))
   have n2_ := qm (hb)
   clear BK226
   clear HB
   clear HO_4
   have BK226 := n0_
   have HO251 := n1_
   have HB := n2_
   clear n0_ n1_ n2_
   (try clear hb)
   (try clear hkp)
   (try clear ho0)
   obtain ⟨Ao60, co60, eo60⟩ := Kd.R_slice HO251.out
   (first | subst eo60 | (injection eo60 with f1_ f2_ f3_; have f4_ := f1_.symm; have f5_ := f3_.symm; clear f1_ f2_ f3_; subst f4_; subst f5_))
   refine hK.out _ _ (fz8 BK226.out) (fun hHeld => ?_)
   clear hK K
   refine norm_ (a' := ?_) ?_ ?_
   rotate_left
   ·show Act.put _ (some 44) _ = _
    simp only [Act.put, s1, s2, s3, i64_w, i32_w]
    rfl
   refine one_ (i := 6) (N := some 47) (bm 7 8) rfl rfl (one_of HT_.out (by kernel_rfl)) (by decide) (fun K hK => ?_)
   refine goes_ Try.func80 (by kernel_rfl) rfl #[.slice Ao60 t249.length co60, .int .i64 a0_2] (by rfl) rfl rfl (by (try simp only [m1, m2, m3]); first | done | rfl) ?_
   with_reducible refine (spec_l05N.calls kj43 (fun k_ => some k_ = (.slice Ao60 t249.length co60 : Value).ownBlock) (.slice Ao60 t249.length co60) t249 a0_2 t252 w _ ?side1 ?side2 A56.out).mono ?_
   (case side1 => repeat (first | (with_reducible first | exact HB.out | apply qh | apply qi | apply qj | refine qk ?_ GE226.out) | exact HB.out))
   (case side2 => exact Kd.R_tight rfl HO251.out)
   rintro e w61 ⟨v253, rfl, ho0, hb, hkp⟩
   refine ⟨_, rfl, ?_⟩
   have n0_ := qm (blk_kept BK226.out hkp (fun hs_ => (fun e_ => (Kd.R_ne HO251.out BK226.out (by decide)) e_) hs_))
   have n1_ := qm (qg (ok' := fun k_ => True) ho0 (fun k_ hk_ => trivial))
   have n2_ := qm (hb)
   clear BK226
   clear HB
   clear HO251
   have BK226 := n0_
   have HO254 := n1_
   have HB := n2_
   clear n0_ n1_ n2_
   (try clear hb)
   (try clear hkp)
   (try clear ho0)
   refine hK.out _ _ (fz8 BK226.out) (fun hHeld => ?_)
   clear hK K
   refine norm_ (a' := ?_) ?_ ?_
   rotate_left
   ·show Act.put _ (some 47) _ = _
    simp only [Act.put, s1, s2, s3, i64_w, i32_w]
    rfl
   refine pu 7 4 (bm 8 8) HT_ (h := ⟨_, by intro w'; go_simp; with_reducible rfl, _, by simp only [Act.put, s1, s2, s3, i64_w, i32_w]; rfl, ?_⟩)
   refine done_ (done_of HT_.out (by kernel_rfl)) ?_
   try go_wp2
   go_ret2
   exact ⟨_, by first | rfl | (simp <;> rfl) | (simp [*] <;> rfl), HO254.out, HB.out⟩
  replace c54 := Bool.eq_false_iff.mpr c54
  subst c54
  rw [if_neg nt] at H
  have HC62 := qm H
  clear H
  go_upto_if 48 with (fail)
  go_cut [48] (fun v48 wc => ∃ (kq : Nat) (x48_61 : Bool), v48 = .bool x48_61 ∧ Aside0 (spec_FrameBytes.j1 kq y231 a0_0 x48_61 a0_0 a0_1 a0_2 a0_3 a0_4 l0_5 l0_6 l0_7 = some (r1, r2)) ∧ Aside0 (kq ≤ kj43) ∧ Aside0 (Kd.R (Kd.int .u8) 5 wc w.heap.size (fun _ => True) v232 y231) ∧ Aside0 (wc.heap[gb226]? = some (.cells #[.int .i64 a0_0, .int .i64 a0_1, .int .i64 a0_2, .int .i64 a0_3, .bool a0_4, (.slice A0_5 l0_5.length c0_5), (.slice A0_6 l0_6.length c0_6), (.slice A0_7 l0_7.length c0_7)] 55 (0, 0))) ∧ Aside0 (Below w.heap.size w wc))
  case first =>
   have H := HC62.out
   clear HC62
   by_cases c63 : a0_0 = 18
   ·rw [if_pos c63] at H
    have c63b0 : (a0_0 == 18) = true := beq_iff_eq.mpr c63
    have c63b1 : (a0_0 != 18) = false := bne_eq_false_iff_eq.mpr c63
    clear c63
    (first | rw [c63b0] | (simp only [i64_w, i32_w]; rw [c63b0]) | skip)
    have H' := qm H
    clear H
    go_wp2
    go_meet
    case rel => exact ⟨_, ((a0_0 == 18)), (by first | rfl | (simp; done) | (simp [*]; done)), H', ⟨by have := HJ43.out; first | omega | exact Nat.le_refl _⟩, ⟨by (with_reducible repeat (first | apply qb | apply qc | apply qd)); exact HO_4.out⟩, ⟨BK226.out⟩, ⟨by repeat (first | (with_reducible first | exact HB.out | apply qh | apply qi | apply qj | refine qk ?_ GE226.out) | exact HB.out)⟩⟩
   rw [if_neg c63] at H
   have c63b0 : (a0_0 == 18) = false := beq_eq_false_iff_ne.mpr c63
   have c63b1 : (a0_0 != 18) = true := bne_iff_ne.mpr c63
   (first | rw [c63b0] | (simp only [i64_w, i32_w]; rw [c63b0]) | skip)
   have H' := qm H
   clear H
   go_wp2
   go_meet
   case rel => exact ⟨_, ((a0_0 == 22)), rfl, H', ⟨by have := HJ43.out; omega⟩, ⟨HO_4.out⟩, ⟨BK226.out⟩, ⟨HB.out⟩⟩
  clear HC62
  try clear c3
  try clear c4
  try clear c4b0
  try clear c4b1
  try clear c16
  try clear c16b0
  try clear c16b1
  try clear c26
  try clear c26b0
  try clear c26b1
  try clear c54
  obtain ⟨kq, x48_61, rfl, HA, HJ61, HO_4, BK226, HB⟩ := hcut
  cases kq with
  | zero => exact absurd HA.out (by simp [spec_FrameBytes.j1])
  | succ kj61 => ?_
  have H := HA.out
  clear HA
  simp only [spec_FrameBytes.j1] at H
  by_cases c64 : x48_61 = true
  ·subst c64
   rw [if_pos rfl] at H
   obtain ⟨y255, hy255⟩ : ∃ y_ : List Int, y_ = (([(wrap64 (a0_0 + a0_2)) % 256] : List Int)) := ⟨_, rfl⟩
   replace H : ((spec_l05N.f kj61 y255 a0_1).bind fun t258 => (some (t258, 0))) = some (r1, r2) := by first | (rw [hy255]; with_reducible exact H) | (have H2_ := (Option.bind_some _ _).symm.trans H; rw [hy255]; with_reducible exact H2_) | (have H2_ := (Option.bind_some _ _).symm.trans H; with_reducible exact H2_) | with_reducible exact H | (rw [hy255]; exact H) | exact H
   have Ny255 := qm hy255
   clear hy255
   replace H := Option.bind_eq_some_iff.mp H
   obtain ⟨t258, A650, H⟩ := H
   replace H : (some (t258, 0)) = some (r1, r2) := H
   have A65 := qm A650
   clear A650
   simp only [Option.some.injEq, Prod.mk.injEq] at H
   obtain ⟨rfl, rfl⟩ := H
   obtain ⟨_, _, _, _, _, _, _, _, _, _, _, _, _, _, _, _⟩ := fc8 BK226.out
   go_wp2_with (first | ((with_reducible refine gate_dst (N := 57) rfl ?_); refine Kd.R_lit (Kd.int .u8) _ 5 ?hg (N := 57) ?hd (xs := ([(wrap64 (a0_0 + a0_2)) % 256] : List Int)) (inner := [.int .u8 ((wrap64 (a0_0 + a0_2)) % 256)]) (ok := fun _ => True) (okp := fun _ => True) ?hr ?hp (fun _ hk => hk) trivial (Below.refl _ _) (Nat.le_refl _) (by simp) ?_; (case hd => rfl); (case hg => rfl); (case hr => first | (go_simp; done) | (go_simp; rfl)); (case hp => exact (Reps.one (show Kd.M (Kd.int .u8) _ _ _ ((wrap64 (a0_0 + a0_2)) % 256) [.int .u8 ((wrap64 (a0_0 + a0_2)) % 256)] from rfl) (Reps.none _ _))); intro v256 w67 ho68 hb hg_ hnew_; clear hg_ hnew_; (first | rw [← Ny255.out] at ho68 | (simp only [Int.reduceToNat] at ho68; rw [← Ny255.out] at ho68)); have n0_ := qm (Kd.R_elder' HO_4.out (Kd.R_base ho68) hb); have n1_ := qm (Kd.R_lower (Kd.R_new' ho68 (Kd.R_lt HO_4.out)) (qs HB.out)); have n2_ := qm (qv (g := gb226) BK226.out hb); have n3_ := qm (qt HB.out hb); clear HO_4; clear BK226; clear HB; have HO_4 := n0_; have HO257 := n1_; have BK226 := n2_; have HB := n3_; clear hb ho68; obtain ⟨_, _, _, _, _, _, _, _, _, _, _, _, _, _, _, _⟩ := fc8 BK226.out; obtain ⟨Ao70, co70, eo70⟩ := Kd.R_slice HO257.out; subst eo70) | ((with_reducible refine gate_callee (f := 80) rfl ?_); refine goesL_ (some 60) rfl rfl Try.func80 (by kernel_rfl) rfl #[.slice Ao70 y255.length co70, .int .i64 a0_1] rfl (by (try simp only [m1, m2, m3]); first | done | rfl) ?_; (with_reducible refine (spec_l05N.calls kj61 (fun k_ => some k_ = (.slice Ao70 y255.length co70 : Value).ownBlock) (.slice Ao70 y255.length co70) y255 a0_1 t258 w _ ?side1 ?side2 A65.out).mono ?_); (case side1 => repeat (first | (with_reducible first | exact HB.out | apply qh | apply qi | apply qj | refine qk ?_ GE226.out) | exact HB.out)); (case side2 => exact Kd.R_tight rfl HO257.out); rintro e w71 ⟨v259, rfl, ho0, hb, hkp⟩; refine ⟨_, rfl, ?_⟩; have n0_ := qm (qg (ok' := fun k_ => some k_ ≠ (v259 : Value).ownBlock) (Kd.R_keptB (HO_4.out) hkp (fun k_ hk_ hs_ => (hk_.2) hs_)) (fun k_ hk_ => fun e_ => Or.elim (ho0.1 k_ e_.symm) (fun hs_ => hk_.2.1 hs_) (fun hn_ => Nat.not_le.2 hk_.2.2 hn_))); have n1_ := qm (blk_kept BK226.out hkp (fun hs_ => (fun e_ => (Kd.R_ne HO257.out BK226.out (by decide)) e_) hs_)); have n2_ := qm (qg (ok' := fun k_ => some k_ ≠ (v232 : Value).ownBlock) ho0 (fun k_ hk_ => Or.elim hk_ (fun hs_ => fun e_ => (((HO_4.out).1 k_ e_.symm).2) hs_) (fun hn_ => (Kd.fresh' (Kd.R_lt HO_4.out) k_ hn_)))); have n3_ := qm (hb); clear HO_4; clear BK226; clear HB; clear HO257; have HO_4 := n0_; have BK226 := n1_; have HO260 := n2_; have HB := n3_))
   go_ret2
   exact ⟨_, by first | rfl | (simp <;> rfl) | (simp [*] <;> rfl), by (with_reducible repeat (first | apply qb | apply qc | apply qd)); exact qg HO260.out (fun _ hk => trivial), HB.out⟩
  replace c64 := Bool.eq_false_iff.mpr c64
  subst c64
  rw [if_neg nt] at H
  have HC72 := qm H
  clear H
  go_upto_if 61 with (fail)
  go_cut [61] (fun v61 wc => ∃ (kq : Nat) (x61_71 : Bool), v61 = .bool x61_71 ∧ Aside0 (spec_FrameBytes.j2 kq y231 a0_0 x61_71 a0_0 a0_1 a0_2 a0_3 a0_4 l0_5 l0_6 l0_7 = some (r1, r2)) ∧ Aside0 (kq ≤ kj61) ∧ Aside0 (Kd.R (Kd.int .u8) 5 wc w.heap.size (fun _ => True) v232 y231) ∧ Aside0 (wc.heap[gb226]? = some (.cells #[.int .i64 a0_0, .int .i64 a0_1, .int .i64 a0_2, .int .i64 a0_3, .bool a0_4, (.slice A0_5 l0_5.length c0_5), (.slice A0_6 l0_6.length c0_6), (.slice A0_7 l0_7.length c0_7)] 55 (0, 0))) ∧ Aside0 (Below w.heap.size w wc))
  case first =>
   have H := HC72.out
   clear HC72
   by_cases c73 : a0_0 = 16
   ·rw [if_pos c73] at H
    have c73b0 : (a0_0 == 16) = true := beq_iff_eq.mpr c73
    have c73b1 : (a0_0 != 16) = false := bne_eq_false_iff_eq.mpr c73
    clear c73
    (first | rw [c73b0] | (simp only [i64_w, i32_w]; rw [c73b0]) | skip)
    have H' := qm H
    clear H
    go_wp2
    go_meet
    case rel => exact ⟨_, ((a0_0 == 16)), (by first | rfl | (simp; done) | (simp [*]; done)), H', ⟨by have := HJ43.out; have := HJ61.out; first | omega | exact Nat.le_refl _⟩, ⟨by (with_reducible repeat (first | apply qb | apply qc | apply qd)); exact HO_4.out⟩, ⟨BK226.out⟩, ⟨by repeat (first | (with_reducible first | exact HB.out | apply qh | apply qi | apply qj | refine qk ?_ GE226.out) | exact HB.out)⟩⟩
   rw [if_neg c73] at H
   have c73b0 : (a0_0 == 16) = false := beq_eq_false_iff_ne.mpr c73
   have c73b1 : (a0_0 != 16) = true := bne_iff_ne.mpr c73
   (first | rw [c73b0] | (simp only [i64_w, i32_w]; rw [c73b0]) | skip)
   by_cases c74 : a0_0 = 20
   ·rw [if_pos c74] at H
    have c74b0 : (a0_0 == 20) = true := beq_iff_eq.mpr c74
    have c74b1 : (a0_0 != 20) = false := bne_eq_false_iff_eq.mpr c74
    clear c74
    have H' := qm H
    clear H
    go_wp2
    go_meet
    case rel => exact ⟨_, ((a0_0 == 20)), (by first | rfl | (simp; done) | (simp [*]; done)), H', ⟨by have := HJ43.out; have := HJ61.out; first | omega | exact Nat.le_refl _⟩, ⟨by (with_reducible repeat (first | apply qb | apply qc | apply qd)); exact HO_4.out⟩, ⟨BK226.out⟩, ⟨by repeat (first | (with_reducible first | exact HB.out | apply qh | apply qi | apply qj | refine qk ?_ GE226.out) | exact HB.out)⟩⟩
   rw [if_neg c74] at H
   have c74b0 : (a0_0 == 20) = false := beq_eq_false_iff_ne.mpr c74
   have c74b1 : (a0_0 != 20) = true := bne_iff_ne.mpr c74
   have H' := qm H
   clear H
   go_wp2
   go_meet
   case rel => exact ⟨_, ((a0_0 == 25)), rfl, H', ⟨by have := HJ43.out; have := HJ61.out; omega⟩, ⟨HO_4.out⟩, ⟨BK226.out⟩, ⟨HB.out⟩⟩
  clear HC72
  try clear c3
  try clear c4
  try clear c4b0
  try clear c4b1
  try clear c16
  try clear c16b0
  try clear c16b1
  try clear c26
  try clear c26b0
  try clear c26b1
  try clear c54
  try clear c64
  obtain ⟨kq, x61_71, rfl, HA, HJ71, HO_4, BK226, HB⟩ := hcut
  cases kq with
  | zero => exact absurd HA.out (by simp [spec_FrameBytes.j2])
  | succ kj71 => ?_
  have H := HA.out
  clear HA
  simp only [spec_FrameBytes.j2] at H
  by_cases c75 : x61_71 = true
  ·subst c75
   rw [if_pos rfl] at H
   replace H := Option.bind_eq_some_iff.mp H
   obtain ⟨t261, A760, H⟩ := H
   try dsimp only at H
   have A76 := qm A760
   clear A760
   simp only [Option.some.injEq, Prod.mk.injEq] at H
   obtain ⟨rfl, rfl⟩ := H
   obtain ⟨_, _, _, _, _, _, _, _, _, _, _, _, _, _, _, _⟩ := fc8 BK226.out
   obtain ⟨Ao78, co78, eo78⟩ := Kd.R_slice HO_4.out
   subst eo78
   go_wp2_with (first | ((with_reducible refine gate_callee (f := 80) rfl ?_); refine goesL_ (some 68) rfl rfl Try.func80 (by kernel_rfl) rfl #[.slice Ao78 y231.length co78, .int .i64 a0_1] rfl (by (try simp only [m1, m2, m3]); first | done | rfl) ?_; (with_reducible refine (spec_l05N.calls kj71 (fun k_ => some k_ = (.slice Ao78 y231.length co78 : Value).ownBlock) (.slice Ao78 y231.length co78) y231 a0_1 t261 w _ ?side1 ?side2 A76.out).mono ?_); (case side1 => repeat (first | (with_reducible first | exact HB.out | apply qh | apply qi | apply qj | refine qk ?_ GE226.out) | exact HB.out)); (case side2 => exact Kd.R_tight rfl HO_4.out); rintro e w79 ⟨v262, rfl, ho0, hb, hkp⟩; refine ⟨_, rfl, ?_⟩; have n0_ := qm (blk_kept BK226.out hkp (fun hs_ => (fun e_ => (Kd.R_ne HO_4.out BK226.out (by decide)) e_) hs_)); have n1_ := qm (qg (ok' := fun k_ => True) ho0 (fun k_ hk_ => trivial)); have n2_ := qm (hb); clear BK226; clear HB; clear HO_4; have BK226 := n0_; have HO263 := n1_; have HB := n2_))
   go_ret2
   exact ⟨_, by first | rfl | (simp <;> rfl) | (simp [*] <;> rfl), HO263.out, HB.out⟩
  replace c75 := Bool.eq_false_iff.mpr c75
  subst c75
  rw [if_neg nt] at H
  have HC80 := qm H
  clear H
  go_upto_if 69 with (fail)
  go_cut [69] (fun v69 wc => ∃ (kq : Nat) (x69_79 : Bool), v69 = .bool x69_79 ∧ Aside0 (spec_FrameBytes.j3 kq y231 a0_0 x69_79 a0_0 a0_1 a0_2 a0_3 a0_4 l0_5 l0_6 l0_7 = some (r1, r2)) ∧ Aside0 (kq ≤ kj71) ∧ Aside0 (Kd.R (Kd.int .u8) 5 wc w.heap.size (fun _ => True) v232 y231) ∧ Aside0 (wc.heap[gb226]? = some (.cells #[.int .i64 a0_0, .int .i64 a0_1, .int .i64 a0_2, .int .i64 a0_3, .bool a0_4, (.slice A0_5 l0_5.length c0_5), (.slice A0_6 l0_6.length c0_6), (.slice A0_7 l0_7.length c0_7)] 55 (0, 0))) ∧ Aside0 (Below w.heap.size w wc))
  case first =>
   have H := HC80.out
   clear HC80
   by_cases c81 : a0_0 = 6
   ·rw [if_pos c81] at H
    have c81b0 : (a0_0 == 6) = true := beq_iff_eq.mpr c81
    have c81b1 : (a0_0 != 6) = false := bne_eq_false_iff_eq.mpr c81
    clear c81
    (first | rw [c81b0] | (simp only [i64_w, i32_w]; rw [c81b0]) | skip)
    have H' := qm H
    clear H
    go_wp2
    go_meet
    case rel => exact ⟨_, ((a0_0 == 6)), (by first | rfl | (simp; done) | (simp [*]; done)), H', ⟨by have := HJ43.out; have := HJ61.out; have := HJ71.out; first | omega | exact Nat.le_refl _⟩, ⟨by (with_reducible repeat (first | apply qb | apply qc | apply qd)); exact HO_4.out⟩, ⟨BK226.out⟩, ⟨by repeat (first | (with_reducible first | exact HB.out | apply qh | apply qi | apply qj | refine qk ?_ GE226.out) | exact HB.out)⟩⟩
   rw [if_neg c81] at H
   have c81b0 : (a0_0 == 6) = false := beq_eq_false_iff_ne.mpr c81
   have c81b1 : (a0_0 != 6) = true := bne_iff_ne.mpr c81
   (first | rw [c81b0] | (simp only [i64_w, i32_w]; rw [c81b0]) | skip)
   have H' := qm H
   clear H
   go_wp2
   go_meet
   case rel => exact ⟨_, ((a0_0 == 29)), rfl, H', ⟨by have := HJ43.out; have := HJ61.out; have := HJ71.out; omega⟩, ⟨HO_4.out⟩, ⟨BK226.out⟩, ⟨HB.out⟩⟩
  clear HC80
  try clear c3
  try clear c4
  try clear c4b0
  try clear c4b1
  try clear c16
  try clear c16b0
  try clear c16b1
  try clear c26
  try clear c26b0
  try clear c26b1
  try clear c54
  try clear c64
  try clear c75
  obtain ⟨kq, x69_79, rfl, HA, HJ79, HO_4, BK226, HB⟩ := hcut
  cases kq with
  | zero => exact absurd HA.out (by simp [spec_FrameBytes.j3])
  | succ kj79 => ?_
  have H := HA.out
  clear HA
  simp only [spec_FrameBytes.j3] at H
  by_cases c82 : x69_79 = true
  ·subst c82
   rw [if_pos rfl] at H
   replace H := Option.bind_eq_some_iff.mp H
   obtain ⟨t264, A830, H⟩ := H
   try dsimp only at H
   have A83 := qm A830
   clear A830
   replace H := Option.bind_eq_some_iff.mp H
   obtain ⟨t267, A840, H⟩ := H
   try dsimp only at H
   have A84 := qm A840
   clear A840
   simp only [Option.some.injEq, Prod.mk.injEq] at H
   obtain ⟨rfl, rfl⟩ := H
   try go_wp2
   have n0_ := qm (qd HO_4.out)
   have n1_ := qm (qn BK226.out)
   have n2_ := qm (qj HB.out)
   clear HO_4
   clear BK226
   clear HB
   have HO_4 := n0_
   have BK226 := n1_
   have HB := n2_
   clear n0_ n1_ n2_
   obtain ⟨Ao86, co86, eo86⟩ := Kd.R_slice HO_4.out
   (first | subst eo86 | (injection eo86 with f1_ f2_ f3_; have f4_ := f1_.symm; have f5_ := f3_.symm; clear f1_ f2_ f3_; subst f4_; subst f5_))
   refine start_ (n := 8) (S := fun w' => w'.cell? ⟨gb226, 0, none⟩ = some (.int .i64 a0_0) ∧ w'.cell? ⟨gb226, 1, none⟩ = some (.int .i64 a0_1) ∧ w'.cell? ⟨gb226, 2, none⟩ = some (.int .i64 a0_2) ∧ w'.cell? ⟨gb226, 3, none⟩ = some (.int .i64 a0_3) ∧ w'.cell? ⟨gb226, 4, none⟩ = some (.bool a0_4) ∧ w'.cell? ⟨gb226, 5, none⟩ = some (.slice A0_5 l0_5.length c0_5) ∧ w'.cell? ⟨gb226, 6, none⟩ = some (.slice A0_6 l0_6.length c0_6) ∧ w'.cell? ⟨gb226, 7, none⟩ = some (.slice A0_7 l0_7.length c0_7)) (ds := []) (bm 0 8) (by kernel_rfl) rfl rfl (fz8 BK226.out) (fun hHeld => ?_); refine with_tabW spec_FrameBytes.tab24 spec_FrameBytes.bits24 (fun HT_ HW_ => ?_)
   generalize wc.drew = w85 at HO_4 BK226 HB hHeld ⊢
   refine pu 0 72 (bm 1 8) HT_ (h := ⟨_, by intro w'; go_simp; with_reducible rfl, _, by simp only [Act.put, s1, s2, s3, i64_w, i32_w]; rfl, ?_⟩)
   refine pu 1 73 (bm 2 8) HT_ (h := ⟨_, by intro w'; go_simp; with_reducible rfl, _, by simp only [Act.put, s1, s2, s3, i64_w, i32_w]; rfl, ?_⟩)
   refine pu 4 76 (bb 19 8) HT_ (h := ⟨_, by intro w'; go_simp; with_reducible rfl, _, by simp only [Act.put, s1, s2, s3, i64_w, i32_w]; rfl, ?_⟩)
   refine tk 2 74 (bb 23 8) HT_ HW_ (hS := hHeld) (h := ⟨_, by rintro w' ⟨s0, s1, s2, s3, s4, s5, s6, s7⟩; go_simp; with_reducible rfl, _, by simp only [Act.put, s1, s2, s3, i64_w, i32_w]; rfl, ?_⟩)
   refine tk 5 77 (bb 55 8) HT_ HW_ (hS := hHeld) (h := ⟨_, by rintro w' ⟨s0, s1, s2, s3, s4, s5, s6, s7⟩; go_simp; with_reducible rfl, _, by simp only [Act.put, s1, s2, s3, i64_w, i32_w]; rfl, ?_⟩)
   refine one_ (i := 3) (N := some 75) (bm 6 8) rfl rfl (one_of HT_.out (by kernel_rfl)) (by decide) (fun K hK => ?_)
   refine goes_ Try.func80 (by kernel_rfl) rfl #[.slice Ao86 y231.length co86, .int .i64 a0_1] (by rfl) rfl rfl (by (try simp only [m1, m2, m3]); first | done | rfl) ?_
   with_reducible refine (spec_l05N.calls kj79 (fun k_ => some k_ = (.slice Ao86 y231.length co86 : Value).ownBlock) (.slice Ao86 y231.length co86) y231 a0_1 t264 w _ ?side1 ?side2 A83.out).mono ?_
   (case side1 => repeat (first | (with_reducible first | exact HB.out | apply qh | apply qi | apply qj | refine qk ?_ GE226.out) | exact HB.out))
   (case side2 => exact Kd.R_tight rfl HO_4.out)
   rintro e w87 ⟨v265, rfl, ho0, hb, hkp⟩
   refine ⟨_, rfl, ?_⟩
   have n0_ := qm (blk_kept BK226.out hkp (fun hs_ => (fun e_ => (Kd.R_ne HO_4.out BK226.out (by decide)) e_) hs_))
   have n1_ := qm (qg (ok' := fun k_ => True) ho0 (fun k_ hk_ => trivial))
   have n2_ := qm (hb)
   clear BK226
   clear HB
   clear HO_4
   have BK226 := n0_
   have HO266 := n1_
   have HB := n2_
   clear n0_ n1_ n2_
   (try clear hb)
   (try clear hkp)
   (try clear ho0)
   obtain ⟨Ao88, co88, eo88⟩ := Kd.R_slice HO266.out
   (first | subst eo88 | (injection eo88 with f1_ f2_ f3_; have f4_ := f1_.symm; have f5_ := f3_.symm; clear f1_ f2_ f3_; subst f4_; subst f5_))
   refine hK.out _ _ (fz8 BK226.out) (fun hHeld => ?_)
   clear hK K
   refine norm_ (a' := ?_) ?_ ?_
   rotate_left
   ·show Act.put _ (some 75) _ = _
    simp only [Act.put, s1, s2, s3, i64_w, i32_w]
    rfl
   refine one_ (i := 6) (N := some 78) (bm 7 8) rfl rfl (one_of HT_.out (by kernel_rfl)) (by decide) (fun K hK => ?_)
   refine goes_ Try.func81 (by kernel_rfl) rfl #[.slice Ao88 t264.length co88, .slice A0_5 l0_5.length c0_5] (by rfl) rfl rfl (by (try simp only [m1, m2, m3]); first | done | rfl) ?_
   with_reducible refine (spec_l05Counted.calls kj79 (fun k_ => some k_ = (.slice Ao88 t264.length co88 : Value).ownBlock) (.slice Ao88 t264.length co88) t264 _ _ l0_5 t267 w _ ?side1 ?side2 ?side3 ?side4 A84.out).mono ?_
   (case side1 => repeat (first | (with_reducible first | exact HB.out | apply qh | apply qi | apply qj | refine qk ?_ GE226.out) | exact HB.out))
   (case side2 => exact Kd.R_tight rfl HO266.out)
   (case side3 => exact Kd.C_kept_came (Kd.heap_int .u8) HR0_5.out HB.out (fun k_ hs_ => (fun e_ => Kd.R_base HO266.out k_ e_.symm) hs_))
   (case side4 => exact HC0_5.out)
   rintro e w89 ⟨v268, rfl, ho0, hb, hkp⟩
   refine ⟨_, rfl, ?_⟩
   have n0_ := qm (blk_kept BK226.out hkp (fun hs_ => (fun e_ => (Kd.R_ne HO266.out BK226.out (by decide)) e_) hs_))
   have n1_ := qm (qg (ok' := fun k_ => True) ho0 (fun k_ hk_ => trivial))
   have n2_ := qm (hb)
   clear BK226
   clear HB
   clear HO266
   have BK226 := n0_
   have HO269 := n1_
   have HB := n2_
   clear n0_ n1_ n2_
   (try clear hb)
   (try clear hkp)
   (try clear ho0)
   refine hK.out _ _ (fz8 BK226.out) (fun hHeld => ?_)
   clear hK K
   refine norm_ (a' := ?_) ?_ ?_
   rotate_left
   ·show Act.put _ (some 78) _ = _
    simp only [Act.put, s1, s2, s3, i64_w, i32_w]
    rfl
   refine pu 7 4 (bm 8 8) HT_ (h := ⟨_, by intro w'; go_simp; with_reducible rfl, _, by simp only [Act.put, s1, s2, s3, i64_w, i32_w]; rfl, ?_⟩)
   refine done_ (done_of HT_.out (by kernel_rfl)) ?_
   try go_wp2
   go_ret2
   exact ⟨_, by first | rfl | (simp <;> rfl) | (simp [*] <;> rfl), HO269.out, HB.out⟩
  replace c82 := Bool.eq_false_iff.mpr c82
  subst c82
  rw [if_neg nt] at H
  by_cases c90 : a0_0 = 7
  ·rw [if_pos c90] at H
   have c90b0 : (a0_0 == 7) = true := beq_iff_eq.mpr c90
   have c90b1 : (a0_0 != 7) = false := bne_eq_false_iff_eq.mpr c90
   clear c90
   replace H := Option.bind_eq_some_iff.mp H
   obtain ⟨t270, A910, H⟩ := H
   try dsimp only at H
   have A91 := qm A910
   clear A910
   simp only [Option.some.injEq, Prod.mk.injEq] at H
   obtain ⟨rfl, rfl⟩ := H
   obtain ⟨_, _, _, _, _, _, _, _, _, _, _, _, _, _, _, _⟩ := fc8 BK226.out
   obtain ⟨Ao93, co93, eo93⟩ := Kd.R_slice HO_4.out
   subst eo93
   go_wp2_with (first | ((with_reducible refine gate_callee (f := 81) rfl ?_); refine goesL_ (some 84) rfl rfl Try.func81 (by kernel_rfl) rfl #[.slice Ao93 y231.length co93, .slice A0_5 l0_5.length c0_5] rfl (by (try simp only [m1, m2, m3]); first | done | rfl) ?_; (with_reducible refine (spec_l05Counted.calls kj79 (fun k_ => some k_ = (.slice Ao93 y231.length co93 : Value).ownBlock) (.slice Ao93 y231.length co93) y231 _ _ l0_5 t270 w _ ?side1 ?side2 ?side3 ?side4 A91.out).mono ?_); (case side1 => repeat (first | (with_reducible first | exact HB.out | apply qh | apply qi | apply qj | refine qk ?_ GE226.out) | exact HB.out)); (case side2 => exact Kd.R_tight rfl HO_4.out); (case side3 => exact Kd.C_kept_came (Kd.heap_int .u8) HR0_5.out HB.out (fun k_ hs_ => (fun e_ => Kd.R_base HO_4.out k_ e_.symm) hs_)); (case side4 => exact HC0_5.out); rintro e w94 ⟨v271, rfl, ho0, hb, hkp⟩; refine ⟨_, rfl, ?_⟩; have n0_ := qm (blk_kept BK226.out hkp (fun hs_ => (fun e_ => (Kd.R_ne HO_4.out BK226.out (by decide)) e_) hs_)); have n1_ := qm (qg (ok' := fun k_ => True) ho0 (fun k_ hk_ => trivial)); have n2_ := qm (hb); clear BK226; clear HB; clear HO_4; have BK226 := n0_; have HO272 := n1_; have HB := n2_))
   go_ret2
   exact ⟨_, by first | rfl | (simp <;> rfl) | (simp [*] <;> rfl), HO272.out, HB.out⟩
  rw [if_neg c90] at H
  have c90b0 : (a0_0 == 7) = false := beq_eq_false_iff_ne.mpr c90
  have c90b1 : (a0_0 != 7) = true := bne_iff_ne.mpr c90
  by_cases c95 : a0_0 = 8
  ·rw [if_pos c95] at H
   have c95b0 : (a0_0 == 8) = true := beq_iff_eq.mpr c95
   have c95b1 : (a0_0 != 8) = false := bne_eq_false_iff_eq.mpr c95
   clear c95
   have HC96 := qm H
   clear H
   obtain ⟨_, _, _, _, _, _, _, _, _, _, _, _, _, _, _, _⟩ := fc8 BK226.out
   go_upto_if 88 with (fail)
   go_cut [5] (fun v5 wc => ∃ (kq : Nat) (x5_95 : Int), v5 = .int .i64 x5_95 ∧ Aside0 (spec_FrameBytes.j4 kq x5_95 a0_0 a0_1 a0_2 a0_3 a0_4 l0_5 l0_6 l0_7 = some (r1, r2)) ∧ Aside0 (kq ≤ kj79) ∧ Aside0 (wc.heap[gb226]? = some (.cells #[.int .i64 a0_0, .int .i64 a0_1, .int .i64 a0_2, .int .i64 a0_3, .bool a0_4, (.slice A0_5 l0_5.length c0_5), (.slice A0_6 l0_6.length c0_6), (.slice A0_7 l0_7.length c0_7)] 55 (0, 0))) ∧ Aside0 (Below w.heap.size w wc))
   case first =>
    have H := HC96.out
    clear HC96
    by_cases c98 : a0_4 = true
    ·subst c98
     rw [if_pos rfl] at H
     have H' := qm H
     clear H
     go_wp2
     go_meet
     case rel => exact ⟨_, (10 + 1), rfl, H', ⟨by have := HJ43.out; have := HJ61.out; have := HJ71.out; have := HJ79.out; omega⟩, ⟨BK226.out⟩, ⟨HB.out⟩⟩
    replace c98 := Bool.eq_false_iff.mpr c98
    subst c98
    rw [if_neg nt] at H
    have H' := qm H
    clear H
    go_wp2
    go_meet
    case rel => exact ⟨_, (10), rfl, H', ⟨by have := HJ43.out; have := HJ61.out; have := HJ71.out; have := HJ79.out; omega⟩, ⟨BK226.out⟩, ⟨HB.out⟩⟩
   clear HC96
   try clear c3
   try clear c4
   try clear c4b0
   try clear c4b1
   try clear c16
   try clear c16b0
   try clear c16b1
   try clear c26
   try clear c26b0
   try clear c26b1
   try clear c54
   try clear c64
   try clear c75
   try clear c82
   try clear c90
   try clear c90b0
   try clear c90b1
   try clear c95
   try clear c95b0
   try clear c95b1
   obtain ⟨kq, x5_95, rfl, HA, HJ95, BK226, HB⟩ := hcut
   cases kq with
   | zero => exact absurd HA.out (by simp [spec_FrameBytes.j4])
   | succ kj95 => ?_
   have H := HA.out
   clear HA
   simp only [spec_FrameBytes.j4] at H
   by_cases c99 : a0_2 = 0
   ·rw [if_pos c99] at H
    have c99b0 : (a0_2 == 0) = true := beq_iff_eq.mpr c99
    have c99b1 : (a0_2 != 0) = false := bne_eq_false_iff_eq.mpr c99
    clear c99
    obtain ⟨y273, hy273⟩ : ∃ y_ : List Int, y_ = (([(x5_95) % 256] : List Int)) := ⟨_, rfl⟩
    replace H : ((spec_l05N.f kj95 y273 a0_1).bind fun t276 => ((spec_l05Counted.f kj95 t276 l0_5).bind fun t279 => (some (t279, 0)))) = some (r1, r2) := by first | (rw [hy273]; with_reducible exact H) | (have H2_ := (Option.bind_some _ _).symm.trans H; rw [hy273]; with_reducible exact H2_) | (have H2_ := (Option.bind_some _ _).symm.trans H; with_reducible exact H2_) | with_reducible exact H | (rw [hy273]; exact H) | exact H
    have Ny273 := qm hy273
    clear hy273
    replace H := Option.bind_eq_some_iff.mp H
    obtain ⟨t276, A1000, H⟩ := H
    try dsimp only at H
    have A100 := qm A1000
    clear A1000
    replace H := Option.bind_eq_some_iff.mp H
    obtain ⟨t279, A1010, H⟩ := H
    try dsimp only at H
    have A101 := qm A1010
    clear A1010
    simp only [Option.some.injEq, Prod.mk.injEq] at H
    obtain ⟨rfl, rfl⟩ := H
    obtain ⟨_, _, _, _, _, _, _, _, _, _, _, _, _, _, _, _⟩ := fc8 BK226.out
    go_wp2_with (first | ((with_reducible refine gate_dst (N := 106) rfl ?_); refine Kd.R_lit (Kd.int .u8) _ 5 ?hg (N := 106) ?hd (xs := ([(x5_95) % 256] : List Int)) (inner := [.int .u8 ((x5_95) % 256)]) (ok := fun _ => True) (okp := fun _ => True) ?hr ?hp (fun _ hk => hk) trivial (Below.refl _ _) (Nat.le_refl _) (by simp) ?_; (case hd => rfl); (case hg => rfl); (case hr => first | (go_simp; done) | (go_simp; rfl)); (case hp => exact (Reps.one (show Kd.M (Kd.int .u8) _ _ _ ((x5_95) % 256) [.int .u8 ((x5_95) % 256)] from rfl) (Reps.none _ _))); intro v274 w103 ho104 hb hg_ hnew_; clear hg_ hnew_; (first | rw [← Ny273.out] at ho104 | (simp only [Int.reduceToNat] at ho104; rw [← Ny273.out] at ho104)); have n0_ := qm (Kd.R_lower ho104 (qs HB.out)); have n1_ := qm (qv (g := gb226) BK226.out hb); have n2_ := qm (qt HB.out hb); clear BK226; clear HB; have HO275 := n0_; have BK226 := n1_; have HB := n2_; clear hb ho104; obtain ⟨_, _, _, _, _, _, _, _, _, _, _, _, _, _, _, _⟩ := fc8 BK226.out; obtain ⟨Ao106, co106, eo106⟩ := Kd.R_slice HO275.out; subst eo106) | ((with_reducible refine gate_callee (f := 80) rfl ?_); refine goesL_ (some 109) rfl rfl Try.func80 (by kernel_rfl) rfl #[.slice Ao106 y273.length co106, .int .i64 a0_1] rfl (by (try simp only [m1, m2, m3]); first | done | rfl) ?_; (with_reducible refine (spec_l05N.calls kj95 (fun k_ => some k_ = (.slice Ao106 y273.length co106 : Value).ownBlock) (.slice Ao106 y273.length co106) y273 a0_1 t276 w _ ?side1 ?side2 A100.out).mono ?_); (case side1 => repeat (first | (with_reducible first | exact HB.out | apply qh | apply qi | apply qj | refine qk ?_ GE226.out) | exact HB.out)); (case side2 => exact Kd.R_tight rfl HO275.out); rintro e w107 ⟨v277, rfl, ho0, hb, hkp⟩; refine ⟨_, rfl, ?_⟩; have n0_ := qm (blk_kept BK226.out hkp (fun hs_ => (fun e_ => (Kd.R_ne HO275.out BK226.out (by decide)) e_) hs_)); have n1_ := qm (qg (ok' := fun k_ => True) ho0 (fun k_ hk_ => trivial)); have n2_ := qm (hb); clear BK226; clear HB; clear HO275; have BK226 := n0_; have HO278 := n1_; have HB := n2_; obtain ⟨_, _, _, _, _, _, _, _, _, _, _, _, _, _, _, _⟩ := fc8 BK226.out; obtain ⟨Ao109, co109, eo109⟩ := Kd.R_slice HO278.out; subst eo109) | ((with_reducible refine gate_callee (f := 81) rfl ?_); refine goesL_ (some 113) rfl rfl Try.func81 (by kernel_rfl) rfl #[.slice Ao109 t276.length co109, .slice A0_5 l0_5.length c0_5] rfl (by (try simp only [m1, m2, m3]); first | done | rfl) ?_; (with_reducible refine (spec_l05Counted.calls kj95 (fun k_ => some k_ = (.slice Ao109 t276.length co109 : Value).ownBlock) (.slice Ao109 t276.length co109) t276 _ _ l0_5 t279 w _ ?side1 ?side2 ?side3 ?side4 A101.out).mono ?_); (case side1 => repeat (first | (with_reducible first | exact HB.out | apply qh | apply qi | apply qj | refine qk ?_ GE226.out) | exact HB.out)); (case side2 => exact Kd.R_tight rfl HO278.out); (case side3 => exact Kd.C_kept_came (Kd.heap_int .u8) HR0_5.out HB.out (fun k_ hs_ => (fun e_ => Kd.R_base HO278.out k_ e_.symm) hs_)); (case side4 => exact HC0_5.out); rintro e w110 ⟨v280, rfl, ho0, hb, hkp⟩; refine ⟨_, rfl, ?_⟩; have n0_ := qm (blk_kept BK226.out hkp (fun hs_ => (fun e_ => (Kd.R_ne HO278.out BK226.out (by decide)) e_) hs_)); have n1_ := qm (qg (ok' := fun k_ => True) ho0 (fun k_ hk_ => trivial)); have n2_ := qm (hb); clear BK226; clear HB; clear HO278; have BK226 := n0_; have HO281 := n1_; have HB := n2_))
    go_ret2
    exact ⟨_, by first | rfl | (simp <;> rfl) | (simp [*] <;> rfl), HO281.out, HB.out⟩
   rw [if_neg c99] at H
   have c99b0 : (a0_2 == 0) = false := beq_eq_false_iff_ne.mpr c99
   have c99b1 : (a0_2 != 0) = true := bne_iff_ne.mpr c99
   obtain ⟨y282, hy282⟩ : ∃ y_ : List Int, y_ = (([(wrap64 (x5_95 + 4)) % 256] : List Int)) := ⟨_, rfl⟩
   replace H : ((spec_l05N.f kj95 y282 a0_1).bind fun t285 => ((spec_l05N.f kj95 t285 a0_2).bind fun t288 => ((spec_l05Counted.f kj95 t288 l0_5).bind fun t291 => (some (t291, 0))))) = some (r1, r2) := by first | (rw [hy282]; with_reducible exact H) | (have H2_ := (Option.bind_some _ _).symm.trans H; rw [hy282]; with_reducible exact H2_) | (have H2_ := (Option.bind_some _ _).symm.trans H; with_reducible exact H2_) | with_reducible exact H | (rw [hy282]; exact H) | exact H
   have Ny282 := qm hy282
   clear hy282
   replace H := Option.bind_eq_some_iff.mp H
   obtain ⟨t285, A1110, H⟩ := H
   try dsimp only at H
   have A111 := qm A1110
   clear A1110
   replace H := Option.bind_eq_some_iff.mp H
   obtain ⟨t288, A1120, H⟩ := H
   try dsimp only at H
   have A112 := qm A1120
   clear A1120
   replace H := Option.bind_eq_some_iff.mp H
   obtain ⟨t291, A1130, H⟩ := H
   try dsimp only at H
   have A113 := qm A1130
   clear A1130
   simp only [Option.some.injEq, Prod.mk.injEq] at H
   obtain ⟨rfl, rfl⟩ := H
   obtain ⟨_, _, _, _, _, _, _, _, _, _, _, _, _, _, _, _⟩ := fc8 BK226.out
   try go_wp2
   have n0_ := qm (qn BK226.out)
   have n1_ := qm (qj HB.out)
   clear BK226
   clear HB
   have BK226 := n0_
   have HB := n1_
   clear n0_ n1_
   refine start_ (n := 11) (S := fun w' => w'.cell? ⟨gb226, 0, none⟩ = some (.int .i64 a0_0) ∧ w'.cell? ⟨gb226, 1, none⟩ = some (.int .i64 a0_1) ∧ w'.cell? ⟨gb226, 2, none⟩ = some (.int .i64 a0_2) ∧ w'.cell? ⟨gb226, 3, none⟩ = some (.int .i64 a0_3) ∧ w'.cell? ⟨gb226, 4, none⟩ = some (.bool a0_4) ∧ w'.cell? ⟨gb226, 5, none⟩ = some (.slice A0_5 l0_5.length c0_5) ∧ w'.cell? ⟨gb226, 6, none⟩ = some (.slice A0_6 l0_6.length c0_6) ∧ w'.cell? ⟨gb226, 7, none⟩ = some (.slice A0_7 l0_7.length c0_7)) (ds := []) (bm 0 11) (by kernel_rfl) rfl rfl (fz8 BK226.out) (fun hHeld => ?_); refine with_tabW spec_FrameBytes.tab32 spec_FrameBytes.bits32 (fun HT_ HW_ => ?_)
   generalize wc.drew = w115 at BK226 HB hHeld ⊢
   refine pu 0 94 (bm 1 11) HT_ (h := ⟨_, by intro w'; go_simp; with_reducible rfl, _, by simp only [Act.put, s1, s2, s3, i64_w, i32_w]; rfl, ?_⟩)
   refine pu 1 95 (bm 2 11) HT_ (h := ⟨_, by intro w'; go_simp; with_reducible rfl, _, by simp only [Act.put, s1, s2, s3, i64_w, i32_w]; rfl, ?_⟩)
   refine pu 2 96 (bm 3 11) HT_ (h := ⟨_, by intro w'; go_simp; with_reducible rfl, _, by simp only [Act.put, s1, s2, s3, i64_w, i32_w]; rfl, ?_⟩)
   refine pu 4 98 (bb 23 11) HT_ (h := ⟨_, by intro w'; go_simp; with_reducible rfl, _, by simp only [Act.put, s1, s2, s3, i64_w, i32_w]; rfl, ?_⟩)
   refine pu 7 101 (bb 151 11) HT_ (h := ⟨_, by intro w'; go_simp; with_reducible rfl, _, by simp only [Act.put, s1, s2, s3, i64_w, i32_w]; rfl, ?_⟩)
   refine tk 5 99 (bb 183 11) HT_ HW_ (hS := hHeld) (h := ⟨_, by rintro w' ⟨s0, s1, s2, s3, s4, s5, s6, s7⟩; go_simp; with_reducible rfl, _, by simp only [Act.put, s1, s2, s3, i64_w, i32_w]; rfl, ?_⟩)
   refine tk 8 102 (bb 439 11) HT_ HW_ (hS := hHeld) (h := ⟨_, by rintro w' ⟨s0, s1, s2, s3, s4, s5, s6, s7⟩; go_simp; with_reducible rfl, _, by simp only [Act.put, s1, s2, s3, i64_w, i32_w]; rfl, ?_⟩)
   refine one_ (i := 3) (N := some 97) (bb 447 11) rfl rfl (one_of HT_.out (by kernel_rfl)) (by decide) (fun K hK => ?_)
   refine Kd.R_lit_step (Kd.int .u8) _ 5 ?hg (N := 97) ?hd (xs := ([(wrap64 (x5_95 + 4)) % 256] : List Int)) (inner := [.int .u8 ((wrap64 (x5_95 + 4)) % 256)]) (ok := fun _ => True) (okp := fun _ => True) ?hr ?hp (fun _ hk => hk) trivial (Below.refl _ _) (Nat.le_refl _) (by simp) ?_; (case hd => rfl); (case hg => rfl); (case hr => first | (go_simp; done) | (go_simp; rfl)); (case hp => exact (Reps.one (show Kd.M (Kd.int .u8) _ _ _ ((wrap64 (x5_95 + 4)) % 256) [.int .u8 ((wrap64 (x5_95 + 4)) % 256)] from rfl) (Reps.none _ _)))
   intro v283 w116 ho117 hb hg_ hnew_
   clear hg_ hnew_
   (first | rw [← Ny282.out] at ho117 | (simp only [Int.reduceToNat] at ho117; rw [← Ny282.out] at ho117))
   have n0_ := qm (Kd.R_lower ho117 (qs HB.out))
   have n1_ := qm (qv (g := gb226) BK226.out hb)
   have n2_ := qm (qt HB.out hb)
   clear BK226
   clear HB
   have HO284 := n0_
   have BK226 := n1_
   have HB := n2_
   clear n0_ n1_ n2_
   clear hb ho117
   obtain ⟨Ao118, co118, eo118⟩ := Kd.R_slice HO284.out
   (first | subst eo118 | (injection eo118 with f1_ f2_ f3_; have f4_ := f1_.symm; have f5_ := f3_.symm; clear f1_ f2_ f3_; subst f4_; subst f5_))
   refine hK.out _ _ (fz8 BK226.out) (fun hHeld => ?_)
   clear hK K
   refine norm_ (a' := ?_) ?_ ?_
   rotate_left
   ·show Act.put _ (some 97) _ = _
    simp only [Act.put, s1, s2, s3, i64_w, i32_w]
    rfl
   refine one_ (i := 6) (N := some 100) (bm 9 11) rfl rfl (one_of HT_.out (by kernel_rfl)) (by decide) (fun K hK => ?_)
   refine goes_ Try.func80 (by kernel_rfl) rfl #[.slice Ao118 y282.length co118, .int .i64 a0_1] (by rfl) rfl rfl (by (try simp only [m1, m2, m3]); first | done | rfl) ?_
   with_reducible refine (spec_l05N.calls kj95 (fun k_ => some k_ = (.slice Ao118 y282.length co118 : Value).ownBlock) (.slice Ao118 y282.length co118) y282 a0_1 t285 w _ ?side1 ?side2 A111.out).mono ?_
   (case side1 => repeat (first | (with_reducible first | exact HB.out | apply qh | apply qi | apply qj | refine qk ?_ GE226.out) | exact HB.out))
   (case side2 => exact Kd.R_tight rfl HO284.out)
   rintro e w119 ⟨v286, rfl, ho0, hb, hkp⟩
   refine ⟨_, rfl, ?_⟩
   have n0_ := qm (blk_kept BK226.out hkp (fun hs_ => (fun e_ => (Kd.R_ne HO284.out BK226.out (by decide)) e_) hs_))
   have n1_ := qm (qg (ok' := fun k_ => True) ho0 (fun k_ hk_ => trivial))
   have n2_ := qm (hb)
   clear BK226
   clear HB
   clear HO284
   have BK226 := n0_
   have HO287 := n1_
   have HB := n2_
   clear n0_ n1_ n2_
   (try clear hb)
   (try clear hkp)
   (try clear ho0)
   obtain ⟨Ao120, co120, eo120⟩ := Kd.R_slice HO287.out
   (first | subst eo120 | (injection eo120 with f1_ f2_ f3_; have f4_ := f1_.symm; have f5_ := f3_.symm; clear f1_ f2_ f3_; subst f4_; subst f5_))
   refine hK.out _ _ (fz8 BK226.out) (fun hHeld => ?_)
   clear hK K
   refine norm_ (a' := ?_) ?_ ?_
   rotate_left
   ·show Act.put _ (some 100) _ = _
    simp only [Act.put, s1, s2, s3, i64_w, i32_w]
    rfl
   refine one_ (i := 9) (N := some 103) (bm 10 11) rfl rfl (one_of HT_.out (by kernel_rfl)) (by decide) (fun K hK => ?_)
   refine goes_ Try.func80 (by kernel_rfl) rfl #[.slice Ao120 t285.length co120, .int .i64 a0_2] (by rfl) rfl rfl (by (try simp only [m1, m2, m3]); first | done | rfl) ?_
   with_reducible refine (spec_l05N.calls kj95 (fun k_ => some k_ = (.slice Ao120 t285.length co120 : Value).ownBlock) (.slice Ao120 t285.length co120) t285 a0_2 t288 w _ ?side1 ?side2 A112.out).mono ?_
   (case side1 => repeat (first | (with_reducible first | exact HB.out | apply qh | apply qi | apply qj | refine qk ?_ GE226.out) | exact HB.out))
   (case side2 => exact Kd.R_tight rfl HO287.out)
   rintro e w121 ⟨v289, rfl, ho0, hb, hkp⟩
   refine ⟨_, rfl, ?_⟩
   have n0_ := qm (blk_kept BK226.out hkp (fun hs_ => (fun e_ => (Kd.R_ne HO287.out BK226.out (by decide)) e_) hs_))
   have n1_ := qm (qg (ok' := fun k_ => True) ho0 (fun k_ hk_ => trivial))
   have n2_ := qm (hb)
   clear BK226
   clear HB
   clear HO287
   have BK226 := n0_
   have HO290 := n1_
   have HB := n2_
   clear n0_ n1_ n2_
   (try clear hb)
   (try clear hkp)
   (try clear ho0)
   refine hK.out _ _ (fz8 BK226.out) (fun hHeld => ?_)
   clear hK K
   refine norm_ (a' := ?_) ?_ ?_
   rotate_left
   ·show Act.put _ (some 103) _ = _
    simp only [Act.put, s1, s2, s3, i64_w, i32_w]
    rfl
   refine pu 10 4 (bm 11 11) HT_ (h := ⟨_, by intro w'; go_simp; with_reducible rfl, _, by simp only [Act.put, s1, s2, s3, i64_w, i32_w]; rfl, ?_⟩)
   refine done_ (done_of HT_.out (by kernel_rfl)) ?_
   obtain ⟨_, _, _, _, _, _, _, _, _, _, _, _, _, _, _, _⟩ := fc8 BK226.out
   obtain ⟨Ao123, co123, eo123⟩ := Kd.R_slice HO290.out
   subst eo123
   try go_wp2_with (first | ((with_reducible refine gate_callee (f := 81) rfl ?_); refine goesL_ (some 113) rfl rfl Try.func81 (by kernel_rfl) rfl #[.slice Ao123 t288.length co123, .slice A0_5 l0_5.length c0_5] rfl (by (try simp only [m1, m2, m3]); first | done | rfl) ?_; (with_reducible refine (spec_l05Counted.calls kj95 (fun k_ => some k_ = (.slice Ao123 t288.length co123 : Value).ownBlock) (.slice Ao123 t288.length co123) t288 _ _ l0_5 t291 w _ ?side1 ?side2 ?side3 ?side4 A113.out).mono ?_); (case side1 => repeat (first | (with_reducible first | exact HB.out | apply qh | apply qi | apply qj | refine qk ?_ GE226.out) | exact HB.out)); (case side2 => exact Kd.R_tight rfl HO290.out); (case side3 => exact Kd.C_kept_came (Kd.heap_int .u8) HR0_5.out HB.out (fun k_ hs_ => (fun e_ => Kd.R_base HO290.out k_ e_.symm) hs_)); (case side4 => exact HC0_5.out); rintro e w124 ⟨v292, rfl, ho0, hb, hkp⟩; refine ⟨_, rfl, ?_⟩; have n0_ := qm (blk_kept BK226.out hkp (fun hs_ => (fun e_ => (Kd.R_ne HO290.out BK226.out (by decide)) e_) hs_)); have n1_ := qm (qg (ok' := fun k_ => True) ho0 (fun k_ hk_ => trivial)); have n2_ := qm (hb); clear BK226; clear HB; clear HO290; have BK226 := n0_; have HO293 := n1_; have HB := n2_))
   go_ret2
   exact ⟨_, by first | rfl | (simp <;> rfl) | (simp [*] <;> rfl), HO293.out, HB.out⟩
  rw [if_neg c95] at H
  have c95b0 : (a0_0 == 8) = false := beq_eq_false_iff_ne.mpr c95
  have c95b1 : (a0_0 != 8) = true := bne_iff_ne.mpr c95
  by_cases c125 : a0_0 = 24
  ·rw [if_pos c125] at H
   have c125b0 : (a0_0 == 24) = true := beq_iff_eq.mpr c125
   have c125b1 : (a0_0 != 24) = false := bne_eq_false_iff_eq.mpr c125
   clear c125
   replace H := Option.bind_eq_some_iff.mp H
   obtain ⟨t294, A1260, H⟩ := H
   try dsimp only at H
   have A126 := qm A1260
   clear A1260
   replace H := Option.bind_eq_some_iff.mp H
   obtain ⟨t297, A1270, H⟩ := H
   try dsimp only at H
   have A127 := qm A1270
   clear A1270
   obtain ⟨y300, hy300⟩ : ∃ y_ : List Int, y_ = (([((l0_5.length : Int)) % 256] : List Int)) := ⟨_, rfl⟩
   replace H : (if t297.length + y300.length < 140737488355328 then ((some (t297 ++ y300 : List Int)).bind fun y303 => (if y303.length + l0_5.length < 140737488355328 then ((some (y303 ++ l0_5 : List Int)).bind fun y306 => (if y306.length + l0_6.length < 140737488355328 then (some ((y306 ++ l0_6), 0)) else (none))) else (none))) else (none)) = some (r1, r2) := by first | (rw [hy300]; with_reducible exact H) | (have H2_ := (Option.bind_some _ _).symm.trans H; rw [hy300]; with_reducible exact H2_) | (have H2_ := (Option.bind_some _ _).symm.trans H; with_reducible exact H2_) | with_reducible exact H | (rw [hy300]; exact H) | exact H
   have Ny300 := qm hy300
   clear hy300
   by_cases c128 : t297.length + y300.length < 140737488355328
   ·rw [if_pos c128] at H
    have LMc128 := qm c128
    clear c128
    obtain ⟨y303, hy303⟩ : ∃ y_ : List Int, y_ = (t297 ++ y300) := ⟨_, rfl⟩
    replace H : (if y303.length + l0_5.length < 140737488355328 then ((some (y303 ++ l0_5 : List Int)).bind fun y306 => (if y306.length + l0_6.length < 140737488355328 then (some ((y306 ++ l0_6), 0)) else (none))) else (none)) = some (r1, r2) := by first | (rw [hy303]; with_reducible exact H) | (have H2_ := (Option.bind_some _ _).symm.trans H; rw [hy303]; with_reducible exact H2_) | (have H2_ := (Option.bind_some _ _).symm.trans H; with_reducible exact H2_) | with_reducible exact H | (rw [hy303]; exact H) | exact H
    have Ny303 := qm hy303
    clear hy303
    by_cases c129 : y303.length + l0_5.length < 140737488355328
    ·rw [if_pos c129] at H
     have LMc129 := qm c129
     clear c129
     obtain ⟨y306, hy306⟩ : ∃ y_ : List Int, y_ = (y303 ++ l0_5) := ⟨_, rfl⟩
     replace H : (if y306.length + l0_6.length < 140737488355328 then (some ((y306 ++ l0_6), 0)) else (none)) = some (r1, r2) := by first | (rw [hy306]; with_reducible exact H) | (have H2_ := (Option.bind_some _ _).symm.trans H; rw [hy306]; with_reducible exact H2_) | (have H2_ := (Option.bind_some _ _).symm.trans H; with_reducible exact H2_) | with_reducible exact H | (rw [hy306]; exact H) | exact H
     have Ny306 := qm hy306
     clear hy306
     by_cases c130 : y306.length + l0_6.length < 140737488355328
     ·rw [if_pos c130] at H
      have LMc130 := qm c130
      clear c130
      obtain ⟨y309, hy309⟩ : ∃ y_ : List Int, y_ = (y306 ++ l0_6) := ⟨_, rfl⟩
      replace H : (some (y309, 0)) = some (r1, r2) := by first | (rw [hy309]; with_reducible exact H) | (have H2_ := (Option.bind_some _ _).symm.trans H; rw [hy309]; with_reducible exact H2_) | (have H2_ := (Option.bind_some _ _).symm.trans H; with_reducible exact H2_) | with_reducible exact H | (rw [hy309]; exact H) | exact H
      have Ny309 := qm hy309
      clear hy309
      simp only [Option.some.injEq, Prod.mk.injEq] at H
      obtain ⟨rfl, rfl⟩ := H
      obtain ⟨Ao131, co131, eo131⟩ := Kd.R_slice HO_4.out
      subst eo131
      try go_wp2
      have n0_ := qm (qd HO_4.out)
      have n1_ := qm (qn BK226.out)
      have n2_ := qm (qj HB.out)
      clear HO_4
      clear BK226
      clear HB
      have HO_4 := n0_
      have BK226 := n1_
      have HB := n2_
      clear n0_ n1_ n2_
      refine start_ (n := 14) (S := fun w' => w'.cell? ⟨gb226, 0, none⟩ = some (.int .i64 a0_0) ∧ w'.cell? ⟨gb226, 1, none⟩ = some (.int .i64 a0_1) ∧ w'.cell? ⟨gb226, 2, none⟩ = some (.int .i64 a0_2) ∧ w'.cell? ⟨gb226, 3, none⟩ = some (.int .i64 a0_3) ∧ w'.cell? ⟨gb226, 4, none⟩ = some (.bool a0_4) ∧ w'.cell? ⟨gb226, 5, none⟩ = some (.slice A0_5 l0_5.length c0_5) ∧ w'.cell? ⟨gb226, 6, none⟩ = some (.slice A0_6 l0_6.length c0_6) ∧ w'.cell? ⟨gb226, 7, none⟩ = some (.slice A0_7 l0_7.length c0_7)) (ds := []) (bm 0 14) (by kernel_rfl) rfl rfl (fz8 BK226.out) (fun hHeld => ?_); refine with_tabW spec_FrameBytes.tab36 spec_FrameBytes.bits36 (fun HT_ HW_ => ?_)
      generalize wc.drew = w132 at HO_4 BK226 HB hHeld ⊢
      refine pu 0 116 (bm 1 14) HT_ (h := ⟨_, by intro w'; go_simp; with_reducible rfl, _, by simp only [Act.put, s1, s2, s3, i64_w, i32_w]; rfl, ?_⟩)
      refine pu 1 117 (bm 2 14) HT_ (h := ⟨_, by intro w'; go_simp; with_reducible rfl, _, by simp only [Act.put, s1, s2, s3, i64_w, i32_w]; rfl, ?_⟩)
      refine pu 4 120 (bb 19 14) HT_ (h := ⟨_, by intro w'; go_simp; with_reducible rfl, _, by simp only [Act.put, s1, s2, s3, i64_w, i32_w]; rfl, ?_⟩)
      refine pu 7 123 (bb 147 14) HT_ (h := ⟨_, by intro w'; go_simp; with_reducible rfl, _, by simp only [Act.put, s1, s2, s3, i64_w, i32_w]; rfl, ?_⟩)
      refine tk 2 118 (bb 151 14) HT_ HW_ (hS := hHeld) (h := ⟨_, by rintro w' ⟨s0, s1, s2, s3, s4, s5, s6, s7⟩; go_simp; with_reducible rfl, _, by simp only [Act.put, s1, s2, s3, i64_w, i32_w]; rfl, ?_⟩)
      refine tk 5 121 (bb 183 14) HT_ HW_ (hS := hHeld) (h := ⟨_, by rintro w' ⟨s0, s1, s2, s3, s4, s5, s6, s7⟩; go_simp; with_reducible rfl, _, by simp only [Act.put, s1, s2, s3, i64_w, i32_w]; rfl, ?_⟩)
      refine tk 8 124 (bb 439 14) HT_ HW_ (hS := hHeld) (h := ⟨_, by rintro w' ⟨s0, s1, s2, s3, s4, s5, s6, s7⟩; go_simp; with_reducible rfl, _, by simp only [Act.put, s1, s2, s3, i64_w, i32_w]; rfl, ?_⟩)
      refine pu 9 125 (bb 951 14) HT_ (h := ⟨_, by intro w'; go_simp; with_reducible rfl, _, by simp only [Act.put, s1, s2, s3, i64_w, i32_w]; rfl, ?_⟩)
      refine pu 10 126 (bb 1975 14) HT_ (h := ⟨_, by intro w'; go_simp; with_reducible rfl, _, by simp only [Act.put, s1, s2, s3, i64_w, i32_w]; rfl, ?_⟩)
      refine join_ (σ := Value × Value × Value) 2 (bm 12 14) (fun s_ => [(119, s_.1), (122, s_.2.1), (127, s_.2.2)]) (fun s_ w' => (w'.cell? ⟨gb226, 0, none⟩ = some (.int .i64 a0_0) ∧ w'.cell? ⟨gb226, 1, none⟩ = some (.int .i64 a0_1) ∧ w'.cell? ⟨gb226, 2, none⟩ = some (.int .i64 a0_2) ∧ w'.cell? ⟨gb226, 3, none⟩ = some (.int .i64 a0_3) ∧ w'.cell? ⟨gb226, 4, none⟩ = some (.bool a0_4) ∧ w'.cell? ⟨gb226, 5, none⟩ = some (.slice A0_5 l0_5.length c0_5) ∧ w'.cell? ⟨gb226, 6, none⟩ = some (.slice A0_6 l0_6.length c0_6) ∧ w'.cell? ⟨gb226, 7, none⟩ = some (.slice A0_7 l0_7.length c0_7)) ∧ (Kd.R (Kd.int .u8) 5 w' w.heap.size (fun k_ => some k_ ≠ (s_.2.2 : Value).ownBlock) s_.2.1 t297) ∧ (Kd.R (Kd.int .u8) 5 w' w.heap.size (fun k_ => some k_ ≠ (s_.2.1 : Value).ownBlock) s_.2.2 y300) ∧ (w'.heap[gb226]? = some (.cells #[.int .i64 a0_0, .int .i64 a0_1, .int .i64 a0_2, .int .i64 a0_3, .bool a0_4, .slice A0_5 l0_5.length c0_5, .slice A0_6 l0_6.length c0_6, .slice A0_7 l0_7.length c0_7] 55 (0, 0))) ∧ (Below w.heap.size w w')) ?_ ?_
      rotate_left
      ·intro hCont
       refine two_ (i := 3) (j := 11) (Ni := some 119) (Nj := some 127) (bb 1983 14) (bb 4023 14) rfl rfl rfl rfl (two_of HT_.out (by kernel_rfl)) (by decide) (by decide) (fun K hK => ?_) (fun K hK => ?_)
       ·skip
        refine goes_ Try.func80 (by kernel_rfl) rfl #[.slice Ao131 y231.length co131, .int .i64 a0_1] (by rfl) rfl rfl (by (try simp only [m1, m2, m3]); first | done | rfl) ?_
        with_reducible refine (spec_l05N.calls kj79 (fun k_ => some k_ = (.slice Ao131 y231.length co131 : Value).ownBlock) (.slice Ao131 y231.length co131) y231 a0_1 t294 w _ ?side1 ?side2 A126.out).mono ?_
        (case side1 => repeat (first | (with_reducible first | exact HB.out | apply qh | apply qi | apply qj | refine qk ?_ GE226.out) | exact HB.out))
        (case side2 => exact Kd.R_tight rfl HO_4.out)
        rintro e w133 ⟨v295, rfl, ho0, hb, hkp⟩
        refine ⟨_, rfl, ?_⟩
        have n0_ := qm (blk_kept BK226.out hkp (fun hs_ => (fun e_ => (Kd.R_ne HO_4.out BK226.out (by decide)) e_) hs_))
        have n1_ := qm (qg (ok' := fun k_ => True) ho0 (fun k_ hk_ => trivial))
        have n2_ := qm (hb)
        clear BK226
        clear HB
        clear HO_4
        have BK226 := n0_
        have HO296 := n1_
        have HB := n2_
        clear n0_ n1_ n2_
        (try clear hb)
        (try clear hkp)
        (try clear ho0)
        obtain ⟨Ao134, co134, eo134⟩ := Kd.R_slice HO296.out
        (first | subst eo134 | (injection eo134 with f1_ f2_ f3_; have f4_ := f1_.symm; have f5_ := f3_.symm; clear f1_ f2_ f3_; subst f4_; subst f5_))
        refine hK.out _ _ (fz8 BK226.out) (fun hHeld => ?_)
        clear hK K
        refine norm_ (a' := ?_) ?_ ?_
        rotate_left
        ·show Act.put _ (some 119) _ = _
         simp only [Act.put, s1, s2, s3, i64_w, i32_w]
         rfl
        refine two_ (i := 6) (j := 11) (Ni := some 122) (Nj := some 127) (bm 11 14) (bb 4031 14) rfl rfl rfl rfl (two_of HT_.out (by kernel_rfl)) (by decide) (by decide) (fun K hK => ?_) (fun K hK => ?_)
        ·skip
         refine goes_ Try.func80 (by kernel_rfl) rfl #[.slice Ao134 t294.length co134, .int .i64 a0_2] (by rfl) rfl rfl (by (try simp only [m1, m2, m3]); first | done | rfl) ?_
         with_reducible refine (spec_l05N.calls kj79 (fun k_ => some k_ = (.slice Ao134 t294.length co134 : Value).ownBlock) (.slice Ao134 t294.length co134) t294 a0_2 t297 w _ ?side1 ?side2 A127.out).mono ?_
         (case side1 => repeat (first | (with_reducible first | exact HB.out | apply qh | apply qi | apply qj | refine qk ?_ GE226.out) | exact HB.out))
         (case side2 => exact Kd.R_tight rfl HO296.out)
         rintro e w135 ⟨v298, rfl, ho0, hb, hkp⟩
         refine ⟨_, rfl, ?_⟩
         have n0_ := qm (blk_kept BK226.out hkp (fun hs_ => (fun e_ => (Kd.R_ne HO296.out BK226.out (by decide)) e_) hs_))
         have n1_ := qm (qg (ok' := fun k_ => True) ho0 (fun k_ hk_ => trivial))
         have n2_ := qm (hb)
         clear BK226
         clear HB
         clear HO296
         have BK226 := n0_
         have HO299 := n1_
         have HB := n2_
         clear n0_ n1_ n2_
         (try clear hb)
         (try clear hkp)
         (try clear ho0)
         refine hK.out _ _ (fz8 BK226.out) (fun hHeld => ?_)
         clear hK K
         refine norm_ (a' := ?_) ?_ ?_
         rotate_left
         ·show Act.put _ (some 122) _ = _
          simp only [Act.put, s1, s2, s3, i64_w, i32_w]
          rfl
         refine one_ (i := 11) (N := some 127) (bm 12 14) rfl rfl (one_of HT_.out (by kernel_rfl)) (by decide) (fun K hK => ?_)
         refine Kd.R_lit_step (Kd.int .u8) _ 5 ?hg (N := 127) ?hd (xs := ([((l0_5.length : Int)) % 256] : List Int)) (inner := [.int .u8 (((l0_5.length : Int)) % 256)]) (ok := fun _ => True) (okp := fun _ => True) ?hr ?hp (fun _ hk => hk) trivial (Below.refl _ _) (Nat.le_refl _) (by simp) ?_; (case hd => rfl); (case hg => rfl); (case hr => first | (go_simp; done) | (go_simp; rfl)); (case hp => exact (Reps.one (show Kd.M (Kd.int .u8) _ _ _ (((l0_5.length : Int)) % 256) [.int .u8 (((l0_5.length : Int)) % 256)] from rfl) (Reps.none _ _)))
         intro v301 w136 ho137 hb hg_ hnew_
         clear hg_ hnew_
         (first | rw [← Ny300.out] at ho137 | (simp only [Int.reduceToNat] at ho137; rw [← Ny300.out] at ho137))
         have n0_ := qm (Kd.R_elder' HO299.out (Kd.R_base ho137) hb)
         have n1_ := qm (Kd.R_lower (Kd.R_new' ho137 (Kd.R_lt HO299.out)) (qs HB.out))
         have n2_ := qm (qv (g := gb226) BK226.out hb)
         have n3_ := qm (qt HB.out hb)
         clear HO299
         clear BK226
         clear HB
         have HO299 := n0_
         have HO302 := n1_
         have BK226 := n2_
         have HB := n3_
         clear n0_ n1_ n2_ n3_
         clear hb ho137
         refine hK.out _ _ (fz8 BK226.out) (fun hHeld => ?_)
         clear hK K
         refine norm_ (a' := ?_) ?_ ?_
         rotate_left
         ·show Act.put _ (some 127) _ = _
          simp only [Act.put, s1, s2, s3, i64_w, i32_w]
          rfl
         exact norm_ (by simp only [putAll, Act.put, s1, s2, s3]) (hCont (.slice Ao134 t294.length co134, v298, v301) _ ⟨hHeld, (by (with_reducible repeat (first | apply qb | apply qc | apply qd)); exact qg HO299.out (fun _ hk => hk.2)), (by (with_reducible repeat (first | apply qb | apply qc | apply qd)); exact qg HO302.out (fun _ hk => hk.2)), BK226.out, HB.out⟩)
        ·skip
         refine Kd.R_lit_step (Kd.int .u8) _ 5 ?hg (N := 127) ?hd (xs := ([((l0_5.length : Int)) % 256] : List Int)) (inner := [.int .u8 (((l0_5.length : Int)) % 256)]) (ok := fun _ => True) (okp := fun _ => True) ?hr ?hp (fun _ hk => hk) trivial (Below.refl _ _) (Nat.le_refl _) (by simp) ?_; (case hd => rfl); (case hg => rfl); (case hr => first | (go_simp; done) | (go_simp; rfl)); (case hp => exact (Reps.one (show Kd.M (Kd.int .u8) _ _ _ (((l0_5.length : Int)) % 256) [.int .u8 (((l0_5.length : Int)) % 256)] from rfl) (Reps.none _ _)))
         intro v301 w134 ho135 hb hg_ hnew_
         clear hg_ hnew_
         (first | rw [← Ny300.out] at ho135 | (simp only [Int.reduceToNat] at ho135; rw [← Ny300.out] at ho135))
         have n0_ := qm (Kd.R_elder' HO296.out (Kd.R_base ho135) hb)
         have n1_ := qm (Kd.R_lower (Kd.R_new' ho135 (Kd.R_lt HO296.out)) (qs HB.out))
         have n2_ := qm (qv (g := gb226) BK226.out hb)
         have n3_ := qm (qt HB.out hb)
         clear HO296
         clear BK226
         clear HB
         have HO296 := n0_
         have HO302 := n1_
         have BK226 := n2_
         have HB := n3_
         clear n0_ n1_ n2_ n3_
         clear hb ho135
         obtain ⟨Ao136, co136, eo136⟩ := Kd.R_slice HO296.out
         (first | subst eo136 | (injection eo136 with f1_ f2_ f3_; have f4_ := f1_.symm; have f5_ := f3_.symm; clear f1_ f2_ f3_; subst f4_; subst f5_))
         refine hK.out _ _ (fz8 BK226.out) (fun hHeld => ?_)
         clear hK K
         refine norm_ (a' := ?_) ?_ ?_
         rotate_left
         ·show Act.put _ (some 127) _ = _
          simp only [Act.put, s1, s2, s3, i64_w, i32_w]
          rfl
         refine one_ (i := 6) (N := some 122) (bm 12 14) rfl rfl (one_of HT_.out (by kernel_rfl)) (by decide) (fun K hK => ?_)
         refine goes_ Try.func80 (by kernel_rfl) rfl #[.slice Ao136 t294.length co136, .int .i64 a0_2] (by rfl) rfl rfl (by (try simp only [m1, m2, m3]); first | done | rfl) ?_
         with_reducible refine (spec_l05N.calls kj79 (fun k_ => some k_ = (.slice Ao136 t294.length co136 : Value).ownBlock) (.slice Ao136 t294.length co136) t294 a0_2 t297 w _ ?side1 ?side2 A127.out).mono ?_
         (case side1 => repeat (first | (with_reducible first | exact HB.out | apply qh | apply qi | apply qj | refine qk ?_ GE226.out) | exact HB.out))
         (case side2 => exact Kd.R_tight rfl HO296.out)
         rintro e w137 ⟨v298, rfl, ho0, hb, hkp⟩
         refine ⟨_, rfl, ?_⟩
         have n0_ := qm (blk_kept BK226.out hkp (fun hs_ => (fun e_ => (Kd.R_ne HO296.out BK226.out (by decide)) e_) hs_))
         have n1_ := qm (qg (ok' := fun k_ => some k_ ≠ (v298 : Value).ownBlock) (Kd.R_keptB (HO302.out) hkp (fun k_ hk_ hs_ => (hk_.2) hs_)) (fun k_ hk_ => fun e_ => Or.elim (ho0.1 k_ e_.symm) (fun hs_ => hk_.2.1 hs_) (fun hn_ => Nat.not_le.2 hk_.2.2 hn_)))
         have n2_ := qm (qg (ok' := fun k_ => some k_ ≠ (v301 : Value).ownBlock) ho0 (fun k_ hk_ => Or.elim hk_ (fun hs_ => fun e_ => (((HO302.out).1 k_ e_.symm).2) hs_) (fun hn_ => (Kd.fresh' (Kd.R_lt HO302.out) k_ hn_))))
         have n3_ := qm (hb)
         clear BK226
         clear HO302
         clear HB
         clear HO296
         have BK226 := n0_
         have HO302 := n1_
         have HO299 := n2_
         have HB := n3_
         clear n0_ n1_ n2_ n3_
         (try clear hb)
         (try clear hkp)
         (try clear ho0)
         refine hK.out _ _ (fz8 BK226.out) (fun hHeld => ?_)
         clear hK K
         refine norm_ (a' := ?_) ?_ ?_
         rotate_left
         ·show Act.put _ (some 122) _ = _
          simp only [Act.put, s1, s2, s3, i64_w, i32_w]
          rfl
         exact norm_ (by simp only [putAll, Act.put, s1, s2, s3]) (hCont (.slice Ao136 t294.length co136, v298, v301) _ ⟨hHeld, HO299.out, HO302.out, BK226.out, HB.out⟩)
       ·skip
        refine Kd.R_lit_step (Kd.int .u8) _ 5 ?hg (N := 127) ?hd (xs := ([((l0_5.length : Int)) % 256] : List Int)) (inner := [.int .u8 (((l0_5.length : Int)) % 256)]) (ok := fun _ => True) (okp := fun _ => True) ?hr ?hp (fun _ hk => hk) trivial (Below.refl _ _) (Nat.le_refl _) (by simp) ?_; (case hd => rfl); (case hg => rfl); (case hr => first | (go_simp; done) | (go_simp; rfl)); (case hp => exact (Reps.one (show Kd.M (Kd.int .u8) _ _ _ (((l0_5.length : Int)) % 256) [.int .u8 (((l0_5.length : Int)) % 256)] from rfl) (Reps.none _ _)))
        intro v301 w133 ho134 hb hg_ hnew_
        clear hg_ hnew_
        (first | rw [← Ny300.out] at ho134 | (simp only [Int.reduceToNat] at ho134; rw [← Ny300.out] at ho134))
        have n0_ := qm (Kd.R_elder' HO_4.out (Kd.R_base ho134) hb)
        have n1_ := qm (Kd.R_lower (Kd.R_new' ho134 (Kd.R_lt HO_4.out)) (qs HB.out))
        have n2_ := qm (qv (g := gb226) BK226.out hb)
        have n3_ := qm (qt HB.out hb)
        clear HO_4
        clear BK226
        clear HB
        have HO_4 := n0_
        have HO302 := n1_
        have BK226 := n2_
        have HB := n3_
        clear n0_ n1_ n2_ n3_
        clear hb ho134
        refine hK.out _ _ (fz8 BK226.out) (fun hHeld => ?_)
        clear hK K
        refine norm_ (a' := ?_) ?_ ?_
        rotate_left
        ·show Act.put _ (some 127) _ = _
         simp only [Act.put, s1, s2, s3, i64_w, i32_w]
         rfl
        refine one_ (i := 3) (N := some 119) (bb 4031 14) rfl rfl (one_of HT_.out (by kernel_rfl)) (by decide) (fun K hK => ?_)
        refine goes_ Try.func80 (by kernel_rfl) rfl #[.slice Ao131 y231.length co131, .int .i64 a0_1] (by rfl) rfl rfl (by (try simp only [m1, m2, m3]); first | done | rfl) ?_
        with_reducible refine (spec_l05N.calls kj79 (fun k_ => some k_ = (.slice Ao131 y231.length co131 : Value).ownBlock) (.slice Ao131 y231.length co131) y231 a0_1 t294 w _ ?side1 ?side2 A126.out).mono ?_
        (case side1 => repeat (first | (with_reducible first | exact HB.out | apply qh | apply qi | apply qj | refine qk ?_ GE226.out) | exact HB.out))
        (case side2 => exact Kd.R_tight rfl HO_4.out)
        rintro e w135 ⟨v295, rfl, ho0, hb, hkp⟩
        refine ⟨_, rfl, ?_⟩
        have n0_ := qm (blk_kept BK226.out hkp (fun hs_ => (fun e_ => (Kd.R_ne HO_4.out BK226.out (by decide)) e_) hs_))
        have n1_ := qm (qg (ok' := fun k_ => some k_ ≠ (v295 : Value).ownBlock) (Kd.R_keptB (HO302.out) hkp (fun k_ hk_ hs_ => (hk_.2) hs_)) (fun k_ hk_ => fun e_ => Or.elim (ho0.1 k_ e_.symm) (fun hs_ => hk_.2.1 hs_) (fun hn_ => Nat.not_le.2 hk_.2.2 hn_)))
        have n2_ := qm (qg (ok' := fun k_ => some k_ ≠ (v301 : Value).ownBlock) ho0 (fun k_ hk_ => Or.elim hk_ (fun hs_ => fun e_ => (((HO302.out).1 k_ e_.symm).2) hs_) (fun hn_ => (Kd.fresh' (Kd.R_lt HO302.out) k_ hn_))))
        have n3_ := qm (hb)
        clear BK226
        clear HO302
        clear HB
        clear HO_4
        have BK226 := n0_
        have HO302 := n1_
        have HO296 := n2_
        have HB := n3_
        clear n0_ n1_ n2_ n3_
        (try clear hb)
        (try clear hkp)
        (try clear ho0)
        obtain ⟨Ao136, co136, eo136⟩ := Kd.R_slice HO296.out
        (first | subst eo136 | (injection eo136 with f1_ f2_ f3_; have f4_ := f1_.symm; have f5_ := f3_.symm; clear f1_ f2_ f3_; subst f4_; subst f5_))
        refine hK.out _ _ (fz8 BK226.out) (fun hHeld => ?_)
        clear hK K
        refine norm_ (a' := ?_) ?_ ?_
        rotate_left
        ·show Act.put _ (some 119) _ = _
         simp only [Act.put, s1, s2, s3, i64_w, i32_w]
         rfl
        refine one_ (i := 6) (N := some 122) (bm 12 14) rfl rfl (one_of HT_.out (by kernel_rfl)) (by decide) (fun K hK => ?_)
        refine goes_ Try.func80 (by kernel_rfl) rfl #[.slice Ao136 t294.length co136, .int .i64 a0_2] (by rfl) rfl rfl (by (try simp only [m1, m2, m3]); first | done | rfl) ?_
        with_reducible refine (spec_l05N.calls kj79 (fun k_ => some k_ = (.slice Ao136 t294.length co136 : Value).ownBlock) (.slice Ao136 t294.length co136) t294 a0_2 t297 w _ ?side1 ?side2 A127.out).mono ?_
        (case side1 => repeat (first | (with_reducible first | exact HB.out | apply qh | apply qi | apply qj | refine qk ?_ GE226.out) | exact HB.out))
        (case side2 => exact Kd.R_tight rfl HO296.out)
        rintro e w137 ⟨v298, rfl, ho0, hb, hkp⟩
        refine ⟨_, rfl, ?_⟩
        have n0_ := qm (blk_kept BK226.out hkp (fun hs_ => (fun e_ => (Kd.R_ne HO296.out BK226.out (by decide)) e_) hs_))
        have n1_ := qm (qg (ok' := fun k_ => some k_ ≠ (v298 : Value).ownBlock) (Kd.R_keptB (HO302.out) hkp (fun k_ hk_ hs_ => (hk_) hs_)) (fun k_ hk_ => fun e_ => Or.elim (ho0.1 k_ e_.symm) (fun hs_ => hk_.2.1 hs_) (fun hn_ => Nat.not_le.2 hk_.2.2 hn_)))
        have n2_ := qm (qg (ok' := fun k_ => some k_ ≠ (v301 : Value).ownBlock) ho0 (fun k_ hk_ => Or.elim hk_ (fun hs_ => fun e_ => (((HO302.out).1 k_ e_.symm)) hs_) (fun hn_ => (Kd.fresh' (Kd.R_lt HO302.out) k_ hn_))))
        have n3_ := qm (hb)
        clear BK226
        clear HO302
        clear HB
        clear HO296
        have BK226 := n0_
        have HO302 := n1_
        have HO299 := n2_
        have HB := n3_
        clear n0_ n1_ n2_ n3_
        (try clear hb)
        (try clear hkp)
        (try clear ho0)
        refine hK.out _ _ (fz8 BK226.out) (fun hHeld => ?_)
        clear hK K
        refine norm_ (a' := ?_) ?_ ?_
        rotate_left
        ·show Act.put _ (some 122) _ = _
         simp only [Act.put, s1, s2, s3, i64_w, i32_w]
         rfl
        exact norm_ (by simp only [putAll, Act.put, s1, s2, s3]) (hCont (.slice Ao136 t294.length co136, v298, v301) _ ⟨hHeld, HO299.out, HO302.out, BK226.out, HB.out⟩)
      rintro ⟨v295, v298, v301⟩ w138 ⟨hS_, h0_, h1_, h2_, h3_⟩
      have n0_ : Aside0 (Kd.R (Kd.int .u8) 5 w138 w.heap.size (fun k_ => some k_ ≠ (v301 : Value).ownBlock) v298 t297) := ⟨h0_⟩
      have n1_ : Aside0 (Kd.R (Kd.int .u8) 5 w138 w.heap.size (fun k_ => some k_ ≠ (v298 : Value).ownBlock) v301 y300) := ⟨h1_⟩
      have n2_ : Aside0 (w138.heap[gb226]? = some (.cells #[.int .i64 a0_0, .int .i64 a0_1, .int .i64 a0_2, .int .i64 a0_3, .bool a0_4, .slice A0_5 l0_5.length c0_5, .slice A0_6 l0_6.length c0_6, .slice A0_7 l0_7.length c0_7] 55 (0, 0))) := ⟨h2_⟩
      have n3_ : Aside0 (Below w.heap.size w w138) := ⟨h3_⟩
      clear HO_4
      clear BK226
      clear HB
      clear h0_ h1_ h2_ h3_
      have HO299 := n0_
      have HO302 := n1_
      have BK226 := n2_
      have HB := n3_
      clear n0_ n1_ n2_ n3_
      have hHeld : w138.cell? ⟨gb226, 0, none⟩ = some (.int .i64 a0_0) ∧ w138.cell? ⟨gb226, 1, none⟩ = some (.int .i64 a0_1) ∧ w138.cell? ⟨gb226, 2, none⟩ = some (.int .i64 a0_2) ∧ w138.cell? ⟨gb226, 3, none⟩ = some (.int .i64 a0_3) ∧ w138.cell? ⟨gb226, 4, none⟩ = some (.bool a0_4) ∧ w138.cell? ⟨gb226, 5, none⟩ = some (.slice A0_5 l0_5.length c0_5) ∧ w138.cell? ⟨gb226, 6, none⟩ = some (.slice A0_6 l0_6.length c0_6) ∧ w138.cell? ⟨gb226, 7, none⟩ = some (.slice A0_7 l0_7.length c0_7) := hS_
      obtain ⟨Ao140, co140, eo140⟩ := Kd.R_slice HO302.out
      (first | subst eo140 | (injection eo140 with f1_ f2_ f3_; have f4_ := f1_.symm; have f5_ := f3_.symm; clear f1_ f2_ f3_; subst f4_; subst f5_))
      refine norm_ (a' := ?_) ?_ ?_
      rotate_left
      ·simp only [putAll, Act.put, s1, s2, s3]
       rfl
      refine one_ (i := 12) (N := some 128) (bm 13 14) rfl rfl (one_of HT_.out (by kernel_rfl)) (by decide) (fun K hK => ?_)
      refine Kd.R_append_rows_step (Kd.int .u8) (w0 := w) w.heap.size (by rfl) (.tmp 122) (.tmp 127) 22 5 (.int .u8 0) 1 rfl Try.underlying22 info5 rfl (by decide) (by omega) v298 t297 y300 _ _ _ (fun k_ => some k_ ≠ (.slice Ao140 y300.length co140 : Value).ownBlock) (fun _ => False) rfl rfl ?aO ?aR (fun _ _ h => h) (fun _ h => h.elim) ?aF ?aB ?aS ?aL ?_
      (case aR => repeat (first | exact (Kd.R_reads' HO302.out).2.2 | (with_reducible refine Kd.C_alloc ?_ _) | (with_reducible refine Kd.C_drewN ?_ _) | (with_reducible refine Kd.C_drew ?_)))
      (case aB => exact HB.out)
      (case aF => exact (fun k_ hk => Kd.fresh' (Kd.R_lt HO302.out) k_ hk))
      (case aO => exact HO299.out)
      (case aS => exact (qs HB.out))
      (case aL => have := LMc128.out; omega)
      intro v304 w139 ho hb hg hat
      rw [← Ny303.out] at ho
      have n0_ := qm (blk_grown (g := gb226) BK226.out hg (Kd.R_ne HO299.out BK226.out (by decide)))
      have n1_ := qm (Kd.R_after (ok := (fun _ => True)) (by (with_reducible repeat (first | apply qb | apply qc | apply qd)); exact qg HO302.out (fun _ hk => ⟨trivial, hk⟩)) hg hat)
      have n2_ := qm (hb)
      have n3_ := qm (ho)
      clear BK226
      clear HO302
      clear HB
      clear HO299
      have BK226 := n0_
      have HO302 := n1_
      have HB := n2_
      have HO305 := n3_
      clear n0_ n1_ n2_ n3_
      clear ho hb hg hat
      refine hK.out _ _ (fz8 BK226.out) (fun hHeld => ?_)
      clear hK K
      refine norm_ (a' := ?_) ?_ ?_
      rotate_left
      ·show Act.put _ (some 128) _ = _
       simp only [Act.put, s1, s2, s3, i64_w, i32_w]
       rfl
      refine pu 13 4 (bm 14 14) HT_ (h := ⟨_, by intro w'; go_simp; with_reducible rfl, _, by simp only [Act.put, s1, s2, s3, i64_w, i32_w]; rfl, ?_⟩)
      refine done_ (done_of HT_.out (by kernel_rfl)) ?_
      try go_wp2
      have n0_ := qm (qd HO302.out)
      have n1_ := qm (qd HO305.out)
      have n2_ := qm (qn BK226.out)
      have n3_ := qm (qj HB.out)
      clear HO302
      clear HO305
      clear BK226
      clear HB
      have HO302 := n0_
      have HO305 := n1_
      have BK226 := n2_
      have HB := n3_
      clear n0_ n1_ n2_ n3_
      refine start_ (n := 8) (S := fun w' => w'.cell? ⟨gb226, 0, none⟩ = some (.int .i64 a0_0) ∧ w'.cell? ⟨gb226, 1, none⟩ = some (.int .i64 a0_1) ∧ w'.cell? ⟨gb226, 2, none⟩ = some (.int .i64 a0_2) ∧ w'.cell? ⟨gb226, 3, none⟩ = some (.int .i64 a0_3) ∧ w'.cell? ⟨gb226, 4, none⟩ = some (.bool a0_4) ∧ w'.cell? ⟨gb226, 5, none⟩ = some (.slice A0_5 l0_5.length c0_5) ∧ w'.cell? ⟨gb226, 6, none⟩ = some (.slice A0_6 l0_6.length c0_6) ∧ w'.cell? ⟨gb226, 7, none⟩ = some (.slice A0_7 l0_7.length c0_7)) (ds := []) (bm 0 8) (by kernel_rfl) rfl rfl (fz8 BK226.out) (fun hHeld => ?_); refine with_tabW spec_FrameBytes.tab37 spec_FrameBytes.bits37 (fun HT_ HW_ => ?_)
      generalize w139.drew = w141 at HO302 HO305 BK226 HB hHeld ⊢
      refine pu 0 129 (bm 1 8) HT_ (h := ⟨_, by intro w'; go_simp; with_reducible rfl, _, by simp only [Act.put, s1, s2, s3, i64_w, i32_w]; rfl, ?_⟩)
      refine pu 1 130 (bm 2 8) HT_ (h := ⟨_, by intro w'; go_simp; with_reducible rfl, _, by simp only [Act.put, s1, s2, s3, i64_w, i32_w]; rfl, ?_⟩)
      refine pu 4 133 (bb 19 8) HT_ (h := ⟨_, by intro w'; go_simp; with_reducible rfl, _, by simp only [Act.put, s1, s2, s3, i64_w, i32_w]; rfl, ?_⟩)
      refine tk 2 131 (bb 23 8) HT_ HW_ (hS := hHeld) (h := ⟨_, by rintro w' ⟨s0, s1, s2, s3, s4, s5, s6, s7⟩; go_simp; with_reducible rfl, _, by simp only [Act.put, s1, s2, s3, i64_w, i32_w]; rfl, ?_⟩)
      refine tk 5 134 (bb 55 8) HT_ HW_ (hS := hHeld) (h := ⟨_, by rintro w' ⟨s0, s1, s2, s3, s4, s5, s6, s7⟩; go_simp; with_reducible rfl, _, by simp only [Act.put, s1, s2, s3, i64_w, i32_w]; rfl, ?_⟩)
      refine one_ (i := 3) (N := some 132) (bm 6 8) rfl rfl (one_of HT_.out (by kernel_rfl)) (by decide) (fun K hK => ?_)
      refine Kd.R_append_rows_step (Kd.int .u8) (w0 := w) w.heap.size (by rfl) (.tmp 129) (.tmp 131) 22 5 (.int .u8 0) 1 rfl Try.underlying22 info5 rfl (by decide) (by omega) v304 y303 l0_5 _ _ _ (fun k_ => some k_ ≠ (.slice Ao140 y300.length co140 : Value).ownBlock) (fun _ => False) rfl rfl ?aO ?aR (fun _ _ h => h) (fun _ h => h.elim) ?aF ?aB ?aS ?aL ?_
      (case aR => repeat (first | exact (Kd.C_below HR0_5.out HB.out) | (with_reducible refine Kd.C_alloc ?_ _) | (with_reducible refine Kd.C_drewN ?_ _) | (with_reducible refine Kd.C_drew ?_)))
      (case aB => exact HB.out)
      (case aF => exact (fun k_ hk => Kd.fresh' (Kd.R_lt HO302.out) k_ hk))
      (case aO => exact HO305.out)
      (case aS => exact (qs HB.out))
      (case aL => have := LMc129.out; omega)
      intro v307 w142 ho hb hg hat
      rw [← Ny306.out] at ho
      have n0_ := qm (blk_grown (g := gb226) BK226.out hg (Kd.R_ne HO305.out BK226.out (by decide)))
      have n1_ := qm (Kd.R_after (ok := (fun _ => True)) HO302.out hg hat)
      have n2_ := qm (hb)
      have n3_ := qm (ho)
      clear BK226
      clear HO302
      clear HB
      clear HO305
      have BK226 := n0_
      have HO302 := n1_
      have HB := n2_
      have HO308 := n3_
      clear n0_ n1_ n2_ n3_
      clear ho hb hg hat
      refine hK.out _ _ (fz8 BK226.out) (fun hHeld => ?_)
      clear hK K
      refine norm_ (a' := ?_) ?_ ?_
      rotate_left
      ·show Act.put _ (some 132) _ = _
       simp only [Act.put, s1, s2, s3, i64_w, i32_w]
       rfl
      refine one_ (i := 6) (N := some 135) (bm 7 8) rfl rfl (one_of HT_.out (by kernel_rfl)) (by decide) (fun K hK => ?_)
      refine Kd.R_append_rows_step (Kd.int .u8) (w0 := w) w.heap.size (by rfl) (.tmp 132) (.tmp 134) 22 5 (.int .u8 0) 1 rfl Try.underlying22 info5 rfl (by decide) (by omega) v307 y306 l0_6 _ _ _ (fun k_ => some k_ ≠ (.slice Ao140 y300.length co140 : Value).ownBlock) (fun _ => False) rfl rfl ?aO ?aR (fun _ _ h => h) (fun _ h => h.elim) ?aF ?aB ?aS ?aL ?_
      (case aR => repeat (first | exact (Kd.C_below HR0_6.out HB.out) | (with_reducible refine Kd.C_alloc ?_ _) | (with_reducible refine Kd.C_drewN ?_ _) | (with_reducible refine Kd.C_drew ?_)))
      (case aB => exact HB.out)
      (case aF => exact (fun k_ hk => Kd.fresh' (Kd.R_lt HO302.out) k_ hk))
      (case aO => exact HO308.out)
      (case aS => exact (qs HB.out))
      (case aL => have := LMc130.out; omega)
      intro v310 w143 ho hb hg hat
      rw [← Ny309.out] at ho
      have n0_ := qm (blk_grown (g := gb226) BK226.out hg (Kd.R_ne HO308.out BK226.out (by decide)))
      have n1_ := qm (Kd.R_after (ok := (fun _ => True)) HO302.out hg hat)
      have n2_ := qm (hb)
      have n3_ := qm (ho)
      clear BK226
      clear HO302
      clear HB
      clear HO308
      have BK226 := n0_
      have HO302 := n1_
      have HB := n2_
      have HO311 := n3_
      clear n0_ n1_ n2_ n3_
      clear ho hb hg hat
      refine hK.out _ _ (fz8 BK226.out) (fun hHeld => ?_)
      clear hK K
      refine norm_ (a' := ?_) ?_ ?_
      rotate_left
      ·show Act.put _ (some 135) _ = _
       simp only [Act.put, s1, s2, s3, i64_w, i32_w]
       rfl
      refine pu 7 4 (bm 8 8) HT_ (h := ⟨_, by intro w'; go_simp; with_reducible rfl, _, by simp only [Act.put, s1, s2, s3, i64_w, i32_w]; rfl, ?_⟩)
      refine done_ (done_of HT_.out (by kernel_rfl)) ?_
      try go_wp2
      go_ret2
      exact ⟨_, by first | rfl | (simp <;> rfl) | (simp [*] <;> rfl), by (with_reducible repeat (first | apply qb | apply qc | apply qd)); exact qg HO311.out (fun _ hk => trivial), HB.out⟩
     rw [if_neg c130] at H
     exact absurd H (by simp)
    rw [if_neg c129] at H
    exact absurd H (by simp)
   rw [if_neg c128] at H
   exact absurd H (by simp)
  rw [if_neg c125] at H
  have c125b0 : (a0_0 == 24) = false := beq_eq_false_iff_ne.mpr c125
  have c125b1 : (a0_0 != 24) = true := bne_iff_ne.mpr c125
  have HC144 := qm H
  clear H
  go_upto_if 136 with (fail)
  go_cut [136] (fun v136 wc => ∃ (kq : Nat) (x136_143 : Bool), v136 = .bool x136_143 ∧ Aside0 (spec_FrameBytes.j5 kq y231 a0_0 x136_143 a0_0 a0_1 a0_2 a0_3 a0_4 l0_5 l0_6 l0_7 = some (r1, r2)) ∧ Aside0 (kq ≤ kj79) ∧ Aside0 (Kd.R (Kd.int .u8) 5 wc w.heap.size (fun _ => True) v232 y231) ∧ Aside0 (wc.heap[gb226]? = some (.cells #[.int .i64 a0_0, .int .i64 a0_1, .int .i64 a0_2, .int .i64 a0_3, .bool a0_4, (.slice A0_5 l0_5.length c0_5), (.slice A0_6 l0_6.length c0_6), (.slice A0_7 l0_7.length c0_7)] 55 (0, 0))) ∧ Aside0 (Below w.heap.size w wc))
  case first =>
   have H := HC144.out
   clear HC144
   by_cases c145 : a0_0 = 26
   ·rw [if_pos c145] at H
    have c145b0 : (a0_0 == 26) = true := beq_iff_eq.mpr c145
    have c145b1 : (a0_0 != 26) = false := bne_eq_false_iff_eq.mpr c145
    clear c145
    (first | rw [c145b0] | (simp only [i64_w, i32_w]; rw [c145b0]) | skip)
    have H' := qm H
    clear H
    go_wp2
    go_meet
    case rel => exact ⟨_, ((a0_0 == 26)), (by first | rfl | (simp; done) | (simp [*]; done)), H', ⟨by have := HJ43.out; have := HJ61.out; have := HJ71.out; have := HJ79.out; first | omega | exact Nat.le_refl _⟩, ⟨by (with_reducible repeat (first | apply qb | apply qc | apply qd)); exact HO_4.out⟩, ⟨BK226.out⟩, ⟨by repeat (first | (with_reducible first | exact HB.out | apply qh | apply qi | apply qj | refine qk ?_ GE226.out) | exact HB.out)⟩⟩
   rw [if_neg c145] at H
   have c145b0 : (a0_0 == 26) = false := beq_eq_false_iff_ne.mpr c145
   have c145b1 : (a0_0 != 26) = true := bne_iff_ne.mpr c145
   (first | rw [c145b0] | (simp only [i64_w, i32_w]; rw [c145b0]) | skip)
   have H' := qm H
   clear H
   go_wp2
   go_meet
   case rel => exact ⟨_, ((a0_0 == 27)), rfl, H', ⟨by have := HJ43.out; have := HJ61.out; have := HJ71.out; have := HJ79.out; omega⟩, ⟨HO_4.out⟩, ⟨BK226.out⟩, ⟨HB.out⟩⟩
  clear HC144
  try clear c95
  try clear c95b0
  try clear c95b1
  try clear c125
  try clear c125b0
  try clear c125b1
  obtain ⟨kq, x136_143, rfl, HA, HJ143, HO_4, BK226, HB⟩ := hcut
  cases kq with
  | zero => exact absurd HA.out (by simp [spec_FrameBytes.j5])
  | succ kj143 => ?_
  have H := HA.out
  clear HA
  simp only [spec_FrameBytes.j5] at H
  by_cases c146 : x136_143 = true
  ·subst c146
   rw [if_pos rfl] at H
   by_cases c147 : y231.length + l0_5.length < 140737488355328
   ·rw [if_pos c147] at H
    have LMc147 := qm c147
    clear c147
    obtain ⟨y312, hy312⟩ : ∃ y_ : List Int, y_ = (y231 ++ l0_5) := ⟨_, rfl⟩
    replace H : (some (y312, 0)) = some (r1, r2) := by first | (rw [hy312]; with_reducible exact H) | (have H2_ := (Option.bind_some _ _).symm.trans H; rw [hy312]; with_reducible exact H2_) | (have H2_ := (Option.bind_some _ _).symm.trans H; with_reducible exact H2_) | with_reducible exact H | (rw [hy312]; exact H) | exact H
    have Ny312 := qm hy312
    clear hy312
    simp only [Option.some.injEq, Prod.mk.injEq] at H
    obtain ⟨rfl, rfl⟩ := H
    obtain ⟨_, _, _, _, _, _, _, _, _, _, _, _, _, _, _, _⟩ := fc8 BK226.out
    go_wp2_with (first | ((with_reducible refine gate_builtin (b := .append) (xs := #[.tmp 139, .tmp 141]) rfl ?_); at_builtin; refine Kd.R_append_rows (Kd.int .u8) (w0 := w) w.heap.size rfl (.tmp 139) (.tmp 141) 22 5 (.int .u8 0) 1 rfl Try.underlying22 info5 rfl (by decide) (by omega) v232 y231 l0_5 _ _ _ (fun _ => True) (fun _ => False) rfl rfl ?aO ?aR (fun _ _ h => h) (fun _ h => h.elim) ?aF ?aB ?aS ?aL ?_; (case aR => repeat (first | exact (Kd.C_below HR0_5.out HB.out) | (with_reducible refine Kd.C_alloc ?_ _) | (with_reducible refine Kd.C_drewN ?_ _) | (with_reducible refine Kd.C_drew ?_))); (case aB => exact HB.out); (case aF => exact (fun _ _ => trivial)); (case aO => exact HO_4.out); (case aS => exact (qs HB.out)); (case aL => have := LMc147.out; omega); intro v313 w149 ho hb hg hat; rw [← Ny312.out] at ho; have n0_ := qm (blk_grown (g := gb226) BK226.out hg (Kd.R_ne HO_4.out BK226.out (by decide))); have n1_ := qm (hb); have n2_ := qm (ho); clear BK226; clear HB; clear HO_4; have BK226 := n0_; have HB := n1_; have HO314 := n2_; clear ho hb hg hat))
    go_ret2
    exact ⟨_, by first | rfl | (simp <;> rfl) | (simp [*] <;> rfl), HO314.out, HB.out⟩
   rw [if_neg c147] at H
   exact absurd H (by simp)
  replace c146 := Bool.eq_false_iff.mpr c146
  subst c146
  rw [if_neg nt] at H
  by_cases c150 : a0_0 = 28
  ·rw [if_pos c150] at H
   have c150b0 : (a0_0 == 28) = true := beq_iff_eq.mpr c150
   have c150b1 : (a0_0 != 28) = false := bne_eq_false_iff_eq.mpr c150
   clear c150
   replace H := Option.bind_eq_some_iff.mp H
   obtain ⟨t315, A1510, H⟩ := H
   try dsimp only at H
   have A151 := qm A1510
   clear A1510
   replace H := Option.bind_eq_some_iff.mp H
   obtain ⟨t318, A1520, H⟩ := H
   try dsimp only at H
   have A152 := qm A1520
   clear A1520
   replace H := Option.bind_eq_some_iff.mp H
   obtain ⟨t321, A1530, H⟩ := H
   try dsimp only at H
   have A153 := qm A1530
   clear A1530
   simp only [Option.some.injEq, Prod.mk.injEq] at H
   obtain ⟨rfl, rfl⟩ := H
   try go_wp2
   have n0_ := qm (qd HO_4.out)
   have n1_ := qm (qn BK226.out)
   have n2_ := qm (qj HB.out)
   clear HO_4
   clear BK226
   clear HB
   have HO_4 := n0_
   have BK226 := n1_
   have HB := n2_
   clear n0_ n1_ n2_
   obtain ⟨Ao155, co155, eo155⟩ := Kd.R_slice HO_4.out
   (first | subst eo155 | (injection eo155 with f1_ f2_ f3_; have f4_ := f1_.symm; have f5_ := f3_.symm; clear f1_ f2_ f3_; subst f4_; subst f5_))
   refine start_ (n := 11) (S := fun w' => w'.cell? ⟨gb226, 0, none⟩ = some (.int .i64 a0_0) ∧ w'.cell? ⟨gb226, 1, none⟩ = some (.int .i64 a0_1) ∧ w'.cell? ⟨gb226, 2, none⟩ = some (.int .i64 a0_2) ∧ w'.cell? ⟨gb226, 3, none⟩ = some (.int .i64 a0_3) ∧ w'.cell? ⟨gb226, 4, none⟩ = some (.bool a0_4) ∧ w'.cell? ⟨gb226, 5, none⟩ = some (.slice A0_5 l0_5.length c0_5) ∧ w'.cell? ⟨gb226, 6, none⟩ = some (.slice A0_6 l0_6.length c0_6) ∧ w'.cell? ⟨gb226, 7, none⟩ = some (.slice A0_7 l0_7.length c0_7)) (ds := []) (bm 0 11) (by kernel_rfl) rfl rfl (fz8 BK226.out) (fun hHeld => ?_); refine with_tabW spec_FrameBytes.tab42 spec_FrameBytes.bits42 (fun HT_ HW_ => ?_)
   generalize wc.drew = w154 at HO_4 BK226 HB hHeld ⊢
   refine pu 0 145 (bm 1 11) HT_ (h := ⟨_, by intro w'; go_simp; with_reducible rfl, _, by simp only [Act.put, s1, s2, s3, i64_w, i32_w]; rfl, ?_⟩)
   refine pu 1 146 (bm 2 11) HT_ (h := ⟨_, by intro w'; go_simp; with_reducible rfl, _, by simp only [Act.put, s1, s2, s3, i64_w, i32_w]; rfl, ?_⟩)
   refine pu 4 149 (bb 19 11) HT_ (h := ⟨_, by intro w'; go_simp; with_reducible rfl, _, by simp only [Act.put, s1, s2, s3, i64_w, i32_w]; rfl, ?_⟩)
   refine pu 7 152 (bb 147 11) HT_ (h := ⟨_, by intro w'; go_simp; with_reducible rfl, _, by simp only [Act.put, s1, s2, s3, i64_w, i32_w]; rfl, ?_⟩)
   refine tk 2 147 (bb 151 11) HT_ HW_ (hS := hHeld) (h := ⟨_, by rintro w' ⟨s0, s1, s2, s3, s4, s5, s6, s7⟩; go_simp; with_reducible rfl, _, by simp only [Act.put, s1, s2, s3, i64_w, i32_w]; rfl, ?_⟩)
   refine tk 5 150 (bb 183 11) HT_ HW_ (hS := hHeld) (h := ⟨_, by rintro w' ⟨s0, s1, s2, s3, s4, s5, s6, s7⟩; go_simp; with_reducible rfl, _, by simp only [Act.put, s1, s2, s3, i64_w, i32_w]; rfl, ?_⟩)
   refine tk 8 153 (bb 439 11) HT_ HW_ (hS := hHeld) (h := ⟨_, by rintro w' ⟨s0, s1, s2, s3, s4, s5, s6, s7⟩; go_simp; with_reducible rfl, _, by simp only [Act.put, s1, s2, s3, i64_w, i32_w]; rfl, ?_⟩)
   refine one_ (i := 3) (N := some 148) (bb 447 11) rfl rfl (one_of HT_.out (by kernel_rfl)) (by decide) (fun K hK => ?_)
   refine goes_ Try.func80 (by kernel_rfl) rfl #[.slice Ao155 y231.length co155, .int .i64 a0_1] (by rfl) rfl rfl (by (try simp only [m1, m2, m3]); first | done | rfl) ?_
   with_reducible refine (spec_l05N.calls kj143 (fun k_ => some k_ = (.slice Ao155 y231.length co155 : Value).ownBlock) (.slice Ao155 y231.length co155) y231 a0_1 t315 w _ ?side1 ?side2 A151.out).mono ?_
   (case side1 => repeat (first | (with_reducible first | exact HB.out | apply qh | apply qi | apply qj | refine qk ?_ GE226.out) | exact HB.out))
   (case side2 => exact Kd.R_tight rfl HO_4.out)
   rintro e w156 ⟨v316, rfl, ho0, hb, hkp⟩
   refine ⟨_, rfl, ?_⟩
   have n0_ := qm (blk_kept BK226.out hkp (fun hs_ => (fun e_ => (Kd.R_ne HO_4.out BK226.out (by decide)) e_) hs_))
   have n1_ := qm (qg (ok' := fun k_ => True) ho0 (fun k_ hk_ => trivial))
   have n2_ := qm (hb)
   clear BK226
   clear HB
   clear HO_4
   have BK226 := n0_
   have HO317 := n1_
   have HB := n2_
   clear n0_ n1_ n2_
   (try clear hb)
   (try clear hkp)
   (try clear ho0)
   obtain ⟨Ao157, co157, eo157⟩ := Kd.R_slice HO317.out
   (first | subst eo157 | (injection eo157 with f1_ f2_ f3_; have f4_ := f1_.symm; have f5_ := f3_.symm; clear f1_ f2_ f3_; subst f4_; subst f5_))
   refine hK.out _ _ (fz8 BK226.out) (fun hHeld => ?_)
   clear hK K
   refine norm_ (a' := ?_) ?_ ?_
   rotate_left
   ·show Act.put _ (some 148) _ = _
    simp only [Act.put, s1, s2, s3, i64_w, i32_w]
    rfl
   refine one_ (i := 6) (N := some 151) (bm 9 11) rfl rfl (one_of HT_.out (by kernel_rfl)) (by decide) (fun K hK => ?_)
   refine goes_ Try.func80 (by kernel_rfl) rfl #[.slice Ao157 t315.length co157, .int .i64 a0_2] (by rfl) rfl rfl (by (try simp only [m1, m2, m3]); first | done | rfl) ?_
   with_reducible refine (spec_l05N.calls kj143 (fun k_ => some k_ = (.slice Ao157 t315.length co157 : Value).ownBlock) (.slice Ao157 t315.length co157) t315 a0_2 t318 w _ ?side1 ?side2 A152.out).mono ?_
   (case side1 => repeat (first | (with_reducible first | exact HB.out | apply qh | apply qi | apply qj | refine qk ?_ GE226.out) | exact HB.out))
   (case side2 => exact Kd.R_tight rfl HO317.out)
   rintro e w158 ⟨v319, rfl, ho0, hb, hkp⟩
   refine ⟨_, rfl, ?_⟩
   have n0_ := qm (blk_kept BK226.out hkp (fun hs_ => (fun e_ => (Kd.R_ne HO317.out BK226.out (by decide)) e_) hs_))
   have n1_ := qm (qg (ok' := fun k_ => True) ho0 (fun k_ hk_ => trivial))
   have n2_ := qm (hb)
   clear BK226
   clear HB
   clear HO317
   have BK226 := n0_
   have HO320 := n1_
   have HB := n2_
   clear n0_ n1_ n2_
   (try clear hb)
   (try clear hkp)
   (try clear ho0)
   obtain ⟨Ao159, co159, eo159⟩ := Kd.R_slice HO320.out
   (first | subst eo159 | (injection eo159 with f1_ f2_ f3_; have f4_ := f1_.symm; have f5_ := f3_.symm; clear f1_ f2_ f3_; subst f4_; subst f5_))
   refine hK.out _ _ (fz8 BK226.out) (fun hHeld => ?_)
   clear hK K
   refine norm_ (a' := ?_) ?_ ?_
   rotate_left
   ·show Act.put _ (some 151) _ = _
    simp only [Act.put, s1, s2, s3, i64_w, i32_w]
    rfl
   refine one_ (i := 9) (N := some 154) (bm 10 11) rfl rfl (one_of HT_.out (by kernel_rfl)) (by decide) (fun K hK => ?_)
   refine goes_ Try.func81 (by kernel_rfl) rfl #[.slice Ao159 t318.length co159, .slice A0_5 l0_5.length c0_5] (by rfl) rfl rfl (by (try simp only [m1, m2, m3]); first | done | rfl) ?_
   with_reducible refine (spec_l05Counted.calls kj143 (fun k_ => some k_ = (.slice Ao159 t318.length co159 : Value).ownBlock) (.slice Ao159 t318.length co159) t318 _ _ l0_5 t321 w _ ?side1 ?side2 ?side3 ?side4 A153.out).mono ?_
   (case side1 => repeat (first | (with_reducible first | exact HB.out | apply qh | apply qi | apply qj | refine qk ?_ GE226.out) | exact HB.out))
   (case side2 => exact Kd.R_tight rfl HO320.out)
   (case side3 => exact Kd.C_kept_came (Kd.heap_int .u8) HR0_5.out HB.out (fun k_ hs_ => (fun e_ => Kd.R_base HO320.out k_ e_.symm) hs_))
   (case side4 => exact HC0_5.out)
   rintro e w160 ⟨v322, rfl, ho0, hb, hkp⟩
   refine ⟨_, rfl, ?_⟩
   have n0_ := qm (blk_kept BK226.out hkp (fun hs_ => (fun e_ => (Kd.R_ne HO320.out BK226.out (by decide)) e_) hs_))
   have n1_ := qm (qg (ok' := fun k_ => True) ho0 (fun k_ hk_ => trivial))
   have n2_ := qm (hb)
   clear BK226
   clear HB
   clear HO320
   have BK226 := n0_
   have HO323 := n1_
   have HB := n2_
   clear n0_ n1_ n2_
   (try clear hb)
   (try clear hkp)
   (try clear ho0)
   refine hK.out _ _ (fz8 BK226.out) (fun hHeld => ?_)
   clear hK K
   refine norm_ (a' := ?_) ?_ ?_
   rotate_left
   ·show Act.put _ (some 154) _ = _
    simp only [Act.put, s1, s2, s3, i64_w, i32_w]
    rfl
   refine pu 10 4 (bm 11 11) HT_ (h := ⟨_, by intro w'; go_simp; with_reducible rfl, _, by simp only [Act.put, s1, s2, s3, i64_w, i32_w]; rfl, ?_⟩)
   refine done_ (done_of HT_.out (by kernel_rfl)) ?_
   try go_wp2
   go_ret2
   exact ⟨_, by first | rfl | (simp <;> rfl) | (simp [*] <;> rfl), HO323.out, HB.out⟩
  rw [if_neg c150] at H
  have c150b0 : (a0_0 == 28) = false := beq_eq_false_iff_ne.mpr c150
  have c150b1 : (a0_0 != 28) = true := bne_iff_ne.mpr c150
  by_cases c161 : a0_0 = 48
  ·rw [if_pos c161] at H
   have c161b0 : (a0_0 == 48) = true := beq_iff_eq.mpr c161
   have c161b1 : (a0_0 != 48) = false := bne_eq_false_iff_eq.mpr c161
   clear c161
   obtain ⟨y324, hy324⟩ : ∃ y_ : List Int, y_ = (([49] : List Int)) := ⟨_, rfl⟩
   replace H : ((spec_l05Counted.f kj143 y324 l0_5).bind fun t327 => (some (t327, 0))) = some (r1, r2) := by first | (rw [hy324]; with_reducible exact H) | (have H2_ := (Option.bind_some _ _).symm.trans H; rw [hy324]; with_reducible exact H2_) | (have H2_ := (Option.bind_some _ _).symm.trans H; with_reducible exact H2_) | with_reducible exact H | (rw [hy324]; exact H) | exact H
   have Ny324 := qm hy324
   clear hy324
   replace H := Option.bind_eq_some_iff.mp H
   obtain ⟨t327, A1620, H⟩ := H
   try dsimp only at H
   have A162 := qm A1620
   clear A1620
   simp only [Option.some.injEq, Prod.mk.injEq] at H
   obtain ⟨rfl, rfl⟩ := H
   go_wp2_with (first | ((with_reducible refine gate_dst (N := 157) rfl ?_); refine Kd.R_lit (Kd.int .u8) _ 5 ?hg (N := 157) ?hd (xs := ([49] : List Int)) (inner := [.int .u8 49]) (ok := fun _ => True) (okp := fun _ => True) ?hr ?hp (fun _ hk => hk) trivial (Below.refl _ _) (Nat.le_refl _) (by simp) ?_; (case hd => rfl); (case hg => rfl); (case hr => first | (go_simp; done) | (go_simp; rfl)); (case hp => exact (Reps.one (show Kd.M (Kd.int .u8) _ _ _ 49 [.int .u8 49] from rfl) (Reps.none _ _))); intro v325 w163 ho164 hb hg_ hnew_; clear hg_ hnew_; (first | rw [← Ny324.out] at ho164 | (simp only [Int.reduceToNat] at ho164; rw [← Ny324.out] at ho164)); have n0_ := qm (Kd.R_elder' HO_4.out (Kd.R_base ho164) hb); have n1_ := qm (Kd.R_lower (Kd.R_new' ho164 (Kd.R_lt HO_4.out)) (qs HB.out)); have n2_ := qm (qv (g := gb226) BK226.out hb); have n3_ := qm (qt HB.out hb); clear HO_4; clear BK226; clear HB; have HO_4 := n0_; have HO326 := n1_; have BK226 := n2_; have HB := n3_; clear hb ho164; obtain ⟨_, _, _, _, _, _, _, _, _, _, _, _, _, _, _, _⟩ := fc8 BK226.out; obtain ⟨Ao166, co166, eo166⟩ := Kd.R_slice HO326.out; subst eo166) | ((with_reducible refine gate_callee (f := 81) rfl ?_); refine goesL_ (some 160) rfl rfl Try.func81 (by kernel_rfl) rfl #[.slice Ao166 y324.length co166, .slice A0_5 l0_5.length c0_5] rfl (by (try simp only [m1, m2, m3]); first | done | rfl) ?_; (with_reducible refine (spec_l05Counted.calls kj143 (fun k_ => some k_ = (.slice Ao166 y324.length co166 : Value).ownBlock) (.slice Ao166 y324.length co166) y324 _ _ l0_5 t327 w _ ?side1 ?side2 ?side3 ?side4 A162.out).mono ?_); (case side1 => repeat (first | (with_reducible first | exact HB.out | apply qh | apply qi | apply qj | refine qk ?_ GE226.out) | exact HB.out)); (case side2 => exact Kd.R_tight rfl HO326.out); (case side3 => exact Kd.C_kept_came (Kd.heap_int .u8) HR0_5.out HB.out (fun k_ hs_ => (fun e_ => Kd.R_base HO326.out k_ e_.symm) hs_)); (case side4 => exact HC0_5.out); rintro e w167 ⟨v328, rfl, ho0, hb, hkp⟩; refine ⟨_, rfl, ?_⟩; have n0_ := qm (qg (ok' := fun k_ => some k_ ≠ (v328 : Value).ownBlock) (Kd.R_keptB (HO_4.out) hkp (fun k_ hk_ hs_ => (hk_.2) hs_)) (fun k_ hk_ => fun e_ => Or.elim (ho0.1 k_ e_.symm) (fun hs_ => hk_.2.1 hs_) (fun hn_ => Nat.not_le.2 hk_.2.2 hn_))); have n1_ := qm (blk_kept BK226.out hkp (fun hs_ => (fun e_ => (Kd.R_ne HO326.out BK226.out (by decide)) e_) hs_)); have n2_ := qm (qg (ok' := fun k_ => some k_ ≠ (v232 : Value).ownBlock) ho0 (fun k_ hk_ => Or.elim hk_ (fun hs_ => fun e_ => (((HO_4.out).1 k_ e_.symm).2) hs_) (fun hn_ => (Kd.fresh' (Kd.R_lt HO_4.out) k_ hn_)))); have n3_ := qm (hb); clear HO_4; clear BK226; clear HB; clear HO326; have HO_4 := n0_; have BK226 := n1_; have HO329 := n2_; have HB := n3_))
   go_ret2
   exact ⟨_, by first | rfl | (simp <;> rfl) | (simp [*] <;> rfl), by (with_reducible repeat (first | apply qb | apply qc | apply qd)); exact qg HO329.out (fun _ hk => trivial), HB.out⟩
  rw [if_neg c161] at H
  have c161b0 : (a0_0 == 48) = false := beq_eq_false_iff_ne.mpr c161
  have c161b1 : (a0_0 != 48) = true := bne_iff_ne.mpr c161
  simp only [Option.some.injEq, Prod.mk.injEq] at H
  obtain ⟨rfl, rfl⟩ := H
  go_wp2
  go_ret2
  exact ⟨_, by first | rfl | (simp <;> rfl) | (simp [*] <;> rfl), HO_4.out, HB.out⟩
 replace c3 := Bool.eq_false_iff.mpr c3
 subst c3
 rw [if_neg nt] at H
 obtain ⟨y228, hy228⟩ : ∃ y_ : List Int, y_ = (([] : List Int)) := ⟨_, rfl⟩
 replace H : (some (y228, 1)) = some (r1, r2) := by first | (rw [hy228]; with_reducible exact H) | (have H2_ := (Option.bind_some _ _).symm.trans H; rw [hy228]; with_reducible exact H2_) | (have H2_ := (Option.bind_some _ _).symm.trans H; with_reducible exact H2_) | with_reducible exact H | (rw [hy228]; exact H) | exact H
 have Ny228 := qm hy228
 clear hy228
 simp only [Option.some.injEq, Prod.mk.injEq] at H
 obtain ⟨rfl, rfl⟩ := H
 go_enter Try.func43, Try.ntmps43
 go_wp2_with (first | ((with_reducible refine gate_dst (N := 1) rfl ?_); refine box_event (by rfl) (N := 1) (by rfl) (cs := #[.int .i64 a0_0, .int .i64 a0_1, .int .i64 a0_2, .int .i64 a0_3, .bool a0_4, .slice A0_5 l0_5.length c0_5, .slice A0_6 l0_6.length c0_6, .slice A0_7 l0_7.length c0_7]) (t := 55) (by first | (go_simp; done) | (go_simp; rfl)) ?_; intro gb226 hg w168 hbox hb; have n0_ := qm (qt HB.out hb); have n1_ := qm (hbox); have n2_ := qm ((by rw [hg]; exact (qs HB.out) : w.heap.size ≤ gb226)); have n3_ := qm ((by rw [hg]; exact (qs HB.out) : w.heap.size ≤ gb226)); clear HB; have HB := n0_; have BK226 := n1_; have GW226 := n2_; have GE226 := n3_; clear hb hbox hg; obtain ⟨_, _, _, _, _, _, _, _, _, _, _, _, _, _, _, _⟩ := fc8 BK226.out) | ((with_reducible refine gate_callee (f := 39) rfl ?_); refine goesL_ (some 7) rfl rfl Try.func39 (by kernel_rfl) rfl #[.agg #[.int .i64 a0_0, .int .i64 a0_1, .int .i64 a0_2, .int .i64 a0_3, .bool a0_4, .slice A0_5 l0_5.length c0_5, .slice A0_6 l0_6.length c0_6, .slice A0_7 l0_7.length c0_7]] rfl (by (try simp only [m1, m2, m3]); first | done | rfl) ?_; (with_reducible refine (spec_FrameOK.calls k a0_0 a0_1 a0_2 a0_3 a0_4 _ _ l0_5 _ _ l0_6 _ _ l0_7 false _ ?side1 ?side2 ?side3 ?side4 ?side5 ?side6 A2.out).mono ?_); (case side1 => repeat (first | exact (Kd.C_below HR0_5.out HB.out) | (with_reducible refine Kd.C_alloc ?_ _) | (with_reducible refine Kd.C_drewN ?_ _) | (with_reducible refine Kd.C_drew ?_))); (case side2 => exact HC0_5.out); (case side3 => repeat (first | exact (Kd.C_below HR0_6.out HB.out) | (with_reducible refine Kd.C_alloc ?_ _) | (with_reducible refine Kd.C_drewN ?_ _) | (with_reducible refine Kd.C_drew ?_))); (case side4 => exact HC0_6.out); (case side5 => repeat (first | exact (Kd.C_below HR0_7.out HB.out) | (with_reducible refine Kd.C_alloc ?_ _) | (with_reducible refine Kd.C_drewN ?_ _) | (with_reducible refine Kd.C_drew ?_))); (case side6 => exact HC0_7.out); rintro e w170 ⟨rfl, hb⟩; refine ⟨_, rfl, ?_⟩; have n0_ := qm (qv (g := gb226) BK226.out hb); have n1_ := qm (qt HB.out hb); clear BK226; clear HB; have BK226 := n0_; have HB := n1_) | ((with_reducible refine gate_dst (N := 9) rfl ?_); refine Kd.R_lit (Kd.int .u8) _ 5 ?hg (N := 9) ?hd (xs := ([] : List Int)) (inner := []) (ok := fun _ => True) (okp := fun _ => True) ?hr ?hp (fun _ hk => hk) trivial (Below.refl _ _) (Nat.le_refl _) (by simp) ?_; (case hd => rfl); (case hg => rfl); (case hr => first | (go_simp; done) | (go_simp; rfl)); (case hp => exact (Reps.none _ _)); intro v229 w171 ho172 hb hg_ hnew_; clear hg_ hnew_; (first | rw [← Ny228.out] at ho172 | (simp only [Int.reduceToNat] at ho172; rw [← Ny228.out] at ho172)); have n0_ := qm (Kd.R_lower ho172 (qs HB.out)); have n1_ := qm (qv (g := gb226) BK226.out hb); have n2_ := qm (qt HB.out hb); clear BK226; clear HB; have HO230 := n0_; have BK226 := n1_; have HB := n2_; clear hb ho172))
 go_ret2
 exact ⟨_, by first | rfl | (simp <;> rfl) | (simp [*] <;> rfl), HO230.out, HB.out⟩
end Go.Proofs.Ytdojcdhlcnlohaa.SFnExactFrameBytes
