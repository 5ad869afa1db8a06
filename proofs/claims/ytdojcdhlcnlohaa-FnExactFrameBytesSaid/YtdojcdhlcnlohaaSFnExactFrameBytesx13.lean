/- The walk of functions that the law FnExactFrameBytes uses, written by program. -/
import Derived.Test.YtdojcdhlcnlohaaSFnExactFrameBytesx0
import Derived.Test.YtdojcdhlcnlohaaSFnExactFrameBytesx12
import Derived.Test.YtdojcdhlcnlohaaSteps2
namespace Go.Proofs.Ytdojcdhlcnlohaa.SFnExactFrameBytes
open Go.Proofs.Ytdojcdhlcnlohaa.Steps2 Go.RowKit Go.Proofs.YtdojcdhlcnlohaaW.PrintWords Go.Proofs.YtdojcdhlcnlohaaW.PrintLast Go.Proofs.YtdojcdhlcnlohaaW.PrintMore
open Go.Proofs.YtdojcdhlcnlohaaW.PrintWords renaming below_alloc → qh, pw_below_drewN → qi, below_drew1 → qj, below_set → qk, blk_drewN → ql, blk_drew → qn, blk_alloc → qo, blk_far → qr, below_size → qs, below_step → qt, blk_cell → qu, blk_below → qv
open Go.Proofs.YtdojcdhlcnlohaaW.PrintWords.Kd renaming R_far → qa, R_alloc → qb, R_drewN → qc, R_drew → qd, R_reads' → qe, R_below → qf, R_mono → qg
open Go.Proofs.YtdojcdhlcnlohaaW.PrintWords.Aside0 renaming mk → qm
attribute [local go_sem] max2_int min2_int max_two min_two max_three min_three max_four min_four 
set_option linter.unusedVariables false
set_option linter.unusedSimpArgs false
/-! ### impl_frameBytes: function 82 -/
mutual
def impl_frameBytes.l0 : Nat → List Int → Int → Int → Int → Int → Int → Bool → List Int → List Int → List (S105) → Option (List Int)
 | 0, _, _, _, _, _, _, _, _, _, _ => none
 | k + 1, x3, x6, x370000, x370001, x370002, x370003, x370004, x370005, x370006, x370007 => if x6 ≥ 0 then (if 0 ≤ x6 then (if x6 < (x370007.length : Int) then (if 0 ≤ (wrap64 (x6 + 1)) then (if (wrap64 (x6 + 1)) < (x370007.length : Int) then ((impl_addVars.f k x3 (([wrap64 ((wrap64 (((rd_T105 x370007 (wrap64 (x6 + 1))).f0) - ((rd_T105 x370007 x6).f1))) - 2), wrap64 (((rd_T105 x370007 x6).f1) - ((rd_T105 x370007 x6).f0))] : List Int))).bind fun t390 => (impl_frameBytes.l0 k t390 (wrap64 (x6 - 1)) x370000 x370001 x370002 x370003 x370004 x370005 x370006 x370007)) else (none)) else (none)) else (none)) else (none)) else (some x3)
def impl_frameBytes.j1 : Nat → List Int → Int → Bool → Int → Int → Int → Int → Bool → List Int → List Int → List (S105) → Option (List Int)
 | 0, _, _, _, _, _, _, _, _, _, _, _ => none
 | k + 1, x3, x13, x85, x370000, x370001, x370002, x370003, x370004, x370005, x370006, x370007 => if x85 = true then ((impl_addVars.f k x3 (([x370001, x370002] : List Int))).bind fun t402 => (some t402)) else (if x13 = 6 then ((impl_addVar.f k x3 x370001).bind fun t405 => ((impl_addCounted.f k t405 x370005).bind fun t408 => (some t408))) else (if x13 = 7 then ((impl_addCounted.f k x3 x370005).bind fun t411 => (some t411)) else (if x13 = 8 then (if 0 < (x3.length : Int) then ((some (x3.set (0 : Int).toNat 10 : List Int)).bind fun y414 => (if x370002 = 0 then (impl_frameBytes.j2 k y414 x370000 x370001 x370002 x370003 x370004 x370005 x370006 x370007) else (impl_frameBytes.j2 k (y414.set (0 : Int).toNat (Go.bits .or .u8 (rd y414 0) 4)) x370000 x370001 x370002 x370003 x370004 x370005 x370006 x370007))) else (none)) else (if x13 = 18 then (impl_frameBytes.j4 k x3 x13 (x13 == 18) x370000 x370001 x370002 x370003 x370004 x370005 x370006 x370007) else (impl_frameBytes.j4 k x3 x13 (x13 == 22) x370000 x370001 x370002 x370003 x370004 x370005 x370006 x370007)))))
def impl_frameBytes.j2 : Nat → List Int → Int → Int → Int → Int → Bool → List Int → List Int → List (S105) → Option (List Int)
 | 0, _, _, _, _, _, _, _, _, _ => none
 | k + 1, x3, x370000, x370001, x370002, x370003, x370004, x370005, x370006, x370007 => if x370004 = true then (if 0 < (x3.length : Int) then (impl_frameBytes.j3 k (x3.set (0 : Int).toNat (Go.bits .or .u8 (rd x3 0) 1)) x370000 x370001 x370002 x370003 x370004 x370005 x370006 x370007) else (none)) else (impl_frameBytes.j3 k x3 x370000 x370001 x370002 x370003 x370004 x370005 x370006 x370007)
def impl_frameBytes.j3 : Nat → List Int → Int → Int → Int → Int → Bool → List Int → List Int → List (S105) → Option (List Int)
 | 0, _, _, _, _, _, _, _, _, _ => none
 | k + 1, x3, x370000, x370001, x370002, x370003, x370004, x370005, x370006, x370007 => (impl_addVar.f k x3 x370001).bind fun t419 => (if x370002 = 0 then ((impl_addCounted.f k t419 x370005).bind fun t422 => (some t422)) else ((impl_addVar.f k t419 x370002).bind fun t425 => ((impl_addCounted.f k t425 x370005).bind fun t428 => (some t428))))
def impl_frameBytes.j4 : Nat → List Int → Int → Bool → Int → Int → Int → Int → Bool → List Int → List Int → List (S105) → Option (List Int)
 | 0, _, _, _, _, _, _, _, _, _, _, _ => none
 | k + 1, x3, x13, x145, x370000, x370001, x370002, x370003, x370004, x370005, x370006, x370007 => if x145 = true then (if 0 < (x3.length : Int) then ((impl_addVar.f k (x3.set (0 : Int).toNat (((rd x3 0) + ((x370002) % 256)) % 256)) x370001).bind fun t433 => (some t433)) else (none)) else (if x13 = 16 then (impl_frameBytes.j5 k x3 x13 (x13 == 16) x370000 x370001 x370002 x370003 x370004 x370005 x370006 x370007) else (if x13 = 20 then (impl_frameBytes.j5 k x3 x13 (x13 == 20) x370000 x370001 x370002 x370003 x370004 x370005 x370006 x370007) else (impl_frameBytes.j5 k x3 x13 (x13 == 25) x370000 x370001 x370002 x370003 x370004 x370005 x370006 x370007)))
def impl_frameBytes.j5 : Nat → List Int → Int → Bool → Int → Int → Int → Int → Bool → List Int → List Int → List (S105) → Option (List Int)
 | 0, _, _, _, _, _, _, _, _, _, _, _ => none
 | k + 1, x3, x13, x160, x370000, x370001, x370002, x370003, x370004, x370005, x370006, x370007 => if x160 = true then ((impl_addVar.f k x3 x370001).bind fun t436 => (some t436)) else (if x13 = 24 then ((impl_addVars.f k x3 (([x370001, x370002] : List Int))).bind fun t442 => ((some (([((x370005.length : Int)) % 256] : List Int) : List Int)).bind fun y445 => (if t442.length + y445.length < 140737488355328 then ((some (t442 ++ y445 : List Int)).bind fun y448 => (if y448.length + x370005.length < 140737488355328 then ((some (y448 ++ x370005 : List Int)).bind fun y451 => (if y451.length + x370006.length < 140737488355328 then (some (y451 ++ x370006)) else (none))) else (none))) else (none)))) else (if x13 = 26 then (impl_frameBytes.j6 k x3 x13 (x13 == 26) x370000 x370001 x370002 x370003 x370004 x370005 x370006 x370007) else (impl_frameBytes.j6 k x3 x13 (x13 == 27) x370000 x370001 x370002 x370003 x370004 x370005 x370006 x370007)))
def impl_frameBytes.j6 : Nat → List Int → Int → Bool → Int → Int → Int → Int → Bool → List Int → List Int → List (S105) → Option (List Int)
 | 0, _, _, _, _, _, _, _, _, _, _, _ => none
 | k + 1, x3, x13, x190, x370000, x370001, x370002, x370003, x370004, x370005, x370006, x370007 => if x190 = true then (if x3.length + x370005.length < 140737488355328 then (some (x3 ++ x370005)) else (none)) else (if x13 = 28 then ((impl_addVars.f k x3 (([x370001, x370002] : List Int))).bind fun t463 => ((impl_addCounted.f k t463 x370005).bind fun t466 => (some t466))) else (if x13 = 29 then ((impl_addVar.f k x3 x370001).bind fun t469 => ((impl_addCounted.f k t469 x370005).bind fun t472 => (some t472))) else (if x13 = 48 then (if 0 < (x3.length : Int) then ((impl_addCounted.f k (x3.set (0 : Int).toNat 49) x370005).bind fun t476 => (some t476)) else (none)) else (some x3))))
end
def impl_frameBytes.f (k : Nat) (a0_0 : Int) (a0_1 : Int) (a0_2 : Int) (a0_3 : Int) (a0_4 : Bool) (l0_5 : List Int) (l0_6 : List Int) (l0_7 : List (S105)) : Option (List Int) := (some (([(a0_0) % 256] : List Int) : List Int)).bind fun y370 => (if a0_0 = 0 then (if 0 ≤ a0_1 then (if (a0_1 : Int).toNat ≤ 281474976710656 then (some (List.replicate (a0_1 : Int).toNat 0)) else (none)) else (none)) else (if a0_0 = 2 then (if 0 ≤ (wrap64 ((l0_7.length : Int) - 1)) then (if (wrap64 ((l0_7.length : Int) - 1)) < (l0_7.length : Int) then ((impl_addVars.f k y370 (([(rd_T105 l0_7 (wrap64 ((l0_7.length : Int) - 1))).f1, a0_1, wrap64 ((l0_7.length : Int) - 1), wrap64 (((rd_T105 l0_7 (wrap64 ((l0_7.length : Int) - 1))).f1) - ((rd_T105 l0_7 (wrap64 ((l0_7.length : Int) - 1))).f0))] : List Int))).bind fun t381 => (impl_frameBytes.l0 k t381 (wrap64 ((l0_7.length : Int) - 2)) a0_0 a0_1 a0_2 a0_3 a0_4 l0_5 l0_6 l0_7)) else (none)) else (none)) else (if a0_0 = 4 then ((impl_addVars.f k y370 (([a0_1, a0_2, a0_3] : List Int))).bind fun t396 => (some t396)) else (if a0_0 = 5 then (impl_frameBytes.j1 k y370 a0_0 (a0_0 == 5) a0_0 a0_1 a0_2 a0_3 a0_4 l0_5 l0_6 l0_7) else (if a0_0 = 17 then (impl_frameBytes.j1 k y370 a0_0 (a0_0 == 17) a0_0 a0_1 a0_2 a0_3 a0_4 l0_5 l0_6 l0_7) else (impl_frameBytes.j1 k y370 a0_0 (a0_0 == 21) a0_0 a0_1 a0_2 a0_3 a0_4 l0_5 l0_6 l0_7))))))
theorem impl_frameBytes.mono_l : ∀ k, (∀ y0 y1 y2 y3 y4 y5 y6 y7 y8 y9, LeO (impl_frameBytes.l0 k y0 y1 y2 y3 y4 y5 y6 y7 y8 y9) (impl_frameBytes.l0 (k + 1) y0 y1 y2 y3 y4 y5 y6 y7 y8 y9)) ∧ (∀ y0 y1 y2 y3 y4 y5 y6 y7 y8 y9 y10, LeO (impl_frameBytes.j1 k y0 y1 y2 y3 y4 y5 y6 y7 y8 y9 y10) (impl_frameBytes.j1 (k + 1) y0 y1 y2 y3 y4 y5 y6 y7 y8 y9 y10)) ∧ (∀ y0 y1 y2 y3 y4 y5 y6 y7 y8, LeO (impl_frameBytes.j2 k y0 y1 y2 y3 y4 y5 y6 y7 y8) (impl_frameBytes.j2 (k + 1) y0 y1 y2 y3 y4 y5 y6 y7 y8)) ∧ (∀ y0 y1 y2 y3 y4 y5 y6 y7 y8, LeO (impl_frameBytes.j3 k y0 y1 y2 y3 y4 y5 y6 y7 y8) (impl_frameBytes.j3 (k + 1) y0 y1 y2 y3 y4 y5 y6 y7 y8)) ∧ (∀ y0 y1 y2 y3 y4 y5 y6 y7 y8 y9 y10, LeO (impl_frameBytes.j4 k y0 y1 y2 y3 y4 y5 y6 y7 y8 y9 y10) (impl_frameBytes.j4 (k + 1) y0 y1 y2 y3 y4 y5 y6 y7 y8 y9 y10)) ∧ (∀ y0 y1 y2 y3 y4 y5 y6 y7 y8 y9 y10, LeO (impl_frameBytes.j5 k y0 y1 y2 y3 y4 y5 y6 y7 y8 y9 y10) (impl_frameBytes.j5 (k + 1) y0 y1 y2 y3 y4 y5 y6 y7 y8 y9 y10)) ∧ (∀ y0 y1 y2 y3 y4 y5 y6 y7 y8 y9 y10, LeO (impl_frameBytes.j6 k y0 y1 y2 y3 y4 y5 y6 y7 y8 y9 y10) (impl_frameBytes.j6 (k + 1) y0 y1 y2 y3 y4 y5 y6 y7 y8 y9 y10))
 | 0 => ⟨fun _ _ _ _ _ _ _ _ _ _ r h => by simp [impl_frameBytes.l0] at h, fun _ _ _ _ _ _ _ _ _ _ _ r h => by simp [impl_frameBytes.j1] at h, fun _ _ _ _ _ _ _ _ _ r h => by simp [impl_frameBytes.j2] at h, fun _ _ _ _ _ _ _ _ _ r h => by simp [impl_frameBytes.j3] at h, fun _ _ _ _ _ _ _ _ _ _ _ r h => by simp [impl_frameBytes.j4] at h, fun _ _ _ _ _ _ _ _ _ _ _ r h => by simp [impl_frameBytes.j5] at h, fun _ _ _ _ _ _ _ _ _ _ _ r h => by simp [impl_frameBytes.j6] at h⟩
 | k + 1 => by
  obtain ⟨ih0, ih1, ih2, ih3, ih4, ih5, ih6⟩ := impl_frameBytes.mono_l k
  refine ⟨?_, ?_, ?_, ?_, ?_, ?_, ?_⟩
  ·intro y0 y1 y2 y3 y4 y5 y6 y7 y8 y9
   unfold impl_frameBytes.l0
   repeat' first
   | (with_reducible apply ih0)
   | (with_reducible apply ih1)
   | (with_reducible apply ih2)
   | (with_reducible apply ih3)
   | (with_reducible apply ih4)
   | (with_reducible apply ih5)
   | (with_reducible apply ih6)
   | (with_reducible apply impl_addCounted.mono)
   | (with_reducible apply impl_addVar.mono)
   | (with_reducible apply impl_addVars.mono)
   | (with_reducible exact LeO.refl _)
   | (with_reducible exact LeO.none _)
   | (with_reducible refine LeO.ite ?_ ?_)
   | (with_reducible refine LeO.bind ?_ (fun _ => ?_))
  ·intro y0 y1 y2 y3 y4 y5 y6 y7 y8 y9 y10
   unfold impl_frameBytes.j1
   repeat' first
   | (with_reducible apply ih0)
   | (with_reducible apply ih1)
   | (with_reducible apply ih2)
   | (with_reducible apply ih3)
   | (with_reducible apply ih4)
   | (with_reducible apply ih5)
   | (with_reducible apply ih6)
   | (with_reducible apply impl_addCounted.mono)
   | (with_reducible apply impl_addVar.mono)
   | (with_reducible apply impl_addVars.mono)
   | (with_reducible exact LeO.refl _)
   | (with_reducible exact LeO.none _)
   | (with_reducible refine LeO.ite ?_ ?_)
   | (with_reducible refine LeO.bind ?_ (fun _ => ?_))
  ·intro y0 y1 y2 y3 y4 y5 y6 y7 y8
   unfold impl_frameBytes.j2
   repeat' first
   | (with_reducible apply ih0)
   | (with_reducible apply ih1)
   | (with_reducible apply ih2)
   | (with_reducible apply ih3)
   | (with_reducible apply ih4)
   | (with_reducible apply ih5)
   | (with_reducible apply ih6)
   | (with_reducible apply impl_addCounted.mono)
   | (with_reducible apply impl_addVar.mono)
   | (with_reducible apply impl_addVars.mono)
   | (with_reducible exact LeO.refl _)
   | (with_reducible exact LeO.none _)
   | (with_reducible refine LeO.ite ?_ ?_)
   | (with_reducible refine LeO.bind ?_ (fun _ => ?_))
  ·intro y0 y1 y2 y3 y4 y5 y6 y7 y8
   unfold impl_frameBytes.j3
   repeat' first
   | (with_reducible apply ih0)
   | (with_reducible apply ih1)
   | (with_reducible apply ih2)
   | (with_reducible apply ih3)
   | (with_reducible apply ih4)
   | (with_reducible apply ih5)
   | (with_reducible apply ih6)
   | (with_reducible apply impl_addCounted.mono)
   | (with_reducible apply impl_addVar.mono)
   | (with_reducible apply impl_addVars.mono)
   | (with_reducible exact LeO.refl _)
   | (with_reducible exact LeO.none _)
   | (with_reducible refine LeO.ite ?_ ?_)
   | (with_reducible refine LeO.bind ?_ (fun _ => ?_))
  ·intro y0 y1 y2 y3 y4 y5 y6 y7 y8 y9 y10
   unfold impl_frameBytes.j4
   repeat' first
   | (with_reducible apply ih0)
   | (with_reducible apply ih1)
   | (with_reducible apply ih2)
   | (with_reducible apply ih3)
   | (with_reducible apply ih4)
   | (with_reducible apply ih5)
   | (with_reducible apply ih6)
   | (with_reducible apply impl_addCounted.mono)
   | (with_reducible apply impl_addVar.mono)
   | (with_reducible apply impl_addVars.mono)
   | (with_reducible exact LeO.refl _)
   | (with_reducible exact LeO.none _)
   | (with_reducible refine LeO.ite ?_ ?_)
   | (with_reducible refine LeO.bind ?_ (fun _ => ?_))
  ·intro y0 y1 y2 y3 y4 y5 y6 y7 y8 y9 y10
   unfold impl_frameBytes.j5
   repeat' first
   | (with_reducible apply ih0)
   | (with_reducible apply ih1)
   | (with_reducible apply ih2)
   | (with_reducible apply ih3)
   | (with_reducible apply ih4)
   | (with_reducible apply ih5)
   | (with_reducible apply ih6)
   | (with_reducible apply impl_addCounted.mono)
   | (with_reducible apply impl_addVar.mono)
   | (with_reducible apply impl_addVars.mono)
   | (with_reducible exact LeO.refl _)
   | (with_reducible exact LeO.none _)
   | (with_reducible refine LeO.ite ?_ ?_)
   | (with_reducible refine LeO.bind ?_ (fun _ => ?_))
  ·intro y0 y1 y2 y3 y4 y5 y6 y7 y8 y9 y10
   unfold impl_frameBytes.j6
   repeat' first
   | (with_reducible apply ih0)
   | (with_reducible apply ih1)
   | (with_reducible apply ih2)
   | (with_reducible apply ih3)
   | (with_reducible apply ih4)
   | (with_reducible apply ih5)
   | (with_reducible apply ih6)
   | (with_reducible apply impl_addCounted.mono)
   | (with_reducible apply impl_addVar.mono)
   | (with_reducible apply impl_addVars.mono)
   | (with_reducible exact LeO.refl _)
   | (with_reducible exact LeO.none _)
   | (with_reducible refine LeO.ite ?_ ?_)
   | (with_reducible refine LeO.bind ?_ (fun _ => ?_))
theorem impl_frameBytes.mono : ∀ a0 a1 a2 a3 a4 a5 a6 a7 k, LeO (impl_frameBytes.f k a0 a1 a2 a3 a4 a5 a6 a7) (impl_frameBytes.f (k + 1) a0 a1 a2 a3 a4 a5 a6 a7) := by
 intro a0 a1 a2 a3 a4 a5 a6 a7 k
 obtain ⟨ih0, ih1, ih2, ih3, ih4, ih5, ih6⟩ := impl_frameBytes.mono_l k
 unfold impl_frameBytes.f
 repeat' first
   | (with_reducible apply ih0)
   | (with_reducible apply ih1)
   | (with_reducible apply ih2)
   | (with_reducible apply ih3)
   | (with_reducible apply ih4)
   | (with_reducible apply ih5)
   | (with_reducible apply ih6)
   | (with_reducible apply impl_addCounted.mono)
   | (with_reducible apply impl_addVar.mono)
   | (with_reducible apply impl_addVars.mono)
   | (with_reducible exact LeO.refl _)
   | (with_reducible exact LeO.none _)
   | (with_reducible refine LeO.ite ?_ ?_)
   | (with_reducible refine LeO.bind ?_ (fun _ => ?_))
def impl_frameBytes.T13 : Bool × List (List Nat × List Nat) := (true, [([], []), ([], []), ([1], [1]), ([], []), ([3], [3]), ([2, 4], [2, 4]), ([5], [5]), ([6], [6]), ([], []), ([8], [8]), ([7, 9], [7, 9]), ([10], [10]), ([], []), ([12], [12]), ([], []), ([14], [14]), ([13, 15], [13, 15]), ([11, 16], [11, 16]), ([0, 17], [0, 17]), ([18, 18, 0, 1, 2, 3, 4, 5, 6, 7, 8, 9, 10, 11, 12, 13, 14, 15, 16, 17, 18], [0, 18])])
def impl_frameBytes.B13 : List Nat := [0, 0, 2, 0, 8, 30, 62, 126, 0, 256, 1022, 2046, 0, 4096, 0, 16384, 61440, 131070, 262143, 524287]
theorem impl_frameBytes.tab13 : rtab .any (opsOf Try.f82 13) = impl_frameBytes.T13 := by kernel_rfl
theorem impl_frameBytes.bits13 : waitsOk impl_frameBytes.T13.2 impl_frameBytes.B13 = true := by kernel_rfl
def impl_frameBytes.T21 : Bool × List (List Nat × List Nat) := (true, [([], []), ([], []), ([1], [1]), ([0, 2], [0, 2]), ([], []), ([4], [4]), ([3, 5, 3], [3, 5]), ([6, 6, 0, 1, 2, 3, 4, 5, 6], [0, 6])])
def impl_frameBytes.B21 : List Nat := [0, 0, 2, 7, 0, 16, 63, 127]
theorem impl_frameBytes.tab21 : rtab .any (opsOf Try.f82 21) = impl_frameBytes.T21 := by kernel_rfl
theorem impl_frameBytes.bits21 : waitsOk impl_frameBytes.T21.2 impl_frameBytes.B21 = true := by kernel_rfl
def impl_frameBytes.T36 : Bool × List (List Nat × List Nat) := (true, [([], []), ([0], [0]), ([1], [1]), ([], []), ([3], [3]), ([4], [4]), ([2, 5], [2, 5]), ([0, 0, 1, 2, 3, 4, 5, 6], [0]), ([7, 6, 0, 1, 2, 3, 4, 5, 6], [6, 7])])
def impl_frameBytes.B36 : List Nat := [0, 1, 3, 0, 8, 24, 63, 127, 255]
theorem impl_frameBytes.tab36 : rtab .any (opsOf Try.f82 36) = impl_frameBytes.T36 := by kernel_rfl
theorem impl_frameBytes.bits36 : waitsOk impl_frameBytes.T36.2 impl_frameBytes.B36 = true := by kernel_rfl
def impl_frameBytes.T43 : Bool × List (List Nat × List Nat) := (true, [([], []), ([], []), ([1], [1]), ([], []), ([3], [3]), ([2, 4], [2, 4]), ([0, 5], [0, 5]), ([], []), ([7], [7]), ([8], [8]), ([9], [9]), ([10], [10]), ([6, 11, 6], [6, 11]), ([12, 12, 0, 1, 2, 3, 4, 5, 6, 7, 8, 9, 10, 11, 12], [0, 12])])
def impl_frameBytes.B43 : List Nat := [0, 0, 2, 0, 8, 30, 63, 0, 128, 384, 896, 1920, 4095, 8191]
theorem impl_frameBytes.tab43 : rtab .any (opsOf Try.f82 43) = impl_frameBytes.T43 := by kernel_rfl
theorem impl_frameBytes.bits43 : waitsOk impl_frameBytes.T43.2 impl_frameBytes.B43 = true := by kernel_rfl
def impl_frameBytes.T44 : Bool × List (List Nat × List Nat) := (true, [([], []), ([], []), ([1], [1]), ([0, 2], [0, 2]), ([], []), ([4], [4]), ([3, 5, 3], [3, 5]), ([6, 6, 0, 1, 2, 3, 4, 5, 6], [0, 6])])
def impl_frameBytes.B44 : List Nat := [0, 0, 2, 7, 0, 16, 63, 127]
theorem impl_frameBytes.tab44 : rtab .any (opsOf Try.f82 44) = impl_frameBytes.T44 := by kernel_rfl
theorem impl_frameBytes.bits44 : waitsOk impl_frameBytes.T44.2 impl_frameBytes.B44 = true := by kernel_rfl
def impl_frameBytes.T49 : Bool × List (List Nat × List Nat) := (true, [([], []), ([], []), ([1], [1]), ([], []), ([3], [3]), ([2, 4], [2, 4]), ([0, 5], [0, 5]), ([], []), ([7], [7]), ([6, 8, 6], [6, 8]), ([9, 9, 0, 1, 2, 3, 4, 5, 6, 7, 8, 9], [0, 9])])
def impl_frameBytes.B49 : List Nat := [0, 0, 2, 0, 8, 30, 63, 0, 128, 511, 1023]
theorem impl_frameBytes.tab49 : rtab .any (opsOf Try.f82 49) = impl_frameBytes.T49 := by kernel_rfl
theorem impl_frameBytes.bits49 : waitsOk impl_frameBytes.T49.2 impl_frameBytes.B49 = true := by kernel_rfl
def impl_frameBytes.T51 : Bool × List (List Nat × List Nat) := (true, [([], []), ([], []), ([1], [1]), ([0, 2], [0, 2]), ([], []), ([4], [4]), ([3, 5, 3], [3, 5]), ([6, 6, 0, 1, 2, 3, 4, 5, 6], [0, 6])])
def impl_frameBytes.B51 : List Nat := [0, 0, 2, 7, 0, 16, 63, 127]
theorem impl_frameBytes.tab51 : rtab .any (opsOf Try.f82 51) = impl_frameBytes.T51 := by kernel_rfl
theorem impl_frameBytes.bits51 : waitsOk impl_frameBytes.T51.2 impl_frameBytes.B51 = true := by kernel_rfl
set_option maxHeartbeats 80000000 in
set_option maxRecDepth 100000 in
theorem impl_frameBytes.calls (k : Nat) (a0_0 : Int) (a0_1 : Int) (a0_2 : Int) (a0_3 : Int) (a0_4 : Bool) (A0_5 : Option Addr) (c0_5 : Nat) (l0_5 : List Int) (A0_6 : Option Addr) (c0_6 : Nat) (l0_6 : List Int) (A0_7 : Option Addr) (c0_7 : Nat) (l0_7 : List (S105)) (r : List Int) (w : World) (hr0_5 : Kd.C (Kd.int .u8) w A0_5 l0_5.length l0_5) (hc0_5 : l0_5.length ≤ c0_5) (hr0_6 : Kd.C (Kd.int .u8) w A0_6 l0_6.length l0_6) (hc0_6 : l0_6.length ≤ c0_6) (hr0_7 : Kd.C k105 w A0_7 l0_7.length l0_7) (hc0_7 : l0_7.length ≤ c0_7) (h : impl_frameBytes.f k a0_0 a0_1 a0_2 a0_3 a0_4 l0_5 l0_6 l0_7 = some r) :
  Calls Try.prog 82 #[.agg #[.int .i64 a0_0, .int .i64 a0_1, .int .i64 a0_2, .int .i64 a0_3, .bool a0_4, .slice A0_5 l0_5.length c0_5, .slice A0_6 l0_6.length c0_6, .slice A0_7 l0_7.length c0_7]] w fun e w' => ∃ v0_ : Value, e = .returned (v0_) ∧ Kd.R (Kd.int .u8) 5 w' w.heap.size (fun _ => True) v0_ r ∧ Below w.heap.size w w' := by
 have hu55 := Try.underlying55
 have hu105 := Try.underlying105
 have HR0_5 := qm hr0_5
 have HC0_5 := qm hc0_5
 clear hr0_5 hc0_5
 have HR0_6 := qm hr0_6
 have HC0_6 := qm hc0_6
 clear hr0_6 hc0_6
 have HR0_7 := qm hr0_7
 have HC0_7 := qm hc0_7
 clear hr0_7 hc0_7
 have HB := qm (Below.refl w.heap.size w)
 have H : ((some (([(a0_0) % 256] : List Int) : List Int)).bind fun y370 => (if a0_0 = 0 then (if 0 ≤ a0_1 then (if (a0_1 : Int).toNat ≤ 281474976710656 then (some (List.replicate (a0_1 : Int).toNat 0)) else (none)) else (none)) else (if a0_0 = 2 then (if 0 ≤ (wrap64 ((l0_7.length : Int) - 1)) then (if (wrap64 ((l0_7.length : Int) - 1)) < (l0_7.length : Int) then ((impl_addVars.f k y370 (([(rd_T105 l0_7 (wrap64 ((l0_7.length : Int) - 1))).f1, a0_1, wrap64 ((l0_7.length : Int) - 1), wrap64 (((rd_T105 l0_7 (wrap64 ((l0_7.length : Int) - 1))).f1) - ((rd_T105 l0_7 (wrap64 ((l0_7.length : Int) - 1))).f0))] : List Int))).bind fun t381 => (impl_frameBytes.l0 k t381 (wrap64 ((l0_7.length : Int) - 2)) a0_0 a0_1 a0_2 a0_3 a0_4 l0_5 l0_6 l0_7)) else (none)) else (none)) else (if a0_0 = 4 then ((impl_addVars.f k y370 (([a0_1, a0_2, a0_3] : List Int))).bind fun t396 => (some t396)) else (if a0_0 = 5 then (impl_frameBytes.j1 k y370 a0_0 (a0_0 == 5) a0_0 a0_1 a0_2 a0_3 a0_4 l0_5 l0_6 l0_7) else (if a0_0 = 17 then (impl_frameBytes.j1 k y370 a0_0 (a0_0 == 17) a0_0 a0_1 a0_2 a0_3 a0_4 l0_5 l0_6 l0_7) else (impl_frameBytes.j1 k y370 a0_0 (a0_0 == 21) a0_0 a0_1 a0_2 a0_3 a0_4 l0_5 l0_6 l0_7))))))) = some r := h
 clear h
 obtain ⟨y370, hy370⟩ : ∃ y_ : List Int, y_ = (([(a0_0) % 256] : List Int)) := ⟨_, rfl⟩
 replace H : (if a0_0 = 0 then (if 0 ≤ a0_1 then (if (a0_1 : Int).toNat ≤ 281474976710656 then (some (List.replicate (a0_1 : Int).toNat 0)) else (none)) else (none)) else (if a0_0 = 2 then (if 0 ≤ (wrap64 ((l0_7.length : Int) - 1)) then (if (wrap64 ((l0_7.length : Int) - 1)) < (l0_7.length : Int) then ((impl_addVars.f k y370 (([(rd_T105 l0_7 (wrap64 ((l0_7.length : Int) - 1))).f1, a0_1, wrap64 ((l0_7.length : Int) - 1), wrap64 (((rd_T105 l0_7 (wrap64 ((l0_7.length : Int) - 1))).f1) - ((rd_T105 l0_7 (wrap64 ((l0_7.length : Int) - 1))).f0))] : List Int))).bind fun t381 => (impl_frameBytes.l0 k t381 (wrap64 ((l0_7.length : Int) - 2)) a0_0 a0_1 a0_2 a0_3 a0_4 l0_5 l0_6 l0_7)) else (none)) else (none)) else (if a0_0 = 4 then ((impl_addVars.f k y370 (([a0_1, a0_2, a0_3] : List Int))).bind fun t396 => (some t396)) else (if a0_0 = 5 then (impl_frameBytes.j1 k y370 a0_0 (a0_0 == 5) a0_0 a0_1 a0_2 a0_3 a0_4 l0_5 l0_6 l0_7) else (if a0_0 = 17 then (impl_frameBytes.j1 k y370 a0_0 (a0_0 == 17) a0_0 a0_1 a0_2 a0_3 a0_4 l0_5 l0_6 l0_7) else (impl_frameBytes.j1 k y370 a0_0 (a0_0 == 21) a0_0 a0_1 a0_2 a0_3 a0_4 l0_5 l0_6 l0_7)))))) = some r := by first | (rw [hy370]; with_reducible exact H) | (have H2_ := (Option.bind_some _ _).symm.trans H; rw [hy370]; with_reducible exact H2_) | (have H2_ := (Option.bind_some _ _).symm.trans H; with_reducible exact H2_) | with_reducible exact H | (rw [hy370]; exact H) | exact H
 have Ny370 := qm hy370
 clear hy370
 by_cases c2 : a0_0 = 0
 ·rw [if_pos c2] at H
  have c2b0 : (a0_0 == 0) = true := beq_iff_eq.mpr c2
  have c2b1 : (a0_0 != 0) = false := bne_eq_false_iff_eq.mpr c2
  clear c2
  by_cases c3 : 0 ≤ a0_1
  ·rw [if_pos c3] at H
   have c3b0 := eq_true c3
   have c3b1 : decide (0 ≤ a0_1) = true := decide_eq_true c3
   clear c3
   by_cases c4 : (a0_1 : Int).toNat ≤ 281474976710656
   ·rw [if_pos c4] at H
    have c4b0 := eq_true c4
    have c4b1 : decide ((a0_1 : Int).toNat ≤ 281474976710656) = true := decide_eq_true c4
    clear c4
    obtain ⟨y373, hy373⟩ : ∃ y_ : List Int, y_ = (List.replicate (a0_1 : Int).toNat 0) := ⟨_, rfl⟩
    replace H : (some y373) = some r := by first | (rw [hy373]; with_reducible exact H) | (have H2_ := (Option.bind_some _ _).symm.trans H; rw [hy373]; with_reducible exact H2_) | (have H2_ := (Option.bind_some _ _).symm.trans H; with_reducible exact H2_) | with_reducible exact H | (rw [hy373]; exact H) | exact H
    have Ny373 := qm hy373
    clear hy373
    obtain rfl := Option.some.inj H
    go_enter Try.func82, Try.ntmps82
    go_wp2_with (first | ((with_reducible refine gate_dst (N := 1) rfl ?_); refine box_event (by rfl) (N := 1) (by rfl) (cs := #[.int .i64 a0_0, .int .i64 a0_1, .int .i64 a0_2, .int .i64 a0_3, .bool a0_4, .slice A0_5 l0_5.length c0_5, .slice A0_6 l0_6.length c0_6, .slice A0_7 l0_7.length c0_7]) (t := 55) (by first | (go_simp; done) | (go_simp; rfl)) ?_; intro gb369 hg w5 hbox hb; have n0_ := qm (qt (by repeat (first | (with_reducible first | exact HB.out | apply qh | apply qi | apply qj) | exact HB.out)) hb); have n1_ := qm (hbox); have n2_ := qm ((by rw [hg]; exact (qs (by repeat (first | (with_reducible first | exact HB.out | apply qh | apply qi | apply qj) | exact HB.out))) : w.heap.size ≤ gb369)); have n3_ := qm ((by rw [hg]; exact (qs (by repeat (first | (with_reducible first | exact HB.out | apply qh | apply qi | apply qj) | exact HB.out))) : w.heap.size ≤ gb369)); clear HB; have HB := n0_; have BK369 := n1_; have GW369 := n2_; have GE369 := n3_; clear n0_ n1_ n2_ n3_; clear hb hbox hg; obtain ⟨_, _, _, _, _, _, _, _, _, _, _, _, _, _, _, _⟩ := fc8 BK369.out) | ((with_reducible refine gate_dst (N := 11) rfl ?_); refine Kd.R_lit (Kd.int .u8) _ 5 ?hg (N := 11) ?hd (xs := ([(a0_0) % 256] : List Int)) (inner := [.int .u8 ((a0_0) % 256)]) (ok := fun _ => True) (okp := fun _ => True) ?hr ?hp (fun _ hk => hk) trivial (Below.refl _ _) (Nat.le_refl _) (by simp) ?_; (case hd => rfl); (case hg => rfl); (case hr => first | (go_simp; done) | (go_simp; rfl)); (case hp => exact (Reps.one (show Kd.M (Kd.int .u8) _ _ _ ((a0_0) % 256) [.int .u8 ((a0_0) % 256)] from rfl) (Reps.none _ _))); intro v371 w7 ho8 hb hg_ hnew_; clear hg_ hnew_; (first | rw [← Ny370.out] at ho8 | (simp only [Int.reduceToNat] at ho8; rw [← Ny370.out] at ho8)); have n0_ := qm (Kd.R_lower ho8 (qs (by repeat (first | (with_reducible first | exact HB.out | apply qh | apply qi | apply qj | refine qk ?_ GE369.out) | exact HB.out)))); have n1_ := qm (qv (g := gb369) BK369.out hb); have n2_ := qm (qt (by repeat (first | (with_reducible first | exact HB.out | apply qh | apply qi | apply qj | refine qk ?_ GE369.out) | exact HB.out)) hb); clear BK369; clear HB; have HO372 := n0_; have BK369 := n1_; have HB := n2_; clear n0_ n1_ n2_; clear hb ho8; obtain ⟨_, _, _, _, _, _, _, _, _, _, _, _, _, _, _, _⟩ := fc8 BK369.out) | ((with_reducible refine gate_dst (N := 18) rfl ?_); refine Kd.R_make (Kd.int .u8) _ 5 rfl (N := 18) rfl 22 _ _ rfl a0_1 rfl rfl Try.underlying22 (.int .u8 0) 1 info5 rfl (by decide) (by omega) 0 (ok := fun _ => True) (okp := fun _ => True) rfl (fun _ hk => hk) trivial (of_decide_eq_true (by assumption)) (Nat.le_trans (Nat.mul_le_mul_right _ (of_decide_eq_true (by assumption) : a0_1.toNat ≤ 281474976710656)) (by omega)) (Below.refl _ _) (Nat.le_refl _) ?_; intro v374 w10 ho11 hb hg_ hnew_; clear hg_ hnew_; (first | rw [← Ny373.out] at ho11 | (simp only [Int.reduceToNat] at ho11; rw [← Ny373.out] at ho11)); have n0_ := qm (Kd.R_elder' HO372.out (Kd.R_base ho11) hb); have n1_ := qm (Kd.R_lower (Kd.R_new' ho11 (Kd.R_lt HO372.out)) (qs (by repeat (first | (with_reducible first | exact HB.out | apply qh | apply qi | apply qj | refine qk ?_ GE369.out) | exact HB.out)))); have n2_ := qm (qv (g := gb369) BK369.out hb); have n3_ := qm (qt (by repeat (first | (with_reducible first | exact HB.out | apply qh | apply qi | apply qj | refine qk ?_ GE369.out) | exact HB.out)) hb); clear HO372; clear BK369; clear HB; have HO372 := n0_; have HO375 := n1_; have BK369 := n2_; have HB := n3_; clear n0_ n1_ n2_ n3_; clear hb ho11))
    go_ret
    exact ⟨_, by first | rfl | (simp <;> rfl) | (simp [*] <;> rfl), by (with_reducible repeat (first | apply qb | apply qc | apply qd)); exact qg HO375.out (fun _ hk => trivial), by repeat (first | (with_reducible first | exact HB.out | apply qh | apply qi | apply qj | refine qk ?_ GE369.out) | exact HB.out)⟩
   rw [if_neg c4] at H
   exact absurd H (by simp)
  rw [if_neg c3] at H
  exact absurd H (by simp)
 rw [if_neg c2] at H
 have c2b0 : (a0_0 == 0) = false := beq_eq_false_iff_ne.mpr c2
 have c2b1 : (a0_0 != 0) = true := bne_iff_ne.mpr c2
 by_cases c12 : a0_0 = 2
 ·rw [if_pos c12] at H
  have c12b0 : (a0_0 == 2) = true := beq_iff_eq.mpr c12
  have c12b1 : (a0_0 != 2) = false := bne_eq_false_iff_eq.mpr c12
  clear c12
  obtain ⟨ji13, hji13⟩ : ∃ j_ : Int, (wrap64 ((l0_7.length : Int) - 1)) = j_ := ⟨_, rfl⟩
  replace H : (if 0 ≤ (ji13) then (if (ji13) < (l0_7.length : Int) then ((impl_addVars.f k y370 (([(rd_T105 l0_7 (ji13)).f1, a0_1, ji13, wrap64 (((rd_T105 l0_7 (ji13)).f1) - ((rd_T105 l0_7 (ji13)).f0))] : List Int))).bind fun t381 => (impl_frameBytes.l0 k t381 (wrap64 ((l0_7.length : Int) - 2)) a0_0 a0_1 a0_2 a0_3 a0_4 l0_5 l0_6 l0_7)) else (none)) else (none)) = some r := by first | (rw [hji13] at H; exact H) | (simp only [hji13] at H ⊢; exact H)
  have hji13w : (IntKind.i64.wrap ((l0_7.length : Int) - 1)) = ji13 := (i64_w _).trans hji13
  by_cases c14 : 0 ≤ (ji13)
  ·rw [if_pos c14] at H
   have c14b0 : decide (0 ≤ (ji13)) = true := decide_eq_true c14
   clear c14
   by_cases c15 : (ji13) < (l0_7.length : Int)
   ·rw [if_pos c15] at H
    have c15b0 : decide ((ji13) < (l0_7.length : Int)) = true := decide_eq_true c15
    clear c15
    obtain ⟨y378, hy378⟩ : ∃ y_ : List Int, y_ = (([(rd_T105 l0_7 (ji13)).f1, a0_1, ji13, wrap64 (((rd_T105 l0_7 (ji13)).f1) - ((rd_T105 l0_7 (ji13)).f0))] : List Int)) := ⟨_, rfl⟩
    replace H : ((impl_addVars.f k y370 y378).bind fun t381 => (impl_frameBytes.l0 k t381 (wrap64 ((l0_7.length : Int) - 2)) a0_0 a0_1 a0_2 a0_3 a0_4 l0_5 l0_6 l0_7)) = some r := by first | (rw [hy378]; with_reducible exact H) | (have H2_ := (Option.bind_some _ _).symm.trans H; rw [hy378]; with_reducible exact H2_) | (have H2_ := (Option.bind_some _ _).symm.trans H; with_reducible exact H2_) | with_reducible exact H | (rw [hy378]; exact H) | exact H
    have Ny378 := qm hy378
    clear hy378
    replace H := Option.bind_eq_some_iff.mp H
    obtain ⟨t381, A160, H⟩ := H
    try dsimp only at H
    have A16 := qm A160
    clear A160
    have H' := qm H
    clear H
    go_enter Try.func82, Try.ntmps82
    go_wp2_with (first | ((with_reducible refine gate_dst (N := 1) rfl ?_); refine box_event (by rfl) (N := 1) (by rfl) (cs := #[.int .i64 a0_0, .int .i64 a0_1, .int .i64 a0_2, .int .i64 a0_3, .bool a0_4, .slice A0_5 l0_5.length c0_5, .slice A0_6 l0_6.length c0_6, .slice A0_7 l0_7.length c0_7]) (t := 55) (by first | (go_simp; done) | (go_simp; rfl)) ?_; intro gb369 hg w17 hbox hb; have n0_ := qm (qt (by repeat (first | (with_reducible first | exact HB.out | apply qh | apply qi | apply qj) | exact HB.out)) hb); have n1_ := qm (hbox); have n2_ := qm ((by rw [hg]; exact (qs (by repeat (first | (with_reducible first | exact HB.out | apply qh | apply qi | apply qj) | exact HB.out))) : w.heap.size ≤ gb369)); have n3_ := qm ((by rw [hg]; exact (qs (by repeat (first | (with_reducible first | exact HB.out | apply qh | apply qi | apply qj) | exact HB.out))) : w.heap.size ≤ gb369)); clear HB; have HB := n0_; have BK369 := n1_; have GW369 := n2_; have GE369 := n3_; clear n0_ n1_ n2_ n3_; clear hb hbox hg; obtain ⟨_, _, _, _, _, _, _, _, _, _, _, _, _, _, _, _⟩ := fc8 BK369.out) | ((with_reducible refine gate_dst (N := 11) rfl ?_); refine Kd.R_lit (Kd.int .u8) _ 5 ?hg (N := 11) ?hd (xs := ([(a0_0) % 256] : List Int)) (inner := [.int .u8 ((a0_0) % 256)]) (ok := fun _ => True) (okp := fun _ => True) ?hr ?hp (fun _ hk => hk) trivial (Below.refl _ _) (Nat.le_refl _) (by simp) ?_; (case hd => rfl); (case hg => rfl); (case hr => first | (go_simp; done) | (go_simp; rfl)); (case hp => exact (Reps.one (show Kd.M (Kd.int .u8) _ _ _ ((a0_0) % 256) [.int .u8 ((a0_0) % 256)] from rfl) (Reps.none _ _))); intro v371 w19 ho20 hb hg_ hnew_; clear hg_ hnew_; (first | rw [← Ny370.out] at ho20 | (simp only [Int.reduceToNat] at ho20; rw [← Ny370.out] at ho20)); have n0_ := qm (Kd.R_lower ho20 (qs (by repeat (first | (with_reducible first | exact HB.out | apply qh | apply qi | apply qj | refine qk ?_ GE369.out) | exact HB.out)))); have n1_ := qm (qv (g := gb369) BK369.out hb); have n2_ := qm (qt (by repeat (first | (with_reducible first | exact HB.out | apply qh | apply qi | apply qj | refine qk ?_ GE369.out) | exact HB.out)) hb); clear BK369; clear HB; have HO372 := n0_; have BK369 := n1_; have HB := n2_; clear n0_ n1_ n2_; clear hb ho20; obtain ⟨_, _, _, _, _, _, _, _, _, _, _, _, _, _, _, _⟩ := fc8 BK369.out; have p376 : 0 ≤ ((ji13) : Int) := of_decide_eq_true (by assumption); have q376 : (ji13) < (l0_7.length : Int) := of_decide_eq_true (by assumption); obtain ⟨ad376, e376, hx376_0, hx376_1⟩ := at_T105 HR0_7.out (ji13) p376 q376; cases e376; replace hx376_0 := (HB.out.cell (World.block_lt_of_cell? w _ hx376_0)).trans hx376_0; replace hx376_1 := (HB.out.cell (World.block_lt_of_cell? w _ hx376_1)).trans hx376_1; replace p376 := eq_true p376; replace q376 := eq_true q376) | ((with_reducible refine gate_dst (N := 5) rfl ?_); refine box_event (by rfl) (N := 5) (by rfl) (cs := #[.int .i64 0, .int .i64 0]) (t := 105) (by first | (go_simp; done) | (go_simp; rfl)) ?_; intro gb377 hg w22 hbox hb; have n0_ := qm (qf HO372.out hb); have n1_ := qm (qv (g := gb369) BK369.out hb); have n2_ := qm (qt (by repeat (first | (with_reducible first | exact HB.out | apply qh | apply qi | apply qj | refine qk ?_ GE369.out) | exact HB.out)) hb); have n3_ := qm (hbox); have n4_ := qm ((by rw [hg]; exact (qs (by repeat (first | (with_reducible first | exact HB.out | apply qh | apply qi | apply qj | refine qk ?_ GE369.out) | exact HB.out))) : w.heap.size ≤ gb377)); have n5_ := qm ((by rw [hg]; exact (qs (by repeat (first | (with_reducible first | exact HB.out | apply qh | apply qi | apply qj | refine qk ?_ GE369.out) | exact HB.out))) : w.heap.size ≤ gb377)); have n6_ := qm ((by rw [hg]; exact Nat.ne_of_lt (blk_lt (g := gb369) (o := .cells #[.int .i64 a0_0, .int .i64 a0_1, .int .i64 a0_2, .int .i64 a0_3, .bool a0_4, .slice A0_5 l0_5.length c0_5, .slice A0_6 l0_6.length c0_6, .slice (some ad376) l0_7.length c0_7] 55 (0, 0)) BK369.out) : gb369 ≠ gb377)); have n7_ := qm ((by rw [hg]; exact Nat.ne_of_gt (blk_lt (g := gb369) (o := .cells #[.int .i64 a0_0, .int .i64 a0_1, .int .i64 a0_2, .int .i64 a0_3, .bool a0_4, .slice A0_5 l0_5.length c0_5, .slice A0_6 l0_6.length c0_6, .slice (some ad376) l0_7.length c0_7] 55 (0, 0)) BK369.out) : gb377 ≠ gb369)); clear HO372; clear BK369; clear HB; have HO372 := n0_; have BK369 := n1_; have HB := n2_; have BK377 := n3_; have GW377 := n4_; have GE377 := n5_; have NB369_377 := n6_; have NB377_369 := n7_; clear n0_ n1_ n2_ n3_ n4_ n5_ n6_ n7_; clear hb hbox hg; have hnb23 := NB377_369.out; have hnc23 := NB369_377.out; obtain ⟨_, _, _, _⟩ := fc2 BK377.out; obtain ⟨_, _, _, _, _, _, _, _, _, _, _, _, _, _, _, _⟩ := fc8 BK369.out) | ((with_reducible refine gate_dst (N := 42) rfl ?_); refine Kd.R_lit (Kd.int .i64) _ 3 ?hg (N := 42) ?hd (xs := ([(rd_T105 l0_7 (ji13)).f1, a0_1, ji13, wrap64 (((rd_T105 l0_7 (ji13)).f1) - ((rd_T105 l0_7 (ji13)).f0))] : List Int)) (inner := [.int .i64 ((rd_T105 l0_7 (ji13)).f1), .int .i64 a0_1, .int .i64 ji13, .int .i64 (wrap64 (((rd_T105 l0_7 (ji13)).f1) - ((rd_T105 l0_7 (ji13)).f0)))]) (ok := fun _ => True) (okp := fun _ => True) ?hr ?hp (fun _ hk => hk) trivial (Below.refl _ _) (Nat.le_refl _) (by simp) ?_; (case hd => rfl); (case hg => rfl); (case hr => first | (go_simp; done) | (go_simp; rfl)); (case hp => exact (Reps.one (show Kd.M (Kd.int .i64) _ _ _ ((rd_T105 l0_7 (ji13)).f1) [.int .i64 ((rd_T105 l0_7 (ji13)).f1)] from rfl) (Reps.one (show Kd.M (Kd.int .i64) _ _ _ a0_1 [.int .i64 a0_1] from rfl) (Reps.one (show Kd.M (Kd.int .i64) _ _ _ ji13 [.int .i64 ji13] from rfl) (Reps.one (show Kd.M (Kd.int .i64) _ _ _ (wrap64 (((rd_T105 l0_7 (ji13)).f1) - ((rd_T105 l0_7 (ji13)).f0))) [.int .i64 (wrap64 (((rd_T105 l0_7 (ji13)).f1) - ((rd_T105 l0_7 (ji13)).f0)))] from rfl) (Reps.none _ _)))))); intro v379 w26 ho27 hb hg_ hnew_; clear hg_ hnew_; (first | rw [← Ny378.out] at ho27 | (simp only [Int.reduceToNat] at ho27; rw [← Ny378.out] at ho27)); have n0_ := qm (qf (by (with_reducible repeat (first | apply qb | apply qc | apply qd)); exact (qg (qa (p := ⟨gb377, 1, none⟩) (qa (p := ⟨gb377, 0, none⟩) (Kd.R_types HO372.out BK377.out (by decide)) (fun _ hk => hk.2) (.int .i64 ((rd_T105 l0_7 (ji13)).f0))) (fun _ hk => hk.2) (.int .i64 ((rd_T105 l0_7 (ji13)).f1))) (fun _ h_ => h_.1))) hb); have n1_ := qm (Kd.R_lower ho27 (qs (by repeat (first | (with_reducible first | exact HB.out | apply qh | apply qi | apply qj | refine qk ?_ GE369.out | refine qk ?_ GE377.out) | exact HB.out)))); have n2_ := qm (qv (g := gb369) (o := .cells #[.int .i64 a0_0, .int .i64 a0_1, .int .i64 a0_2, .int .i64 a0_3, .bool a0_4, .slice A0_5 l0_5.length c0_5, .slice A0_6 l0_6.length c0_6, .slice (some ad376) l0_7.length c0_7] 55 (0, 0)) (by (with_reducible repeat (first | refine ql ?_ _ | refine qn ?_ | refine qo ?_ _)); refine qr ?_ NB369_377.out _; (with_reducible repeat (first | refine ql ?_ _ | refine qn ?_ | refine qo ?_ _)); refine qr ?_ NB369_377.out _; (with_reducible repeat (first | refine ql ?_ _ | refine qn ?_ | refine qo ?_ _)); exact BK369.out) hb); have n3_ := qm (qv (g := gb377) (o := .cells #[.int .i64 ((rd_T105 l0_7 (ji13)).f0), .int .i64 ((rd_T105 l0_7 (ji13)).f1)] 105 (0, 0)) (by (with_reducible repeat (first | refine ql ?_ _ | refine qn ?_ | refine qo ?_ _)); refine blk_put (cs := #[.int .i64 ((rd_T105 l0_7 (ji13)).f0), .int .i64 0]) ?_ 1 _ rfl; (with_reducible repeat (first | refine ql ?_ _ | refine qn ?_ | refine qo ?_ _)); refine blk_put (cs := #[.int .i64 0, .int .i64 0]) ?_ 0 _ rfl; (with_reducible repeat (first | refine ql ?_ _ | refine qn ?_ | refine qo ?_ _)); exact BK377.out) hb); have n4_ := qm (qt (by repeat (first | (with_reducible first | exact HB.out | apply qh | apply qi | apply qj | refine qk ?_ GE369.out | refine qk ?_ GE377.out) | exact HB.out)) hb); clear HO372; clear BK369; clear BK377; clear HB; have HO372 := n0_; have HO380 := n1_; have BK369 := n2_; have BK377 := n3_; have HB := n4_; clear n0_ n1_ n2_ n3_ n4_; clear hb ho27; obtain ⟨Ao28, co28, eo28⟩ := Kd.R_slice HO372.out; subst eo28; obtain ⟨Ao29, co29, eo29⟩ := Kd.R_slice HO380.out; subst eo29) | ((with_reducible refine gate_callee (f := 99) rfl ?_); refine goesL_ (some 43) rfl rfl Try.func99 (by kernel_rfl) rfl #[.slice Ao28 y370.length co28, .slice Ao29 y378.length co29] rfl (by (try simp only [m1, m2, m3]); first | done | rfl) ?_; (with_reducible refine (impl_addVars.calls k (fun k_ => some k_ = (.slice Ao28 y370.length co28 : Value).ownBlock) (.slice Ao28 y370.length co28) y370 _ _ y378 t381 w _ ?side1 ?side2 ?side3 ?side4 A16.out).mono ?_); (case side1 => repeat (first | (with_reducible first | exact HB.out | apply qh | apply qi | apply qj | refine qk ?_ GE369.out | refine qk ?_ GE377.out) | exact HB.out)); (case side2 => exact Kd.R_tight rfl HO372.out); (case side3 => exact Kd.C_kept_own ((Kd.R_apart' HO380.out (Kd.R_typed HO372.out) (by decide))) (fun k_ hk_ hs_ => (hk_.2) hs_)); (case side4 => exact (qe HO380.out).2.1); rintro e w30 ⟨v382, rfl, ho0, hb, hkp⟩; refine ⟨_, rfl, ?_⟩; have n0_ := qm (blk_kept BK369.out hkp (fun hs_ => (fun e_ => (Kd.R_ne HO372.out BK369.out (by decide)) e_) hs_)); have n1_ := qm (blk_kept BK377.out hkp (fun hs_ => (fun e_ => (Kd.R_ne HO372.out BK377.out (by decide)) e_) hs_)); have n2_ := qm (qg (ok' := fun k_ => True) (Kd.R_keptB ((Kd.R_apart' HO380.out (Kd.R_typed HO372.out) (by decide))) hkp (fun k_ hk_ hs_ => (hk_.2) hs_)) (fun k_ hk_ => trivial)); have n3_ := qm (qg (ok' := fun k_ => True) ho0 (fun k_ hk_ => trivial)); have n4_ := qm (hb); clear BK369; clear BK377; clear HO380; clear HB; clear HO372; have BK369 := n0_; have BK377 := n1_; have HO380 := n2_; have HO383 := n3_; have HB := n4_; clear n0_ n1_ n2_ n3_ n4_; (try clear hb); (try clear hkp); (try clear ho0)))
    go_loopg [3, 6] k (fun kq v3 v6 w' => ∃ (x3_1 : List Int) (x6_1 : Int), v6 = .int .i64 x6_1 ∧ Aside0 (impl_frameBytes.l0 kq x3_1 x6_1 a0_0 a0_1 a0_2 a0_3 a0_4 l0_5 l0_6 l0_7 = some r) ∧ Aside0 (kq ≤ k) ∧ Aside0 (Kd.R (Kd.int .u8) 5 w' w.heap.size (fun _ => True) v3 x3_1) ∧ Aside0 (w'.heap[gb369]? = some (.cells #[.int .i64 a0_0, .int .i64 a0_1, .int .i64 a0_2, .int .i64 a0_3, .bool a0_4, (.slice A0_5 l0_5.length c0_5), (.slice A0_6 l0_6.length c0_6), (.slice (some ad376) l0_7.length c0_7)] 55 (0, 0))) ∧ Aside0 (w'.heap[gb377]? = some (.cells #[.int .i64 ((rd_T105 l0_7 (ji13)).f0), .int .i64 ((rd_T105 l0_7 (ji13)).f1)] 105 (0, 0))) ∧ Aside0 (Below w.heap.size w w'))
    case atStart => exact ⟨(t381), (wrap64 ((l0_7.length : Int) - 2)), (by first | rfl | (simp; done) | (simp [*]; done)), H', ⟨Nat.le_refl _⟩, ⟨HO383.out⟩, ⟨BK369.out⟩, ⟨BK377.out⟩, ⟨by repeat (first | (with_reducible first | exact HB.out | apply qh | apply qi | apply qj | refine qk ?_ GE369.out | refine qk ?_ GE377.out) | exact HB.out)⟩⟩
    case round =>
     clear H'
     try clear c2
     try clear c2b0
     try clear c2b1
     try clear c12
     try clear c12b0
     try clear c12b1
     try clear c14
     try clear c14b0
     try clear c15
     try clear c15b0
     try clear hx376_0
     try clear hx376_1
     try clear p376
     try clear q376
     obtain ⟨x3_1, x6_1, rfl, HA, HK1, HO_3, BK369, BK377, HB⟩ := hrel
     cases gk with
     | zero => exact absurd HA.out (by simp [impl_frameBytes.l0])
     | succ k1 => ?_
     have H := HA.out
     clear HA
     simp only [impl_frameBytes.l0] at H
     by_cases c31 : x6_1 ≥ 0
     ·rw [if_pos c31] at H
      have c31b0 : decide (0 ≤ x6_1) = true := decide_eq_true c31
      clear c31
      by_cases c32 : 0 ≤ x6_1
      ·rw [if_pos c32] at H
       have c32b0 : decide (0 ≤ x6_1) = true := decide_eq_true c32
       clear c32
       by_cases c33 : x6_1 < (l0_7.length : Int)
       ·rw [if_pos c33] at H
        have c33b0 : decide (x6_1 < (l0_7.length : Int)) = true := decide_eq_true c33
        clear c33
        obtain ⟨ji34, hji34⟩ : ∃ j_ : Int, (wrap64 (x6_1 + 1)) = j_ := ⟨_, rfl⟩
        replace H : (if 0 ≤ (ji34) then (if (ji34) < (l0_7.length : Int) then ((impl_addVars.f k1 x3_1 (([wrap64 ((wrap64 (((rd_T105 l0_7 (ji34)).f0) - ((rd_T105 l0_7 x6_1).f1))) - 2), wrap64 (((rd_T105 l0_7 x6_1).f1) - ((rd_T105 l0_7 x6_1).f0))] : List Int))).bind fun t390 => (impl_frameBytes.l0 k1 t390 (wrap64 (x6_1 - 1)) a0_0 a0_1 a0_2 a0_3 a0_4 l0_5 l0_6 l0_7)) else (none)) else (none)) = some r := by first | (rw [hji34] at H; exact H) | (simp only [hji34] at H ⊢; exact H)
        have hji34w : (IntKind.i64.wrap (x6_1 + 1)) = ji34 := (i64_w _).trans hji34
        by_cases c35 : 0 ≤ (ji34)
        ·rw [if_pos c35] at H
         have c35b0 : decide (0 ≤ (ji34)) = true := decide_eq_true c35
         clear c35
         by_cases c36 : (ji34) < (l0_7.length : Int)
         ·rw [if_pos c36] at H
          have c36b0 : decide ((ji34) < (l0_7.length : Int)) = true := decide_eq_true c36
          clear c36
          obtain ⟨y387, hy387⟩ : ∃ y_ : List Int, y_ = (([wrap64 ((wrap64 (((rd_T105 l0_7 (ji34)).f0) - ((rd_T105 l0_7 x6_1).f1))) - 2), wrap64 (((rd_T105 l0_7 x6_1).f1) - ((rd_T105 l0_7 x6_1).f0))] : List Int)) := ⟨_, rfl⟩
          replace H : ((impl_addVars.f k1 x3_1 y387).bind fun t390 => (impl_frameBytes.l0 k1 t390 (wrap64 (x6_1 - 1)) a0_0 a0_1 a0_2 a0_3 a0_4 l0_5 l0_6 l0_7)) = some r := by first | (rw [hy387]; with_reducible exact H) | (have H2_ := (Option.bind_some _ _).symm.trans H; rw [hy387]; with_reducible exact H2_) | (have H2_ := (Option.bind_some _ _).symm.trans H; with_reducible exact H2_) | with_reducible exact H | (rw [hy387]; exact H) | exact H
          have Ny387 := qm hy387
          clear hy387
          replace H := Option.bind_eq_some_iff.mp H
          obtain ⟨t390, A370, H⟩ := H
          try dsimp only at H
          have A37 := qm A370
          clear A370
          have H' := qm H
          clear H
          have hnb38 := NB369_377.out
          have hnc38 := NB377_369.out
          obtain ⟨_, _, _, _, _, _, _, _, _, _, _, _, _, _, _, _⟩ := fc8 BK369.out
          have p384 : 0 ≤ (x6_1 : Int) := of_decide_eq_true (by assumption)
          have q384 : x6_1 < (l0_7.length : Int) := of_decide_eq_true (by assumption)
          obtain ⟨ad384, e384, hx384_0, hx384_1⟩ := at_T105 HR0_7.out x6_1 p384 q384
          obtain rfl : ad376 = ad384 := (by injection e384)
          replace hx384_0 := (HB.out.cell (World.block_lt_of_cell? w _ hx384_0)).trans hx384_0
          replace hx384_1 := (HB.out.cell (World.block_lt_of_cell? w _ hx384_1)).trans hx384_1
          replace p384 := eq_true p384
          replace q384 := eq_true q384
          try go_wp2_with (first | ((with_reducible refine gate_dst (N := 7) rfl ?_); refine box_event (by rfl) (N := 7) (by rfl) (cs := #[.int .i64 0, .int .i64 0]) (t := 105) (by first | (go_simp; done) | (go_simp; rfl)) ?_; intro gb385 hg w40 hbox hb; have n0_ := qm (qf HO_3.out hb); have n1_ := qm (qv (g := gb369) BK369.out hb); have n2_ := qm (qv (g := gb377) BK377.out hb); have n3_ := qm (qt (by repeat (first | (with_reducible first | exact HB.out | apply qh | apply qi | apply qj | refine qk ?_ GE369.out | refine qk ?_ GE377.out) | exact HB.out)) hb); have n4_ := qm (hbox); have n5_ := qm ((by rw [hg]; exact (qs (by repeat (first | (with_reducible first | exact HB.out | apply qh | apply qi | apply qj | refine qk ?_ GE369.out | refine qk ?_ GE377.out) | exact HB.out))) : w.heap.size ≤ gb385)); have n6_ := qm ((by rw [hg]; exact (qs (by repeat (first | (with_reducible first | exact HB.out | apply qh | apply qi | apply qj | refine qk ?_ GE369.out | refine qk ?_ GE377.out) | exact HB.out))) : w.heap.size ≤ gb385)); have n7_ := qm ((by rw [hg]; exact Nat.ne_of_lt (blk_lt (g := gb369) (o := .cells #[.int .i64 a0_0, .int .i64 a0_1, .int .i64 a0_2, .int .i64 a0_3, .bool a0_4, .slice A0_5 l0_5.length c0_5, .slice A0_6 l0_6.length c0_6, .slice (some ad376) l0_7.length c0_7] 55 (0, 0)) BK369.out) : gb369 ≠ gb385)); have n8_ := qm ((by rw [hg]; exact Nat.ne_of_gt (blk_lt (g := gb369) (o := .cells #[.int .i64 a0_0, .int .i64 a0_1, .int .i64 a0_2, .int .i64 a0_3, .bool a0_4, .slice A0_5 l0_5.length c0_5, .slice A0_6 l0_6.length c0_6, .slice (some ad376) l0_7.length c0_7] 55 (0, 0)) BK369.out) : gb385 ≠ gb369)); have n9_ := qm ((by rw [hg]; exact Nat.ne_of_lt (blk_lt (g := gb377) (o := .cells #[.int .i64 ((rd_T105 l0_7 (ji13)).f0), .int .i64 ((rd_T105 l0_7 (ji13)).f1)] 105 (0, 0)) BK377.out) : gb377 ≠ gb385)); have n10_ := qm ((by rw [hg]; exact Nat.ne_of_gt (blk_lt (g := gb377) (o := .cells #[.int .i64 ((rd_T105 l0_7 (ji13)).f0), .int .i64 ((rd_T105 l0_7 (ji13)).f1)] 105 (0, 0)) BK377.out) : gb385 ≠ gb377)); clear HO_3; clear BK369; clear BK377; clear HB; have HO_3 := n0_; have BK369 := n1_; have BK377 := n2_; have HB := n3_; have BK385 := n4_; have GW385 := n5_; have GE385 := n6_; have NB369_385 := n7_; have NB385_369 := n8_; have NB377_385 := n9_; have NB385_377 := n10_; clear n0_ n1_ n2_ n3_ n4_ n5_ n6_ n7_ n8_ n9_ n10_; clear hb hbox hg; have hnb41 := NB385_369.out; have hnc41 := NB369_385.out; have hnb42 := NB385_377.out; have hnc42 := NB377_385.out; obtain ⟨_, _, _, _⟩ := fc2 BK385.out))
          have n0_ : Aside0 (Kd.R (Kd.int .u8) 5 ((w40.setCell ⟨gb385, 0, none⟩ (.int .i64 ((rd_T105 l0_7 x6_1).f0))).setCell ⟨gb385, 1, none⟩ (.int .i64 ((rd_T105 l0_7 x6_1).f1))) w.heap.size (fun _ => True) u3 x3_1) := ⟨by (with_reducible repeat (first | apply qb | apply qc | apply qd)); exact qg (qa (p := ⟨gb385, 1, none⟩) (qa (p := ⟨gb385, 0, none⟩) (Kd.R_types HO_3.out BK385.out (by decide)) (fun _ hk => hk.2) (.int .i64 ((rd_T105 l0_7 x6_1).f0))) (fun _ hk => hk.2) (.int .i64 ((rd_T105 l0_7 x6_1).f1))) (fun _ hk => trivial)⟩
          have n1_ : Aside0 (((w40.setCell ⟨gb385, 0, none⟩ (.int .i64 ((rd_T105 l0_7 x6_1).f0))).setCell ⟨gb385, 1, none⟩ (.int .i64 ((rd_T105 l0_7 x6_1).f1))).heap[gb369]? = some (.cells #[.int .i64 a0_0, .int .i64 a0_1, .int .i64 a0_2, .int .i64 a0_3, .bool a0_4, .slice A0_5 l0_5.length c0_5, .slice A0_6 l0_6.length c0_6, .slice (some ad376) l0_7.length c0_7] 55 (0, 0))) := ⟨by (with_reducible repeat (first | refine ql ?_ _ | refine qn ?_ | refine qo ?_ _)); refine qr ?_ NB369_385.out _; (with_reducible repeat (first | refine ql ?_ _ | refine qn ?_ | refine qo ?_ _)); refine qr ?_ NB369_385.out _; (with_reducible repeat (first | refine ql ?_ _ | refine qn ?_ | refine qo ?_ _)); exact BK369.out⟩
          have n2_ : Aside0 (((w40.setCell ⟨gb385, 0, none⟩ (.int .i64 ((rd_T105 l0_7 x6_1).f0))).setCell ⟨gb385, 1, none⟩ (.int .i64 ((rd_T105 l0_7 x6_1).f1))).heap[gb377]? = some (.cells #[.int .i64 ((rd_T105 l0_7 (ji13)).f0), .int .i64 ((rd_T105 l0_7 (ji13)).f1)] 105 (0, 0))) := ⟨by (with_reducible repeat (first | refine ql ?_ _ | refine qn ?_ | refine qo ?_ _)); refine qr ?_ NB377_385.out _; (with_reducible repeat (first | refine ql ?_ _ | refine qn ?_ | refine qo ?_ _)); refine qr ?_ NB377_385.out _; (with_reducible repeat (first | refine ql ?_ _ | refine qn ?_ | refine qo ?_ _)); exact BK377.out⟩
          have n3_ : Aside0 (((w40.setCell ⟨gb385, 0, none⟩ (.int .i64 ((rd_T105 l0_7 x6_1).f0))).setCell ⟨gb385, 1, none⟩ (.int .i64 ((rd_T105 l0_7 x6_1).f1))).heap[gb385]? = some (.cells #[.int .i64 ((rd_T105 l0_7 x6_1).f0), .int .i64 ((rd_T105 l0_7 x6_1).f1)] 105 (0, 0))) := ⟨by (with_reducible repeat (first | refine ql ?_ _ | refine qn ?_ | refine qo ?_ _)); refine blk_put (cs := #[.int .i64 ((rd_T105 l0_7 x6_1).f0), .int .i64 0]) ?_ 1 _ rfl; (with_reducible repeat (first | refine ql ?_ _ | refine qn ?_ | refine qo ?_ _)); refine blk_put (cs := #[.int .i64 0, .int .i64 0]) ?_ 0 _ rfl; (with_reducible repeat (first | refine ql ?_ _ | refine qn ?_ | refine qo ?_ _)); exact BK385.out⟩
          have n4_ : Aside0 (Below w.heap.size w ((w40.setCell ⟨gb385, 0, none⟩ (.int .i64 ((rd_T105 l0_7 x6_1).f0))).setCell ⟨gb385, 1, none⟩ (.int .i64 ((rd_T105 l0_7 x6_1).f1)))) := ⟨by repeat (first | (with_reducible first | exact HB.out | apply qh | apply qi | apply qj | refine qk ?_ GE369.out | refine qk ?_ GE377.out | refine qk ?_ GE385.out) | exact HB.out)⟩
          (try clear HO_3)
          (try clear BK369)
          (try clear BK377)
          (try clear BK385)
          (try clear HB)
          generalize ((w40.setCell ⟨gb385, 0, none⟩ (.int .i64 ((rd_T105 l0_7 x6_1).f0))).setCell ⟨gb385, 1, none⟩ (.int .i64 ((rd_T105 l0_7 x6_1).f1))) = w44 at n0_ n1_ n2_ n3_ n4_ ⊢
          have HO_3 := n0_
          have BK369 := n1_
          have BK377 := n2_
          have BK385 := n3_
          have HB := n4_
          clear n0_ n1_ n2_ n3_ n4_
          have n0_ := qm (qd HO_3.out)
          have n1_ := qm (qn BK369.out)
          have n2_ := qm (qn BK377.out)
          have n3_ := qm (qn BK385.out)
          have n4_ := qm (qj HB.out)
          clear HO_3
          clear BK369
          clear BK377
          clear BK385
          clear HB
          have HO_3 := n0_
          have BK369 := n1_
          have BK377 := n2_
          have BK385 := n3_
          have HB := n4_
          clear n0_ n1_ n2_ n3_ n4_
          have p386 : 0 ≤ ((ji34) : Int) := of_decide_eq_true (by assumption)
          have q386 : (ji34) < (l0_7.length : Int) := of_decide_eq_true (by assumption)
          obtain ⟨ad386, e386, hx386_0, hx386_1⟩ := at_T105 HR0_7.out (ji34) p386 q386
          have hw386_1 := hx386_1
          have hw386_0 := hx386_0
          obtain rfl : ad376 = ad386 := (by injection e386)
          replace hx386_0 := (HB.out.cell (World.block_lt_of_cell? w _ hx386_0)).trans hx386_0
          replace hx386_1 := (HB.out.cell (World.block_lt_of_cell? w _ hx386_1)).trans hx386_1
          replace p386 := eq_true p386
          replace q386 := eq_true q386
          refine start_ (n := 20) (S := fun w' => w'.cell? ⟨gb369, 0, none⟩ = some (.int .i64 a0_0) ∧ w'.cell? ⟨gb369, 1, none⟩ = some (.int .i64 a0_1) ∧ w'.cell? ⟨gb369, 2, none⟩ = some (.int .i64 a0_2) ∧ w'.cell? ⟨gb369, 3, none⟩ = some (.int .i64 a0_3) ∧ w'.cell? ⟨gb369, 4, none⟩ = some (.bool a0_4) ∧ w'.cell? ⟨gb369, 5, none⟩ = some (.slice A0_5 l0_5.length c0_5) ∧ w'.cell? ⟨gb369, 6, none⟩ = some (.slice A0_6 l0_6.length c0_6) ∧ w'.cell? ⟨gb369, 7, none⟩ = some (.slice (some ad376) l0_7.length c0_7) ∧ w'.cell? ⟨gb385, 0, none⟩ = some (.int .i64 ((rd_T105 l0_7 x6_1).f0)) ∧ w'.cell? ⟨gb385, 1, none⟩ = some (.int .i64 ((rd_T105 l0_7 x6_1).f1)) ∧ w'.cell? (ad376.add (((ji34)).toNat * 2)) = some (.int .i64 ((rd_T105 l0_7 (ji34)).f0)) ∧ w'.cell? ⟨(ad376.add (((ji34)).toNat * 2)).block, (ad376.add (((ji34)).toNat * 2)).off + 1, none⟩ = some (.int .i64 ((rd_T105 l0_7 (ji34)).f1))) (ds := []) (bm 0 20) (by kernel_rfl) rfl rfl ⟨(qu BK369.out 0).trans rfl, (qu BK369.out 1).trans rfl, (qu BK369.out 2).trans rfl, (qu BK369.out 3).trans rfl, (qu BK369.out 4).trans rfl, (qu BK369.out 5).trans rfl, (qu BK369.out 6).trans rfl, (qu BK369.out 7).trans rfl, (qu BK385.out 0).trans rfl, (qu BK385.out 1).trans rfl, ((HB.out.cell (World.block_lt_of_cell? w _ hw386_0)).trans hw386_0), ((HB.out.cell (World.block_lt_of_cell? w _ hw386_1)).trans hw386_1)⟩ (fun hHeld => ?_); refine with_tabW impl_frameBytes.tab13 impl_frameBytes.bits13 (fun HT_ HW_ => ?_)
          generalize w44.drew = w45 at HO_3 BK369 BK377 BK385 HB hx386_0 hx386_1 hHeld ⊢
          refine pu 0 55 (bm 1 20) HT_ (h := ⟨_, by intro w'; go_simp; with_reducible rfl, _, by simp only [Act.put, s1, s2, s3, i64_w, i32_w]; rfl, ?_⟩)
          refine pu 1 56 (bm 2 20) HT_ (h := ⟨_, by intro w'; go_simp; with_reducible rfl, _, by simp only [Act.put, s1, s2, s3, i64_w, i32_w]; rfl, ?_⟩)
          refine pu 3 58 (bb 11 20) HT_ (h := ⟨_, by intro w'; go_simp; with_reducible rfl, _, by simp only [Act.put, s1, s2, s3, i64_w, i32_w]; rfl, ?_⟩)
          refine pu 4 59 (bb 27 20) HT_ (h := ⟨_, by intro w'; go_simp; with_reducible rfl, _, by simp only [Act.put, s1, s2, s3, i64_w, i32_w]; rfl, ?_⟩)
          refine pu 8 63 (bb 283 20) HT_ (h := ⟨_, by intro w'; go_simp; with_reducible rfl, _, by simp only [Act.put, s1, s2, s3, i64_w, i32_w]; rfl, ?_⟩)
          refine pu 12 67 (bb 4379 20) HT_ (h := ⟨_, by intro w'; go_simp; with_reducible rfl, _, by simp only [Act.put, s1, s2, s3, i64_w, i32_w]; rfl, ?_⟩)
          refine pu 14 69 (bb 20763 20) HT_ (h := ⟨_, by intro w'; go_simp; with_reducible rfl, _, by simp only [Act.put, s1, s2, s3, i64_w, i32_w]; rfl, ?_⟩)
          refine tk 2 57 (bb 20767 20) HT_ HW_ (hS := hHeld) (h := ⟨_, by rintro w' ⟨s0, s1, s2, s3, s4, s5, s6, s7, s8, s9, s10, s11⟩; go_simp; with_reducible rfl, _, by simp only [Act.put, s1, s2, s3, i64_w, i32_w]; rfl, ?_⟩)
          refine pu 5 60 (bb 20799 20) HT_ (h := ⟨_, by intro w'; go_simp; with_reducible rfl, _, by simp only [Act.put, s1, s2, s3, i64_w, i32_w]; rfl, ?_⟩)
          refine pu 6 61 (bb 20863 20) HT_ (h := ⟨_, by intro w'; go_simp; with_reducible rfl, _, by simp only [Act.put, s1, s2, s3, i64_w, i32_w]; rfl, ?_⟩)
          refine tk 7 62 (bb 20991 20) HT_ HW_ (hS := hHeld) (h := ⟨_, by rintro w' ⟨s0, s1, s2, s3, s4, s5, s6, s7, s8, s9, s10, s11⟩; go_simp; with_reducible rfl, _, by simp only [Act.put, s1, s2, s3, i64_w, i32_w]; rfl, ?_⟩)
          refine tk 9 64 (bb 21503 20) HT_ HW_ (hS := hHeld) (h := ⟨_, by rintro w' ⟨s0, s1, s2, s3, s4, s5, s6, s7, s8, s9, s10, s11⟩; go_simp; with_reducible rfl, _, by simp only [Act.put, s1, s2, s3, i64_w, i32_w]; rfl, ?_⟩)
          refine pu 10 65 (bb 22527 20) HT_ (h := ⟨_, by intro w'; go_simp; with_reducible rfl, _, by simp only [Act.put, s1, s2, s3, i64_w, i32_w]; rfl, ?_⟩)
          refine pu 11 66 (bb 24575 20) HT_ (h := ⟨_, by intro w'; go_simp; with_reducible rfl, _, by simp only [Act.put, s1, s2, s3, i64_w, i32_w]; rfl, ?_⟩)
          refine tk 13 68 (bm 15 20) HT_ HW_ (hS := hHeld) (h := ⟨_, by rintro w' ⟨s0, s1, s2, s3, s4, s5, s6, s7, s8, s9, s10, s11⟩; go_simp; with_reducible rfl, _, by simp only [Act.put, s1, s2, s3, i64_w, i32_w]; rfl, ?_⟩)
          refine tk 15 70 (bm 16 20) HT_ HW_ (hS := hHeld) (h := ⟨_, by rintro w' ⟨s0, s1, s2, s3, s4, s5, s6, s7, s8, s9, s10, s11⟩; go_simp; with_reducible rfl, _, by simp only [Act.put, s1, s2, s3, i64_w, i32_w]; rfl, ?_⟩)
          refine pu 16 71 (bm 17 20) HT_ (h := ⟨_, by intro w'; go_simp; with_reducible rfl, _, by simp only [Act.put, s1, s2, s3, i64_w, i32_w]; rfl, ?_⟩)
          refine one_ (i := 17) (N := some 72) (bm 18 20) rfl rfl (one_of HT_.out (by kernel_rfl)) (by decide) (fun K hK => ?_)
          refine Kd.R_lit_step (Kd.int .i64) _ 3 ?hg (N := 72) ?hd (xs := ([wrap64 ((wrap64 (((rd_T105 l0_7 (ji34)).f0) - ((rd_T105 l0_7 x6_1).f1))) - 2), wrap64 (((rd_T105 l0_7 x6_1).f1) - ((rd_T105 l0_7 x6_1).f0))] : List Int)) (inner := [.int .i64 (wrap64 ((wrap64 (((rd_T105 l0_7 (ji34)).f0) - ((rd_T105 l0_7 x6_1).f1))) - 2)), .int .i64 (wrap64 (((rd_T105 l0_7 x6_1).f1) - ((rd_T105 l0_7 x6_1).f0)))]) (ok := fun _ => True) (okp := fun _ => True) ?hr ?hp (fun _ hk => hk) trivial (Below.refl _ _) (Nat.le_refl _) (by simp) ?_; (case hd => rfl); (case hg => rfl); (case hr => first | (go_simp; done) | (go_simp; rfl)); (case hp => exact (Reps.one (show Kd.M (Kd.int .i64) _ _ _ (wrap64 ((wrap64 (((rd_T105 l0_7 (ji34)).f0) - ((rd_T105 l0_7 x6_1).f1))) - 2)) [.int .i64 (wrap64 ((wrap64 (((rd_T105 l0_7 (ji34)).f0) - ((rd_T105 l0_7 x6_1).f1))) - 2))] from rfl) (Reps.one (show Kd.M (Kd.int .i64) _ _ _ (wrap64 (((rd_T105 l0_7 x6_1).f1) - ((rd_T105 l0_7 x6_1).f0))) [.int .i64 (wrap64 (((rd_T105 l0_7 x6_1).f1) - ((rd_T105 l0_7 x6_1).f0)))] from rfl) (Reps.none _ _))))
          intro v388 w46 ho47 hb hg_ hnew_
          clear hg_ hnew_
          (first | rw [← Ny387.out] at ho47 | (simp only [Int.reduceToNat] at ho47; rw [← Ny387.out] at ho47))
          have n0_ := qm (qf HO_3.out hb)
          have n1_ := qm (Kd.R_lower ho47 (qs (by repeat (first | (with_reducible first | exact HB.out | apply qh | apply qi | apply qj | refine qk ?_ GE369.out | refine qk ?_ GE377.out | refine qk ?_ GE385.out) | exact HB.out))))
          have n2_ := qm (qv (g := gb369) BK369.out hb)
          have n3_ := qm (qv (g := gb377) BK377.out hb)
          have n4_ := qm (qv (g := gb385) BK385.out hb)
          have n5_ := qm (qt (by repeat (first | (with_reducible first | exact HB.out | apply qh | apply qi | apply qj | refine qk ?_ GE369.out | refine qk ?_ GE377.out | refine qk ?_ GE385.out) | exact HB.out)) hb)
          clear HO_3
          clear BK369
          clear BK377
          clear BK385
          clear HB
          have HO_3 := n0_
          have HO389 := n1_
          have BK369 := n2_
          have BK377 := n3_
          have BK385 := n4_
          have HB := n5_
          clear n0_ n1_ n2_ n3_ n4_ n5_
          clear hb ho47
          obtain ⟨Ao48, co48, eo48⟩ := Kd.R_slice HO_3.out
          (first | subst eo48 | (injection eo48 with f1_ f2_ f3_; have f4_ := f1_.symm; have f5_ := f3_.symm; clear f1_ f2_ f3_; subst f4_; subst f5_))
          obtain ⟨Ao49, co49, eo49⟩ := Kd.R_slice HO389.out
          (first | subst eo49 | (injection eo49 with f1_ f2_ f3_; have f4_ := f1_.symm; have f5_ := f3_.symm; clear f1_ f2_ f3_; subst f4_; subst f5_))
          refine hK.out _ _ ⟨(qu BK369.out 0).trans rfl, (qu BK369.out 1).trans rfl, (qu BK369.out 2).trans rfl, (qu BK369.out 3).trans rfl, (qu BK369.out 4).trans rfl, (qu BK369.out 5).trans rfl, (qu BK369.out 6).trans rfl, (qu BK369.out 7).trans rfl, (qu BK385.out 0).trans rfl, (qu BK385.out 1).trans rfl, ((HB.out.cell (World.block_lt_of_cell? w _ hw386_0)).trans hw386_0), ((HB.out.cell (World.block_lt_of_cell? w _ hw386_1)).trans hw386_1)⟩ (fun hHeld => ?_)
          clear hK K
          refine norm_ (a' := ?_) ?_ ?_
          rotate_left
          ·show Act.put _ (some 72) _ = _
           simp only [Act.put, s1, s2, s3, i64_w, i32_w]
           rfl
          refine one_ (i := 18) (N := some 73) (bm 19 20) rfl rfl (one_of HT_.out (by kernel_rfl)) (by decide) (fun K hK => ?_)
          refine goes_ Try.func99 (by kernel_rfl) rfl #[.slice Ao48 x3_1.length co48, .slice Ao49 y387.length co49] (by rfl) rfl rfl (by (try simp only [m1, m2, m3]); first | done | rfl) ?_
          with_reducible refine (impl_addVars.calls k1 (fun k_ => some k_ = (.slice Ao48 x3_1.length co48 : Value).ownBlock) (.slice Ao48 x3_1.length co48) x3_1 _ _ y387 t390 w _ ?side1 ?side2 ?side3 ?side4 A37.out).mono ?_
          (case side1 => repeat (first | (with_reducible first | exact HB.out | apply qh | apply qi | apply qj | refine qk ?_ GE369.out | refine qk ?_ GE377.out | refine qk ?_ GE385.out) | exact HB.out))
          (case side2 => exact Kd.R_tight rfl HO_3.out)
          (case side3 => exact Kd.C_kept_own ((Kd.R_apart' HO389.out (Kd.R_typed HO_3.out) (by decide))) (fun k_ hk_ hs_ => (hk_.2) hs_))
          (case side4 => exact (qe HO389.out).2.1)
          rintro e w50 ⟨v391, rfl, ho0, hb, hkp⟩
          refine ⟨_, rfl, ?_⟩
          have n0_ := qm (blk_kept BK369.out hkp (fun hs_ => (fun e_ => (Kd.R_ne HO_3.out BK369.out (by decide)) e_) hs_))
          have n1_ := qm (blk_kept BK377.out hkp (fun hs_ => (fun e_ => (Kd.R_ne HO_3.out BK377.out (by decide)) e_) hs_))
          have n2_ := qm (blk_kept BK385.out hkp (fun hs_ => (fun e_ => (Kd.R_ne HO_3.out BK385.out (by decide)) e_) hs_))
          have n3_ := qm (qg (ok' := fun k_ => True) (Kd.R_keptB ((Kd.R_apart' HO389.out (Kd.R_typed HO_3.out) (by decide))) hkp (fun k_ hk_ hs_ => (hk_.2) hs_)) (fun k_ hk_ => trivial))
          have n4_ := qm (qg (ok' := fun k_ => True) ho0 (fun k_ hk_ => trivial))
          have n5_ := qm (hb)
          clear BK369
          clear BK377
          clear BK385
          clear HO389
          clear HB
          clear HO_3
          have BK369 := n0_
          have BK377 := n1_
          have BK385 := n2_
          have HO389 := n3_
          have HO392 := n4_
          have HB := n5_
          clear n0_ n1_ n2_ n3_ n4_ n5_
          (try clear hb)
          (try clear hkp)
          (try clear ho0)
          refine hK.out _ _ ⟨(qu BK369.out 0).trans rfl, (qu BK369.out 1).trans rfl, (qu BK369.out 2).trans rfl, (qu BK369.out 3).trans rfl, (qu BK369.out 4).trans rfl, (qu BK369.out 5).trans rfl, (qu BK369.out 6).trans rfl, (qu BK369.out 7).trans rfl, (qu BK385.out 0).trans rfl, (qu BK385.out 1).trans rfl, ((HB.out.cell (World.block_lt_of_cell? w _ hw386_0)).trans hw386_0), ((HB.out.cell (World.block_lt_of_cell? w _ hw386_1)).trans hw386_1)⟩ (fun hHeld => ?_)
          clear hK K
          refine norm_ (a' := ?_) ?_ ?_
          rotate_left
          ·show Act.put _ (some 73) _ = _
           simp only [Act.put, s1, s2, s3, i64_w, i32_w]
           rfl
          refine pu 19 3 (bm 20 20) HT_ (h := ⟨_, by intro w'; go_simp; with_reducible rfl, _, by simp only [Act.put, s1, s2, s3, i64_w, i32_w]; rfl, ?_⟩)
          refine done_ (done_of HT_.out (by kernel_rfl)) ?_
          try go_wp2
          go_roundg k1
          case measure => have := HK1.out; omega
          case rel => exact ⟨(t390), (wrap64 (x6_1 - 1)), (by first | rfl | (simp; done) | (simp [*]; done)), H', ⟨by have := HK1.out; omega⟩, ⟨HO392.out⟩, ⟨BK369.out⟩, ⟨BK377.out⟩, ⟨by repeat (first | (with_reducible first | exact HB.out | apply qh | apply qi | apply qj | refine qk ?_ GE369.out | refine qk ?_ GE377.out | refine qk ?_ GE385.out) | exact HB.out)⟩⟩
         rw [if_neg c36] at H
         exact absurd H (by simp)
        rw [if_neg c35] at H
        exact absurd H (by simp)
       rw [if_neg c33] at H
       exact absurd H (by simp)
      rw [if_neg c32] at H
      exact absurd H (by simp)
     rw [if_neg c31] at H
     have c31b0 : decide (0 ≤ x6_1) = false := decide_eq_false c31
     clear c31
     obtain rfl := Option.some.inj H
     as_aux_lemma =>
      go_wp2
      go_ret
      exact ⟨_, by first | rfl | (simp [errW_none, errW_some] <;> rfl) | (simp only [← hji13]; first | rfl | (simp [errW_none, errW_some] <;> rfl)) | (simp [*, errW_none, errW_some] <;> rfl), HO_3.out, by repeat (first | (with_reducible first | exact HB.out | apply qh | apply qi | apply qj | refine qk ?_ GE369.out | refine qk ?_ GE377.out) | exact HB.out)⟩
   rw [if_neg c15] at H
   exact absurd H (by simp)
  rw [if_neg c14] at H
  exact absurd H (by simp)
 rw [if_neg c12] at H
 have c12b0 : (a0_0 == 2) = false := beq_eq_false_iff_ne.mpr c12
 have c12b1 : (a0_0 != 2) = true := bne_iff_ne.mpr c12
 by_cases c51 : a0_0 = 4
 ·rw [if_pos c51] at H
  have c51b0 : (a0_0 == 4) = true := beq_iff_eq.mpr c51
  have c51b1 : (a0_0 != 4) = false := bne_eq_false_iff_eq.mpr c51
  clear c51
  obtain ⟨y393, hy393⟩ : ∃ y_ : List Int, y_ = (([a0_1, a0_2, a0_3] : List Int)) := ⟨_, rfl⟩
  replace H : ((impl_addVars.f k y370 y393).bind fun t396 => (some t396)) = some r := by first | (rw [hy393]; with_reducible exact H) | (have H2_ := (Option.bind_some _ _).symm.trans H; rw [hy393]; with_reducible exact H2_) | (have H2_ := (Option.bind_some _ _).symm.trans H; with_reducible exact H2_) | with_reducible exact H | (rw [hy393]; exact H) | exact H
  have Ny393 := qm hy393
  clear hy393
  replace H := Option.bind_eq_some_iff.mp H
  obtain ⟨t396, A520, H⟩ := H
  replace H : (some t396) = some r := H
  have A52 := qm A520
  clear A520
  obtain rfl := Option.some.inj H
  go_enter Try.func82, Try.ntmps82
  go_wp2_with (first | ((with_reducible refine gate_dst (N := 1) rfl ?_); refine box_event (by rfl) (N := 1) (by rfl) (cs := #[.int .i64 a0_0, .int .i64 a0_1, .int .i64 a0_2, .int .i64 a0_3, .bool a0_4, .slice A0_5 l0_5.length c0_5, .slice A0_6 l0_6.length c0_6, .slice A0_7 l0_7.length c0_7]) (t := 55) (by first | (go_simp; done) | (go_simp; rfl)) ?_; intro gb369 hg w53 hbox hb; have n0_ := qm (qt (by repeat (first | (with_reducible first | exact HB.out | apply qh | apply qi | apply qj) | exact HB.out)) hb); have n1_ := qm (hbox); have n2_ := qm ((by rw [hg]; exact (qs (by repeat (first | (with_reducible first | exact HB.out | apply qh | apply qi | apply qj) | exact HB.out))) : w.heap.size ≤ gb369)); have n3_ := qm ((by rw [hg]; exact (qs (by repeat (first | (with_reducible first | exact HB.out | apply qh | apply qi | apply qj) | exact HB.out))) : w.heap.size ≤ gb369)); clear HB; have HB := n0_; have BK369 := n1_; have GW369 := n2_; have GE369 := n3_; clear n0_ n1_ n2_ n3_; clear hb hbox hg; obtain ⟨_, _, _, _, _, _, _, _, _, _, _, _, _, _, _, _⟩ := fc8 BK369.out) | ((with_reducible refine gate_dst (N := 11) rfl ?_); refine Kd.R_lit (Kd.int .u8) _ 5 ?hg (N := 11) ?hd (xs := ([(a0_0) % 256] : List Int)) (inner := [.int .u8 ((a0_0) % 256)]) (ok := fun _ => True) (okp := fun _ => True) ?hr ?hp (fun _ hk => hk) trivial (Below.refl _ _) (Nat.le_refl _) (by simp) ?_; (case hd => rfl); (case hg => rfl); (case hr => first | (go_simp; done) | (go_simp; rfl)); (case hp => exact (Reps.one (show Kd.M (Kd.int .u8) _ _ _ ((a0_0) % 256) [.int .u8 ((a0_0) % 256)] from rfl) (Reps.none _ _))); intro v371 w55 ho56 hb hg_ hnew_; clear hg_ hnew_; (first | rw [← Ny370.out] at ho56 | (simp only [Int.reduceToNat] at ho56; rw [← Ny370.out] at ho56)); have n0_ := qm (Kd.R_lower ho56 (qs (by repeat (first | (with_reducible first | exact HB.out | apply qh | apply qi | apply qj | refine qk ?_ GE369.out) | exact HB.out)))); have n1_ := qm (qv (g := gb369) BK369.out hb); have n2_ := qm (qt (by repeat (first | (with_reducible first | exact HB.out | apply qh | apply qi | apply qj | refine qk ?_ GE369.out) | exact HB.out)) hb); clear BK369; clear HB; have HO372 := n0_; have BK369 := n1_; have HB := n2_; clear n0_ n1_ n2_; clear hb ho56; obtain ⟨_, _, _, _, _, _, _, _, _, _, _, _, _, _, _, _⟩ := fc8 BK369.out) | ((with_reducible refine gate_dst (N := 83) rfl ?_); refine Kd.R_lit (Kd.int .i64) _ 3 ?hg (N := 83) ?hd (xs := ([a0_1, a0_2, a0_3] : List Int)) (inner := [.int .i64 a0_1, .int .i64 a0_2, .int .i64 a0_3]) (ok := fun _ => True) (okp := fun _ => True) ?hr ?hp (fun _ hk => hk) trivial (Below.refl _ _) (Nat.le_refl _) (by simp) ?_; (case hd => rfl); (case hg => rfl); (case hr => first | (go_simp; done) | (go_simp; rfl)); (case hp => exact (Reps.one (show Kd.M (Kd.int .i64) _ _ _ a0_1 [.int .i64 a0_1] from rfl) (Reps.one (show Kd.M (Kd.int .i64) _ _ _ a0_2 [.int .i64 a0_2] from rfl) (Reps.one (show Kd.M (Kd.int .i64) _ _ _ a0_3 [.int .i64 a0_3] from rfl) (Reps.none _ _))))); intro v394 w58 ho59 hb hg_ hnew_; clear hg_ hnew_; (first | rw [← Ny393.out] at ho59 | (simp only [Int.reduceToNat] at ho59; rw [← Ny393.out] at ho59)); have n0_ := qm (qf HO372.out hb); have n1_ := qm (Kd.R_lower ho59 (qs (by repeat (first | (with_reducible first | exact HB.out | apply qh | apply qi | apply qj | refine qk ?_ GE369.out) | exact HB.out)))); have n2_ := qm (qv (g := gb369) BK369.out hb); have n3_ := qm (qt (by repeat (first | (with_reducible first | exact HB.out | apply qh | apply qi | apply qj | refine qk ?_ GE369.out) | exact HB.out)) hb); clear HO372; clear BK369; clear HB; have HO372 := n0_; have HO395 := n1_; have BK369 := n2_; have HB := n3_; clear n0_ n1_ n2_ n3_; clear hb ho59; obtain ⟨Ao60, co60, eo60⟩ := Kd.R_slice HO372.out; subst eo60; obtain ⟨Ao61, co61, eo61⟩ := Kd.R_slice HO395.out; subst eo61) | ((with_reducible refine gate_callee (f := 99) rfl ?_); refine goesL_ (some 84) rfl rfl Try.func99 (by kernel_rfl) rfl #[.slice Ao60 y370.length co60, .slice Ao61 y393.length co61] rfl (by (try simp only [m1, m2, m3]); first | done | rfl) ?_; (with_reducible refine (impl_addVars.calls k (fun k_ => some k_ = (.slice Ao60 y370.length co60 : Value).ownBlock) (.slice Ao60 y370.length co60) y370 _ _ y393 t396 w _ ?side1 ?side2 ?side3 ?side4 A52.out).mono ?_); (case side1 => repeat (first | (with_reducible first | exact HB.out | apply qh | apply qi | apply qj | refine qk ?_ GE369.out) | exact HB.out)); (case side2 => exact Kd.R_tight rfl HO372.out); (case side3 => exact Kd.C_kept_own ((Kd.R_apart' HO395.out (Kd.R_typed HO372.out) (by decide))) (fun k_ hk_ hs_ => (hk_.2) hs_)); (case side4 => exact (qe HO395.out).2.1); rintro e w62 ⟨v397, rfl, ho0, hb, hkp⟩; refine ⟨_, rfl, ?_⟩; have n0_ := qm (blk_kept BK369.out hkp (fun hs_ => (fun e_ => (Kd.R_ne HO372.out BK369.out (by decide)) e_) hs_)); have n1_ := qm (qg (ok' := fun k_ => True) (Kd.R_keptB ((Kd.R_apart' HO395.out (Kd.R_typed HO372.out) (by decide))) hkp (fun k_ hk_ hs_ => (hk_.2) hs_)) (fun k_ hk_ => trivial)); have n2_ := qm (qg (ok' := fun k_ => True) ho0 (fun k_ hk_ => trivial)); have n3_ := qm (hb); clear BK369; clear HO395; clear HB; clear HO372; have BK369 := n0_; have HO395 := n1_; have HO398 := n2_; have HB := n3_; clear n0_ n1_ n2_ n3_; (try clear hb); (try clear hkp); (try clear ho0)))
  go_ret
  exact ⟨_, by first | rfl | (simp <;> rfl) | (simp [*] <;> rfl), HO398.out, by repeat (first | (with_reducible first | exact HB.out | apply qh | apply qi | apply qj | refine qk ?_ GE369.out) | exact HB.out)⟩
 rw [if_neg c51] at H
 have c51b0 : (a0_0 == 4) = false := beq_eq_false_iff_ne.mpr c51
 have c51b1 : (a0_0 != 4) = true := bne_iff_ne.mpr c51
 have HC63 := qm H
 clear H
 go_enter Try.func82, Try.ntmps82
 go_upto_if 85 with (first | ((with_reducible refine gate_dst (N := 1) rfl ?_); refine box_event (by rfl) (N := 1) (by rfl) (cs := #[.int .i64 a0_0, .int .i64 a0_1, .int .i64 a0_2, .int .i64 a0_3, .bool a0_4, .slice A0_5 l0_5.length c0_5, .slice A0_6 l0_6.length c0_6, .slice A0_7 l0_7.length c0_7]) (t := 55) (by first | (go_simp; done) | (go_simp; rfl)) ?_; intro gb369 hg w64 hbox hb; have n0_ := qm (qt (by repeat (first | (with_reducible first | exact HB.out | apply qh | apply qi | apply qj) | exact HB.out)) hb); have n1_ := qm (hbox); have n2_ := qm ((by rw [hg]; exact (qs (by repeat (first | (with_reducible first | exact HB.out | apply qh | apply qi | apply qj) | exact HB.out))) : w.heap.size ≤ gb369)); have n3_ := qm ((by rw [hg]; exact (qs (by repeat (first | (with_reducible first | exact HB.out | apply qh | apply qi | apply qj) | exact HB.out))) : w.heap.size ≤ gb369)); clear HB; have HB := n0_; have BK369 := n1_; have GW369 := n2_; have GE369 := n3_; clear n0_ n1_ n2_ n3_; clear hb hbox hg; obtain ⟨_, _, _, _, _, _, _, _, _, _, _, _, _, _, _, _⟩ := fc8 BK369.out) | ((with_reducible refine gate_dst (N := 11) rfl ?_); refine Kd.R_lit (Kd.int .u8) _ 5 ?hg (N := 11) ?hd (xs := ([(a0_0) % 256] : List Int)) (inner := [.int .u8 ((a0_0) % 256)]) (ok := fun _ => True) (okp := fun _ => True) ?hr ?hp (fun _ hk => hk) trivial (Below.refl _ _) (Nat.le_refl _) (by simp) ?_; (case hd => rfl); (case hg => rfl); (case hr => first | (go_simp; done) | (go_simp; rfl)); (case hp => exact (Reps.one (show Kd.M (Kd.int .u8) _ _ _ ((a0_0) % 256) [.int .u8 ((a0_0) % 256)] from rfl) (Reps.none _ _))); intro v371 w66 ho67 hb hg_ hnew_; clear hg_ hnew_; (first | rw [← Ny370.out] at ho67 | (simp only [Int.reduceToNat] at ho67; rw [← Ny370.out] at ho67)); have n0_ := qm (Kd.R_lower ho67 (qs (by repeat (first | (with_reducible first | exact HB.out | apply qh | apply qi | apply qj | refine qk ?_ GE369.out) | exact HB.out)))); have n1_ := qm (qv (g := gb369) BK369.out hb); have n2_ := qm (qt (by repeat (first | (with_reducible first | exact HB.out | apply qh | apply qi | apply qj | refine qk ?_ GE369.out) | exact HB.out)) hb); clear BK369; clear HB; have HO372 := n0_; have BK369 := n1_; have HB := n2_; clear n0_ n1_ n2_; clear hb ho67; obtain ⟨_, _, _, _, _, _, _, _, _, _, _, _, _, _, _, _⟩ := fc8 BK369.out))
 (try simp only [Act.put, s1, s2, s3])
 go_cut [85] (fun v85 wc => ∃ (kq : Nat) (x85_62 : Bool), v85 = .bool x85_62 ∧ Aside0 (impl_frameBytes.j1 kq y370 a0_0 x85_62 a0_0 a0_1 a0_2 a0_3 a0_4 l0_5 l0_6 l0_7 = some r) ∧ Aside0 (kq ≤ k) ∧ Aside0 (Kd.R (Kd.int .u8) 5 wc w.heap.size (fun _ => True) v371 y370) ∧ Aside0 (wc.heap[gb369]? = some (.cells #[.int .i64 a0_0, .int .i64 a0_1, .int .i64 a0_2, .int .i64 a0_3, .bool a0_4, (.slice A0_5 l0_5.length c0_5), (.slice A0_6 l0_6.length c0_6), (.slice A0_7 l0_7.length c0_7)] 55 (0, 0))) ∧ Aside0 (Below w.heap.size w wc))
 case first =>
  have H := HC63.out
  clear HC63
  by_cases c69 : a0_0 = 5
  ·rw [if_pos c69] at H
   have c69b0 : (a0_0 == 5) = true := beq_iff_eq.mpr c69
   have c69b1 : (a0_0 != 5) = false := bne_eq_false_iff_eq.mpr c69
   clear c69
   (first | rw [c69b0] | (simp only [i64_w, i32_w]; rw [c69b0]) | skip)
   have H' := qm H
   clear H
   as_aux_lemma =>
    go_wp2
    go_meet
    case rel => exact ⟨_, ((a0_0 == 5)), (by first | rfl | (simp; done) | (simp [*]; done)), H', ⟨by first | omega | exact Nat.le_refl _⟩, ⟨HO372.out⟩, ⟨BK369.out⟩, ⟨by repeat (first | (with_reducible first | exact HB.out | apply qh | apply qi | apply qj | refine qk ?_ GE369.out) | exact HB.out)⟩⟩
  rw [if_neg c69] at H
  have c69b0 : (a0_0 == 5) = false := beq_eq_false_iff_ne.mpr c69
  have c69b1 : (a0_0 != 5) = true := bne_iff_ne.mpr c69
  (first | rw [c69b0] | (simp only [i64_w, i32_w]; rw [c69b0]) | skip)
  by_cases c70 : a0_0 = 17
  ·rw [if_pos c70] at H
   have c70b0 : (a0_0 == 17) = true := beq_iff_eq.mpr c70
   have c70b1 : (a0_0 != 17) = false := bne_eq_false_iff_eq.mpr c70
   clear c70
   have H' := qm H
   clear H
   as_aux_lemma =>
    go_wp2
    go_meet
    case rel => exact ⟨_, ((a0_0 == 17)), (by first | rfl | (simp; done) | (simp [*]; done)), H', ⟨by first | omega | exact Nat.le_refl _⟩, ⟨HO372.out⟩, ⟨BK369.out⟩, ⟨by repeat (first | (with_reducible first | exact HB.out | apply qh | apply qi | apply qj | refine qk ?_ GE369.out) | exact HB.out)⟩⟩
  rw [if_neg c70] at H
  have c70b0 : (a0_0 == 17) = false := beq_eq_false_iff_ne.mpr c70
  have c70b1 : (a0_0 != 17) = true := bne_iff_ne.mpr c70
  have H' := qm H
  clear H
  as_aux_lemma =>
   go_wp2
   go_meet
   case rel => exact ⟨_, ((a0_0 == 21)), (by first | rfl | (simp; done) | (simp [*]; done)), H', ⟨by first | omega | exact Nat.le_refl _⟩, ⟨HO372.out⟩, ⟨BK369.out⟩, ⟨by repeat (first | (with_reducible first | exact HB.out | apply qh | apply qi | apply qj | refine qk ?_ GE369.out) | exact HB.out)⟩⟩
 clear HC63
 try clear c2
 try clear c2b0
 try clear c2b1
 try clear c12
 try clear c12b0
 try clear c12b1
 try clear c51
 try clear c51b0
 try clear c51b1
 obtain ⟨kq, x85_62, rfl, HA, HJ62, HO_3, BK369, HB⟩ := hcut
 cases kq with
 | zero => exact absurd HA.out (by simp [impl_frameBytes.j1])
 | succ kj62 => ?_
 have H := HA.out
 clear HA
 simp only [impl_frameBytes.j1] at H
 by_cases c71 : x85_62 = true
 ·subst c71
  rw [if_pos rfl] at H
  obtain ⟨y399, hy399⟩ : ∃ y_ : List Int, y_ = (([a0_1, a0_2] : List Int)) := ⟨_, rfl⟩
  replace H : ((impl_addVars.f kj62 y370 y399).bind fun t402 => (some t402)) = some r := by first | (rw [hy399]; with_reducible exact H) | (have H2_ := (Option.bind_some _ _).symm.trans H; rw [hy399]; with_reducible exact H2_) | (have H2_ := (Option.bind_some _ _).symm.trans H; with_reducible exact H2_) | with_reducible exact H | (rw [hy399]; exact H) | exact H
  have Ny399 := qm hy399
  clear hy399
  replace H := Option.bind_eq_some_iff.mp H
  obtain ⟨t402, A720, H⟩ := H
  replace H : (some t402) = some r := H
  have A72 := qm A720
  clear A720
  obtain rfl := Option.some.inj H
  as_aux_lemma =>
   obtain ⟨_, _, _, _, _, _, _, _, _, _, _, _, _, _, _, _⟩ := fc8 BK369.out
   go_wp2_with (first | ((with_reducible refine gate_dst (N := 94) rfl ?_); refine Kd.R_lit (Kd.int .i64) _ 3 ?hg (N := 94) ?hd (xs := ([a0_1, a0_2] : List Int)) (inner := [.int .i64 a0_1, .int .i64 a0_2]) (ok := fun _ => True) (okp := fun _ => True) ?hr ?hp (fun _ hk => hk) trivial (Below.refl _ _) (Nat.le_refl _) (by simp) ?_; (case hd => rfl); (case hg => rfl); (case hr => first | (go_simp; done) | (go_simp; rfl)); (case hp => exact (Reps.one (show Kd.M (Kd.int .i64) _ _ _ a0_1 [.int .i64 a0_1] from rfl) (Reps.one (show Kd.M (Kd.int .i64) _ _ _ a0_2 [.int .i64 a0_2] from rfl) (Reps.none _ _)))); intro v400 w74 ho75 hb hg_ hnew_; clear hg_ hnew_; (first | rw [← Ny399.out] at ho75 | (simp only [Int.reduceToNat] at ho75; rw [← Ny399.out] at ho75)); have n0_ := qm (qf HO_3.out hb); have n1_ := qm (Kd.R_lower ho75 (qs (by repeat (first | (with_reducible first | exact HB.out | apply qh | apply qi | apply qj | refine qk ?_ GE369.out) | exact HB.out)))); have n2_ := qm (qv (g := gb369) BK369.out hb); have n3_ := qm (qt (by repeat (first | (with_reducible first | exact HB.out | apply qh | apply qi | apply qj | refine qk ?_ GE369.out) | exact HB.out)) hb); clear HO_3; clear BK369; clear HB; have HO_3 := n0_; have HO401 := n1_; have BK369 := n2_; have HB := n3_; clear n0_ n1_ n2_ n3_; clear hb ho75; obtain ⟨Ao76, co76, eo76⟩ := Kd.R_slice HO_3.out; subst eo76; obtain ⟨Ao77, co77, eo77⟩ := Kd.R_slice HO401.out; subst eo77) | ((with_reducible refine gate_callee (f := 99) rfl ?_); refine goesL_ (some 95) rfl rfl Try.func99 (by kernel_rfl) rfl #[.slice Ao76 y370.length co76, .slice Ao77 y399.length co77] rfl (by (try simp only [m1, m2, m3]); first | done | rfl) ?_; (with_reducible refine (impl_addVars.calls kj62 (fun k_ => some k_ = (.slice Ao76 y370.length co76 : Value).ownBlock) (.slice Ao76 y370.length co76) y370 _ _ y399 t402 w _ ?side1 ?side2 ?side3 ?side4 A72.out).mono ?_); (case side1 => repeat (first | (with_reducible first | exact HB.out | apply qh | apply qi | apply qj | refine qk ?_ GE369.out) | exact HB.out)); (case side2 => exact Kd.R_tight rfl HO_3.out); (case side3 => exact Kd.C_kept_own ((Kd.R_apart' HO401.out (Kd.R_typed HO_3.out) (by decide))) (fun k_ hk_ hs_ => (hk_.2) hs_)); (case side4 => exact (qe HO401.out).2.1); rintro e w78 ⟨v403, rfl, ho0, hb, hkp⟩; refine ⟨_, rfl, ?_⟩; have n0_ := qm (blk_kept BK369.out hkp (fun hs_ => (fun e_ => (Kd.R_ne HO_3.out BK369.out (by decide)) e_) hs_)); have n1_ := qm (qg (ok' := fun k_ => True) (Kd.R_keptB ((Kd.R_apart' HO401.out (Kd.R_typed HO_3.out) (by decide))) hkp (fun k_ hk_ hs_ => (hk_.2) hs_)) (fun k_ hk_ => trivial)); have n2_ := qm (qg (ok' := fun k_ => True) ho0 (fun k_ hk_ => trivial)); have n3_ := qm (hb); clear BK369; clear HO401; clear HB; clear HO_3; have BK369 := n0_; have HO401 := n1_; have HO404 := n2_; have HB := n3_; clear n0_ n1_ n2_ n3_; (try clear hb); (try clear hkp); (try clear ho0)))
   go_ret
   exact ⟨_, by first | rfl | (simp <;> rfl) | (simp [*] <;> rfl), HO404.out, by repeat (first | (with_reducible first | exact HB.out | apply qh | apply qi | apply qj | refine qk ?_ GE369.out) | exact HB.out)⟩
 replace c71 := Bool.eq_false_iff.mpr c71
 subst c71
 rw [if_neg nt] at H
 by_cases c79 : a0_0 = 6
 ·rw [if_pos c79] at H
  have c79b0 : (a0_0 == 6) = true := beq_iff_eq.mpr c79
  have c79b1 : (a0_0 != 6) = false := bne_eq_false_iff_eq.mpr c79
  clear c79
  replace H := Option.bind_eq_some_iff.mp H
  obtain ⟨t405, A800, H⟩ := H
  try dsimp only at H
  have A80 := qm A800
  clear A800
  replace H := Option.bind_eq_some_iff.mp H
  obtain ⟨t408, A810, H⟩ := H
  replace H : (some t408) = some r := H
  have A81 := qm A810
  clear A810
  obtain rfl := Option.some.inj H
  try go_wp2
  have n0_ := qm (qd HO_3.out)
  have n1_ := qm (qn BK369.out)
  have n2_ := qm (qj HB.out)
  clear HO_3
  clear BK369
  clear HB
  have HO_3 := n0_
  have BK369 := n1_
  have HB := n2_
  clear n0_ n1_ n2_
  obtain ⟨Ao83, co83, eo83⟩ := Kd.R_slice HO_3.out
  (first | subst eo83 | (injection eo83 with f1_ f2_ f3_; have f4_ := f1_.symm; have f5_ := f3_.symm; clear f1_ f2_ f3_; subst f4_; subst f5_))
  refine start_ (n := 8) (S := fun w' => w'.cell? ⟨gb369, 0, none⟩ = some (.int .i64 a0_0) ∧ w'.cell? ⟨gb369, 1, none⟩ = some (.int .i64 a0_1) ∧ w'.cell? ⟨gb369, 2, none⟩ = some (.int .i64 a0_2) ∧ w'.cell? ⟨gb369, 3, none⟩ = some (.int .i64 a0_3) ∧ w'.cell? ⟨gb369, 4, none⟩ = some (.bool a0_4) ∧ w'.cell? ⟨gb369, 5, none⟩ = some (.slice A0_5 l0_5.length c0_5) ∧ w'.cell? ⟨gb369, 6, none⟩ = some (.slice A0_6 l0_6.length c0_6) ∧ w'.cell? ⟨gb369, 7, none⟩ = some (.slice A0_7 l0_7.length c0_7)) (ds := []) (bm 0 8) (by kernel_rfl) rfl rfl (fz8 BK369.out) (fun hHeld => ?_); refine with_tabW impl_frameBytes.tab21 impl_frameBytes.bits21 (fun HT_ HW_ => ?_)
  generalize wc.drew = w82 at HO_3 BK369 HB hHeld ⊢
  refine pu 0 98 (bm 1 8) HT_ (h := ⟨_, by intro w'; go_simp; with_reducible rfl, _, by simp only [Act.put, s1, s2, s3, i64_w, i32_w]; rfl, ?_⟩)
  refine pu 1 99 (bm 2 8) HT_ (h := ⟨_, by intro w'; go_simp; with_reducible rfl, _, by simp only [Act.put, s1, s2, s3, i64_w, i32_w]; rfl, ?_⟩)
  refine pu 4 102 (bb 19 8) HT_ (h := ⟨_, by intro w'; go_simp; with_reducible rfl, _, by simp only [Act.put, s1, s2, s3, i64_w, i32_w]; rfl, ?_⟩)
  refine tk 2 100 (bb 23 8) HT_ HW_ (hS := hHeld) (h := ⟨_, by rintro w' ⟨s0, s1, s2, s3, s4, s5, s6, s7⟩; go_simp; with_reducible rfl, _, by simp only [Act.put, s1, s2, s3, i64_w, i32_w]; rfl, ?_⟩)
  refine tk 5 103 (bb 55 8) HT_ HW_ (hS := hHeld) (h := ⟨_, by rintro w' ⟨s0, s1, s2, s3, s4, s5, s6, s7⟩; go_simp; with_reducible rfl, _, by simp only [Act.put, s1, s2, s3, i64_w, i32_w]; rfl, ?_⟩)
  refine one_ (i := 3) (N := some 101) (bm 6 8) rfl rfl (one_of HT_.out (by kernel_rfl)) (by decide) (fun K hK => ?_)
  refine goes_ Try.func59 (by kernel_rfl) rfl #[.slice Ao83 y370.length co83, .int .i64 a0_1] (by rfl) rfl rfl (by (try simp only [m1, m2, m3]); first | done | rfl) ?_
  with_reducible refine (impl_addVar.calls kj62 (fun k_ => some k_ = (.slice Ao83 y370.length co83 : Value).ownBlock) (.slice Ao83 y370.length co83) y370 a0_1 t405 w _ ?side1 ?side2 A80.out).mono ?_
  (case side1 => repeat (first | (with_reducible first | exact HB.out | apply qh | apply qi | apply qj | refine qk ?_ GE369.out) | exact HB.out))
  (case side2 => exact Kd.R_tight rfl HO_3.out)
  rintro e w84 ⟨v406, rfl, ho0, hb, hkp⟩
  refine ⟨_, rfl, ?_⟩
  have n0_ := qm (blk_kept BK369.out hkp (fun hs_ => (fun e_ => (Kd.R_ne HO_3.out BK369.out (by decide)) e_) hs_))
  have n1_ := qm (qg (ok' := fun k_ => True) ho0 (fun k_ hk_ => trivial))
  have n2_ := qm (hb)
  clear BK369
  clear HB
  clear HO_3
  have BK369 := n0_
  have HO407 := n1_
  have HB := n2_
  clear n0_ n1_ n2_
  (try clear hb)
  (try clear hkp)
  (try clear ho0)
  obtain ⟨Ao85, co85, eo85⟩ := Kd.R_slice HO407.out
  (first | subst eo85 | (injection eo85 with f1_ f2_ f3_; have f4_ := f1_.symm; have f5_ := f3_.symm; clear f1_ f2_ f3_; subst f4_; subst f5_))
  refine hK.out _ _ (fz8 BK369.out) (fun hHeld => ?_)
  clear hK K
  refine norm_ (a' := ?_) ?_ ?_
  rotate_left
  ·show Act.put _ (some 101) _ = _
   simp only [Act.put, s1, s2, s3, i64_w, i32_w]
   rfl
  refine one_ (i := 6) (N := some 104) (bm 7 8) rfl rfl (one_of HT_.out (by kernel_rfl)) (by decide) (fun K hK => ?_)
  refine goes_ Try.func96 (by kernel_rfl) rfl #[.slice Ao85 t405.length co85, .slice A0_5 l0_5.length c0_5] (by rfl) rfl rfl (by (try simp only [m1, m2, m3]); first | done | rfl) ?_
  with_reducible refine (impl_addCounted.calls kj62 (fun k_ => some k_ = (.slice Ao85 t405.length co85 : Value).ownBlock) (.slice Ao85 t405.length co85) t405 _ _ l0_5 t408 w _ ?side1 ?side2 ?side3 ?side4 A81.out).mono ?_
  (case side1 => repeat (first | (with_reducible first | exact HB.out | apply qh | apply qi | apply qj | refine qk ?_ GE369.out) | exact HB.out))
  (case side2 => exact Kd.R_tight rfl HO407.out)
  (case side3 => exact Kd.C_kept_came (Kd.heap_int .u8) HR0_5.out (by repeat (first | (with_reducible first | exact HB.out | apply qh | apply qi | apply qj | refine qk ?_ GE369.out) | exact HB.out)) (fun k_ hs_ => (fun e_ => Kd.R_base HO407.out k_ e_.symm) hs_))
  (case side4 => exact HC0_5.out)
  rintro e w86 ⟨v409, rfl, ho0, hb, hkp⟩
  refine ⟨_, rfl, ?_⟩
  have n0_ := qm (blk_kept BK369.out hkp (fun hs_ => (fun e_ => (Kd.R_ne HO407.out BK369.out (by decide)) e_) hs_))
  have n1_ := qm (qg (ok' := fun k_ => True) ho0 (fun k_ hk_ => trivial))
  have n2_ := qm (hb)
  clear BK369
  clear HB
  clear HO407
  have BK369 := n0_
  have HO410 := n1_
  have HB := n2_
  clear n0_ n1_ n2_
  (try clear hb)
  (try clear hkp)
  (try clear ho0)
  refine hK.out _ _ (fz8 BK369.out) (fun hHeld => ?_)
  clear hK K
  refine norm_ (a' := ?_) ?_ ?_
  rotate_left
  ·show Act.put _ (some 104) _ = _
   simp only [Act.put, s1, s2, s3, i64_w, i32_w]
   rfl
  refine pu 7 3 (bm 8 8) HT_ (h := ⟨_, by intro w'; go_simp; with_reducible rfl, _, by simp only [Act.put, s1, s2, s3, i64_w, i32_w]; rfl, ?_⟩)
  refine done_ (done_of HT_.out (by kernel_rfl)) ?_
  try go_wp2
  go_ret
  exact ⟨_, by first | rfl | (simp <;> rfl) | (simp [*] <;> rfl), HO410.out, by repeat (first | (with_reducible first | exact HB.out | apply qh | apply qi | apply qj | refine qk ?_ GE369.out) | exact HB.out)⟩
 rw [if_neg c79] at H
 have c79b0 : (a0_0 == 6) = false := beq_eq_false_iff_ne.mpr c79
 have c79b1 : (a0_0 != 6) = true := bne_iff_ne.mpr c79
 by_cases c87 : a0_0 = 7
 ·rw [if_pos c87] at H
  have c87b0 : (a0_0 == 7) = true := beq_iff_eq.mpr c87
  have c87b1 : (a0_0 != 7) = false := bne_eq_false_iff_eq.mpr c87
  clear c87
  replace H := Option.bind_eq_some_iff.mp H
  obtain ⟨t411, A880, H⟩ := H
  replace H : (some t411) = some r := H
  have A88 := qm A880
  clear A880
  obtain rfl := Option.some.inj H
  as_aux_lemma =>
   obtain ⟨_, _, _, _, _, _, _, _, _, _, _, _, _, _, _, _⟩ := fc8 BK369.out
   obtain ⟨Ao90, co90, eo90⟩ := Kd.R_slice HO_3.out
   subst eo90
   go_wp2_with (first | ((with_reducible refine gate_callee (f := 96) rfl ?_); refine goesL_ (some 110) rfl rfl Try.func96 (by kernel_rfl) rfl #[.slice Ao90 y370.length co90, .slice A0_5 l0_5.length c0_5] rfl (by (try simp only [m1, m2, m3]); first | done | rfl) ?_; (with_reducible refine (impl_addCounted.calls kj62 (fun k_ => some k_ = (.slice Ao90 y370.length co90 : Value).ownBlock) (.slice Ao90 y370.length co90) y370 _ _ l0_5 t411 w _ ?side1 ?side2 ?side3 ?side4 A88.out).mono ?_); (case side1 => repeat (first | (with_reducible first | exact HB.out | apply qh | apply qi | apply qj | refine qk ?_ GE369.out) | exact HB.out)); (case side2 => exact Kd.R_tight rfl HO_3.out); (case side3 => exact Kd.C_kept_came (Kd.heap_int .u8) HR0_5.out (by repeat (first | (with_reducible first | exact HB.out | apply qh | apply qi | apply qj | refine qk ?_ GE369.out) | exact HB.out)) (fun k_ hs_ => (fun e_ => Kd.R_base HO_3.out k_ e_.symm) hs_)); (case side4 => exact HC0_5.out); rintro e w91 ⟨v412, rfl, ho0, hb, hkp⟩; refine ⟨_, rfl, ?_⟩; have n0_ := qm (blk_kept BK369.out hkp (fun hs_ => (fun e_ => (Kd.R_ne HO_3.out BK369.out (by decide)) e_) hs_)); have n1_ := qm (qg (ok' := fun k_ => True) ho0 (fun k_ hk_ => trivial)); have n2_ := qm (hb); clear BK369; clear HB; clear HO_3; have BK369 := n0_; have HO413 := n1_; have HB := n2_; clear n0_ n1_ n2_; (try clear hb); (try clear hkp); (try clear ho0)))
   go_ret
   exact ⟨_, by first | rfl | (simp <;> rfl) | (simp [*] <;> rfl), HO413.out, by repeat (first | (with_reducible first | exact HB.out | apply qh | apply qi | apply qj | refine qk ?_ GE369.out) | exact HB.out)⟩
 rw [if_neg c87] at H
 have c87b0 : (a0_0 == 7) = false := beq_eq_false_iff_ne.mpr c87
 have c87b1 : (a0_0 != 7) = true := bne_iff_ne.mpr c87
 by_cases c92 : a0_0 = 8
 ·rw [if_pos c92] at H
  have c92b0 : (a0_0 == 8) = true := beq_iff_eq.mpr c92
  have c92b1 : (a0_0 != 8) = false := bne_eq_false_iff_eq.mpr c92
  clear c92
  by_cases c93 : 0 < (y370.length : Int)
  ·rw [if_pos c93] at H
   have c93b0 : decide (0 < (y370.length : Int)) = true := decide_eq_true c93
   have c93b1 : decide (0 < y370.length) = true := decide_eq_true (by omega)
   clear c93
   obtain ⟨y414, hy414⟩ : ∃ y_ : List Int, y_ = (y370.set (0 : Int).toNat 10) := ⟨_, rfl⟩
   replace H : (if a0_2 = 0 then (impl_frameBytes.j2 kj62 y414 a0_0 a0_1 a0_2 a0_3 a0_4 l0_5 l0_6 l0_7) else (impl_frameBytes.j2 kj62 (y414.set (0 : Int).toNat (Go.bits .or .u8 (rd y414 0) 4)) a0_0 a0_1 a0_2 a0_3 a0_4 l0_5 l0_6 l0_7)) = some r := by first | (rw [hy414]; with_reducible exact H) | (have H2_ := (Option.bind_some _ _).symm.trans H; rw [hy414]; with_reducible exact H2_) | (have H2_ := (Option.bind_some _ _).symm.trans H; with_reducible exact H2_) | with_reducible exact H | (rw [hy414]; exact H) | exact H
   have Ny414 := qm hy414
   clear hy414
   have HC95 := qm H
   clear H
   have p94 : 0 ≤ (0 : Int) := (by omega)
   have q94 : (0 : Int) < ((y370.length : Int) : Int) := of_decide_eq_true (by assumption)
   have qi94 : (0 < y370.length) = True := eq_true (by omega)
   obtain ⟨go94, co94, eo94, gb94, gl94, cl94, HG94⟩ := Kd.R_form HO_3.out (by omega)
   (first | cases eo94 | (injection eo94 with ea_ en_ ec_; (first | subst ea_ | (injection ea_ with ea_; subst ea_)); subst ec_; clear en_))
   have GB94 := qm gb94
   have GG94 := qm HG94
   clear gb94 gl94 HG94
   obtain ⟨hx94_0, hf94_0⟩ := Kd.R_celln 0 HO_3.out (0 : Int) p94 q94
   (try rw [show ((0 : Int)).toNat = 0 from rfl] at hx94_0)
   (try simp only [Nat.reduceMul, Nat.zero_mul, Nat.zero_add, Nat.reduceAdd] at hx94_0)
   (try rw [show ((0 : Int)).toNat = 0 from rfl] at hf94_0)
   (try simp only [Nat.reduceMul, Nat.zero_mul, Nat.zero_add, Nat.reduceAdd] at hf94_0)
   replace p94 := eq_true p94
   replace q94 := eq_true q94
   have HP96 := Kd.R_putg HO_3.out (0 : Int) 10
   go_upto_if 117 with (first | ((with_reducible refine gate_store (t := 5) (p := 114) rfl ?_); refine store_event (t := 5) (p := 114) (v := ?vo_w97) (w1 := (wc.setCell ⟨go94, (0 : Int).toNat, none⟩ (.int .u8 10))) ?hg ?ho ?hn ?hr ?_; (case ho => rfl); (case hg => rfl); (case hn => rfl); (case hr => first | (go_simp; done) | (go_simp; rfl)); intro w97 hw; have hg : wc.grownBy w97 (some go94) := (by rw [hw]; exact HP96.2); have hp_ : Kd.R (Kd.int .u8) 5 w97 w.heap.size (fun _ => True) (.slice (some ⟨go94, 0, none⟩) y370.length co94) y414 := (by rw [hw, Ny414.out]; exact HP96.1); clear HP96; have n0_ := qm (hp_); have n1_ := qm (blk_grown (g := gb369) BK369.out hg (Kd.R_ne HO_3.out BK369.out (by decide))); have n2_ := qm ((by rw [hw]; exact qk (HB.out) GB94.out : Below w.heap.size w w97)); clear HO_3; clear BK369; clear HB; have HO_3 := n0_; have BK369 := n1_; have HB := n2_; clear n0_ n1_ n2_; clear hg hw hp_; obtain ⟨_, _, _, _, _, _, _, _, _, _, _, _, _, _, _, _⟩ := fc8 BK369.out))
   (try simp only [Act.put, s1, s2, s3])
   go_cut [] (fun wc => ∃ (kq : Nat) (x3_94 : List Int), Aside0 (impl_frameBytes.j2 kq x3_94 a0_0 a0_1 a0_2 a0_3 a0_4 l0_5 l0_6 l0_7 = some r) ∧ Aside0 (kq ≤ kj62) ∧ Aside0 (Kd.R (Kd.int .u8) 5 wc w.heap.size (fun _ => True) (.slice (some ⟨go94, 0, none⟩) y370.length co94) x3_94) ∧ Aside0 (wc.heap[gb369]? = some (.cells #[.int .i64 a0_0, .int .i64 a0_1, .int .i64 a0_2, .int .i64 a0_3, .bool a0_4, (.slice A0_5 l0_5.length c0_5), (.slice A0_6 l0_6.length c0_6), (.slice A0_7 l0_7.length c0_7)] 55 (0, 0))) ∧ Aside0 (Below w.heap.size w wc))
   case first =>
    have H := HC95.out
    clear HC95
    by_cases c99 : a0_2 = 0
    ·rw [if_pos c99] at H
     have c99b0 : (a0_2 == 0) = true := beq_iff_eq.mpr c99
     have c99b1 : (a0_2 != 0) = false := bne_eq_false_iff_eq.mpr c99
     clear c99
     (first | rw [c99b0] | (simp only [i64_w, i32_w]; rw [c99b0]) | skip)
     have H' := qm H
     clear H
     as_aux_lemma =>
      go_wp2
      go_meet
      case rel => exact ⟨_, (y414), H', ⟨by have := HJ62.out; omega⟩, ⟨HO_3.out⟩, ⟨BK369.out⟩, ⟨by repeat (first | (with_reducible first | exact HB.out | apply qh | apply qi | apply qj | refine qk ?_ GE369.out) | exact HB.out)⟩⟩
    rw [if_neg c99] at H
    have c99b0 : (a0_2 == 0) = false := beq_eq_false_iff_ne.mpr c99
    have c99b1 : (a0_2 != 0) = true := bne_iff_ne.mpr c99
    (first | rw [c99b0] | (simp only [i64_w, i32_w]; rw [c99b0]) | skip)
    obtain ⟨y416, hy416⟩ : ∃ y_ : List Int, y_ = (y414.set (0 : Int).toNat (Go.bits .or .u8 (rd y414 0) 4)) := ⟨_, rfl⟩
    replace H : (impl_frameBytes.j2 kj62 y416 a0_0 a0_1 a0_2 a0_3 a0_4 l0_5 l0_6 l0_7) = some r := by first | (rw [hy416]; with_reducible exact H) | (have H2_ := (Option.bind_some _ _).symm.trans H; rw [hy416]; with_reducible exact H2_) | (have H2_ := (Option.bind_some _ _).symm.trans H; with_reducible exact H2_) | with_reducible exact H | (rw [hy416]; exact H) | exact H
    have Ny416 := qm hy416
    clear hy416
    have H' := qm H
    clear H
    as_aux_lemma =>
     have p415 : 0 ≤ (0 : Int) := (by omega)
     have q415 : 0 < (y414.length : Int) := (by have h_ : (0 : Int) < ((y370.length : Int) : Int) := of_decide_eq_true (by assumption); first | (have e_ := (qe HO_3.out).1; omega) | simpa only [Ny414.out, List.length_set] using h_)
     have ql415 : ((0 : Int) < ((y370.length : Int) : Int)) = True := eq_true (of_decide_eq_true (by assumption))
     (try have qn415 : (0 < y370.length) = True := eq_true (by have h_ : (0 : Int) < ((y370.length : Int) : Int) := of_decide_eq_true (by assumption); omega))
     obtain ⟨ad415, e415, hx415_0⟩ := Kd.at_int (qe HO_3.out).2.2 0 p415 q415
     obtain rfl : (⟨go94, 0, none⟩ : Addr) = ad415 := (by injection e415)
     (first | simp only [add_plain] at hx415_0 | simp only [add_at] at hx415_0 | simp only [Addr.add, Nat.zero_add] at hx415_0 | skip)
     have qi415 : (0 < y414.length) = True := eq_true (by omega)
     (try rw [show ((0 : Int)).toNat = 0 from rfl] at hx415_0)
     (try rw [Addr.add_zero'] at hx415_0)
     replace p415 := eq_true p415
     replace q415 := eq_true q415
     have p100 : 0 ≤ (0 : Int) := (by omega)
     have q100 : (0 : Int) < ((y370.length : Int) : Int) := of_decide_eq_true (by assumption)
     have qi100 : (0 < y370.length) = True := eq_true (by omega)
     obtain ⟨hx100_0, hf100_0⟩ := Kd.R_celln 0 HO_3.out (0 : Int) p100 q100
     (try rw [show ((0 : Int)).toNat = 0 from rfl] at hx100_0)
     (try simp only [Nat.reduceMul, Nat.zero_mul, Nat.zero_add, Nat.reduceAdd] at hx100_0)
     (try rw [show ((0 : Int)).toNat = 0 from rfl] at hf100_0)
     (try simp only [Nat.reduceMul, Nat.zero_mul, Nat.zero_add, Nat.reduceAdd] at hf100_0)
     replace p100 := eq_true p100
     replace q100 := eq_true q100
     have HP101 := Kd.R_putg HO_3.out (0 : Int) (Go.bits .or .u8 (rd y414 0) 4)
     go_wp2_with (first | ((with_reducible refine gate_store (t := 5) (p := 122) rfl ?_); refine store_event (t := 5) (p := 122) (v := ?vo_w102) (w1 := (w97.setCell ⟨go94, (0 : Int).toNat, none⟩ (.int .u8 (Go.bits .or .u8 (rd y414 0) 4)))) ?hg ?ho ?hn ?hr ?_; (case ho => rfl); (case hg => rfl); (case hn => rfl); (case hr => first | (go_simp; done) | (go_simp; rfl)); intro w102 hw; have hg : w97.grownBy w102 (some go94) := (by rw [hw]; exact HP101.2); have hp_ : Kd.R (Kd.int .u8) 5 w102 w.heap.size (fun _ => True) (.slice (some ⟨go94, 0, none⟩) y370.length co94) y416 := (by rw [hw, Ny416.out]; exact HP101.1); clear HP101; have n0_ := qm (hp_); have n1_ := qm (blk_grown (g := gb369) BK369.out hg (Kd.R_ne HO_3.out BK369.out (by decide))); have n2_ := qm ((by rw [hw]; exact qk (HB.out) GB94.out : Below w.heap.size w w102)); clear HO_3; clear BK369; clear HB; have HO_3 := n0_; have BK369 := n1_; have HB := n2_; clear n0_ n1_ n2_; clear hg hw hp_))
     go_meet
     case rel => exact ⟨_, (y416), H', ⟨by have := HJ62.out; omega⟩, ⟨HO_3.out⟩, ⟨BK369.out⟩, ⟨by repeat (first | (with_reducible first | exact HB.out | apply qh | apply qi | apply qj | refine qk ?_ GE369.out) | exact HB.out)⟩⟩
   clear HC95
   try clear c2
   try clear c2b0
   try clear c2b1
   try clear c12
   try clear c12b0
   try clear c12b1
   try clear c51
   try clear c51b0
   try clear c51b1
   try clear c71
   try clear c79
   try clear c79b0
   try clear c79b1
   try clear c87
   try clear c87b0
   try clear c87b1
   try clear c92
   try clear c92b0
   try clear c92b1
   try clear c93
   try clear c93b0
   try clear c93b1
   try clear p94
   try clear q94
   try clear qi94
   try clear hx94_0
   try clear p94
   try clear q94
   obtain ⟨kq, x3_94, HA, HJ94, HO_3, BK369, HB⟩ := hcut
   have hl3_94 := (qe HO_3.out).1
   rw [hl3_94] at HO_3
   (try simp only [hl3_94])
   (try simp only [hl3_94] at BK369)
   cases kq with
   | zero => exact absurd HA.out (by simp [impl_frameBytes.j2])
   | succ kj94 => ?_
   have H := HA.out
   clear HA
   simp only [impl_frameBytes.j2] at H
   have HC103 := qm H
   clear H
   obtain ⟨_, _, _, _, _, _, _, _, _, _, _, _, _, _, _, _⟩ := fc8 BK369.out
   go_upto_if 124 with (fail)
   go_cut [] (fun wc => ∃ (kq : Nat) (x3_102 : List Int), Aside0 (impl_frameBytes.j3 kq x3_102 a0_0 a0_1 a0_2 a0_3 a0_4 l0_5 l0_6 l0_7 = some r) ∧ Aside0 (kq ≤ kj94) ∧ Aside0 (Kd.R (Kd.int .u8) 5 wc w.heap.size (fun _ => True) (.slice (some ⟨go94, 0, none⟩) x3_94.length co94) x3_102) ∧ Aside0 (wc.heap[gb369]? = some (.cells #[.int .i64 a0_0, .int .i64 a0_1, .int .i64 a0_2, .int .i64 a0_3, .bool a0_4, (.slice A0_5 l0_5.length c0_5), (.slice A0_6 l0_6.length c0_6), (.slice A0_7 l0_7.length c0_7)] 55 (0, 0))) ∧ Aside0 (Below w.heap.size w wc))
   case first =>
    have H := HC103.out
    clear HC103
    by_cases c105 : a0_4 = true
    ·subst c105
     rw [if_pos rfl] at H
     by_cases c106 : 0 < (x3_94.length : Int)
     ·rw [if_pos c106] at H
      have c106b0 : decide (0 < (x3_94.length : Int)) = true := decide_eq_true c106
      have c106b1 : decide (0 < x3_94.length) = true := decide_eq_true (by omega)
      clear c106
      (first | rw [c106b0] | (simp only [i64_w, i32_w]; rw [c106b0]) | skip)
      obtain ⟨y418, hy418⟩ : ∃ y_ : List Int, y_ = (x3_94.set (0 : Int).toNat (Go.bits .or .u8 (rd x3_94 0) 1)) := ⟨_, rfl⟩
      replace H : (impl_frameBytes.j3 kj94 y418 a0_0 a0_1 a0_2 a0_3 true l0_5 l0_6 l0_7) = some r := by first | (rw [hy418]; with_reducible exact H) | (have H2_ := (Option.bind_some _ _).symm.trans H; rw [hy418]; with_reducible exact H2_) | (have H2_ := (Option.bind_some _ _).symm.trans H; with_reducible exact H2_) | with_reducible exact H | (rw [hy418]; exact H) | exact H
      have Ny418 := qm hy418
      clear hy418
      have H' := qm H
      clear H
      as_aux_lemma =>
       have p417 : 0 ≤ (0 : Int) := (by omega)
       have q417 : 0 < (x3_94.length : Int) := of_decide_eq_true (by assumption)
       obtain ⟨ad417, e417, hx417_0⟩ := Kd.at_int (qe HO_3.out).2.2 0 p417 q417
       obtain rfl : (⟨go94, 0, none⟩ : Addr) = ad417 := (by injection e417)
       (first | simp only [add_plain] at hx417_0 | simp only [add_at] at hx417_0 | simp only [Addr.add, Nat.zero_add] at hx417_0 | skip)
       have qi417 : (0 < x3_94.length) = True := eq_true (by omega)
       (try rw [show ((0 : Int)).toNat = 0 from rfl] at hx417_0)
       (try rw [Addr.add_zero'] at hx417_0)
       replace p417 := eq_true p417
       replace q417 := eq_true q417
       have p107 : 0 ≤ (0 : Int) := (by omega)
       have q107 : (0 : Int) < ((x3_94.length : Int) : Int) := of_decide_eq_true (by assumption)
       have qi107 : (0 < x3_94.length) = True := eq_true (by omega)
       obtain ⟨hx107_0, hf107_0⟩ := Kd.R_celln 0 HO_3.out (0 : Int) p107 q107
       (try rw [show ((0 : Int)).toNat = 0 from rfl] at hx107_0)
       (try simp only [Nat.reduceMul, Nat.zero_mul, Nat.zero_add, Nat.reduceAdd] at hx107_0)
       (try rw [show ((0 : Int)).toNat = 0 from rfl] at hf107_0)
       (try simp only [Nat.reduceMul, Nat.zero_mul, Nat.zero_add, Nat.reduceAdd] at hf107_0)
       replace p107 := eq_true p107
       replace q107 := eq_true q107
       have HP108 := Kd.R_putg HO_3.out (0 : Int) (Go.bits .or .u8 (rd x3_94 0) 1)
       go_wp2_with (first | ((with_reducible refine gate_store (t := 5) (p := 129) rfl ?_); refine store_event (t := 5) (p := 129) (v := ?vo_w109) (w1 := (wc.setCell ⟨go94, (0 : Int).toNat, none⟩ (.int .u8 (Go.bits .or .u8 (rd x3_94 0) 1)))) ?hg ?ho ?hn ?hr ?_; (case ho => rfl); (case hg => rfl); (case hn => rfl); (case hr => first | (go_simp; done) | (go_simp; rfl)); intro w109 hw; have hg : wc.grownBy w109 (some go94) := (by rw [hw]; exact HP108.2); have hp_ : Kd.R (Kd.int .u8) 5 w109 w.heap.size (fun _ => True) (.slice (some ⟨go94, 0, none⟩) x3_94.length co94) y418 := (by rw [hw, Ny418.out]; exact HP108.1); clear HP108; have n0_ := qm (hp_); have n1_ := qm (blk_grown (g := gb369) BK369.out hg (Kd.R_ne HO_3.out BK369.out (by decide))); have n2_ := qm ((by rw [hw]; exact qk (HB.out) GB94.out : Below w.heap.size w w109)); clear HO_3; clear BK369; clear HB; have HO_3 := n0_; have BK369 := n1_; have HB := n2_; clear n0_ n1_ n2_; clear hg hw hp_))
       go_meet
       case rel => exact ⟨_, (y418), H', ⟨by have := HJ62.out; have := HJ94.out; omega⟩, ⟨by (try simp only [hl3_94]); (with_reducible repeat (first | apply qb | apply qc | apply qd)); exact HO_3.out⟩, ⟨by (try simp only [hl3_94]); (with_reducible repeat (first | refine ql ?_ _ | refine qn ?_ | refine qo ?_ _)); exact BK369.out⟩, ⟨by repeat (first | (with_reducible first | exact HB.out | apply qh | apply qi | apply qj | refine qk ?_ GE369.out) | exact HB.out)⟩⟩
     rw [if_neg c106] at H
     exact absurd H (by simp)
    replace c105 := Bool.eq_false_iff.mpr c105
    subst c105
    rw [if_neg nt] at H
    have H' := qm H
    clear H
    as_aux_lemma =>
     go_wp2
     go_meet
     case rel => exact ⟨_, (x3_94), H', ⟨by have := HJ62.out; have := HJ94.out; omega⟩, ⟨by (try simp only [hl3_94]); (with_reducible repeat (first | apply qb | apply qc | apply qd)); exact HO_3.out⟩, ⟨by (try simp only [hl3_94]); (with_reducible repeat (first | refine ql ?_ _ | refine qn ?_ | refine qo ?_ _)); exact BK369.out⟩, ⟨by repeat (first | (with_reducible first | exact HB.out | apply qh | apply qi | apply qj | refine qk ?_ GE369.out) | exact HB.out)⟩⟩
   clear HC103
   try clear c2
   try clear c2b0
   try clear c2b1
   try clear c12
   try clear c12b0
   try clear c12b1
   try clear c51
   try clear c51b0
   try clear c51b1
   try clear c71
   try clear c79
   try clear c79b0
   try clear c79b1
   try clear c87
   try clear c87b0
   try clear c87b1
   try clear c92
   try clear c92b0
   try clear c92b1
   try clear c93
   try clear c93b0
   try clear c93b1
   try clear p94
   try clear q94
   try clear qi94
   try clear hx94_0
   try clear p94
   try clear q94
   obtain ⟨kq, x3_102, HA, HJ102, HO_3, BK369, HB⟩ := hcut
   have hl3_102 := (qe HO_3.out).1
   rw [hl3_102] at HO_3
   (try simp only [hl3_102])
   (try simp only [hl3_102] at BK369)
   cases kq with
   | zero => exact absurd HA.out (by simp [impl_frameBytes.j3])
   | succ kj102 => ?_
   have H := HA.out
   clear HA
   simp only [impl_frameBytes.j3] at H
   replace H := Option.bind_eq_some_iff.mp H
   obtain ⟨t419, A1100, H⟩ := H
   try dsimp only at H
   have A110 := qm A1100
   clear A1100
   by_cases c111 : a0_2 = 0
   ·rw [if_pos c111] at H
    have c111b0 : (a0_2 == 0) = true := beq_iff_eq.mpr c111
    have c111b1 : (a0_2 != 0) = false := bne_eq_false_iff_eq.mpr c111
    clear c111
    replace H := Option.bind_eq_some_iff.mp H
    obtain ⟨t422, A1120, H⟩ := H
    replace H : (some t422) = some r := H
    have A112 := qm A1120
    clear A1120
    obtain rfl := Option.some.inj H
    as_aux_lemma =>
     obtain ⟨_, _, _, _, _, _, _, _, _, _, _, _, _, _, _, _⟩ := fc8 BK369.out
     go_wp2_with (first | ((with_reducible refine gate_callee (f := 59) rfl ?_); refine goesL_ (some 133) rfl rfl Try.func59 (by kernel_rfl) rfl #[.slice (some ⟨go94, 0, none⟩) x3_102.length co94, .int .i64 a0_1] rfl (by (try simp only [m1, m2, m3]); first | done | rfl) ?_; (with_reducible refine (impl_addVar.calls kj102 (fun k_ => some k_ = (.slice (some ⟨go94, 0, none⟩) x3_102.length co94 : Value).ownBlock) (.slice (some ⟨go94, 0, none⟩) x3_102.length co94) x3_102 a0_1 t419 w _ ?side1 ?side2 A110.out).mono ?_); (case side1 => repeat (first | (with_reducible first | exact HB.out | apply qh | apply qi | apply qj | refine qk ?_ GE369.out) | exact HB.out)); (case side2 => exact Kd.R_tight rfl HO_3.out); rintro e w114 ⟨v420, rfl, ho0, hb, hkp⟩; refine ⟨_, rfl, ?_⟩; have n0_ := qm (blk_kept BK369.out hkp (fun hs_ => (fun e_ => (Kd.R_ne HO_3.out BK369.out (by decide)) e_) hs_)); have n1_ := qm (qg (ok' := fun k_ => True) ho0 (fun k_ hk_ => trivial)); have n2_ := qm (hb); clear BK369; clear HB; clear HO_3; have BK369 := n0_; have HO421 := n1_; have HB := n2_; clear n0_ n1_ n2_; (try clear hb); (try clear hkp); (try clear ho0); obtain ⟨_, _, _, _, _, _, _, _, _, _, _, _, _, _, _, _⟩ := fc8 BK369.out; obtain ⟨Ao116, co116, eo116⟩ := Kd.R_slice HO421.out; subst eo116) | ((with_reducible refine gate_callee (f := 96) rfl ?_); refine goesL_ (some 144) rfl rfl Try.func96 (by kernel_rfl) rfl #[.slice Ao116 t419.length co116, .slice A0_5 l0_5.length c0_5] rfl (by (try simp only [m1, m2, m3]); first | done | rfl) ?_; (with_reducible refine (impl_addCounted.calls kj102 (fun k_ => some k_ = (.slice Ao116 t419.length co116 : Value).ownBlock) (.slice Ao116 t419.length co116) t419 _ _ l0_5 t422 w _ ?side1 ?side2 ?side3 ?side4 A112.out).mono ?_); (case side1 => repeat (first | (with_reducible first | exact HB.out | apply qh | apply qi | apply qj | refine qk ?_ GE369.out) | exact HB.out)); (case side2 => exact Kd.R_tight rfl HO421.out); (case side3 => exact Kd.C_kept_came (Kd.heap_int .u8) HR0_5.out (by repeat (first | (with_reducible first | exact HB.out | apply qh | apply qi | apply qj | refine qk ?_ GE369.out) | exact HB.out)) (fun k_ hs_ => (fun e_ => Kd.R_base HO421.out k_ e_.symm) hs_)); (case side4 => exact HC0_5.out); rintro e w117 ⟨v423, rfl, ho0, hb, hkp⟩; refine ⟨_, rfl, ?_⟩; have n0_ := qm (blk_kept BK369.out hkp (fun hs_ => (fun e_ => (Kd.R_ne HO421.out BK369.out (by decide)) e_) hs_)); have n1_ := qm (qg (ok' := fun k_ => True) ho0 (fun k_ hk_ => trivial)); have n2_ := qm (hb); clear BK369; clear HB; clear HO421; have BK369 := n0_; have HO424 := n1_; have HB := n2_; clear n0_ n1_ n2_; (try clear hb); (try clear hkp); (try clear ho0)))
     go_ret
     exact ⟨_, by first | rfl | (simp <;> rfl) | (simp [*] <;> rfl), HO424.out, by repeat (first | (with_reducible first | exact HB.out | apply qh | apply qi | apply qj | refine qk ?_ GE369.out) | exact HB.out)⟩
   rw [if_neg c111] at H
   have c111b0 : (a0_2 == 0) = false := beq_eq_false_iff_ne.mpr c111
   have c111b1 : (a0_2 != 0) = true := bne_iff_ne.mpr c111
   replace H := Option.bind_eq_some_iff.mp H
   obtain ⟨t425, A1180, H⟩ := H
   try dsimp only at H
   have A118 := qm A1180
   clear A1180
   replace H := Option.bind_eq_some_iff.mp H
   obtain ⟨t428, A1190, H⟩ := H
   replace H : (some t428) = some r := H
   have A119 := qm A1190
   clear A1190
   obtain rfl := Option.some.inj H
   as_aux_lemma =>
    obtain ⟨_, _, _, _, _, _, _, _, _, _, _, _, _, _, _, _⟩ := fc8 BK369.out
    go_wp2_with (first | ((with_reducible refine gate_callee (f := 59) rfl ?_); refine goesL_ (some 133) rfl rfl Try.func59 (by kernel_rfl) rfl #[.slice (some ⟨go94, 0, none⟩) x3_102.length co94, .int .i64 a0_1] rfl (by (try simp only [m1, m2, m3]); first | done | rfl) ?_; (with_reducible refine (impl_addVar.calls kj102 (fun k_ => some k_ = (.slice (some ⟨go94, 0, none⟩) x3_102.length co94 : Value).ownBlock) (.slice (some ⟨go94, 0, none⟩) x3_102.length co94) x3_102 a0_1 t419 w _ ?side1 ?side2 A110.out).mono ?_); (case side1 => repeat (first | (with_reducible first | exact HB.out | apply qh | apply qi | apply qj | refine qk ?_ GE369.out) | exact HB.out)); (case side2 => exact Kd.R_tight rfl HO_3.out); rintro e w121 ⟨v420, rfl, ho0, hb, hkp⟩; refine ⟨_, rfl, ?_⟩; have n0_ := qm (blk_kept BK369.out hkp (fun hs_ => (fun e_ => (Kd.R_ne HO_3.out BK369.out (by decide)) e_) hs_)); have n1_ := qm (qg (ok' := fun k_ => True) ho0 (fun k_ hk_ => trivial)); have n2_ := qm (hb); clear BK369; clear HB; clear HO_3; have BK369 := n0_; have HO421 := n1_; have HB := n2_; clear n0_ n1_ n2_; (try clear hb); (try clear hkp); (try clear ho0); obtain ⟨_, _, _, _, _, _, _, _, _, _, _, _, _, _, _, _⟩ := fc8 BK369.out; obtain ⟨Ao123, co123, eo123⟩ := Kd.R_slice HO421.out; subst eo123) | ((with_reducible refine gate_callee (f := 59) rfl ?_); refine goesL_ (some 140) rfl rfl Try.func59 (by kernel_rfl) rfl #[.slice Ao123 t419.length co123, .int .i64 a0_2] rfl (by (try simp only [m1, m2, m3]); first | done | rfl) ?_; (with_reducible refine (impl_addVar.calls kj102 (fun k_ => some k_ = (.slice Ao123 t419.length co123 : Value).ownBlock) (.slice Ao123 t419.length co123) t419 a0_2 t425 w _ ?side1 ?side2 A118.out).mono ?_); (case side1 => repeat (first | (with_reducible first | exact HB.out | apply qh | apply qi | apply qj | refine qk ?_ GE369.out) | exact HB.out)); (case side2 => exact Kd.R_tight rfl HO421.out); rintro e w124 ⟨v426, rfl, ho0, hb, hkp⟩; refine ⟨_, rfl, ?_⟩; have n0_ := qm (blk_kept BK369.out hkp (fun hs_ => (fun e_ => (Kd.R_ne HO421.out BK369.out (by decide)) e_) hs_)); have n1_ := qm (qg (ok' := fun k_ => True) ho0 (fun k_ hk_ => trivial)); have n2_ := qm (hb); clear BK369; clear HB; clear HO421; have BK369 := n0_; have HO427 := n1_; have HB := n2_; clear n0_ n1_ n2_; (try clear hb); (try clear hkp); (try clear ho0); obtain ⟨_, _, _, _, _, _, _, _, _, _, _, _, _, _, _, _⟩ := fc8 BK369.out; obtain ⟨Ao126, co126, eo126⟩ := Kd.R_slice HO427.out; subst eo126) | ((with_reducible refine gate_callee (f := 96) rfl ?_); refine goesL_ (some 144) rfl rfl Try.func96 (by kernel_rfl) rfl #[.slice Ao126 t425.length co126, .slice A0_5 l0_5.length c0_5] rfl (by (try simp only [m1, m2, m3]); first | done | rfl) ?_; (with_reducible refine (impl_addCounted.calls kj102 (fun k_ => some k_ = (.slice Ao126 t425.length co126 : Value).ownBlock) (.slice Ao126 t425.length co126) t425 _ _ l0_5 t428 w _ ?side1 ?side2 ?side3 ?side4 A119.out).mono ?_); (case side1 => repeat (first | (with_reducible first | exact HB.out | apply qh | apply qi | apply qj | refine qk ?_ GE369.out) | exact HB.out)); (case side2 => exact Kd.R_tight rfl HO427.out); (case side3 => exact Kd.C_kept_came (Kd.heap_int .u8) HR0_5.out (by repeat (first | (with_reducible first | exact HB.out | apply qh | apply qi | apply qj | refine qk ?_ GE369.out) | exact HB.out)) (fun k_ hs_ => (fun e_ => Kd.R_base HO427.out k_ e_.symm) hs_)); (case side4 => exact HC0_5.out); rintro e w127 ⟨v429, rfl, ho0, hb, hkp⟩; refine ⟨_, rfl, ?_⟩; have n0_ := qm (blk_kept BK369.out hkp (fun hs_ => (fun e_ => (Kd.R_ne HO427.out BK369.out (by decide)) e_) hs_)); have n1_ := qm (qg (ok' := fun k_ => True) ho0 (fun k_ hk_ => trivial)); have n2_ := qm (hb); clear BK369; clear HB; clear HO427; have BK369 := n0_; have HO430 := n1_; have HB := n2_; clear n0_ n1_ n2_; (try clear hb); (try clear hkp); (try clear ho0)))
    go_ret
    exact ⟨_, by first | rfl | (simp <;> rfl) | (simp [*] <;> rfl), HO430.out, by repeat (first | (with_reducible first | exact HB.out | apply qh | apply qi | apply qj | refine qk ?_ GE369.out) | exact HB.out)⟩
  rw [if_neg c93] at H
  exact absurd H (by simp)
 rw [if_neg c92] at H
 have c92b0 : (a0_0 == 8) = false := beq_eq_false_iff_ne.mpr c92
 have c92b1 : (a0_0 != 8) = true := bne_iff_ne.mpr c92
 have HC128 := qm H
 clear H
 go_upto_if 145 with (fail)
 go_cut [145] (fun v145 wc => ∃ (kq : Nat) (x145_127 : Bool), v145 = .bool x145_127 ∧ Aside0 (impl_frameBytes.j4 kq y370 a0_0 x145_127 a0_0 a0_1 a0_2 a0_3 a0_4 l0_5 l0_6 l0_7 = some r) ∧ Aside0 (kq ≤ kj62) ∧ Aside0 (Kd.R (Kd.int .u8) 5 wc w.heap.size (fun _ => True) v371 y370) ∧ Aside0 (wc.heap[gb369]? = some (.cells #[.int .i64 a0_0, .int .i64 a0_1, .int .i64 a0_2, .int .i64 a0_3, .bool a0_4, (.slice A0_5 l0_5.length c0_5), (.slice A0_6 l0_6.length c0_6), (.slice A0_7 l0_7.length c0_7)] 55 (0, 0))) ∧ Aside0 (Below w.heap.size w wc))
 case first =>
  have H := HC128.out
  clear HC128
  by_cases c129 : a0_0 = 18
  ·rw [if_pos c129] at H
   have c129b0 : (a0_0 == 18) = true := beq_iff_eq.mpr c129
   have c129b1 : (a0_0 != 18) = false := bne_eq_false_iff_eq.mpr c129
   clear c129
   (first | rw [c129b0] | (simp only [i64_w, i32_w]; rw [c129b0]) | skip)
   have H' := qm H
   clear H
   as_aux_lemma =>
    go_wp2
    go_meet
    case rel => exact ⟨_, ((a0_0 == 18)), (by first | rfl | (simp; done) | (simp [*]; done)), H', ⟨by have := HJ62.out; omega⟩, ⟨HO_3.out⟩, ⟨BK369.out⟩, ⟨by repeat (first | (with_reducible first | exact HB.out | apply qh | apply qi | apply qj | refine qk ?_ GE369.out) | exact HB.out)⟩⟩
  rw [if_neg c129] at H
  have c129b0 : (a0_0 == 18) = false := beq_eq_false_iff_ne.mpr c129
  have c129b1 : (a0_0 != 18) = true := bne_iff_ne.mpr c129
  (first | rw [c129b0] | (simp only [i64_w, i32_w]; rw [c129b0]) | skip)
  have H' := qm H
  clear H
  as_aux_lemma =>
   go_wp2
   go_meet
   case rel => exact ⟨_, ((a0_0 == 22)), (by first | rfl | (simp; done) | (simp [*]; done)), H', ⟨by have := HJ62.out; omega⟩, ⟨HO_3.out⟩, ⟨BK369.out⟩, ⟨by repeat (first | (with_reducible first | exact HB.out | apply qh | apply qi | apply qj | refine qk ?_ GE369.out) | exact HB.out)⟩⟩
 clear HC128
 try clear c2
 try clear c2b0
 try clear c2b1
 try clear c12
 try clear c12b0
 try clear c12b1
 try clear c51
 try clear c51b0
 try clear c51b1
 try clear c71
 try clear c79
 try clear c79b0
 try clear c79b1
 try clear c87
 try clear c87b0
 try clear c87b1
 try clear c92
 try clear c92b0
 try clear c92b1
 obtain ⟨kq, x145_127, rfl, HA, HJ127, HO_3, BK369, HB⟩ := hcut
 cases kq with
 | zero => exact absurd HA.out (by simp [impl_frameBytes.j4])
 | succ kj127 => ?_
 have H := HA.out
 clear HA
 simp only [impl_frameBytes.j4] at H
 by_cases c130 : x145_127 = true
 ·subst c130
  rw [if_pos rfl] at H
  by_cases c131 : 0 < (y370.length : Int)
  ·rw [if_pos c131] at H
   have c131b0 : decide (0 < (y370.length : Int)) = true := decide_eq_true c131
   have c131b1 : decide (0 < y370.length) = true := decide_eq_true (by omega)
   clear c131
   obtain ⟨y432, hy432⟩ : ∃ y_ : List Int, y_ = (y370.set (0 : Int).toNat (((rd y370 0) + ((a0_2) % 256)) % 256)) := ⟨_, rfl⟩
   replace H : ((impl_addVar.f kj127 y432 a0_1).bind fun t433 => (some t433)) = some r := by first | (rw [hy432]; with_reducible exact H) | (have H2_ := (Option.bind_some _ _).symm.trans H; rw [hy432]; with_reducible exact H2_) | (have H2_ := (Option.bind_some _ _).symm.trans H; with_reducible exact H2_) | with_reducible exact H | (rw [hy432]; exact H) | exact H
   have Ny432 := qm hy432
   clear hy432
   replace H := Option.bind_eq_some_iff.mp H
   obtain ⟨t433, A1330, H⟩ := H
   replace H : (some t433) = some r := H
   have A133 := qm A1330
   clear A1330
   obtain rfl := Option.some.inj H
   try go_wp2
   have n0_ := qm (qd HO_3.out)
   have n1_ := qm (qn BK369.out)
   have n2_ := qm (qj HB.out)
   clear HO_3
   clear BK369
   clear HB
   have HO_3 := n0_
   have BK369 := n1_
   have HB := n2_
   clear n0_ n1_ n2_
   obtain ⟨Ao135, co135, eo135⟩ := Kd.R_slice HO_3.out
   (first | subst eo135 | (injection eo135 with f1_ f2_ f3_; have f4_ := f1_.symm; have f5_ := f3_.symm; clear f1_ f2_ f3_; subst f4_; subst f5_))
   have p431 : 0 ≤ (0 : Int) := (by omega)
   have q431 : 0 < (y370.length : Int) := of_decide_eq_true (by assumption)
   obtain ⟨ad431, e431, hx431_0⟩ := Kd.at_int (qe HO_3.out).2.2 0 p431 q431
   cases e431
   have qi431 : (0 < y370.length) = True := eq_true (by omega)
   (try rw [show ((0 : Int)).toNat = 0 from rfl] at hx431_0)
   (try rw [Addr.add_zero'] at hx431_0)
   replace p431 := eq_true p431
   replace q431 := eq_true q431
   have p132 : 0 ≤ (0 : Int) := (by omega)
   have q132 : (0 : Int) < ((y370.length : Int) : Int) := of_decide_eq_true (by assumption)
   have qi132 : (0 < y370.length) = True := eq_true (by omega)
   obtain ⟨go132, co132, eo132, gb132, gl132, cl132, HG132⟩ := Kd.R_form HO_3.out (by omega)
   (first | cases eo132 | (injection eo132 with ea_ en_ ec_; (first | subst ea_ | (injection ea_ with ea_; subst ea_)); subst ec_; clear en_))
   have GB132 := qm gb132
   have GG132 := qm HG132
   clear gb132 gl132 HG132
   (first | simp only [add_plain] at hx431_0 | skip)
   obtain ⟨hx132_0, hf132_0⟩ := Kd.R_celln 0 HO_3.out (0 : Int) p132 q132
   (try rw [show ((0 : Int)).toNat = 0 from rfl] at hx132_0)
   (try simp only [Nat.reduceMul, Nat.zero_mul, Nat.zero_add, Nat.reduceAdd] at hx132_0)
   (try rw [show ((0 : Int)).toNat = 0 from rfl] at hf132_0)
   (try simp only [Nat.reduceMul, Nat.zero_mul, Nat.zero_add, Nat.reduceAdd] at hf132_0)
   replace p132 := eq_true p132
   replace q132 := eq_true q132
   have HP136 := Kd.R_putn HO_3.out (0 : Int) (((rd y370 0) + ((a0_2) % 256)) % 256)
   rw [← Ny432.out] at HP136
   have HQ136 := qm HP136
   clear HP136
   refine start_ (n := 9) (S := fun w' => w'.cell? ⟨gb369, 0, none⟩ = some (.int .i64 a0_0) ∧ w'.cell? ⟨gb369, 1, none⟩ = some (.int .i64 a0_1) ∧ w'.cell? ⟨gb369, 2, none⟩ = some (.int .i64 a0_2) ∧ w'.cell? ⟨gb369, 3, none⟩ = some (.int .i64 a0_3) ∧ w'.cell? ⟨gb369, 4, none⟩ = some (.bool a0_4) ∧ w'.cell? ⟨gb369, 5, none⟩ = some (.slice A0_5 l0_5.length c0_5) ∧ w'.cell? ⟨gb369, 6, none⟩ = some (.slice A0_6 l0_6.length c0_6) ∧ w'.cell? ⟨gb369, 7, none⟩ = some (.slice A0_7 l0_7.length c0_7) ∧ w'.cell? ⟨go132, 0, none⟩ = some (.int .u8 (rd y370 0))) (ds := [8]) (bm 0 9) (by kernel_rfl) rfl rfl ⟨(qu BK369.out 0).trans rfl, (qu BK369.out 1).trans rfl, (qu BK369.out 2).trans rfl, (qu BK369.out 3).trans rfl, (qu BK369.out 4).trans rfl, (qu BK369.out 5).trans rfl, (qu BK369.out 6).trans rfl, (qu BK369.out 7).trans rfl, hx431_0⟩ (fun hHeld => ?_); refine with_tabW impl_frameBytes.tab36 impl_frameBytes.bits36 (fun HT_ HW_ => ?_)
   generalize wc.drew = w134 at HO_3 BK369 HB GG132 HQ136 hf132_0 hx132_0 hx431_0 hHeld ⊢
   refine pu 0 148 (bm 1 9) HT_ (h := ⟨_, by intro w'; go_simp; with_reducible rfl, _, by simp only [Act.put, s1, s2, s3, i64_w, i32_w]; rfl, ?_⟩)
   refine pu 1 149 (bm 2 9) HT_ (h := ⟨_, by intro w'; go_simp; with_reducible rfl, _, by simp only [Act.put, s1, s2, s3, i64_w, i32_w]; rfl, ?_⟩)
   refine pu 3 151 (bb 11 9) HT_ (h := ⟨_, by intro w'; go_simp; with_reducible rfl, _, by simp only [Act.put, s1, s2, s3, i64_w, i32_w]; rfl, ?_⟩)
   refine tk 2 150 (bm 4 9) HT_ HW_ (hS := hHeld) (h := ⟨_, by rintro w' ⟨s0, s1, s2, s3, s4, s5, s6, s7, s8⟩; go_simp; with_reducible rfl, _, by simp only [Act.put, s1, s2, s3, i64_w, i32_w]; rfl, ?_⟩)
   refine tk 4 152 (bm 5 9) HT_ HW_ (hS := hHeld) (h := ⟨_, by rintro w' ⟨s0, s1, s2, s3, s4, s5, s6, s7, s8⟩; go_simp; with_reducible rfl, _, by simp only [Act.put, s1, s2, s3, i64_w, i32_w]; rfl, ?_⟩)
   refine pu 5 153 (bm 6 9) HT_ (h := ⟨_, by intro w'; go_simp; with_reducible rfl, _, by simp only [Act.put, s1, s2, s3, i64_w, i32_w]; rfl, ?_⟩)
   refine pu 6 154 (bm 7 9) HT_ (h := ⟨_, by intro w'; go_simp; with_reducible rfl, _, by simp only [Act.put, s1, s2, s3, i64_w, i32_w]; rfl, ?_⟩)
   refine pu 7 155 (bm 8 9) HT_ (h := ⟨_, by intro w'; go_simp; with_reducible rfl, _, by simp only [Act.put, s1, s2, s3, i64_w, i32_w]; rfl, ?_⟩)
   refine last_ (i := 8) (N := none) (bm 9 9) rfl rfl (one_of HT_.out (by kernel_rfl)) (by decide) (fun K hK => ?_)
   refine skip_ (w1 := ?_) (by rfl) rfl ?_ ?_
   rotate_left
   ·go_simp
    rfl
   refine hK.out _ _ ?_
   clear hK K
   refine done_ (done_of HT_.out (by kernel_rfl)) ?_
   rw [show IntKind.u8.wrap (rd y370 0 + IntKind.u8.wrap a0_2) = (((rd y370 0) + ((a0_2) % 256)) % 256) from rfl]
   have n0_ : Aside0 (Kd.R (Kd.int .u8) 5 (w134.setCell ⟨go132, 0, none⟩ (.int .u8 (((rd y370 0) + ((a0_2) % 256)) % 256))) w.heap.size (fun _ => True) (.slice (some ⟨go132, 0, none⟩) y370.length co135) y432) := ⟨HQ136.out⟩
   have n1_ : Aside0 ((w134.setCell ⟨go132, 0, none⟩ (.int .u8 (((rd y370 0) + ((a0_2) % 256)) % 256))).heap[gb369]? = some (.cells #[.int .i64 a0_0, .int .i64 a0_1, .int .i64 a0_2, .int .i64 a0_3, .bool a0_4, .slice A0_5 l0_5.length c0_5, .slice A0_6 l0_6.length c0_6, .slice A0_7 l0_7.length c0_7] 55 (0, 0))) := ⟨by (with_reducible repeat (first | refine ql ?_ _ | refine qn ?_ | refine qo ?_ _)); refine qr ?_ (by have h_ := Kd.R_ne HO_3.out BK369.out (by decide); intro e_; exact h_ (by rw [e_]; rfl)) _; (with_reducible repeat (first | refine ql ?_ _ | refine qn ?_ | refine qo ?_ _)); exact BK369.out⟩
   have n2_ : Aside0 (Below w.heap.size w (w134.setCell ⟨go132, 0, none⟩ (.int .u8 (((rd y370 0) + ((a0_2) % 256)) % 256)))) := ⟨by repeat (first | (with_reducible first | exact HB.out | apply qh | apply qi | apply qj | refine qk ?_ GB132.out | refine qk ?_ GE369.out) | exact HB.out)⟩
   (try clear HO_3)
   (try clear BK369)
   (try clear HB)
   generalize (w134.setCell ⟨go132, 0, none⟩ (.int .u8 (((rd y370 0) + ((a0_2) % 256)) % 256))) = w137 at n0_ n1_ n2_ ⊢
   have HO_3 := n0_
   have BK369 := n1_
   have HB := n2_
   clear n0_ n1_ n2_
   obtain ⟨_, _, _, _, _, _, _, _, _, _, _, _, _, _, _, _⟩ := fc8 BK369.out
   try go_wp2_with (first | ((with_reducible refine gate_callee (f := 59) rfl ?_); refine goesL_ (some 159) rfl rfl Try.func59 (by kernel_rfl) rfl #[.slice (some ⟨go132, 0, none⟩) y370.length co135, .int .i64 a0_1] rfl (by (try simp only [m1, m2, m3]); first | done | rfl) ?_; (with_reducible refine (impl_addVar.calls kj127 (fun k_ => some k_ = (.slice (some ⟨go132, 0, none⟩) y370.length co135 : Value).ownBlock) (.slice (some ⟨go132, 0, none⟩) y370.length co135) y432 a0_1 t433 w _ ?side1 ?side2 A133.out).mono ?_); (case side1 => repeat (first | (with_reducible first | exact HB.out | apply qh | apply qi | apply qj | refine qk ?_ GE369.out) | exact HB.out)); (case side2 => exact Kd.R_tight rfl HO_3.out); rintro e w139 ⟨v434, rfl, ho0, hb, hkp⟩; refine ⟨_, rfl, ?_⟩; have n0_ := qm (blk_kept BK369.out hkp (fun hs_ => (fun e_ => (Kd.R_ne HO_3.out BK369.out (by decide)) e_) hs_)); have n1_ := qm (qg (ok' := fun k_ => True) ho0 (fun k_ hk_ => trivial)); have n2_ := qm (hb); clear BK369; clear HB; clear HO_3; have BK369 := n0_; have HO435 := n1_; have HB := n2_; clear n0_ n1_ n2_; (try clear hb); (try clear hkp); (try clear ho0)))
   go_ret
   exact ⟨_, by first | rfl | (simp <;> rfl) | (simp [*] <;> rfl), HO435.out, by repeat (first | (with_reducible first | exact HB.out | apply qh | apply qi | apply qj | refine qk ?_ GE369.out) | exact HB.out)⟩
  rw [if_neg c131] at H
  exact absurd H (by simp)
 replace c130 := Bool.eq_false_iff.mpr c130
 subst c130
 rw [if_neg nt] at H
 have HC140 := qm H
 clear H
 go_upto_if 160 with (fail)
 go_cut [160] (fun v160 wc => ∃ (kq : Nat) (x160_139 : Bool), v160 = .bool x160_139 ∧ Aside0 (impl_frameBytes.j5 kq y370 a0_0 x160_139 a0_0 a0_1 a0_2 a0_3 a0_4 l0_5 l0_6 l0_7 = some r) ∧ Aside0 (kq ≤ kj127) ∧ Aside0 (Kd.R (Kd.int .u8) 5 wc w.heap.size (fun _ => True) v371 y370) ∧ Aside0 (wc.heap[gb369]? = some (.cells #[.int .i64 a0_0, .int .i64 a0_1, .int .i64 a0_2, .int .i64 a0_3, .bool a0_4, (.slice A0_5 l0_5.length c0_5), (.slice A0_6 l0_6.length c0_6), (.slice A0_7 l0_7.length c0_7)] 55 (0, 0))) ∧ Aside0 (Below w.heap.size w wc))
 case first =>
  have H := HC140.out
  clear HC140
  by_cases c141 : a0_0 = 16
  ·rw [if_pos c141] at H
   have c141b0 : (a0_0 == 16) = true := beq_iff_eq.mpr c141
   have c141b1 : (a0_0 != 16) = false := bne_eq_false_iff_eq.mpr c141
   clear c141
   (first | rw [c141b0] | (simp only [i64_w, i32_w]; rw [c141b0]) | skip)
   have H' := qm H
   clear H
   as_aux_lemma =>
    go_wp2
    go_meet
    case rel => exact ⟨_, ((a0_0 == 16)), (by first | rfl | (simp; done) | (simp [*]; done)), H', ⟨by have := HJ62.out; have := HJ127.out; omega⟩, ⟨HO_3.out⟩, ⟨BK369.out⟩, ⟨by repeat (first | (with_reducible first | exact HB.out | apply qh | apply qi | apply qj | refine qk ?_ GE369.out) | exact HB.out)⟩⟩
  rw [if_neg c141] at H
  have c141b0 : (a0_0 == 16) = false := beq_eq_false_iff_ne.mpr c141
  have c141b1 : (a0_0 != 16) = true := bne_iff_ne.mpr c141
  (first | rw [c141b0] | (simp only [i64_w, i32_w]; rw [c141b0]) | skip)
  by_cases c142 : a0_0 = 20
  ·rw [if_pos c142] at H
   have c142b0 : (a0_0 == 20) = true := beq_iff_eq.mpr c142
   have c142b1 : (a0_0 != 20) = false := bne_eq_false_iff_eq.mpr c142
   clear c142
   have H' := qm H
   clear H
   as_aux_lemma =>
    go_wp2
    go_meet
    case rel => exact ⟨_, ((a0_0 == 20)), (by first | rfl | (simp; done) | (simp [*]; done)), H', ⟨by have := HJ62.out; have := HJ127.out; omega⟩, ⟨HO_3.out⟩, ⟨BK369.out⟩, ⟨by repeat (first | (with_reducible first | exact HB.out | apply qh | apply qi | apply qj | refine qk ?_ GE369.out) | exact HB.out)⟩⟩
  rw [if_neg c142] at H
  have c142b0 : (a0_0 == 20) = false := beq_eq_false_iff_ne.mpr c142
  have c142b1 : (a0_0 != 20) = true := bne_iff_ne.mpr c142
  have H' := qm H
  clear H
  as_aux_lemma =>
   go_wp2
   go_meet
   case rel => exact ⟨_, ((a0_0 == 25)), (by first | rfl | (simp; done) | (simp [*]; done)), H', ⟨by have := HJ62.out; have := HJ127.out; omega⟩, ⟨HO_3.out⟩, ⟨BK369.out⟩, ⟨by repeat (first | (with_reducible first | exact HB.out | apply qh | apply qi | apply qj | refine qk ?_ GE369.out) | exact HB.out)⟩⟩
 clear HC140
 try clear c12
 try clear c130
 obtain ⟨kq, x160_139, rfl, HA, HJ139, HO_3, BK369, HB⟩ := hcut
 cases kq with
 | zero => exact absurd HA.out (by simp [impl_frameBytes.j5])
 | succ kj139 => ?_
 have H := HA.out
 clear HA
 simp only [impl_frameBytes.j5] at H
 by_cases c143 : x160_139 = true
 ·subst c143
  rw [if_pos rfl] at H
  replace H := Option.bind_eq_some_iff.mp H
  obtain ⟨t436, A1440, H⟩ := H
  replace H : (some t436) = some r := H
  have A144 := qm A1440
  clear A1440
  obtain rfl := Option.some.inj H
  as_aux_lemma =>
   obtain ⟨_, _, _, _, _, _, _, _, _, _, _, _, _, _, _, _⟩ := fc8 BK369.out
   obtain ⟨Ao146, co146, eo146⟩ := Kd.R_slice HO_3.out
   subst eo146
   go_wp2_with (first | ((with_reducible refine gate_callee (f := 59) rfl ?_); refine goesL_ (some 167) rfl rfl Try.func59 (by kernel_rfl) rfl #[.slice Ao146 y370.length co146, .int .i64 a0_1] rfl (by (try simp only [m1, m2, m3]); first | done | rfl) ?_; (with_reducible refine (impl_addVar.calls kj139 (fun k_ => some k_ = (.slice Ao146 y370.length co146 : Value).ownBlock) (.slice Ao146 y370.length co146) y370 a0_1 t436 w _ ?side1 ?side2 A144.out).mono ?_); (case side1 => repeat (first | (with_reducible first | exact HB.out | apply qh | apply qi | apply qj | refine qk ?_ GE369.out) | exact HB.out)); (case side2 => exact Kd.R_tight rfl HO_3.out); rintro e w147 ⟨v437, rfl, ho0, hb, hkp⟩; refine ⟨_, rfl, ?_⟩; have n0_ := qm (blk_kept BK369.out hkp (fun hs_ => (fun e_ => (Kd.R_ne HO_3.out BK369.out (by decide)) e_) hs_)); have n1_ := qm (qg (ok' := fun k_ => True) ho0 (fun k_ hk_ => trivial)); have n2_ := qm (hb); clear BK369; clear HB; clear HO_3; have BK369 := n0_; have HO438 := n1_; have HB := n2_; clear n0_ n1_ n2_; (try clear hb); (try clear hkp); (try clear ho0)))
   go_ret
   exact ⟨_, by first | rfl | (simp <;> rfl) | (simp [*] <;> rfl), HO438.out, by repeat (first | (with_reducible first | exact HB.out | apply qh | apply qi | apply qj | refine qk ?_ GE369.out) | exact HB.out)⟩
 replace c143 := Bool.eq_false_iff.mpr c143
 subst c143
 rw [if_neg nt] at H
 by_cases c148 : a0_0 = 24
 ·rw [if_pos c148] at H
  have c148b0 : (a0_0 == 24) = true := beq_iff_eq.mpr c148
  have c148b1 : (a0_0 != 24) = false := bne_eq_false_iff_eq.mpr c148
  clear c148
  obtain ⟨y439, hy439⟩ : ∃ y_ : List Int, y_ = (([a0_1, a0_2] : List Int)) := ⟨_, rfl⟩
  replace H : ((impl_addVars.f kj139 y370 y439).bind fun t442 => ((some (([((l0_5.length : Int)) % 256] : List Int) : List Int)).bind fun y445 => (if t442.length + y445.length < 140737488355328 then ((some (t442 ++ y445 : List Int)).bind fun y448 => (if y448.length + l0_5.length < 140737488355328 then ((some (y448 ++ l0_5 : List Int)).bind fun y451 => (if y451.length + l0_6.length < 140737488355328 then (some (y451 ++ l0_6)) else (none))) else (none))) else (none)))) = some r := by first | (rw [hy439]; with_reducible exact H) | (have H2_ := (Option.bind_some _ _).symm.trans H; rw [hy439]; with_reducible exact H2_) | (have H2_ := (Option.bind_some _ _).symm.trans H; with_reducible exact H2_) | with_reducible exact H | (rw [hy439]; exact H) | exact H
  have Ny439 := qm hy439
  clear hy439
  replace H := Option.bind_eq_some_iff.mp H
  obtain ⟨t442, A1490, H⟩ := H
  try dsimp only at H
  have A149 := qm A1490
  clear A1490
  obtain ⟨y445, hy445⟩ : ∃ y_ : List Int, y_ = (([((l0_5.length : Int)) % 256] : List Int)) := ⟨_, rfl⟩
  replace H : (if t442.length + y445.length < 140737488355328 then ((some (t442 ++ y445 : List Int)).bind fun y448 => (if y448.length + l0_5.length < 140737488355328 then ((some (y448 ++ l0_5 : List Int)).bind fun y451 => (if y451.length + l0_6.length < 140737488355328 then (some (y451 ++ l0_6)) else (none))) else (none))) else (none)) = some r := by first | (rw [hy445]; with_reducible exact H) | (have H2_ := (Option.bind_some _ _).symm.trans H; rw [hy445]; with_reducible exact H2_) | (have H2_ := (Option.bind_some _ _).symm.trans H; with_reducible exact H2_) | with_reducible exact H | (rw [hy445]; exact H) | exact H
  have Ny445 := qm hy445
  clear hy445
  by_cases c150 : t442.length + y445.length < 140737488355328
  ·rw [if_pos c150] at H
   have LMc150 := qm c150
   clear c150
   obtain ⟨y448, hy448⟩ : ∃ y_ : List Int, y_ = (t442 ++ y445) := ⟨_, rfl⟩
   replace H : (if y448.length + l0_5.length < 140737488355328 then ((some (y448 ++ l0_5 : List Int)).bind fun y451 => (if y451.length + l0_6.length < 140737488355328 then (some (y451 ++ l0_6)) else (none))) else (none)) = some r := by first | (rw [hy448]; with_reducible exact H) | (have H2_ := (Option.bind_some _ _).symm.trans H; rw [hy448]; with_reducible exact H2_) | (have H2_ := (Option.bind_some _ _).symm.trans H; with_reducible exact H2_) | with_reducible exact H | (rw [hy448]; exact H) | exact H
   have Ny448 := qm hy448
   clear hy448
   by_cases c151 : y448.length + l0_5.length < 140737488355328
   ·rw [if_pos c151] at H
    have LMc151 := qm c151
    clear c151
    obtain ⟨y451, hy451⟩ : ∃ y_ : List Int, y_ = (y448 ++ l0_5) := ⟨_, rfl⟩
    replace H : (if y451.length + l0_6.length < 140737488355328 then (some (y451 ++ l0_6)) else (none)) = some r := by first | (rw [hy451]; with_reducible exact H) | (have H2_ := (Option.bind_some _ _).symm.trans H; rw [hy451]; with_reducible exact H2_) | (have H2_ := (Option.bind_some _ _).symm.trans H; with_reducible exact H2_) | with_reducible exact H | (rw [hy451]; exact H) | exact H
    have Ny451 := qm hy451
    clear hy451
    by_cases c152 : y451.length + l0_6.length < 140737488355328
    ·rw [if_pos c152] at H
     have LMc152 := qm c152
     clear c152
     obtain ⟨y454, hy454⟩ : ∃ y_ : List Int, y_ = (y451 ++ l0_6) := ⟨_, rfl⟩
     replace H : (some y454) = some r := by first | (rw [hy454]; with_reducible exact H) | (have H2_ := (Option.bind_some _ _).symm.trans H; rw [hy454]; with_reducible exact H2_) | (have H2_ := (Option.bind_some _ _).symm.trans H; with_reducible exact H2_) | with_reducible exact H | (rw [hy454]; exact H) | exact H
     have Ny454 := qm hy454
     clear hy454
     obtain rfl := Option.some.inj H
     obtain ⟨Ao153, co153, eo153⟩ := Kd.R_slice HO_3.out
     subst eo153
     try go_wp2
     have n0_ := qm (qd HO_3.out)
     have n1_ := qm (qn BK369.out)
     have n2_ := qm (qj HB.out)
     clear HO_3
     clear BK369
     clear HB
     have HO_3 := n0_
     have BK369 := n1_
     have HB := n2_
     clear n0_ n1_ n2_
     refine start_ (n := 14) (S := fun w' => w'.cell? ⟨gb369, 0, none⟩ = some (.int .i64 a0_0) ∧ w'.cell? ⟨gb369, 1, none⟩ = some (.int .i64 a0_1) ∧ w'.cell? ⟨gb369, 2, none⟩ = some (.int .i64 a0_2) ∧ w'.cell? ⟨gb369, 3, none⟩ = some (.int .i64 a0_3) ∧ w'.cell? ⟨gb369, 4, none⟩ = some (.bool a0_4) ∧ w'.cell? ⟨gb369, 5, none⟩ = some (.slice A0_5 l0_5.length c0_5) ∧ w'.cell? ⟨gb369, 6, none⟩ = some (.slice A0_6 l0_6.length c0_6) ∧ w'.cell? ⟨gb369, 7, none⟩ = some (.slice A0_7 l0_7.length c0_7)) (ds := []) (bm 0 14) (by kernel_rfl) rfl rfl (fz8 BK369.out) (fun hHeld => ?_); refine with_tabW impl_frameBytes.tab43 impl_frameBytes.bits43 (fun HT_ HW_ => ?_)
     generalize wc.drew = w154 at HO_3 BK369 HB hHeld ⊢
     refine pu 0 170 (bm 1 14) HT_ (h := ⟨_, by intro w'; go_simp; with_reducible rfl, _, by simp only [Act.put, s1, s2, s3, i64_w, i32_w]; rfl, ?_⟩)
     refine pu 1 171 (bm 2 14) HT_ (h := ⟨_, by intro w'; go_simp; with_reducible rfl, _, by simp only [Act.put, s1, s2, s3, i64_w, i32_w]; rfl, ?_⟩)
     refine pu 3 173 (bb 11 14) HT_ (h := ⟨_, by intro w'; go_simp; with_reducible rfl, _, by simp only [Act.put, s1, s2, s3, i64_w, i32_w]; rfl, ?_⟩)
     refine pu 7 177 (bb 139 14) HT_ (h := ⟨_, by intro w'; go_simp; with_reducible rfl, _, by simp only [Act.put, s1, s2, s3, i64_w, i32_w]; rfl, ?_⟩)
     refine tk 2 172 (bb 143 14) HT_ HW_ (hS := hHeld) (h := ⟨_, by rintro w' ⟨s0, s1, s2, s3, s4, s5, s6, s7⟩; go_simp; with_reducible rfl, _, by simp only [Act.put, s1, s2, s3, i64_w, i32_w]; rfl, ?_⟩)
     refine tk 4 174 (bb 159 14) HT_ HW_ (hS := hHeld) (h := ⟨_, by rintro w' ⟨s0, s1, s2, s3, s4, s5, s6, s7⟩; go_simp; with_reducible rfl, _, by simp only [Act.put, s1, s2, s3, i64_w, i32_w]; rfl, ?_⟩)
     refine tk 8 178 (bb 415 14) HT_ HW_ (hS := hHeld) (h := ⟨_, by rintro w' ⟨s0, s1, s2, s3, s4, s5, s6, s7⟩; go_simp; with_reducible rfl, _, by simp only [Act.put, s1, s2, s3, i64_w, i32_w]; rfl, ?_⟩)
     refine pu 9 179 (bb 927 14) HT_ (h := ⟨_, by intro w'; go_simp; with_reducible rfl, _, by simp only [Act.put, s1, s2, s3, i64_w, i32_w]; rfl, ?_⟩)
     refine pu 10 180 (bb 1951 14) HT_ (h := ⟨_, by intro w'; go_simp; with_reducible rfl, _, by simp only [Act.put, s1, s2, s3, i64_w, i32_w]; rfl, ?_⟩)
     refine join_ (σ := Value × Value × Value) 2 (bm 12 14) (fun s_ => [(175, s_.1), (176, s_.2.1), (181, s_.2.2)]) (fun s_ w' => (w'.cell? ⟨gb369, 0, none⟩ = some (.int .i64 a0_0) ∧ w'.cell? ⟨gb369, 1, none⟩ = some (.int .i64 a0_1) ∧ w'.cell? ⟨gb369, 2, none⟩ = some (.int .i64 a0_2) ∧ w'.cell? ⟨gb369, 3, none⟩ = some (.int .i64 a0_3) ∧ w'.cell? ⟨gb369, 4, none⟩ = some (.bool a0_4) ∧ w'.cell? ⟨gb369, 5, none⟩ = some (.slice A0_5 l0_5.length c0_5) ∧ w'.cell? ⟨gb369, 6, none⟩ = some (.slice A0_6 l0_6.length c0_6) ∧ w'.cell? ⟨gb369, 7, none⟩ = some (.slice A0_7 l0_7.length c0_7)) ∧ (Kd.R (Kd.int .i64) 3 w' w.heap.size (fun _ => True) s_.1 y439) ∧ (Kd.R (Kd.int .u8) 5 w' w.heap.size (fun k_ => some k_ ≠ (s_.2.2 : Value).ownBlock) s_.2.1 t442) ∧ (Kd.R (Kd.int .u8) 5 w' w.heap.size (fun k_ => some k_ ≠ (s_.2.1 : Value).ownBlock) s_.2.2 y445) ∧ (w'.heap[gb369]? = some (.cells #[.int .i64 a0_0, .int .i64 a0_1, .int .i64 a0_2, .int .i64 a0_3, .bool a0_4, .slice A0_5 l0_5.length c0_5, .slice A0_6 l0_6.length c0_6, .slice A0_7 l0_7.length c0_7] 55 (0, 0))) ∧ (Below w.heap.size w w')) ?_ ?_
     rotate_left
     ·intro hCont
      refine two_ (i := 5) (j := 11) (Ni := some 175) (Nj := some 181) (bb 1983 14) (bb 3999 14) rfl rfl rfl rfl (two_of HT_.out (by kernel_rfl)) (by decide) (by decide) (fun K hK => ?_) (fun K hK => ?_)
      ·skip
       refine Kd.R_lit_step (Kd.int .i64) _ 3 ?hg (N := 175) ?hd (xs := ([a0_1, a0_2] : List Int)) (inner := [.int .i64 a0_1, .int .i64 a0_2]) (ok := fun _ => True) (okp := fun _ => True) ?hr ?hp (fun _ hk => hk) trivial (Below.refl _ _) (Nat.le_refl _) (by simp) ?_; (case hd => rfl); (case hg => rfl); (case hr => first | (go_simp; done) | (go_simp; rfl)); (case hp => exact (Reps.one (show Kd.M (Kd.int .i64) _ _ _ a0_1 [.int .i64 a0_1] from rfl) (Reps.one (show Kd.M (Kd.int .i64) _ _ _ a0_2 [.int .i64 a0_2] from rfl) (Reps.none _ _))))
       intro v440 w155 ho156 hb hg_ hnew_
       clear hg_ hnew_
       (first | rw [← Ny439.out] at ho156 | (simp only [Int.reduceToNat] at ho156; rw [← Ny439.out] at ho156))
       have n0_ := qm (qf HO_3.out hb)
       have n1_ := qm (Kd.R_lower ho156 (qs (by repeat (first | (with_reducible first | exact HB.out | apply qh | apply qi | apply qj | refine qk ?_ GE369.out) | exact HB.out))))
       have n2_ := qm (qv (g := gb369) BK369.out hb)
       have n3_ := qm (qt (by repeat (first | (with_reducible first | exact HB.out | apply qh | apply qi | apply qj | refine qk ?_ GE369.out) | exact HB.out)) hb)
       clear HO_3
       clear BK369
       clear HB
       have HO_3 := n0_
       have HO441 := n1_
       have BK369 := n2_
       have HB := n3_
       clear n0_ n1_ n2_ n3_
       clear hb ho156
       obtain ⟨Ao157, co157, eo157⟩ := Kd.R_slice HO441.out
       (first | subst eo157 | (injection eo157 with f1_ f2_ f3_; have f4_ := f1_.symm; have f5_ := f3_.symm; clear f1_ f2_ f3_; subst f4_; subst f5_))
       refine hK.out _ _ (fz8 BK369.out) (fun hHeld => ?_)
       clear hK K
       refine norm_ (a' := ?_) ?_ ?_
       rotate_left
       ·show Act.put _ (some 175) _ = _
        simp only [Act.put, s1, s2, s3, i64_w, i32_w]
        rfl
       refine two_ (i := 6) (j := 11) (Ni := some 176) (Nj := some 181) (bm 11 14) (bb 4031 14) rfl rfl rfl rfl (two_of HT_.out (by kernel_rfl)) (by decide) (by decide) (fun K hK => ?_) (fun K hK => ?_)
       ·skip
        refine goes_ Try.func99 (by kernel_rfl) rfl #[.slice Ao153 y370.length co153, .slice Ao157 y439.length co157] (by rfl) rfl rfl (by (try simp only [m1, m2, m3]); first | done | rfl) ?_
        with_reducible refine (impl_addVars.calls kj139 (fun k_ => some k_ = (.slice Ao153 y370.length co153 : Value).ownBlock) (.slice Ao153 y370.length co153) y370 _ _ y439 t442 w _ ?side1 ?side2 ?side3 ?side4 A149.out).mono ?_
        (case side1 => repeat (first | (with_reducible first | exact HB.out | apply qh | apply qi | apply qj | refine qk ?_ GE369.out) | exact HB.out))
        (case side2 => exact Kd.R_tight rfl HO_3.out)
        (case side3 => exact Kd.C_kept_own ((Kd.R_apart' HO441.out (Kd.R_typed HO_3.out) (by decide))) (fun k_ hk_ hs_ => (hk_.2) hs_))
        (case side4 => exact (qe HO441.out).2.1)
        rintro e w158 ⟨v443, rfl, ho0, hb, hkp⟩
        refine ⟨_, rfl, ?_⟩
        have n0_ := qm (blk_kept BK369.out hkp (fun hs_ => (fun e_ => (Kd.R_ne HO_3.out BK369.out (by decide)) e_) hs_))
        have n1_ := qm (qg (ok' := fun k_ => True) (Kd.R_keptB ((Kd.R_apart' HO441.out (Kd.R_typed HO_3.out) (by decide))) hkp (fun k_ hk_ hs_ => (hk_.2) hs_)) (fun k_ hk_ => trivial))
        have n2_ := qm (qg (ok' := fun k_ => True) ho0 (fun k_ hk_ => trivial))
        have n3_ := qm (hb)
        clear BK369
        clear HO441
        clear HB
        clear HO_3
        have BK369 := n0_
        have HO441 := n1_
        have HO444 := n2_
        have HB := n3_
        clear n0_ n1_ n2_ n3_
        (try clear hb)
        (try clear hkp)
        (try clear ho0)
        refine hK.out _ _ (fz8 BK369.out) (fun hHeld => ?_)
        clear hK K
        refine norm_ (a' := ?_) ?_ ?_
        rotate_left
        ·show Act.put _ (some 176) _ = _
         simp only [Act.put, s1, s2, s3, i64_w, i32_w]
         rfl
        refine one_ (i := 11) (N := some 181) (bm 12 14) rfl rfl (one_of HT_.out (by kernel_rfl)) (by decide) (fun K hK => ?_)
        refine Kd.R_lit_step (Kd.int .u8) _ 5 ?hg (N := 181) ?hd (xs := ([((l0_5.length : Int)) % 256] : List Int)) (inner := [.int .u8 (((l0_5.length : Int)) % 256)]) (ok := fun _ => True) (okp := fun _ => True) ?hr ?hp (fun _ hk => hk) trivial (Below.refl _ _) (Nat.le_refl _) (by simp) ?_; (case hd => rfl); (case hg => rfl); (case hr => first | (go_simp; done) | (go_simp; rfl)); (case hp => exact (Reps.one (show Kd.M (Kd.int .u8) _ _ _ (((l0_5.length : Int)) % 256) [.int .u8 (((l0_5.length : Int)) % 256)] from rfl) (Reps.none _ _)))
        intro v446 w159 ho160 hb hg_ hnew_
        clear hg_ hnew_
        (first | rw [← Ny445.out] at ho160 | (simp only [Int.reduceToNat] at ho160; rw [← Ny445.out] at ho160))
        have n0_ := qm (qf HO441.out hb)
        have n1_ := qm (Kd.R_elder' HO444.out (Kd.R_base ho160) hb)
        have n2_ := qm (Kd.R_lower (Kd.R_new' ho160 (Kd.R_lt HO444.out)) (qs (by repeat (first | (with_reducible first | exact HB.out | apply qh | apply qi | apply qj | refine qk ?_ GE369.out) | exact HB.out))))
        have n3_ := qm (qv (g := gb369) BK369.out hb)
        have n4_ := qm (qt (by repeat (first | (with_reducible first | exact HB.out | apply qh | apply qi | apply qj | refine qk ?_ GE369.out) | exact HB.out)) hb)
        clear HO441
        clear HO444
        clear BK369
        clear HB
        have HO441 := n0_
        have HO444 := n1_
        have HO447 := n2_
        have BK369 := n3_
        have HB := n4_
        clear n0_ n1_ n2_ n3_ n4_
        clear hb ho160
        refine hK.out _ _ (fz8 BK369.out) (fun hHeld => ?_)
        clear hK K
        refine norm_ (a' := ?_) ?_ ?_
        rotate_left
        ·show Act.put _ (some 181) _ = _
         simp only [Act.put, s1, s2, s3, i64_w, i32_w]
         rfl
        exact norm_ (by simp only [putAll, Act.put, s1, s2, s3]) (hCont (.slice Ao157 y439.length co157, v443, v446) _ ⟨hHeld, HO441.out, (by (with_reducible repeat (first | apply qb | apply qc | apply qd)); exact qg HO444.out (fun _ hk => hk.2)), (by (with_reducible repeat (first | apply qb | apply qc | apply qd)); exact qg HO447.out (fun _ hk => hk.2)), BK369.out, (by repeat (first | (with_reducible first | exact HB.out | apply qh | apply qi | apply qj | refine qk ?_ GE369.out) | exact HB.out))⟩)
       ·skip
        refine Kd.R_lit_step (Kd.int .u8) _ 5 ?hg (N := 181) ?hd (xs := ([((l0_5.length : Int)) % 256] : List Int)) (inner := [.int .u8 (((l0_5.length : Int)) % 256)]) (ok := fun _ => True) (okp := fun _ => True) ?hr ?hp (fun _ hk => hk) trivial (Below.refl _ _) (Nat.le_refl _) (by simp) ?_; (case hd => rfl); (case hg => rfl); (case hr => first | (go_simp; done) | (go_simp; rfl)); (case hp => exact (Reps.one (show Kd.M (Kd.int .u8) _ _ _ (((l0_5.length : Int)) % 256) [.int .u8 (((l0_5.length : Int)) % 256)] from rfl) (Reps.none _ _)))
        intro v446 w157 ho158 hb hg_ hnew_
        clear hg_ hnew_
        (first | rw [← Ny445.out] at ho158 | (simp only [Int.reduceToNat] at ho158; rw [← Ny445.out] at ho158))
        have n0_ := qm (Kd.R_elder' HO_3.out (Kd.R_base ho158) hb)
        have n1_ := qm (qf HO441.out hb)
        have n2_ := qm (Kd.R_lower (Kd.R_new' ho158 (Kd.R_lt HO_3.out)) (qs (by repeat (first | (with_reducible first | exact HB.out | apply qh | apply qi | apply qj | refine qk ?_ GE369.out) | exact HB.out))))
        have n3_ := qm (qv (g := gb369) BK369.out hb)
        have n4_ := qm (qt (by repeat (first | (with_reducible first | exact HB.out | apply qh | apply qi | apply qj | refine qk ?_ GE369.out) | exact HB.out)) hb)
        clear HO_3
        clear HO441
        clear BK369
        clear HB
        have HO_3 := n0_
        have HO441 := n1_
        have HO447 := n2_
        have BK369 := n3_
        have HB := n4_
        clear n0_ n1_ n2_ n3_ n4_
        clear hb ho158
        obtain ⟨Ao159, co159, eo159⟩ := Kd.R_slice HO441.out
        (first | subst eo159 | (injection eo159 with f1_ f2_ f3_; have f4_ := f1_.symm; have f5_ := f3_.symm; clear f1_ f2_ f3_; subst f4_; subst f5_))
        refine hK.out _ _ (fz8 BK369.out) (fun hHeld => ?_)
        clear hK K
        refine norm_ (a' := ?_) ?_ ?_
        rotate_left
        ·show Act.put _ (some 181) _ = _
         simp only [Act.put, s1, s2, s3, i64_w, i32_w]
         rfl
        refine one_ (i := 6) (N := some 176) (bm 12 14) rfl rfl (one_of HT_.out (by kernel_rfl)) (by decide) (fun K hK => ?_)
        refine goes_ Try.func99 (by kernel_rfl) rfl #[.slice Ao153 y370.length co153, .slice Ao159 y439.length co159] (by rfl) rfl rfl (by (try simp only [m1, m2, m3]); first | done | rfl) ?_
        with_reducible refine (impl_addVars.calls kj139 (fun k_ => some k_ = (.slice Ao153 y370.length co153 : Value).ownBlock) (.slice Ao153 y370.length co153) y370 _ _ y439 t442 w _ ?side1 ?side2 ?side3 ?side4 A149.out).mono ?_
        (case side1 => repeat (first | (with_reducible first | exact HB.out | apply qh | apply qi | apply qj | refine qk ?_ GE369.out) | exact HB.out))
        (case side2 => exact Kd.R_tight rfl HO_3.out)
        (case side3 => exact Kd.C_kept_own ((Kd.R_apart' HO441.out (Kd.R_typed HO_3.out) (by decide))) (fun k_ hk_ hs_ => (hk_.2) hs_))
        (case side4 => exact (qe HO441.out).2.1)
        rintro e w160 ⟨v443, rfl, ho0, hb, hkp⟩
        refine ⟨_, rfl, ?_⟩
        have n0_ := qm (blk_kept BK369.out hkp (fun hs_ => (fun e_ => (Kd.R_ne HO_3.out BK369.out (by decide)) e_) hs_))
        have n1_ := qm (qg (ok' := fun k_ => True) (Kd.R_keptB ((Kd.R_apart' HO441.out (Kd.R_typed HO_3.out) (by decide))) hkp (fun k_ hk_ hs_ => (hk_.2) hs_)) (fun k_ hk_ => trivial))
        have n2_ := qm (qg (ok' := fun k_ => some k_ ≠ (v443 : Value).ownBlock) (Kd.R_keptB (HO447.out) hkp (fun k_ hk_ hs_ => (hk_.2) hs_)) (fun k_ hk_ => fun e_ => Or.elim (ho0.1 k_ e_.symm) (fun hs_ => hk_.2.1 hs_) (fun hn_ => Nat.not_le.2 hk_.2.2 hn_)))
        have n3_ := qm (qg (ok' := fun k_ => some k_ ≠ (v446 : Value).ownBlock) ho0 (fun k_ hk_ => Or.elim hk_ (fun hs_ => fun e_ => (((HO447.out).1 k_ e_.symm).2) hs_) (fun hn_ => (Kd.fresh' (Kd.R_lt HO447.out) k_ hn_))))
        have n4_ := qm (hb)
        clear BK369
        clear HO441
        clear HO447
        clear HB
        clear HO_3
        have BK369 := n0_
        have HO441 := n1_
        have HO447 := n2_
        have HO444 := n3_
        have HB := n4_
        clear n0_ n1_ n2_ n3_ n4_
        (try clear hb)
        (try clear hkp)
        (try clear ho0)
        refine hK.out _ _ (fz8 BK369.out) (fun hHeld => ?_)
        clear hK K
        refine norm_ (a' := ?_) ?_ ?_
        rotate_left
        ·show Act.put _ (some 176) _ = _
         simp only [Act.put, s1, s2, s3, i64_w, i32_w]
         rfl
        exact norm_ (by simp only [putAll, Act.put, s1, s2, s3]) (hCont (.slice Ao159 y439.length co159, v443, v446) _ ⟨hHeld, HO441.out, HO444.out, HO447.out, BK369.out, (by repeat (first | (with_reducible first | exact HB.out | apply qh | apply qi | apply qj | refine qk ?_ GE369.out) | exact HB.out))⟩)
      ·skip
       refine Kd.R_lit_step (Kd.int .u8) _ 5 ?hg (N := 181) ?hd (xs := ([((l0_5.length : Int)) % 256] : List Int)) (inner := [.int .u8 (((l0_5.length : Int)) % 256)]) (ok := fun _ => True) (okp := fun _ => True) ?hr ?hp (fun _ hk => hk) trivial (Below.refl _ _) (Nat.le_refl _) (by simp) ?_; (case hd => rfl); (case hg => rfl); (case hr => first | (go_simp; done) | (go_simp; rfl)); (case hp => exact (Reps.one (show Kd.M (Kd.int .u8) _ _ _ (((l0_5.length : Int)) % 256) [.int .u8 (((l0_5.length : Int)) % 256)] from rfl) (Reps.none _ _)))
       intro v446 w155 ho156 hb hg_ hnew_
       clear hg_ hnew_
       (first | rw [← Ny445.out] at ho156 | (simp only [Int.reduceToNat] at ho156; rw [← Ny445.out] at ho156))
       have n0_ := qm (Kd.R_elder' HO_3.out (Kd.R_base ho156) hb)
       have n1_ := qm (Kd.R_lower (Kd.R_new' ho156 (Kd.R_lt HO_3.out)) (qs (by repeat (first | (with_reducible first | exact HB.out | apply qh | apply qi | apply qj | refine qk ?_ GE369.out) | exact HB.out))))
       have n2_ := qm (qv (g := gb369) BK369.out hb)
       have n3_ := qm (qt (by repeat (first | (with_reducible first | exact HB.out | apply qh | apply qi | apply qj | refine qk ?_ GE369.out) | exact HB.out)) hb)
       clear HO_3
       clear BK369
       clear HB
       have HO_3 := n0_
       have HO447 := n1_
       have BK369 := n2_
       have HB := n3_
       clear n0_ n1_ n2_ n3_
       clear hb ho156
       refine hK.out _ _ (fz8 BK369.out) (fun hHeld => ?_)
       clear hK K
       refine norm_ (a' := ?_) ?_ ?_
       rotate_left
       ·show Act.put _ (some 181) _ = _
        simp only [Act.put, s1, s2, s3, i64_w, i32_w]
        rfl
       refine one_ (i := 5) (N := some 175) (bb 4031 14) rfl rfl (one_of HT_.out (by kernel_rfl)) (by decide) (fun K hK => ?_)
       refine Kd.R_lit_step (Kd.int .i64) _ 3 ?hg (N := 175) ?hd (xs := ([a0_1, a0_2] : List Int)) (inner := [.int .i64 a0_1, .int .i64 a0_2]) (ok := fun _ => True) (okp := fun _ => True) ?hr ?hp (fun _ hk => hk) trivial (Below.refl _ _) (Nat.le_refl _) (by simp) ?_; (case hd => rfl); (case hg => rfl); (case hr => first | (go_simp; done) | (go_simp; rfl)); (case hp => exact (Reps.one (show Kd.M (Kd.int .i64) _ _ _ a0_1 [.int .i64 a0_1] from rfl) (Reps.one (show Kd.M (Kd.int .i64) _ _ _ a0_2 [.int .i64 a0_2] from rfl) (Reps.none _ _))))
       intro v440 w157 ho158 hb hg_ hnew_
       clear hg_ hnew_
       (first | rw [← Ny439.out] at ho158 | (simp only [Int.reduceToNat] at ho158; rw [← Ny439.out] at ho158))
       have n0_ := qm (qf HO_3.out hb)
       have n1_ := qm (qf HO447.out hb)
       have n2_ := qm (Kd.R_lower ho158 (qs (by repeat (first | (with_reducible first | exact HB.out | apply qh | apply qi | apply qj | refine qk ?_ GE369.out) | exact HB.out))))
       have n3_ := qm (qv (g := gb369) BK369.out hb)
       have n4_ := qm (qt (by repeat (first | (with_reducible first | exact HB.out | apply qh | apply qi | apply qj | refine qk ?_ GE369.out) | exact HB.out)) hb)
       clear HO_3
       clear HO447
       clear BK369
       clear HB
       have HO_3 := n0_
       have HO447 := n1_
       have HO441 := n2_
       have BK369 := n3_
       have HB := n4_
       clear n0_ n1_ n2_ n3_ n4_
       clear hb ho158
       obtain ⟨Ao159, co159, eo159⟩ := Kd.R_slice HO441.out
       (first | subst eo159 | (injection eo159 with f1_ f2_ f3_; have f4_ := f1_.symm; have f5_ := f3_.symm; clear f1_ f2_ f3_; subst f4_; subst f5_))
       refine hK.out _ _ (fz8 BK369.out) (fun hHeld => ?_)
       clear hK K
       refine norm_ (a' := ?_) ?_ ?_
       rotate_left
       ·show Act.put _ (some 175) _ = _
        simp only [Act.put, s1, s2, s3, i64_w, i32_w]
        rfl
       refine one_ (i := 6) (N := some 176) (bm 12 14) rfl rfl (one_of HT_.out (by kernel_rfl)) (by decide) (fun K hK => ?_)
       refine goes_ Try.func99 (by kernel_rfl) rfl #[.slice Ao153 y370.length co153, .slice Ao159 y439.length co159] (by rfl) rfl rfl (by (try simp only [m1, m2, m3]); first | done | rfl) ?_
       with_reducible refine (impl_addVars.calls kj139 (fun k_ => some k_ = (.slice Ao153 y370.length co153 : Value).ownBlock) (.slice Ao153 y370.length co153) y370 _ _ y439 t442 w _ ?side1 ?side2 ?side3 ?side4 A149.out).mono ?_
       (case side1 => repeat (first | (with_reducible first | exact HB.out | apply qh | apply qi | apply qj | refine qk ?_ GE369.out) | exact HB.out))
       (case side2 => exact Kd.R_tight rfl HO_3.out)
       (case side3 => exact Kd.C_kept_own ((Kd.R_apart' HO441.out (Kd.R_typed HO_3.out) (by decide))) (fun k_ hk_ hs_ => (hk_.2) hs_))
       (case side4 => exact (qe HO441.out).2.1)
       rintro e w160 ⟨v443, rfl, ho0, hb, hkp⟩
       refine ⟨_, rfl, ?_⟩
       have n0_ := qm (blk_kept BK369.out hkp (fun hs_ => (fun e_ => (Kd.R_ne HO_3.out BK369.out (by decide)) e_) hs_))
       have n1_ := qm (qg (ok' := fun k_ => some k_ ≠ (v443 : Value).ownBlock) (Kd.R_keptB (HO447.out) hkp (fun k_ hk_ hs_ => (hk_.2) hs_)) (fun k_ hk_ => fun e_ => Or.elim (ho0.1 k_ e_.symm) (fun hs_ => hk_.2.1 hs_) (fun hn_ => Nat.not_le.2 hk_.2.2 hn_)))
       have n2_ := qm (qg (ok' := fun k_ => True) (Kd.R_keptB ((Kd.R_apart' HO441.out (Kd.R_typed HO_3.out) (by decide))) hkp (fun k_ hk_ hs_ => (hk_.2) hs_)) (fun k_ hk_ => trivial))
       have n3_ := qm (qg (ok' := fun k_ => some k_ ≠ (v446 : Value).ownBlock) ho0 (fun k_ hk_ => Or.elim hk_ (fun hs_ => fun e_ => (((HO447.out).1 k_ e_.symm).2) hs_) (fun hn_ => (Kd.fresh' (Kd.R_lt HO447.out) k_ hn_))))
       have n4_ := qm (hb)
       clear BK369
       clear HO447
       clear HO441
       clear HB
       clear HO_3
       have BK369 := n0_
       have HO447 := n1_
       have HO441 := n2_
       have HO444 := n3_
       have HB := n4_
       clear n0_ n1_ n2_ n3_ n4_
       (try clear hb)
       (try clear hkp)
       (try clear ho0)
       refine hK.out _ _ (fz8 BK369.out) (fun hHeld => ?_)
       clear hK K
       refine norm_ (a' := ?_) ?_ ?_
       rotate_left
       ·show Act.put _ (some 176) _ = _
        simp only [Act.put, s1, s2, s3, i64_w, i32_w]
        rfl
       exact norm_ (by simp only [putAll, Act.put, s1, s2, s3]) (hCont (.slice Ao159 y439.length co159, v443, v446) _ ⟨hHeld, HO441.out, HO444.out, HO447.out, BK369.out, (by repeat (first | (with_reducible first | exact HB.out | apply qh | apply qi | apply qj | refine qk ?_ GE369.out) | exact HB.out))⟩)
     rintro ⟨v440, v443, v446⟩ w161 ⟨hS_, h0_, h1_, h2_, h3_, h4_⟩
     have n0_ : Aside0 (Kd.R (Kd.int .i64) 3 w161 w.heap.size (fun _ => True) v440 y439) := ⟨h0_⟩
     have n1_ : Aside0 (Kd.R (Kd.int .u8) 5 w161 w.heap.size (fun k_ => some k_ ≠ (v446 : Value).ownBlock) v443 t442) := ⟨h1_⟩
     have n2_ : Aside0 (Kd.R (Kd.int .u8) 5 w161 w.heap.size (fun k_ => some k_ ≠ (v443 : Value).ownBlock) v446 y445) := ⟨h2_⟩
     have n3_ : Aside0 (w161.heap[gb369]? = some (.cells #[.int .i64 a0_0, .int .i64 a0_1, .int .i64 a0_2, .int .i64 a0_3, .bool a0_4, .slice A0_5 l0_5.length c0_5, .slice A0_6 l0_6.length c0_6, .slice A0_7 l0_7.length c0_7] 55 (0, 0))) := ⟨h3_⟩
     have n4_ : Aside0 (Below w.heap.size w w161) := ⟨h4_⟩
     clear HO_3
     clear BK369
     clear HB
     clear h0_ h1_ h2_ h3_ h4_
     have HO441 := n0_
     have HO444 := n1_
     have HO447 := n2_
     have BK369 := n3_
     have HB := n4_
     clear n0_ n1_ n2_ n3_ n4_
     have hHeld : w161.cell? ⟨gb369, 0, none⟩ = some (.int .i64 a0_0) ∧ w161.cell? ⟨gb369, 1, none⟩ = some (.int .i64 a0_1) ∧ w161.cell? ⟨gb369, 2, none⟩ = some (.int .i64 a0_2) ∧ w161.cell? ⟨gb369, 3, none⟩ = some (.int .i64 a0_3) ∧ w161.cell? ⟨gb369, 4, none⟩ = some (.bool a0_4) ∧ w161.cell? ⟨gb369, 5, none⟩ = some (.slice A0_5 l0_5.length c0_5) ∧ w161.cell? ⟨gb369, 6, none⟩ = some (.slice A0_6 l0_6.length c0_6) ∧ w161.cell? ⟨gb369, 7, none⟩ = some (.slice A0_7 l0_7.length c0_7) := hS_
     obtain ⟨Ao163, co163, eo163⟩ := Kd.R_slice HO447.out
     (first | subst eo163 | (injection eo163 with f1_ f2_ f3_; have f4_ := f1_.symm; have f5_ := f3_.symm; clear f1_ f2_ f3_; subst f4_; subst f5_))
     refine norm_ (a' := ?_) ?_ ?_
     rotate_left
     ·simp only [putAll, Act.put, s1, s2, s3]
      rfl
     refine one_ (i := 12) (N := some 182) (bm 13 14) rfl rfl (one_of HT_.out (by kernel_rfl)) (by decide) (fun K hK => ?_)
     refine Kd.R_append_rows_step (Kd.int .u8) (w0 := w) w.heap.size (by rfl) (.tmp 176) (.tmp 181) 22 5 (.int .u8 0) 1 rfl Try.underlying22 info5 rfl (by decide) (by omega) v443 t442 y445 _ _ _ (fun k_ => some k_ ≠ (.slice Ao163 y445.length co163 : Value).ownBlock) (fun _ => False) rfl rfl ?aO ?aR (fun _ _ h => h) (fun _ h => h.elim) ?aF ?aB ?aS ?aL ?_
     (case aR => repeat (first | exact (qe HO447.out).2.2 | (with_reducible refine Kd.C_alloc ?_ _) | (with_reducible refine Kd.C_drewN ?_ _) | (with_reducible refine Kd.C_drew ?_)))
     (case aB => exact (by repeat (first | (with_reducible first | exact HB.out | apply qh | apply qi | apply qj | refine qk ?_ GE369.out) | exact HB.out)))
     (case aF => exact (fun k_ hk => Kd.fresh' (Kd.R_lt HO447.out) k_ hk))
     (case aO => exact HO444.out)
     (case aS => exact (qs (by repeat (first | (with_reducible first | exact HB.out | apply qh | apply qi | apply qj | refine qk ?_ GE369.out) | exact HB.out))))
     (case aL => have := LMc150.out; omega)
     intro v449 w162 ho hb hg hat
     rw [← Ny448.out] at ho
     have n0_ := qm (blk_grown (g := gb369) BK369.out hg (Kd.R_ne HO444.out BK369.out (by decide)))
     have n1_ := qm (Kd.R_over' HO441.out (Kd.R_typed HO444.out) (by decide) hg)
     have n2_ := qm (Kd.R_after (ok := (fun _ => True)) (by (with_reducible repeat (first | apply qb | apply qc | apply qd)); exact qg HO447.out (fun _ hk => ⟨trivial, hk⟩)) hg hat)
     have n3_ := qm (hb)
     have n4_ := qm (ho)
     clear BK369
     clear HO441
     clear HO447
     clear HB
     clear HO444
     have BK369 := n0_
     have HO441 := n1_
     have HO447 := n2_
     have HB := n3_
     have HO450 := n4_
     clear n0_ n1_ n2_ n3_ n4_
     clear ho hb hg hat
     refine hK.out _ _ (fz8 BK369.out) (fun hHeld => ?_)
     clear hK K
     refine norm_ (a' := ?_) ?_ ?_
     rotate_left
     ·show Act.put _ (some 182) _ = _
      simp only [Act.put, s1, s2, s3, i64_w, i32_w]
      rfl
     refine pu 13 3 (bm 14 14) HT_ (h := ⟨_, by intro w'; go_simp; with_reducible rfl, _, by simp only [Act.put, s1, s2, s3, i64_w, i32_w]; rfl, ?_⟩)
     refine done_ (done_of HT_.out (by kernel_rfl)) ?_
     try go_wp2
     have n0_ := qm (qd HO441.out)
     have n1_ := qm (qd HO447.out)
     have n2_ := qm (qd HO450.out)
     have n3_ := qm (qn BK369.out)
     have n4_ := qm (qj HB.out)
     clear HO441
     clear HO447
     clear HO450
     clear BK369
     clear HB
     have HO441 := n0_
     have HO447 := n1_
     have HO450 := n2_
     have BK369 := n3_
     have HB := n4_
     clear n0_ n1_ n2_ n3_ n4_
     refine start_ (n := 8) (S := fun w' => w'.cell? ⟨gb369, 0, none⟩ = some (.int .i64 a0_0) ∧ w'.cell? ⟨gb369, 1, none⟩ = some (.int .i64 a0_1) ∧ w'.cell? ⟨gb369, 2, none⟩ = some (.int .i64 a0_2) ∧ w'.cell? ⟨gb369, 3, none⟩ = some (.int .i64 a0_3) ∧ w'.cell? ⟨gb369, 4, none⟩ = some (.bool a0_4) ∧ w'.cell? ⟨gb369, 5, none⟩ = some (.slice A0_5 l0_5.length c0_5) ∧ w'.cell? ⟨gb369, 6, none⟩ = some (.slice A0_6 l0_6.length c0_6) ∧ w'.cell? ⟨gb369, 7, none⟩ = some (.slice A0_7 l0_7.length c0_7)) (ds := []) (bm 0 8) (by kernel_rfl) rfl rfl (fz8 BK369.out) (fun hHeld => ?_); refine with_tabW impl_frameBytes.tab44 impl_frameBytes.bits44 (fun HT_ HW_ => ?_)
     generalize w162.drew = w164 at HO441 HO447 HO450 BK369 HB hHeld ⊢
     refine pu 0 183 (bm 1 8) HT_ (h := ⟨_, by intro w'; go_simp; with_reducible rfl, _, by simp only [Act.put, s1, s2, s3, i64_w, i32_w]; rfl, ?_⟩)
     refine pu 1 184 (bm 2 8) HT_ (h := ⟨_, by intro w'; go_simp; with_reducible rfl, _, by simp only [Act.put, s1, s2, s3, i64_w, i32_w]; rfl, ?_⟩)
     refine pu 4 187 (bb 19 8) HT_ (h := ⟨_, by intro w'; go_simp; with_reducible rfl, _, by simp only [Act.put, s1, s2, s3, i64_w, i32_w]; rfl, ?_⟩)
     refine tk 2 185 (bb 23 8) HT_ HW_ (hS := hHeld) (h := ⟨_, by rintro w' ⟨s0, s1, s2, s3, s4, s5, s6, s7⟩; go_simp; with_reducible rfl, _, by simp only [Act.put, s1, s2, s3, i64_w, i32_w]; rfl, ?_⟩)
     refine tk 5 188 (bb 55 8) HT_ HW_ (hS := hHeld) (h := ⟨_, by rintro w' ⟨s0, s1, s2, s3, s4, s5, s6, s7⟩; go_simp; with_reducible rfl, _, by simp only [Act.put, s1, s2, s3, i64_w, i32_w]; rfl, ?_⟩)
     refine one_ (i := 3) (N := some 186) (bm 6 8) rfl rfl (one_of HT_.out (by kernel_rfl)) (by decide) (fun K hK => ?_)
     refine Kd.R_append_rows_step (Kd.int .u8) (w0 := w) w.heap.size (by rfl) (.tmp 183) (.tmp 185) 22 5 (.int .u8 0) 1 rfl Try.underlying22 info5 rfl (by decide) (by omega) v449 y448 l0_5 _ _ _ (fun k_ => some k_ ≠ (.slice Ao163 y445.length co163 : Value).ownBlock) (fun _ => False) rfl rfl ?aO ?aR (fun _ _ h => h) (fun _ h => h.elim) ?aF ?aB ?aS ?aL ?_
     (case aR => repeat (first | exact (Kd.C_below HR0_5.out HB.out) | (with_reducible refine Kd.C_alloc ?_ _) | (with_reducible refine Kd.C_drewN ?_ _) | (with_reducible refine Kd.C_drew ?_)))
     (case aB => exact (by repeat (first | (with_reducible first | exact HB.out | apply qh | apply qi | apply qj | refine qk ?_ GE369.out) | exact HB.out)))
     (case aF => exact (fun k_ hk => Kd.fresh' (Kd.R_lt HO447.out) k_ hk))
     (case aO => exact HO450.out)
     (case aS => exact (qs (by repeat (first | (with_reducible first | exact HB.out | apply qh | apply qi | apply qj | refine qk ?_ GE369.out) | exact HB.out))))
     (case aL => have := LMc151.out; omega)
     intro v452 w165 ho hb hg hat
     rw [← Ny451.out] at ho
     have n0_ := qm (blk_grown (g := gb369) BK369.out hg (Kd.R_ne HO450.out BK369.out (by decide)))
     have n1_ := qm (Kd.R_over' HO441.out (Kd.R_typed HO450.out) (by decide) hg)
     have n2_ := qm (Kd.R_after (ok := (fun _ => True)) HO447.out hg hat)
     have n3_ := qm (hb)
     have n4_ := qm (ho)
     clear BK369
     clear HO441
     clear HO447
     clear HB
     clear HO450
     have BK369 := n0_
     have HO441 := n1_
     have HO447 := n2_
     have HB := n3_
     have HO453 := n4_
     clear n0_ n1_ n2_ n3_ n4_
     clear ho hb hg hat
     refine hK.out _ _ (fz8 BK369.out) (fun hHeld => ?_)
     clear hK K
     refine norm_ (a' := ?_) ?_ ?_
     rotate_left
     ·show Act.put _ (some 186) _ = _
      simp only [Act.put, s1, s2, s3, i64_w, i32_w]
      rfl
     refine one_ (i := 6) (N := some 189) (bm 7 8) rfl rfl (one_of HT_.out (by kernel_rfl)) (by decide) (fun K hK => ?_)
     refine Kd.R_append_rows_step (Kd.int .u8) (w0 := w) w.heap.size (by rfl) (.tmp 186) (.tmp 188) 22 5 (.int .u8 0) 1 rfl Try.underlying22 info5 rfl (by decide) (by omega) v452 y451 l0_6 _ _ _ (fun k_ => some k_ ≠ (.slice Ao163 y445.length co163 : Value).ownBlock) (fun _ => False) rfl rfl ?aO ?aR (fun _ _ h => h) (fun _ h => h.elim) ?aF ?aB ?aS ?aL ?_
     (case aR => repeat (first | exact (Kd.C_below HR0_6.out HB.out) | (with_reducible refine Kd.C_alloc ?_ _) | (with_reducible refine Kd.C_drewN ?_ _) | (with_reducible refine Kd.C_drew ?_)))
     (case aB => exact (by repeat (first | (with_reducible first | exact HB.out | apply qh | apply qi | apply qj | refine qk ?_ GE369.out) | exact HB.out)))
     (case aF => exact (fun k_ hk => Kd.fresh' (Kd.R_lt HO447.out) k_ hk))
     (case aO => exact HO453.out)
     (case aS => exact (qs (by repeat (first | (with_reducible first | exact HB.out | apply qh | apply qi | apply qj | refine qk ?_ GE369.out) | exact HB.out))))
     (case aL => have := LMc152.out; omega)
     intro v455 w166 ho hb hg hat
     rw [← Ny454.out] at ho
     have n0_ := qm (blk_grown (g := gb369) BK369.out hg (Kd.R_ne HO453.out BK369.out (by decide)))
     have n1_ := qm (Kd.R_over' HO441.out (Kd.R_typed HO453.out) (by decide) hg)
     have n2_ := qm (Kd.R_after (ok := (fun _ => True)) HO447.out hg hat)
     have n3_ := qm (hb)
     have n4_ := qm (ho)
     clear BK369
     clear HO441
     clear HO447
     clear HB
     clear HO453
     have BK369 := n0_
     have HO441 := n1_
     have HO447 := n2_
     have HB := n3_
     have HO456 := n4_
     clear n0_ n1_ n2_ n3_ n4_
     clear ho hb hg hat
     refine hK.out _ _ (fz8 BK369.out) (fun hHeld => ?_)
     clear hK K
     refine norm_ (a' := ?_) ?_ ?_
     rotate_left
     ·show Act.put _ (some 189) _ = _
      simp only [Act.put, s1, s2, s3, i64_w, i32_w]
      rfl
     refine pu 7 3 (bm 8 8) HT_ (h := ⟨_, by intro w'; go_simp; with_reducible rfl, _, by simp only [Act.put, s1, s2, s3, i64_w, i32_w]; rfl, ?_⟩)
     refine done_ (done_of HT_.out (by kernel_rfl)) ?_
     try go_wp2
     go_ret
     exact ⟨_, by first | rfl | (simp <;> rfl) | (simp [*] <;> rfl), by (with_reducible repeat (first | apply qb | apply qc | apply qd)); exact qg HO456.out (fun _ hk => trivial), by repeat (first | (with_reducible first | exact HB.out | apply qh | apply qi | apply qj | refine qk ?_ GE369.out) | exact HB.out)⟩
    rw [if_neg c152] at H
    exact absurd H (by simp)
   rw [if_neg c151] at H
   exact absurd H (by simp)
  rw [if_neg c150] at H
  exact absurd H (by simp)
 rw [if_neg c148] at H
 have c148b0 : (a0_0 == 24) = false := beq_eq_false_iff_ne.mpr c148
 have c148b1 : (a0_0 != 24) = true := bne_iff_ne.mpr c148
 have HC167 := qm H
 clear H
 go_upto_if 190 with (fail)
 go_cut [190] (fun v190 wc => ∃ (kq : Nat) (x190_166 : Bool), v190 = .bool x190_166 ∧ Aside0 (impl_frameBytes.j6 kq y370 a0_0 x190_166 a0_0 a0_1 a0_2 a0_3 a0_4 l0_5 l0_6 l0_7 = some r) ∧ Aside0 (kq ≤ kj139) ∧ Aside0 (Kd.R (Kd.int .u8) 5 wc w.heap.size (fun _ => True) v371 y370) ∧ Aside0 (wc.heap[gb369]? = some (.cells #[.int .i64 a0_0, .int .i64 a0_1, .int .i64 a0_2, .int .i64 a0_3, .bool a0_4, (.slice A0_5 l0_5.length c0_5), (.slice A0_6 l0_6.length c0_6), (.slice A0_7 l0_7.length c0_7)] 55 (0, 0))) ∧ Aside0 (Below w.heap.size w wc))
 case first =>
  have H := HC167.out
  clear HC167
  by_cases c168 : a0_0 = 26
  ·rw [if_pos c168] at H
   have c168b0 : (a0_0 == 26) = true := beq_iff_eq.mpr c168
   have c168b1 : (a0_0 != 26) = false := bne_eq_false_iff_eq.mpr c168
   clear c168
   (first | rw [c168b0] | (simp only [i64_w, i32_w]; rw [c168b0]) | skip)
   have H' := qm H
   clear H
   as_aux_lemma =>
    go_wp2
    go_meet
    case rel => exact ⟨_, ((a0_0 == 26)), (by first | rfl | (simp; done) | (simp [*]; done)), H', ⟨by have := HJ62.out; have := HJ127.out; have := HJ139.out; omega⟩, ⟨HO_3.out⟩, ⟨BK369.out⟩, ⟨by repeat (first | (with_reducible first | exact HB.out | apply qh | apply qi | apply qj | refine qk ?_ GE369.out) | exact HB.out)⟩⟩
  rw [if_neg c168] at H
  have c168b0 : (a0_0 == 26) = false := beq_eq_false_iff_ne.mpr c168
  have c168b1 : (a0_0 != 26) = true := bne_iff_ne.mpr c168
  (first | rw [c168b0] | (simp only [i64_w, i32_w]; rw [c168b0]) | skip)
  have H' := qm H
  clear H
  as_aux_lemma =>
   go_wp2
   go_meet
   case rel => exact ⟨_, ((a0_0 == 27)), (by first | rfl | (simp; done) | (simp [*]; done)), H', ⟨by have := HJ62.out; have := HJ127.out; have := HJ139.out; omega⟩, ⟨HO_3.out⟩, ⟨BK369.out⟩, ⟨by repeat (first | (with_reducible first | exact HB.out | apply qh | apply qi | apply qj | refine qk ?_ GE369.out) | exact HB.out)⟩⟩
 clear HC167
 try clear c148
 try clear c148b0
 try clear c148b1
 obtain ⟨kq, x190_166, rfl, HA, HJ166, HO_3, BK369, HB⟩ := hcut
 cases kq with
 | zero => exact absurd HA.out (by simp [impl_frameBytes.j6])
 | succ kj166 => ?_
 have H := HA.out
 clear HA
 simp only [impl_frameBytes.j6] at H
 by_cases c169 : x190_166 = true
 ·subst c169
  rw [if_pos rfl] at H
  by_cases c170 : y370.length + l0_5.length < 140737488355328
  ·rw [if_pos c170] at H
   have LMc170 := qm c170
   clear c170
   obtain ⟨y457, hy457⟩ : ∃ y_ : List Int, y_ = (y370 ++ l0_5) := ⟨_, rfl⟩
   replace H : (some y457) = some r := by first | (rw [hy457]; with_reducible exact H) | (have H2_ := (Option.bind_some _ _).symm.trans H; rw [hy457]; with_reducible exact H2_) | (have H2_ := (Option.bind_some _ _).symm.trans H; with_reducible exact H2_) | with_reducible exact H | (rw [hy457]; exact H) | exact H
   have Ny457 := qm hy457
   clear hy457
   obtain rfl := Option.some.inj H
   as_aux_lemma =>
    obtain ⟨_, _, _, _, _, _, _, _, _, _, _, _, _, _, _, _⟩ := fc8 BK369.out
    go_wp2_with (first | ((with_reducible refine gate_builtin (b := .append) (xs := #[.tmp 193, .tmp 195]) rfl ?_); at_builtin; refine Kd.R_append_rows (Kd.int .u8) (w0 := w) w.heap.size rfl (.tmp 193) (.tmp 195) 22 5 (.int .u8 0) 1 rfl Try.underlying22 info5 rfl (by decide) (by omega) v371 y370 l0_5 _ _ _ (fun _ => True) (fun _ => False) rfl rfl ?aO ?aR (fun _ _ h => h) (fun _ h => h.elim) ?aF ?aB ?aS ?aL ?_; (case aR => repeat (first | exact (Kd.C_below HR0_5.out HB.out) | (with_reducible refine Kd.C_alloc ?_ _) | (with_reducible refine Kd.C_drewN ?_ _) | (with_reducible refine Kd.C_drew ?_))); (case aB => exact (by repeat (first | (with_reducible first | exact HB.out | apply qh | apply qi | apply qj | refine qk ?_ GE369.out) | exact HB.out))); (case aF => exact (fun _ _ => trivial)); (case aO => exact HO_3.out); (case aS => exact (qs (by repeat (first | (with_reducible first | exact HB.out | apply qh | apply qi | apply qj | refine qk ?_ GE369.out) | exact HB.out)))); (case aL => have := LMc170.out; omega); intro v458 w172 ho hb hg hat; rw [← Ny457.out] at ho; have n0_ := qm (blk_grown (g := gb369) BK369.out hg (Kd.R_ne HO_3.out BK369.out (by decide))); have n1_ := qm (hb); have n2_ := qm (ho); clear BK369; clear HB; clear HO_3; have BK369 := n0_; have HB := n1_; have HO459 := n2_; clear n0_ n1_ n2_; clear ho hb hg hat))
    go_ret
    exact ⟨_, by first | rfl | (simp <;> rfl) | (simp [*] <;> rfl), HO459.out, by repeat (first | (with_reducible first | exact HB.out | apply qh | apply qi | apply qj | refine qk ?_ GE369.out) | exact HB.out)⟩
  rw [if_neg c170] at H
  exact absurd H (by simp)
 replace c169 := Bool.eq_false_iff.mpr c169
 subst c169
 rw [if_neg nt] at H
 by_cases c173 : a0_0 = 28
 ·rw [if_pos c173] at H
  have c173b0 : (a0_0 == 28) = true := beq_iff_eq.mpr c173
  have c173b1 : (a0_0 != 28) = false := bne_eq_false_iff_eq.mpr c173
  clear c173
  obtain ⟨y460, hy460⟩ : ∃ y_ : List Int, y_ = (([a0_1, a0_2] : List Int)) := ⟨_, rfl⟩
  replace H : ((impl_addVars.f kj166 y370 y460).bind fun t463 => ((impl_addCounted.f kj166 t463 l0_5).bind fun t466 => (some t466))) = some r := by first | (rw [hy460]; with_reducible exact H) | (have H2_ := (Option.bind_some _ _).symm.trans H; rw [hy460]; with_reducible exact H2_) | (have H2_ := (Option.bind_some _ _).symm.trans H; with_reducible exact H2_) | with_reducible exact H | (rw [hy460]; exact H) | exact H
  have Ny460 := qm hy460
  clear hy460
  replace H := Option.bind_eq_some_iff.mp H
  obtain ⟨t463, A1740, H⟩ := H
  try dsimp only at H
  have A174 := qm A1740
  clear A1740
  replace H := Option.bind_eq_some_iff.mp H
  obtain ⟨t466, A1750, H⟩ := H
  replace H : (some t466) = some r := H
  have A175 := qm A1750
  clear A1750
  obtain rfl := Option.some.inj H
  try go_wp2
  have n0_ := qm (qd HO_3.out)
  have n1_ := qm (qn BK369.out)
  have n2_ := qm (qj HB.out)
  clear HO_3
  clear BK369
  clear HB
  have HO_3 := n0_
  have BK369 := n1_
  have HB := n2_
  clear n0_ n1_ n2_
  refine start_ (n := 11) (S := fun w' => w'.cell? ⟨gb369, 0, none⟩ = some (.int .i64 a0_0) ∧ w'.cell? ⟨gb369, 1, none⟩ = some (.int .i64 a0_1) ∧ w'.cell? ⟨gb369, 2, none⟩ = some (.int .i64 a0_2) ∧ w'.cell? ⟨gb369, 3, none⟩ = some (.int .i64 a0_3) ∧ w'.cell? ⟨gb369, 4, none⟩ = some (.bool a0_4) ∧ w'.cell? ⟨gb369, 5, none⟩ = some (.slice A0_5 l0_5.length c0_5) ∧ w'.cell? ⟨gb369, 6, none⟩ = some (.slice A0_6 l0_6.length c0_6) ∧ w'.cell? ⟨gb369, 7, none⟩ = some (.slice A0_7 l0_7.length c0_7)) (ds := []) (bm 0 11) (by kernel_rfl) rfl rfl (fz8 BK369.out) (fun hHeld => ?_); refine with_tabW impl_frameBytes.tab49 impl_frameBytes.bits49 (fun HT_ HW_ => ?_)
  generalize wc.drew = w176 at HO_3 BK369 HB hHeld ⊢
  refine pu 0 199 (bm 1 11) HT_ (h := ⟨_, by intro w'; go_simp; with_reducible rfl, _, by simp only [Act.put, s1, s2, s3, i64_w, i32_w]; rfl, ?_⟩)
  refine pu 1 200 (bm 2 11) HT_ (h := ⟨_, by intro w'; go_simp; with_reducible rfl, _, by simp only [Act.put, s1, s2, s3, i64_w, i32_w]; rfl, ?_⟩)
  refine pu 3 202 (bb 11 11) HT_ (h := ⟨_, by intro w'; go_simp; with_reducible rfl, _, by simp only [Act.put, s1, s2, s3, i64_w, i32_w]; rfl, ?_⟩)
  refine pu 7 206 (bb 139 11) HT_ (h := ⟨_, by intro w'; go_simp; with_reducible rfl, _, by simp only [Act.put, s1, s2, s3, i64_w, i32_w]; rfl, ?_⟩)
  refine tk 2 201 (bb 143 11) HT_ HW_ (hS := hHeld) (h := ⟨_, by rintro w' ⟨s0, s1, s2, s3, s4, s5, s6, s7⟩; go_simp; with_reducible rfl, _, by simp only [Act.put, s1, s2, s3, i64_w, i32_w]; rfl, ?_⟩)
  refine tk 4 203 (bb 159 11) HT_ HW_ (hS := hHeld) (h := ⟨_, by rintro w' ⟨s0, s1, s2, s3, s4, s5, s6, s7⟩; go_simp; with_reducible rfl, _, by simp only [Act.put, s1, s2, s3, i64_w, i32_w]; rfl, ?_⟩)
  refine tk 8 207 (bb 415 11) HT_ HW_ (hS := hHeld) (h := ⟨_, by rintro w' ⟨s0, s1, s2, s3, s4, s5, s6, s7⟩; go_simp; with_reducible rfl, _, by simp only [Act.put, s1, s2, s3, i64_w, i32_w]; rfl, ?_⟩)
  refine one_ (i := 5) (N := some 204) (bb 447 11) rfl rfl (one_of HT_.out (by kernel_rfl)) (by decide) (fun K hK => ?_)
  refine Kd.R_lit_step (Kd.int .i64) _ 3 ?hg (N := 204) ?hd (xs := ([a0_1, a0_2] : List Int)) (inner := [.int .i64 a0_1, .int .i64 a0_2]) (ok := fun _ => True) (okp := fun _ => True) ?hr ?hp (fun _ hk => hk) trivial (Below.refl _ _) (Nat.le_refl _) (by simp) ?_; (case hd => rfl); (case hg => rfl); (case hr => first | (go_simp; done) | (go_simp; rfl)); (case hp => exact (Reps.one (show Kd.M (Kd.int .i64) _ _ _ a0_1 [.int .i64 a0_1] from rfl) (Reps.one (show Kd.M (Kd.int .i64) _ _ _ a0_2 [.int .i64 a0_2] from rfl) (Reps.none _ _))))
  intro v461 w177 ho178 hb hg_ hnew_
  clear hg_ hnew_
  (first | rw [← Ny460.out] at ho178 | (simp only [Int.reduceToNat] at ho178; rw [← Ny460.out] at ho178))
  have n0_ := qm (qf HO_3.out hb)
  have n1_ := qm (Kd.R_lower ho178 (qs (by repeat (first | (with_reducible first | exact HB.out | apply qh | apply qi | apply qj | refine qk ?_ GE369.out) | exact HB.out))))
  have n2_ := qm (qv (g := gb369) BK369.out hb)
  have n3_ := qm (qt (by repeat (first | (with_reducible first | exact HB.out | apply qh | apply qi | apply qj | refine qk ?_ GE369.out) | exact HB.out)) hb)
  clear HO_3
  clear BK369
  clear HB
  have HO_3 := n0_
  have HO462 := n1_
  have BK369 := n2_
  have HB := n3_
  clear n0_ n1_ n2_ n3_
  clear hb ho178
  obtain ⟨Ao179, co179, eo179⟩ := Kd.R_slice HO_3.out
  (first | subst eo179 | (injection eo179 with f1_ f2_ f3_; have f4_ := f1_.symm; have f5_ := f3_.symm; clear f1_ f2_ f3_; subst f4_; subst f5_))
  obtain ⟨Ao180, co180, eo180⟩ := Kd.R_slice HO462.out
  (first | subst eo180 | (injection eo180 with f1_ f2_ f3_; have f4_ := f1_.symm; have f5_ := f3_.symm; clear f1_ f2_ f3_; subst f4_; subst f5_))
  refine hK.out _ _ (fz8 BK369.out) (fun hHeld => ?_)
  clear hK K
  refine norm_ (a' := ?_) ?_ ?_
  rotate_left
  ·show Act.put _ (some 204) _ = _
   simp only [Act.put, s1, s2, s3, i64_w, i32_w]
   rfl
  refine one_ (i := 6) (N := some 205) (bm 9 11) rfl rfl (one_of HT_.out (by kernel_rfl)) (by decide) (fun K hK => ?_)
  refine goes_ Try.func99 (by kernel_rfl) rfl #[.slice Ao179 y370.length co179, .slice Ao180 y460.length co180] (by rfl) rfl rfl (by (try simp only [m1, m2, m3]); first | done | rfl) ?_
  with_reducible refine (impl_addVars.calls kj166 (fun k_ => some k_ = (.slice Ao179 y370.length co179 : Value).ownBlock) (.slice Ao179 y370.length co179) y370 _ _ y460 t463 w _ ?side1 ?side2 ?side3 ?side4 A174.out).mono ?_
  (case side1 => repeat (first | (with_reducible first | exact HB.out | apply qh | apply qi | apply qj | refine qk ?_ GE369.out) | exact HB.out))
  (case side2 => exact Kd.R_tight rfl HO_3.out)
  (case side3 => exact Kd.C_kept_own ((Kd.R_apart' HO462.out (Kd.R_typed HO_3.out) (by decide))) (fun k_ hk_ hs_ => (hk_.2) hs_))
  (case side4 => exact (qe HO462.out).2.1)
  rintro e w181 ⟨v464, rfl, ho0, hb, hkp⟩
  refine ⟨_, rfl, ?_⟩
  have n0_ := qm (blk_kept BK369.out hkp (fun hs_ => (fun e_ => (Kd.R_ne HO_3.out BK369.out (by decide)) e_) hs_))
  have n1_ := qm (qg (ok' := fun k_ => True) (Kd.R_keptB ((Kd.R_apart' HO462.out (Kd.R_typed HO_3.out) (by decide))) hkp (fun k_ hk_ hs_ => (hk_.2) hs_)) (fun k_ hk_ => trivial))
  have n2_ := qm (qg (ok' := fun k_ => True) ho0 (fun k_ hk_ => trivial))
  have n3_ := qm (hb)
  clear BK369
  clear HO462
  clear HB
  clear HO_3
  have BK369 := n0_
  have HO462 := n1_
  have HO465 := n2_
  have HB := n3_
  clear n0_ n1_ n2_ n3_
  (try clear hb)
  (try clear hkp)
  (try clear ho0)
  obtain ⟨Ao182, co182, eo182⟩ := Kd.R_slice HO465.out
  (first | subst eo182 | (injection eo182 with f1_ f2_ f3_; have f4_ := f1_.symm; have f5_ := f3_.symm; clear f1_ f2_ f3_; subst f4_; subst f5_))
  refine hK.out _ _ (fz8 BK369.out) (fun hHeld => ?_)
  clear hK K
  refine norm_ (a' := ?_) ?_ ?_
  rotate_left
  ·show Act.put _ (some 205) _ = _
   simp only [Act.put, s1, s2, s3, i64_w, i32_w]
   rfl
  refine one_ (i := 9) (N := some 208) (bm 10 11) rfl rfl (one_of HT_.out (by kernel_rfl)) (by decide) (fun K hK => ?_)
  refine goes_ Try.func96 (by kernel_rfl) rfl #[.slice Ao182 t463.length co182, .slice A0_5 l0_5.length c0_5] (by rfl) rfl rfl (by (try simp only [m1, m2, m3]); first | done | rfl) ?_
  with_reducible refine (impl_addCounted.calls kj166 (fun k_ => some k_ = (.slice Ao182 t463.length co182 : Value).ownBlock) (.slice Ao182 t463.length co182) t463 _ _ l0_5 t466 w _ ?side1 ?side2 ?side3 ?side4 A175.out).mono ?_
  (case side1 => repeat (first | (with_reducible first | exact HB.out | apply qh | apply qi | apply qj | refine qk ?_ GE369.out) | exact HB.out))
  (case side2 => exact Kd.R_tight rfl HO465.out)
  (case side3 => exact Kd.C_kept_came (Kd.heap_int .u8) HR0_5.out (by repeat (first | (with_reducible first | exact HB.out | apply qh | apply qi | apply qj | refine qk ?_ GE369.out) | exact HB.out)) (fun k_ hs_ => (fun e_ => Kd.R_base HO465.out k_ e_.symm) hs_))
  (case side4 => exact HC0_5.out)
  rintro e w183 ⟨v467, rfl, ho0, hb, hkp⟩
  refine ⟨_, rfl, ?_⟩
  have n0_ := qm (blk_kept BK369.out hkp (fun hs_ => (fun e_ => (Kd.R_ne HO465.out BK369.out (by decide)) e_) hs_))
  have n1_ := qm (qg (ok' := fun k_ => True) (Kd.R_keptB ((Kd.R_apart' HO462.out (Kd.R_typed HO465.out) (by decide))) hkp (fun k_ hk_ hs_ => (hk_.2) hs_)) (fun k_ hk_ => trivial))
  have n2_ := qm (qg (ok' := fun k_ => True) ho0 (fun k_ hk_ => trivial))
  have n3_ := qm (hb)
  clear BK369
  clear HO462
  clear HB
  clear HO465
  have BK369 := n0_
  have HO462 := n1_
  have HO468 := n2_
  have HB := n3_
  clear n0_ n1_ n2_ n3_
  (try clear hb)
  (try clear hkp)
  (try clear ho0)
  refine hK.out _ _ (fz8 BK369.out) (fun hHeld => ?_)
  clear hK K
  refine norm_ (a' := ?_) ?_ ?_
  rotate_left
  ·show Act.put _ (some 208) _ = _
   simp only [Act.put, s1, s2, s3, i64_w, i32_w]
   rfl
  refine pu 10 3 (bm 11 11) HT_ (h := ⟨_, by intro w'; go_simp; with_reducible rfl, _, by simp only [Act.put, s1, s2, s3, i64_w, i32_w]; rfl, ?_⟩)
  refine done_ (done_of HT_.out (by kernel_rfl)) ?_
  try go_wp2
  go_ret
  exact ⟨_, by first | rfl | (simp <;> rfl) | (simp [*] <;> rfl), HO468.out, by repeat (first | (with_reducible first | exact HB.out | apply qh | apply qi | apply qj | refine qk ?_ GE369.out) | exact HB.out)⟩
 rw [if_neg c173] at H
 have c173b0 : (a0_0 == 28) = false := beq_eq_false_iff_ne.mpr c173
 have c173b1 : (a0_0 != 28) = true := bne_iff_ne.mpr c173
 by_cases c184 : a0_0 = 29
 ·rw [if_pos c184] at H
  have c184b0 : (a0_0 == 29) = true := beq_iff_eq.mpr c184
  have c184b1 : (a0_0 != 29) = false := bne_eq_false_iff_eq.mpr c184
  clear c184
  replace H := Option.bind_eq_some_iff.mp H
  obtain ⟨t469, A1850, H⟩ := H
  try dsimp only at H
  have A185 := qm A1850
  clear A1850
  replace H := Option.bind_eq_some_iff.mp H
  obtain ⟨t472, A1860, H⟩ := H
  replace H : (some t472) = some r := H
  have A186 := qm A1860
  clear A1860
  obtain rfl := Option.some.inj H
  try go_wp2
  have n0_ := qm (qd HO_3.out)
  have n1_ := qm (qn BK369.out)
  have n2_ := qm (qj HB.out)
  clear HO_3
  clear BK369
  clear HB
  have HO_3 := n0_
  have BK369 := n1_
  have HB := n2_
  clear n0_ n1_ n2_
  obtain ⟨Ao188, co188, eo188⟩ := Kd.R_slice HO_3.out
  (first | subst eo188 | (injection eo188 with f1_ f2_ f3_; have f4_ := f1_.symm; have f5_ := f3_.symm; clear f1_ f2_ f3_; subst f4_; subst f5_))
  refine start_ (n := 8) (S := fun w' => w'.cell? ⟨gb369, 0, none⟩ = some (.int .i64 a0_0) ∧ w'.cell? ⟨gb369, 1, none⟩ = some (.int .i64 a0_1) ∧ w'.cell? ⟨gb369, 2, none⟩ = some (.int .i64 a0_2) ∧ w'.cell? ⟨gb369, 3, none⟩ = some (.int .i64 a0_3) ∧ w'.cell? ⟨gb369, 4, none⟩ = some (.bool a0_4) ∧ w'.cell? ⟨gb369, 5, none⟩ = some (.slice A0_5 l0_5.length c0_5) ∧ w'.cell? ⟨gb369, 6, none⟩ = some (.slice A0_6 l0_6.length c0_6) ∧ w'.cell? ⟨gb369, 7, none⟩ = some (.slice A0_7 l0_7.length c0_7)) (ds := []) (bm 0 8) (by kernel_rfl) rfl rfl (fz8 BK369.out) (fun hHeld => ?_); refine with_tabW impl_frameBytes.tab51 impl_frameBytes.bits51 (fun HT_ HW_ => ?_)
  generalize wc.drew = w187 at HO_3 BK369 HB hHeld ⊢
  refine pu 0 211 (bm 1 8) HT_ (h := ⟨_, by intro w'; go_simp; with_reducible rfl, _, by simp only [Act.put, s1, s2, s3, i64_w, i32_w]; rfl, ?_⟩)
  refine pu 1 212 (bm 2 8) HT_ (h := ⟨_, by intro w'; go_simp; with_reducible rfl, _, by simp only [Act.put, s1, s2, s3, i64_w, i32_w]; rfl, ?_⟩)
  refine pu 4 215 (bb 19 8) HT_ (h := ⟨_, by intro w'; go_simp; with_reducible rfl, _, by simp only [Act.put, s1, s2, s3, i64_w, i32_w]; rfl, ?_⟩)
  refine tk 2 213 (bb 23 8) HT_ HW_ (hS := hHeld) (h := ⟨_, by rintro w' ⟨s0, s1, s2, s3, s4, s5, s6, s7⟩; go_simp; with_reducible rfl, _, by simp only [Act.put, s1, s2, s3, i64_w, i32_w]; rfl, ?_⟩)
  refine tk 5 216 (bb 55 8) HT_ HW_ (hS := hHeld) (h := ⟨_, by rintro w' ⟨s0, s1, s2, s3, s4, s5, s6, s7⟩; go_simp; with_reducible rfl, _, by simp only [Act.put, s1, s2, s3, i64_w, i32_w]; rfl, ?_⟩)
  refine one_ (i := 3) (N := some 214) (bm 6 8) rfl rfl (one_of HT_.out (by kernel_rfl)) (by decide) (fun K hK => ?_)
  refine goes_ Try.func59 (by kernel_rfl) rfl #[.slice Ao188 y370.length co188, .int .i64 a0_1] (by rfl) rfl rfl (by (try simp only [m1, m2, m3]); first | done | rfl) ?_
  with_reducible refine (impl_addVar.calls kj166 (fun k_ => some k_ = (.slice Ao188 y370.length co188 : Value).ownBlock) (.slice Ao188 y370.length co188) y370 a0_1 t469 w _ ?side1 ?side2 A185.out).mono ?_
  (case side1 => repeat (first | (with_reducible first | exact HB.out | apply qh | apply qi | apply qj | refine qk ?_ GE369.out) | exact HB.out))
  (case side2 => exact Kd.R_tight rfl HO_3.out)
  rintro e w189 ⟨v470, rfl, ho0, hb, hkp⟩
  refine ⟨_, rfl, ?_⟩
  have n0_ := qm (blk_kept BK369.out hkp (fun hs_ => (fun e_ => (Kd.R_ne HO_3.out BK369.out (by decide)) e_) hs_))
  have n1_ := qm (qg (ok' := fun k_ => True) ho0 (fun k_ hk_ => trivial))
  have n2_ := qm (hb)
  clear BK369
  clear HB
  clear HO_3
  have BK369 := n0_
  have HO471 := n1_
  have HB := n2_
  clear n0_ n1_ n2_
  (try clear hb)
  (try clear hkp)
  (try clear ho0)
  obtain ⟨Ao190, co190, eo190⟩ := Kd.R_slice HO471.out
  (first | subst eo190 | (injection eo190 with f1_ f2_ f3_; have f4_ := f1_.symm; have f5_ := f3_.symm; clear f1_ f2_ f3_; subst f4_; subst f5_))
  refine hK.out _ _ (fz8 BK369.out) (fun hHeld => ?_)
  clear hK K
  refine norm_ (a' := ?_) ?_ ?_
  rotate_left
  ·show Act.put _ (some 214) _ = _
   simp only [Act.put, s1, s2, s3, i64_w, i32_w]
   rfl
  refine one_ (i := 6) (N := some 217) (bm 7 8) rfl rfl (one_of HT_.out (by kernel_rfl)) (by decide) (fun K hK => ?_)
  refine goes_ Try.func96 (by kernel_rfl) rfl #[.slice Ao190 t469.length co190, .slice A0_5 l0_5.length c0_5] (by rfl) rfl rfl (by (try simp only [m1, m2, m3]); first | done | rfl) ?_
  with_reducible refine (impl_addCounted.calls kj166 (fun k_ => some k_ = (.slice Ao190 t469.length co190 : Value).ownBlock) (.slice Ao190 t469.length co190) t469 _ _ l0_5 t472 w _ ?side1 ?side2 ?side3 ?side4 A186.out).mono ?_
  (case side1 => repeat (first | (with_reducible first | exact HB.out | apply qh | apply qi | apply qj | refine qk ?_ GE369.out) | exact HB.out))
  (case side2 => exact Kd.R_tight rfl HO471.out)
  (case side3 => exact Kd.C_kept_came (Kd.heap_int .u8) HR0_5.out (by repeat (first | (with_reducible first | exact HB.out | apply qh | apply qi | apply qj | refine qk ?_ GE369.out) | exact HB.out)) (fun k_ hs_ => (fun e_ => Kd.R_base HO471.out k_ e_.symm) hs_))
  (case side4 => exact HC0_5.out)
  rintro e w191 ⟨v473, rfl, ho0, hb, hkp⟩
  refine ⟨_, rfl, ?_⟩
  have n0_ := qm (blk_kept BK369.out hkp (fun hs_ => (fun e_ => (Kd.R_ne HO471.out BK369.out (by decide)) e_) hs_))
  have n1_ := qm (qg (ok' := fun k_ => True) ho0 (fun k_ hk_ => trivial))
  have n2_ := qm (hb)
  clear BK369
  clear HB
  clear HO471
  have BK369 := n0_
  have HO474 := n1_
  have HB := n2_
  clear n0_ n1_ n2_
  (try clear hb)
  (try clear hkp)
  (try clear ho0)
  refine hK.out _ _ (fz8 BK369.out) (fun hHeld => ?_)
  clear hK K
  refine norm_ (a' := ?_) ?_ ?_
  rotate_left
  ·show Act.put _ (some 217) _ = _
   simp only [Act.put, s1, s2, s3, i64_w, i32_w]
   rfl
  refine pu 7 3 (bm 8 8) HT_ (h := ⟨_, by intro w'; go_simp; with_reducible rfl, _, by simp only [Act.put, s1, s2, s3, i64_w, i32_w]; rfl, ?_⟩)
  refine done_ (done_of HT_.out (by kernel_rfl)) ?_
  try go_wp2
  go_ret
  exact ⟨_, by first | rfl | (simp <;> rfl) | (simp [*] <;> rfl), HO474.out, by repeat (first | (with_reducible first | exact HB.out | apply qh | apply qi | apply qj | refine qk ?_ GE369.out) | exact HB.out)⟩
 rw [if_neg c184] at H
 have c184b0 : (a0_0 == 29) = false := beq_eq_false_iff_ne.mpr c184
 have c184b1 : (a0_0 != 29) = true := bne_iff_ne.mpr c184
 by_cases c192 : a0_0 = 48
 ·rw [if_pos c192] at H
  have c192b0 : (a0_0 == 48) = true := beq_iff_eq.mpr c192
  have c192b1 : (a0_0 != 48) = false := bne_eq_false_iff_eq.mpr c192
  clear c192
  by_cases c193 : 0 < (y370.length : Int)
  ·rw [if_pos c193] at H
   have c193b0 : decide (0 < (y370.length : Int)) = true := decide_eq_true c193
   have c193b1 : decide (0 < y370.length) = true := decide_eq_true (by omega)
   clear c193
   obtain ⟨y475, hy475⟩ : ∃ y_ : List Int, y_ = (y370.set (0 : Int).toNat 49) := ⟨_, rfl⟩
   replace H : ((impl_addCounted.f kj166 y475 l0_5).bind fun t476 => (some t476)) = some r := by first | (rw [hy475]; with_reducible exact H) | (have H2_ := (Option.bind_some _ _).symm.trans H; rw [hy475]; with_reducible exact H2_) | (have H2_ := (Option.bind_some _ _).symm.trans H; with_reducible exact H2_) | with_reducible exact H | (rw [hy475]; exact H) | exact H
   have Ny475 := qm hy475
   clear hy475
   replace H := Option.bind_eq_some_iff.mp H
   obtain ⟨t476, A1950, H⟩ := H
   try dsimp only at H
   have A195 := qm A1950
   clear A1950
   obtain rfl := Option.some.inj H
   as_aux_lemma =>
    have p194 : 0 ≤ (0 : Int) := (by omega)
    have q194 : (0 : Int) < ((y370.length : Int) : Int) := of_decide_eq_true (by assumption)
    have qi194 : (0 < y370.length) = True := eq_true (by omega)
    obtain ⟨go194, co194, eo194, gb194, gl194, cl194, HG194⟩ := Kd.R_form HO_3.out (by omega)
    (first | cases eo194 | (injection eo194 with ea_ en_ ec_; (first | subst ea_ | (injection ea_ with ea_; subst ea_)); subst ec_; clear en_))
    have GB194 := qm gb194
    have GG194 := qm HG194
    clear gb194 gl194 HG194
    obtain ⟨hx194_0, hf194_0⟩ := Kd.R_celln 0 HO_3.out (0 : Int) p194 q194
    (try rw [show ((0 : Int)).toNat = 0 from rfl] at hx194_0)
    (try simp only [Nat.reduceMul, Nat.zero_mul, Nat.zero_add, Nat.reduceAdd] at hx194_0)
    (try rw [show ((0 : Int)).toNat = 0 from rfl] at hf194_0)
    (try simp only [Nat.reduceMul, Nat.zero_mul, Nat.zero_add, Nat.reduceAdd] at hf194_0)
    replace p194 := eq_true p194
    replace q194 := eq_true q194
    have HP196 := Kd.R_putg HO_3.out (0 : Int) 49
    go_wp2_with (first | ((with_reducible refine gate_store (t := 5) (p := 221) rfl ?_); refine store_event (t := 5) (p := 221) (v := ?vo_w197) (w1 := (wc.setCell ⟨go194, (0 : Int).toNat, none⟩ (.int .u8 49))) ?hg ?ho ?hn ?hr ?_; (case ho => rfl); (case hg => rfl); (case hn => rfl); (case hr => first | (go_simp; done) | (go_simp; rfl)); intro w197 hw; have hg : wc.grownBy w197 (some go194) := (by rw [hw]; exact HP196.2); have hp_ : Kd.R (Kd.int .u8) 5 w197 w.heap.size (fun _ => True) (.slice (some ⟨go194, 0, none⟩) y370.length co194) y475 := (by rw [hw, Ny475.out]; exact HP196.1); clear HP196; have n0_ := qm (hp_); have n1_ := qm (blk_grown (g := gb369) BK369.out hg (Kd.R_ne HO_3.out BK369.out (by decide))); have n2_ := qm ((by rw [hw]; exact qk (HB.out) GB194.out : Below w.heap.size w w197)); clear HO_3; clear BK369; clear HB; have HO_3 := n0_; have BK369 := n1_; have HB := n2_; clear n0_ n1_ n2_; clear hg hw hp_; obtain ⟨_, _, _, _, _, _, _, _, _, _, _, _, _, _, _, _⟩ := fc8 BK369.out) | ((with_reducible refine gate_callee (f := 96) rfl ?_); refine goesL_ (some 225) rfl rfl Try.func96 (by kernel_rfl) rfl #[.slice (some ⟨go194, 0, none⟩) y370.length co194, .slice A0_5 l0_5.length c0_5] rfl (by (try simp only [m1, m2, m3]); first | done | rfl) ?_; (with_reducible refine (impl_addCounted.calls kj166 (fun k_ => some k_ = (.slice (some ⟨go194, 0, none⟩) y370.length co194 : Value).ownBlock) (.slice (some ⟨go194, 0, none⟩) y370.length co194) y475 _ _ l0_5 t476 w _ ?side1 ?side2 ?side3 ?side4 A195.out).mono ?_); (case side1 => repeat (first | (with_reducible first | exact HB.out | apply qh | apply qi | apply qj | refine qk ?_ GE369.out) | exact HB.out)); (case side2 => exact Kd.R_tight rfl HO_3.out); (case side3 => exact Kd.C_kept_came (Kd.heap_int .u8) HR0_5.out (by repeat (first | (with_reducible first | exact HB.out | apply qh | apply qi | apply qj | refine qk ?_ GE369.out) | exact HB.out)) (fun k_ hs_ => (fun e_ => Kd.R_base HO_3.out k_ e_.symm) hs_)); (case side4 => exact HC0_5.out); rintro e w199 ⟨v477, rfl, ho0, hb, hkp⟩; refine ⟨_, rfl, ?_⟩; have n0_ := qm (blk_kept BK369.out hkp (fun hs_ => (fun e_ => (Kd.R_ne HO_3.out BK369.out (by decide)) e_) hs_)); have n1_ := qm (qg (ok' := fun k_ => True) ho0 (fun k_ hk_ => trivial)); have n2_ := qm (hb); clear BK369; clear HB; clear HO_3; have BK369 := n0_; have HO478 := n1_; have HB := n2_; clear n0_ n1_ n2_; (try clear hb); (try clear hkp); (try clear ho0)))
    go_ret
    exact ⟨_, by first | rfl | (simp <;> rfl) | (simp [*] <;> rfl), HO478.out, by repeat (first | (with_reducible first | exact HB.out | apply qh | apply qi | apply qj | refine qk ?_ GE369.out) | exact HB.out)⟩
  rw [if_neg c193] at H
  exact absurd H (by simp)
 rw [if_neg c192] at H
 have c192b0 : (a0_0 == 48) = false := beq_eq_false_iff_ne.mpr c192
 have c192b1 : (a0_0 != 48) = true := bne_iff_ne.mpr c192
 obtain rfl := Option.some.inj H
 as_aux_lemma =>
  go_wp2
  go_ret
  exact ⟨_, by first | rfl | (simp <;> rfl) | (simp [*] <;> rfl), HO_3.out, by repeat (first | (with_reducible first | exact HB.out | apply qh | apply qi | apply qj | refine qk ?_ GE369.out) | exact HB.out)⟩
end Go.Proofs.Ytdojcdhlcnlohaa.SFnExactFrameBytes
