/- The walk of functions that the law FnExactFrameBytes uses, written by program. -/
import Derived.Test.YtdojcdhlcnlohaaSFnExactFrameBytesx0
import Derived.Test.YtdojcdhlcnlohaaSteps2
namespace Go.Proofs.Ytdojcdhlcnlohaa.SFnExactFrameBytes
open Go.Proofs.Ytdojcdhlcnlohaa.Steps2 Go.RowKit Go.Proofs.YtdojcdhlcnlohaaW.PrintWords Go.Proofs.YtdojcdhlcnlohaaW.PrintLast Go.Proofs.YtdojcdhlcnlohaaW.PrintMore
open Go.Proofs.YtdojcdhlcnlohaaW.PrintWords renaming below_alloc → qh, pw_below_drewN → qi, below_drew1 → qj, below_set → qk, blk_drewN → ql, blk_drew → qn, blk_alloc → qo, blk_put → qp, blk_far → qr, below_size → qs
open Go.Proofs.YtdojcdhlcnlohaaW.PrintWords.Aside0 renaming mk → qm
attribute [local go_sem] max2_int min2_int max_two min_two max_three min_three max_four min_four 
set_option linter.unusedVariables false
set_option linter.unusedSimpArgs false
/-! ### spec_l05Kind: function 71 -/
mutual
def spec_l05Kind.j0 : Nat → Int → Bool → Bool → Bool → Bool → Bool → Bool → Bool → Int → Int → Int → Option (Bool × Bool × Bool × Bool × Bool × Bool × Int × Int × Int)
 | 0, _, _, _, _, _, _, _, _, _, _, _ => none
 | k + 1, x5, x7, x148000, x148001, x148002, x148003, x148004, x148005, x148006, x148007, x148008 => if x7 = true then (some (x148000, x148001, x148002, x148003, x148004, x148005, x148006, x148007, x148008)) else (if x5 = 0 then (spec_l05Kind.j1 k x5 (x5 == 0) x148000 x148001 x148002 x148003 x148004 x148005 x148006 x148007 x148008) else (if x5 = 16 then (spec_l05Kind.j1 k x5 (x5 == 16) x148000 x148001 x148002 x148003 x148004 x148005 x148006 x148007 x148008) else (if x5 = 20 then (spec_l05Kind.j1 k x5 (x5 == 20) x148000 x148001 x148002 x148003 x148004 x148005 x148006 x148007 x148008) else (spec_l05Kind.j1 k x5 (x5 == 25) x148000 x148001 x148002 x148003 x148004 x148005 x148006 x148007 x148008))))
def spec_l05Kind.j1 : Nat → Int → Bool → Bool → Bool → Bool → Bool → Bool → Bool → Int → Int → Int → Option (Bool × Bool × Bool × Bool × Bool × Bool × Int × Int × Int)
 | 0, _, _, _, _, _, _, _, _, _, _, _ => none
 | k + 1, x5, x10, x148000, x148001, x148002, x148003, x148004, x148005, x148006, x148007, x148008 => if x10 = true then (some (x148000, true, x148002, x148003, x148004, x148005, x148006, x148007, x148008)) else (if x5 = 2 then (some (x148000, true, x148002, x148003, x148004, true, x148006, x148007, x148008)) else (if x5 = 4 then (some (x148000, true, true, true, x148004, x148005, x148006, x148007, x148008)) else (if x5 = 5 then (spec_l05Kind.j2 k x5 (x5 == 5) x148000 x148001 x148002 x148003 x148004 x148005 x148006 x148007 x148008) else (if x5 = 17 then (spec_l05Kind.j2 k x5 (x5 == 17) x148000 x148001 x148002 x148003 x148004 x148005 x148006 x148007 x148008) else (if x5 = 21 then (spec_l05Kind.j2 k x5 (x5 == 21) x148000 x148001 x148002 x148003 x148004 x148005 x148006 x148007 x148008) else (if x5 = 18 then (spec_l05Kind.j2 k x5 (x5 == 18) x148000 x148001 x148002 x148003 x148004 x148005 x148006 x148007 x148008) else (spec_l05Kind.j2 k x5 (x5 == 22) x148000 x148001 x148002 x148003 x148004 x148005 x148006 x148007 x148008)))))))
def spec_l05Kind.j2 : Nat → Int → Bool → Bool → Bool → Bool → Bool → Bool → Bool → Int → Int → Int → Option (Bool × Bool × Bool × Bool × Bool × Bool × Int × Int × Int)
 | 0, _, _, _, _, _, _, _, _, _, _, _ => none
 | k + 1, x5, x25, x148000, x148001, x148002, x148003, x148004, x148005, x148006, x148007, x148008 => if x25 = true then (some (x148000, true, true, x148003, x148004, x148005, x148006, x148007, x148008)) else (if x5 = 6 then (some (x148000, true, x148002, x148003, x148004, x148005, x148006, 1500, x148008)) else (if x5 = 7 then (some (x148000, x148001, x148002, x148003, x148004, x148005, 1, 64, x148008)) else (if x5 = 8 then (some (x148000, true, true, x148003, true, x148005, x148006, 1500, x148008)) else (if x5 = 24 then (some (x148000, true, true, x148003, x148004, x148005, 1, 8, 8)) else (if x5 = 26 then (spec_l05Kind.j3 k x5 (x5 == 26) x148000 x148001 x148002 x148003 x148004 x148005 x148006 x148007 x148008) else (spec_l05Kind.j3 k x5 (x5 == 27) x148000 x148001 x148002 x148003 x148004 x148005 x148006 x148007 x148008))))))
def spec_l05Kind.j3 : Nat → Int → Bool → Bool → Bool → Bool → Bool → Bool → Bool → Int → Int → Int → Option (Bool × Bool × Bool × Bool × Bool × Bool × Int × Int × Int)
 | 0, _, _, _, _, _, _, _, _, _, _, _ => none
 | k + 1, x5, x54, x148000, x148001, x148002, x148003, x148004, x148005, x148006, x148007, x148008 => if x54 = true then (some (x148000, x148001, x148002, x148003, x148004, x148005, 8, 8, x148008)) else (if x5 = 28 then (some (x148000, true, true, x148003, x148004, x148005, x148006, 200, x148008)) else (if x5 = 29 then (some (x148000, true, x148002, x148003, x148004, x148005, x148006, 200, x148008)) else (if x5 = 48 then (some (x148000, x148001, x148002, x148003, x148004, x148005, x148006, 1500, x148008)) else (some (false, x148001, x148002, x148003, x148004, x148005, x148006, x148007, x148008)))))
end
def spec_l05Kind.f (k : Nat) (a0 : Int) : Option (Bool × Bool × Bool × Bool × Bool × Bool × Int × Int × Int) := if a0 = 1 then (spec_l05Kind.j0 k a0 (a0 == 1) true false false false false false 0 0 0) else (spec_l05Kind.j0 k a0 (a0 == 30) true false false false false false 0 0 0)
theorem spec_l05Kind.mono_l : ∀ k, (∀ y0 y1 y2 y3 y4 y5 y6 y7 y8 y9 y10, LeO (spec_l05Kind.j0 k y0 y1 y2 y3 y4 y5 y6 y7 y8 y9 y10) (spec_l05Kind.j0 (k + 1) y0 y1 y2 y3 y4 y5 y6 y7 y8 y9 y10)) ∧ (∀ y0 y1 y2 y3 y4 y5 y6 y7 y8 y9 y10, LeO (spec_l05Kind.j1 k y0 y1 y2 y3 y4 y5 y6 y7 y8 y9 y10) (spec_l05Kind.j1 (k + 1) y0 y1 y2 y3 y4 y5 y6 y7 y8 y9 y10)) ∧ (∀ y0 y1 y2 y3 y4 y5 y6 y7 y8 y9 y10, LeO (spec_l05Kind.j2 k y0 y1 y2 y3 y4 y5 y6 y7 y8 y9 y10) (spec_l05Kind.j2 (k + 1) y0 y1 y2 y3 y4 y5 y6 y7 y8 y9 y10)) ∧ (∀ y0 y1 y2 y3 y4 y5 y6 y7 y8 y9 y10, LeO (spec_l05Kind.j3 k y0 y1 y2 y3 y4 y5 y6 y7 y8 y9 y10) (spec_l05Kind.j3 (k + 1) y0 y1 y2 y3 y4 y5 y6 y7 y8 y9 y10))
 | 0 => ⟨fun _ _ _ _ _ _ _ _ _ _ _ r h => by simp [spec_l05Kind.j0] at h, fun _ _ _ _ _ _ _ _ _ _ _ r h => by simp [spec_l05Kind.j1] at h, fun _ _ _ _ _ _ _ _ _ _ _ r h => by simp [spec_l05Kind.j2] at h, fun _ _ _ _ _ _ _ _ _ _ _ r h => by simp [spec_l05Kind.j3] at h⟩
 | k + 1 => by
  obtain ⟨ih0, ih1, ih2, ih3⟩ := spec_l05Kind.mono_l k
  refine ⟨?_, ?_, ?_, ?_⟩
  ·intro y0 y1 y2 y3 y4 y5 y6 y7 y8 y9 y10
   unfold spec_l05Kind.j0
   repeat' first
   | (with_reducible apply ih0)
   | (with_reducible apply ih1)
   | (with_reducible apply ih2)
   | (with_reducible apply ih3)
   | (with_reducible exact LeO.refl _)
   | (with_reducible exact LeO.none _)
   | (with_reducible refine LeO.ite ?_ ?_)
   | (with_reducible refine LeO.bind ?_ (fun _ => ?_))
  ·intro y0 y1 y2 y3 y4 y5 y6 y7 y8 y9 y10
   unfold spec_l05Kind.j1
   repeat' first
   | (with_reducible apply ih0)
   | (with_reducible apply ih1)
   | (with_reducible apply ih2)
   | (with_reducible apply ih3)
   | (with_reducible exact LeO.refl _)
   | (with_reducible exact LeO.none _)
   | (with_reducible refine LeO.ite ?_ ?_)
   | (with_reducible refine LeO.bind ?_ (fun _ => ?_))
  ·intro y0 y1 y2 y3 y4 y5 y6 y7 y8 y9 y10
   unfold spec_l05Kind.j2
   repeat' first
   | (with_reducible apply ih0)
   | (with_reducible apply ih1)
   | (with_reducible apply ih2)
   | (with_reducible apply ih3)
   | (with_reducible exact LeO.refl _)
   | (with_reducible exact LeO.none _)
   | (with_reducible refine LeO.ite ?_ ?_)
   | (with_reducible refine LeO.bind ?_ (fun _ => ?_))
  ·intro y0 y1 y2 y3 y4 y5 y6 y7 y8 y9 y10
   unfold spec_l05Kind.j3
   repeat' first
   | (with_reducible apply ih0)
   | (with_reducible apply ih1)
   | (with_reducible apply ih2)
   | (with_reducible apply ih3)
   | (with_reducible exact LeO.refl _)
   | (with_reducible exact LeO.none _)
   | (with_reducible refine LeO.ite ?_ ?_)
   | (with_reducible refine LeO.bind ?_ (fun _ => ?_))
theorem spec_l05Kind.mono : ∀ a0 k, LeO (spec_l05Kind.f k a0) (spec_l05Kind.f (k + 1) a0) := by
 intro a0 k
 obtain ⟨ih0, ih1, ih2, ih3⟩ := spec_l05Kind.mono_l k
 unfold spec_l05Kind.f
 repeat' first
   | (with_reducible apply ih0)
   | (with_reducible apply ih1)
   | (with_reducible apply ih2)
   | (with_reducible apply ih3)
   | (with_reducible exact LeO.refl _)
   | (with_reducible exact LeO.none _)
   | (with_reducible refine LeO.ite ?_ ?_)
   | (with_reducible refine LeO.bind ?_ (fun _ => ?_))
set_option maxHeartbeats 8000000 in
set_option maxRecDepth 100000 in
theorem spec_l05Kind.calls (k : Nat) (a0 : Int) (r1 : Bool) (r2 : Bool) (r3 : Bool) (r4 : Bool) (r5 : Bool) (r6 : Bool) (r7 : Int) (r8 : Int) (r9 : Int) (w : World) (h : spec_l05Kind.f k a0 = some (r1, r2, r3, r4, r5, r6, r7, r8, r9)) :
  Calls Try.prog 71 #[.int .i64 a0] w fun e w' => e = .returned (.agg #[.bool r1, .bool r2, .bool r3, .bool r4, .bool r5, .bool r6, .int .i64 r7, .int .i64 r8, .int .i64 r9]) ∧ Below w.heap.size w w' := by
 have hu81 := Try.underlying81
 have HB := qm (Below.refl w.heap.size w)
 have H : (if a0 = 1 then (spec_l05Kind.j0 k a0 (a0 == 1) true false false false false false 0 0 0) else (spec_l05Kind.j0 k a0 (a0 == 30) true false false false false false 0 0 0)) = some (r1, r2, r3, r4, r5, r6, r7, r8, r9) := h
 clear h
 have HC2 := qm H
 clear H
 go_enter Try.func71, Try.ntmps71
 go_upto_if 7 with (first | ((with_reducible refine gate_dst (N := 2) rfl ?_); refine box_event (by rfl) (N := 2) (by rfl) (cs := #[.bool false, .bool false, .bool false, .bool false, .bool false, .bool false, .int .i64 0, .int .i64 0, .int .i64 0]) (t := 81) (by first | (go_simp; done) | (go_simp; rfl)) ?_; intro gb146 hg w3 hbox hb; have n0_ := qm (below_step HB.out hb); have n1_ := qm (hbox); have n2_ := qm ((by rw [hg]; exact (qs HB.out) : w.heap.size ≤ gb146)); have n3_ := qm ((by rw [hg]; exact (qs HB.out) : w.heap.size ≤ gb146)); clear HB; have HB := n0_; have BK146 := n1_; have GW146 := n2_; have GE146 := n3_; clear hb hbox hg) | ((with_reducible refine gate_dst (N := 3) rfl ?_); refine box_event (by rfl) (N := 3) (by rfl) (cs := #[.bool false, .bool false, .bool false, .bool false, .bool false, .bool false, .int .i64 0, .int .i64 0, .int .i64 0]) (t := 81) (by first | (go_simp; done) | (go_simp; rfl)) ?_; intro gb147 hg w4 hbox hb; have n0_ := qm (blk_below (g := gb146) BK146.out hb); have n1_ := qm (below_step HB.out hb); have n2_ := qm (hbox); have n3_ := qm ((by rw [hg]; exact (qs HB.out) : w.heap.size ≤ gb147)); have n4_ := qm ((by rw [hg]; exact (qs HB.out) : w.heap.size ≤ gb147)); have n5_ := qm ((by rw [hg]; exact Nat.ne_of_lt (blk_lt (g := gb146) (o := .cells #[.bool false, .bool false, .bool false, .bool false, .bool false, .bool false, .int .i64 0, .int .i64 0, .int .i64 0] 81 (0, 0)) BK146.out) : gb146 ≠ gb147)); have n6_ := qm ((by rw [hg]; exact Nat.ne_of_gt (blk_lt (g := gb146) (o := .cells #[.bool false, .bool false, .bool false, .bool false, .bool false, .bool false, .int .i64 0, .int .i64 0, .int .i64 0] 81 (0, 0)) BK146.out) : gb147 ≠ gb146)); clear BK146; clear HB; have BK146 := n0_; have HB := n1_; have BK147 := n2_; have GW147 := n3_; have GE147 := n4_; have NB146_147 := n5_; have NB147_146 := n6_; clear hb hbox hg; have hnb5 := NB147_146.out; have hnc5 := NB146_147.out; obtain ⟨_, _, _, _, _, _, _, _, _, _, _, _, _, _, _, _, _, _⟩ := fc9 BK147.out))
 (try simp only [Act.put, s1, s2, s3])
 go_cut [7] (fun v7 wc => ∃ (kq : Nat) (x7_1 : Bool), v7 = .bool x7_1 ∧ Aside0 (spec_l05Kind.j0 kq a0 x7_1 true false false false false false 0 0 0 = some (r1, r2, r3, r4, r5, r6, r7, r8, r9)) ∧ Aside0 (kq ≤ k) ∧ Aside0 (wc.heap[gb146]? = some (.cells #[.bool false, .bool false, .bool false, .bool false, .bool false, .bool false, .int .i64 0, .int .i64 0, .int .i64 0] 81 (0, 0))) ∧ Aside0 (wc.heap[gb147]? = some (.cells #[.bool true, .bool false, .bool false, .bool false, .bool false, .bool false, .int .i64 0, .int .i64 0, .int .i64 0] 81 (0, 0))) ∧ Aside0 (Below w.heap.size w wc))
 case first =>
  have H := HC2.out
  clear HC2
  by_cases c7 : a0 = 1
  ·rw [if_pos c7] at H
   have c7b0 : (a0 == 1) = true := beq_iff_eq.mpr c7
   have c7b1 : (a0 != 1) = false := bne_eq_false_iff_eq.mpr c7
   clear c7
   (first | rw [c7b0] | (simp only [i64_w, i32_w]; rw [c7b0]) | skip)
   have H' := qm H
   clear H
   go_wp2
   go_meet
   case rel => exact ⟨_, ((a0 == 1)), (by first | rfl | (simp; done) | (simp [*]; done)), H', ⟨by first | omega | exact Nat.le_refl _⟩, ⟨by (with_reducible repeat (first | refine ql ?_ _ | refine qn ?_ | refine qo ?_ _)); refine qr ?_ NB146_147.out _; (with_reducible repeat (first | refine ql ?_ _ | refine qn ?_ | refine qo ?_ _)); refine qr ?_ NB146_147.out _; (with_reducible repeat (first | refine ql ?_ _ | refine qn ?_ | refine qo ?_ _)); refine qr ?_ NB146_147.out _; (with_reducible repeat (first | refine ql ?_ _ | refine qn ?_ | refine qo ?_ _)); refine qr ?_ NB146_147.out _; (with_reducible repeat (first | refine ql ?_ _ | refine qn ?_ | refine qo ?_ _)); refine qr ?_ NB146_147.out _; (with_reducible repeat (first | refine ql ?_ _ | refine qn ?_ | refine qo ?_ _)); refine qr ?_ NB146_147.out _; (with_reducible repeat (first | refine ql ?_ _ | refine qn ?_ | refine qo ?_ _)); refine qr ?_ NB146_147.out _; (with_reducible repeat (first | refine ql ?_ _ | refine qn ?_ | refine qo ?_ _)); refine qr ?_ NB146_147.out _; (with_reducible repeat (first | refine ql ?_ _ | refine qn ?_ | refine qo ?_ _)); refine qr ?_ NB146_147.out _; (with_reducible repeat (first | refine ql ?_ _ | refine qn ?_ | refine qo ?_ _)); exact BK146.out⟩, ⟨by (with_reducible repeat (first | refine ql ?_ _ | refine qn ?_ | refine qo ?_ _)); refine qp (cs := #[.bool true, .bool false, .bool false, .bool false, .bool false, .bool false, .int .i64 0, .int .i64 0, .int .i64 0]) ?_ 8 _ rfl; (with_reducible repeat (first | refine ql ?_ _ | refine qn ?_ | refine qo ?_ _)); refine qp (cs := #[.bool true, .bool false, .bool false, .bool false, .bool false, .bool false, .int .i64 0, .int .i64 0, .int .i64 0]) ?_ 7 _ rfl; (with_reducible repeat (first | refine ql ?_ _ | refine qn ?_ | refine qo ?_ _)); refine qp (cs := #[.bool true, .bool false, .bool false, .bool false, .bool false, .bool false, .int .i64 0, .int .i64 0, .int .i64 0]) ?_ 6 _ rfl; (with_reducible repeat (first | refine ql ?_ _ | refine qn ?_ | refine qo ?_ _)); refine qp (cs := #[.bool true, .bool false, .bool false, .bool false, .bool false, .bool false, .int .i64 0, .int .i64 0, .int .i64 0]) ?_ 5 _ rfl; (with_reducible repeat (first | refine ql ?_ _ | refine qn ?_ | refine qo ?_ _)); refine qp (cs := #[.bool true, .bool false, .bool false, .bool false, .bool false, .bool false, .int .i64 0, .int .i64 0, .int .i64 0]) ?_ 4 _ rfl; (with_reducible repeat (first | refine ql ?_ _ | refine qn ?_ | refine qo ?_ _)); refine qp (cs := #[.bool true, .bool false, .bool false, .bool false, .bool false, .bool false, .int .i64 0, .int .i64 0, .int .i64 0]) ?_ 3 _ rfl; (with_reducible repeat (first | refine ql ?_ _ | refine qn ?_ | refine qo ?_ _)); refine qp (cs := #[.bool true, .bool false, .bool false, .bool false, .bool false, .bool false, .int .i64 0, .int .i64 0, .int .i64 0]) ?_ 2 _ rfl; (with_reducible repeat (first | refine ql ?_ _ | refine qn ?_ | refine qo ?_ _)); refine qp (cs := #[.bool true, .bool false, .bool false, .bool false, .bool false, .bool false, .int .i64 0, .int .i64 0, .int .i64 0]) ?_ 1 _ rfl; (with_reducible repeat (first | refine ql ?_ _ | refine qn ?_ | refine qo ?_ _)); refine qp (cs := #[.bool false, .bool false, .bool false, .bool false, .bool false, .bool false, .int .i64 0, .int .i64 0, .int .i64 0]) ?_ 0 _ rfl; (with_reducible repeat (first | refine ql ?_ _ | refine qn ?_ | refine qo ?_ _)); exact BK147.out⟩, ⟨by repeat (first | (with_reducible first | exact HB.out | apply qh | apply qi | apply qj | refine qk ?_ GE146.out | refine qk ?_ GE147.out) | exact HB.out)⟩⟩
  rw [if_neg c7] at H
  have c7b0 : (a0 == 1) = false := beq_eq_false_iff_ne.mpr c7
  have c7b1 : (a0 != 1) = true := bne_iff_ne.mpr c7
  (first | rw [c7b0] | (simp only [i64_w, i32_w]; rw [c7b0]) | skip)
  have H' := qm H
  clear H
  go_wp2
  go_meet
  case rel => exact ⟨_, ((a0 == 30)), rfl, H', ⟨by first | omega | exact Nat.le_refl _⟩, ⟨by (with_reducible repeat (first | refine ql ?_ _ | refine qn ?_ | refine qo ?_ _)); refine qr ?_ NB146_147.out _; refine qr ?_ NB146_147.out _; refine qr ?_ NB146_147.out _; refine qr ?_ NB146_147.out _; refine qr ?_ NB146_147.out _; refine qr ?_ NB146_147.out _; refine qr ?_ NB146_147.out _; refine qr ?_ NB146_147.out _; refine qr ?_ NB146_147.out _; (with_reducible repeat (first | refine ql ?_ _ | refine qn ?_ | refine qo ?_ _)); exact BK146.out⟩, ⟨by (with_reducible repeat (first | refine ql ?_ _ | refine qn ?_ | refine qo ?_ _)); refine qp (cs := #[.bool true, .bool false, .bool false, .bool false, .bool false, .bool false, .int .i64 0, .int .i64 0, .int .i64 0]) ?_ 8 _ rfl; refine qp (cs := #[.bool true, .bool false, .bool false, .bool false, .bool false, .bool false, .int .i64 0, .int .i64 0, .int .i64 0]) ?_ 7 _ rfl; refine qp (cs := #[.bool true, .bool false, .bool false, .bool false, .bool false, .bool false, .int .i64 0, .int .i64 0, .int .i64 0]) ?_ 6 _ rfl; refine qp (cs := #[.bool true, .bool false, .bool false, .bool false, .bool false, .bool false, .int .i64 0, .int .i64 0, .int .i64 0]) ?_ 5 _ rfl; refine qp (cs := #[.bool true, .bool false, .bool false, .bool false, .bool false, .bool false, .int .i64 0, .int .i64 0, .int .i64 0]) ?_ 4 _ rfl; refine qp (cs := #[.bool true, .bool false, .bool false, .bool false, .bool false, .bool false, .int .i64 0, .int .i64 0, .int .i64 0]) ?_ 3 _ rfl; refine qp (cs := #[.bool true, .bool false, .bool false, .bool false, .bool false, .bool false, .int .i64 0, .int .i64 0, .int .i64 0]) ?_ 2 _ rfl; refine qp (cs := #[.bool true, .bool false, .bool false, .bool false, .bool false, .bool false, .int .i64 0, .int .i64 0, .int .i64 0]) ?_ 1 _ rfl; refine qp (cs := #[.bool false, .bool false, .bool false, .bool false, .bool false, .bool false, .int .i64 0, .int .i64 0, .int .i64 0]) ?_ 0 _ rfl; (with_reducible repeat (first | refine ql ?_ _ | refine qn ?_ | refine qo ?_ _)); exact BK147.out⟩, ⟨by repeat (first | (with_reducible first | exact HB.out | apply qh | apply qi | apply qj | refine qk ?_ GE146.out | refine qk ?_ GE147.out) | exact HB.out)⟩⟩
 clear HC2
 obtain ⟨kq, x7_1, rfl, HA, HJ1, BK146, BK147, HB⟩ := hcut
 cases kq with
 | zero => exact absurd HA.out (by simp [spec_l05Kind.j0])
 | succ kj1 => ?_
 have H := HA.out
 clear HA
 simp only [spec_l05Kind.j0] at H
 by_cases c8 : x7_1 = true
 ·subst c8
  rw [if_pos rfl] at H
  simp only [Option.some.injEq, Prod.mk.injEq] at H
  obtain ⟨rfl, rfl, rfl, rfl, rfl, rfl, rfl, rfl, rfl⟩ := H
  have hnb9 := NB147_146.out
  have hnc9 := NB146_147.out
  obtain ⟨_, _, _, _, _, _, _, _, _, _, _, _, _, _, _, _, _, _⟩ := fc9 BK147.out
  obtain ⟨_, _, _, _, _, _, _, _, _, _, _, _, _, _, _, _, _, _⟩ := fc9 BK146.out
  go_wp2
  refine bodyPost_ret (results_cell_row rfl _ _ gb146 81 #[.bool true, .bool false, .bool false, .bool false, .bool false, .bool false, .int .i64 0, .int .i64 0, .int .i64 0] (0, 0) _ rfl (by (with_reducible repeat (first | refine ql ?_ _ | refine qn ?_ | refine qo ?_ _)); refine qp (cs := #[.bool true, .bool false, .bool false, .bool false, .bool false, .bool false, .int .i64 0, .int .i64 0, .int .i64 0]) ?_ 8 _ rfl; refine qp (cs := #[.bool true, .bool false, .bool false, .bool false, .bool false, .bool false, .int .i64 0, .int .i64 0, .int .i64 0]) ?_ 7 _ rfl; refine qp (cs := #[.bool true, .bool false, .bool false, .bool false, .bool false, .bool false, .int .i64 0, .int .i64 0, .int .i64 0]) ?_ 6 _ rfl; refine qp (cs := #[.bool true, .bool false, .bool false, .bool false, .bool false, .bool false, .int .i64 0, .int .i64 0, .int .i64 0]) ?_ 5 _ rfl; refine qp (cs := #[.bool true, .bool false, .bool false, .bool false, .bool false, .bool false, .int .i64 0, .int .i64 0, .int .i64 0]) ?_ 4 _ rfl; refine qp (cs := #[.bool true, .bool false, .bool false, .bool false, .bool false, .bool false, .int .i64 0, .int .i64 0, .int .i64 0]) ?_ 3 _ rfl; refine qp (cs := #[.bool true, .bool false, .bool false, .bool false, .bool false, .bool false, .int .i64 0, .int .i64 0, .int .i64 0]) ?_ 2 _ rfl; refine qp (cs := #[.bool true, .bool false, .bool false, .bool false, .bool false, .bool false, .int .i64 0, .int .i64 0, .int .i64 0]) ?_ 1 _ rfl; refine qp (cs := #[.bool false, .bool false, .bool false, .bool false, .bool false, .bool false, .int .i64 0, .int .i64 0, .int .i64 0]) ?_ 0 _ rfl; (with_reducible repeat (first | refine ql ?_ _ | refine qn ?_ | refine qo ?_ _)); exact BK146.out) Try.underlying81 rfl (by kernel_rfl)) rfl ?_
  exact ⟨by first | rfl | (simp <;> rfl) | (simp [*] <;> rfl), by repeat (first | (with_reducible first | exact HB.out | apply qh | apply qi | apply qj | refine qk ?_ GE146.out | refine qk ?_ GE147.out) | exact HB.out)⟩
 replace c8 := Bool.eq_false_iff.mpr c8
 subst c8
 rw [if_neg nt] at H
 have HC12 := qm H
 clear H
 go_upto_if 10 with (fail)
 go_cut [10] (fun v10 wc => ∃ (kq : Nat) (x10_11 : Bool), v10 = .bool x10_11 ∧ Aside0 (spec_l05Kind.j1 kq a0 x10_11 true false false false false false 0 0 0 = some (r1, r2, r3, r4, r5, r6, r7, r8, r9)) ∧ Aside0 (kq ≤ kj1) ∧ Aside0 (wc.heap[gb146]? = some (.cells #[.bool false, .bool false, .bool false, .bool false, .bool false, .bool false, .int .i64 0, .int .i64 0, .int .i64 0] 81 (0, 0))) ∧ Aside0 (wc.heap[gb147]? = some (.cells #[.bool true, .bool false, .bool false, .bool false, .bool false, .bool false, .int .i64 0, .int .i64 0, .int .i64 0] 81 (0, 0))) ∧ Aside0 (Below w.heap.size w wc))
 case first =>
  have H := HC12.out
  clear HC12
  by_cases c13 : a0 = 0
  ·rw [if_pos c13] at H
   have c13b0 : (a0 == 0) = true := beq_iff_eq.mpr c13
   have c13b1 : (a0 != 0) = false := bne_eq_false_iff_eq.mpr c13
   clear c13
   (first | rw [c13b0] | (simp only [i64_w, i32_w]; rw [c13b0]) | skip)
   have H' := qm H
   clear H
   go_wp2
   go_meet
   case rel => exact ⟨_, ((a0 == 0)), (by first | rfl | (simp; done) | (simp [*]; done)), H', ⟨by have := HJ1.out; first | omega | exact Nat.le_refl _⟩, ⟨BK146.out⟩, ⟨BK147.out⟩, ⟨by repeat (first | (with_reducible first | exact HB.out | apply qh | apply qi | apply qj | refine qk ?_ GE146.out | refine qk ?_ GE147.out) | exact HB.out)⟩⟩
  rw [if_neg c13] at H
  have c13b0 : (a0 == 0) = false := beq_eq_false_iff_ne.mpr c13
  have c13b1 : (a0 != 0) = true := bne_iff_ne.mpr c13
  (first | rw [c13b0] | (simp only [i64_w, i32_w]; rw [c13b0]) | skip)
  by_cases c14 : a0 = 16
  ·rw [if_pos c14] at H
   have c14b0 : (a0 == 16) = true := beq_iff_eq.mpr c14
   have c14b1 : (a0 != 16) = false := bne_eq_false_iff_eq.mpr c14
   clear c14
   have H' := qm H
   clear H
   go_wp2
   go_meet
   case rel => exact ⟨_, ((a0 == 16)), (by first | rfl | (simp; done) | (simp [*]; done)), H', ⟨by have := HJ1.out; first | omega | exact Nat.le_refl _⟩, ⟨BK146.out⟩, ⟨BK147.out⟩, ⟨by repeat (first | (with_reducible first | exact HB.out | apply qh | apply qi | apply qj | refine qk ?_ GE146.out | refine qk ?_ GE147.out) | exact HB.out)⟩⟩
  rw [if_neg c14] at H
  have c14b0 : (a0 == 16) = false := beq_eq_false_iff_ne.mpr c14
  have c14b1 : (a0 != 16) = true := bne_iff_ne.mpr c14
  by_cases c15 : a0 = 20
  ·rw [if_pos c15] at H
   have c15b0 : (a0 == 20) = true := beq_iff_eq.mpr c15
   have c15b1 : (a0 != 20) = false := bne_eq_false_iff_eq.mpr c15
   clear c15
   have H' := qm H
   clear H
   go_wp2
   go_meet
   case rel => exact ⟨_, ((a0 == 20)), (by first | rfl | (simp; done) | (simp [*]; done)), H', ⟨by have := HJ1.out; first | omega | exact Nat.le_refl _⟩, ⟨BK146.out⟩, ⟨BK147.out⟩, ⟨by repeat (first | (with_reducible first | exact HB.out | apply qh | apply qi | apply qj | refine qk ?_ GE146.out | refine qk ?_ GE147.out) | exact HB.out)⟩⟩
  rw [if_neg c15] at H
  have c15b0 : (a0 == 20) = false := beq_eq_false_iff_ne.mpr c15
  have c15b1 : (a0 != 20) = true := bne_iff_ne.mpr c15
  have H' := qm H
  clear H
  go_wp2
  go_meet
  case rel => exact ⟨_, ((a0 == 25)), rfl, H', ⟨by have := HJ1.out; omega⟩, ⟨BK146.out⟩, ⟨BK147.out⟩, ⟨by repeat (first | (with_reducible first | exact HB.out | apply qh | apply qi | apply qj | refine qk ?_ GE146.out | refine qk ?_ GE147.out) | exact HB.out)⟩⟩
 clear HC12
 try clear c8
 obtain ⟨kq, x10_11, rfl, HA, HJ11, BK146, BK147, HB⟩ := hcut
 cases kq with
 | zero => exact absurd HA.out (by simp [spec_l05Kind.j1])
 | succ kj11 => ?_
 have H := HA.out
 clear HA
 simp only [spec_l05Kind.j1] at H
 by_cases c16 : x10_11 = true
 ·subst c16
  rw [if_pos rfl] at H
  simp only [Option.some.injEq, Prod.mk.injEq] at H
  obtain ⟨rfl, rfl, rfl, rfl, rfl, rfl, rfl, rfl, rfl⟩ := H
  have hnb17 := NB147_146.out
  have hnc17 := NB146_147.out
  obtain ⟨_, _, _, _, _, _, _, _, _, _, _, _, _, _, _, _, _, _⟩ := fc9 BK147.out
  obtain ⟨_, _, _, _, _, _, _, _, _, _, _, _, _, _, _, _, _, _⟩ := fc9 BK146.out
  go_wp2
  refine bodyPost_ret (results_cell_row rfl _ _ gb146 81 #[.bool true, .bool true, .bool false, .bool false, .bool false, .bool false, .int .i64 0, .int .i64 0, .int .i64 0] (0, 0) _ rfl (by (with_reducible repeat (first | refine ql ?_ _ | refine qn ?_ | refine qo ?_ _)); refine qp (cs := #[.bool true, .bool true, .bool false, .bool false, .bool false, .bool false, .int .i64 0, .int .i64 0, .int .i64 0]) ?_ 8 _ rfl; refine qp (cs := #[.bool true, .bool true, .bool false, .bool false, .bool false, .bool false, .int .i64 0, .int .i64 0, .int .i64 0]) ?_ 7 _ rfl; refine qp (cs := #[.bool true, .bool true, .bool false, .bool false, .bool false, .bool false, .int .i64 0, .int .i64 0, .int .i64 0]) ?_ 6 _ rfl; refine qp (cs := #[.bool true, .bool true, .bool false, .bool false, .bool false, .bool false, .int .i64 0, .int .i64 0, .int .i64 0]) ?_ 5 _ rfl; refine qp (cs := #[.bool true, .bool true, .bool false, .bool false, .bool false, .bool false, .int .i64 0, .int .i64 0, .int .i64 0]) ?_ 4 _ rfl; refine qp (cs := #[.bool true, .bool true, .bool false, .bool false, .bool false, .bool false, .int .i64 0, .int .i64 0, .int .i64 0]) ?_ 3 _ rfl; refine qp (cs := #[.bool true, .bool true, .bool false, .bool false, .bool false, .bool false, .int .i64 0, .int .i64 0, .int .i64 0]) ?_ 2 _ rfl; refine qp (cs := #[.bool true, .bool false, .bool false, .bool false, .bool false, .bool false, .int .i64 0, .int .i64 0, .int .i64 0]) ?_ 1 _ rfl; refine qp (cs := #[.bool false, .bool false, .bool false, .bool false, .bool false, .bool false, .int .i64 0, .int .i64 0, .int .i64 0]) ?_ 0 _ rfl; refine qr ?_ NB146_147.out _; (with_reducible repeat (first | refine ql ?_ _ | refine qn ?_ | refine qo ?_ _)); exact BK146.out) Try.underlying81 rfl (by kernel_rfl)) rfl ?_
  exact ⟨by first | rfl | (simp <;> rfl) | (simp [*] <;> rfl), by repeat (first | (with_reducible first | exact HB.out | apply qh | apply qi | apply qj | refine qk ?_ GE146.out | refine qk ?_ GE147.out) | exact HB.out)⟩
 replace c16 := Bool.eq_false_iff.mpr c16
 subst c16
 rw [if_neg nt] at H
 by_cases c20 : a0 = 2
 ·rw [if_pos c20] at H
  have c20b0 : (a0 == 2) = true := beq_iff_eq.mpr c20
  have c20b1 : (a0 != 2) = false := bne_eq_false_iff_eq.mpr c20
  clear c20
  simp only [Option.some.injEq, Prod.mk.injEq] at H
  obtain ⟨rfl, rfl, rfl, rfl, rfl, rfl, rfl, rfl, rfl⟩ := H
  have hnb21 := NB147_146.out
  have hnc21 := NB146_147.out
  obtain ⟨_, _, _, _, _, _, _, _, _, _, _, _, _, _, _, _, _, _⟩ := fc9 BK147.out
  obtain ⟨_, _, _, _, _, _, _, _, _, _, _, _, _, _, _, _, _, _⟩ := fc9 BK146.out
  go_wp2
  refine bodyPost_ret (results_cell_row rfl _ _ gb146 81 #[.bool true, .bool true, .bool false, .bool false, .bool false, .bool true, .int .i64 0, .int .i64 0, .int .i64 0] (0, 0) _ rfl (by (with_reducible repeat (first | refine ql ?_ _ | refine qn ?_ | refine qo ?_ _)); refine qp (cs := #[.bool true, .bool true, .bool false, .bool false, .bool false, .bool true, .int .i64 0, .int .i64 0, .int .i64 0]) ?_ 8 _ rfl; refine qp (cs := #[.bool true, .bool true, .bool false, .bool false, .bool false, .bool true, .int .i64 0, .int .i64 0, .int .i64 0]) ?_ 7 _ rfl; refine qp (cs := #[.bool true, .bool true, .bool false, .bool false, .bool false, .bool true, .int .i64 0, .int .i64 0, .int .i64 0]) ?_ 6 _ rfl; refine qp (cs := #[.bool true, .bool true, .bool false, .bool false, .bool false, .bool false, .int .i64 0, .int .i64 0, .int .i64 0]) ?_ 5 _ rfl; refine qp (cs := #[.bool true, .bool true, .bool false, .bool false, .bool false, .bool false, .int .i64 0, .int .i64 0, .int .i64 0]) ?_ 4 _ rfl; refine qp (cs := #[.bool true, .bool true, .bool false, .bool false, .bool false, .bool false, .int .i64 0, .int .i64 0, .int .i64 0]) ?_ 3 _ rfl; refine qp (cs := #[.bool true, .bool true, .bool false, .bool false, .bool false, .bool false, .int .i64 0, .int .i64 0, .int .i64 0]) ?_ 2 _ rfl; refine qp (cs := #[.bool true, .bool false, .bool false, .bool false, .bool false, .bool false, .int .i64 0, .int .i64 0, .int .i64 0]) ?_ 1 _ rfl; refine qp (cs := #[.bool false, .bool false, .bool false, .bool false, .bool false, .bool false, .int .i64 0, .int .i64 0, .int .i64 0]) ?_ 0 _ rfl; refine qr ?_ NB146_147.out _; refine qr ?_ NB146_147.out _; (with_reducible repeat (first | refine ql ?_ _ | refine qn ?_ | refine qo ?_ _)); exact BK146.out) Try.underlying81 rfl (by kernel_rfl)) rfl ?_
  exact ⟨by first | rfl | (simp <;> rfl) | (simp [*] <;> rfl), by repeat (first | (with_reducible first | exact HB.out | apply qh | apply qi | apply qj | refine qk ?_ GE146.out | refine qk ?_ GE147.out) | exact HB.out)⟩
 rw [if_neg c20] at H
 have c20b0 : (a0 == 2) = false := beq_eq_false_iff_ne.mpr c20
 have c20b1 : (a0 != 2) = true := bne_iff_ne.mpr c20
 by_cases c24 : a0 = 4
 ·rw [if_pos c24] at H
  have c24b0 : (a0 == 4) = true := beq_iff_eq.mpr c24
  have c24b1 : (a0 != 4) = false := bne_eq_false_iff_eq.mpr c24
  clear c24
  simp only [Option.some.injEq, Prod.mk.injEq] at H
  obtain ⟨rfl, rfl, rfl, rfl, rfl, rfl, rfl, rfl, rfl⟩ := H
  have hnb25 := NB147_146.out
  have hnc25 := NB146_147.out
  obtain ⟨_, _, _, _, _, _, _, _, _, _, _, _, _, _, _, _, _, _⟩ := fc9 BK147.out
  obtain ⟨_, _, _, _, _, _, _, _, _, _, _, _, _, _, _, _, _, _⟩ := fc9 BK146.out
  go_wp2
  refine bodyPost_ret (results_cell_row rfl _ _ gb146 81 #[.bool true, .bool true, .bool true, .bool true, .bool false, .bool false, .int .i64 0, .int .i64 0, .int .i64 0] (0, 0) _ rfl (by (with_reducible repeat (first | refine ql ?_ _ | refine qn ?_ | refine qo ?_ _)); refine qp (cs := #[.bool true, .bool true, .bool true, .bool true, .bool false, .bool false, .int .i64 0, .int .i64 0, .int .i64 0]) ?_ 8 _ rfl; refine qp (cs := #[.bool true, .bool true, .bool true, .bool true, .bool false, .bool false, .int .i64 0, .int .i64 0, .int .i64 0]) ?_ 7 _ rfl; refine qp (cs := #[.bool true, .bool true, .bool true, .bool true, .bool false, .bool false, .int .i64 0, .int .i64 0, .int .i64 0]) ?_ 6 _ rfl; refine qp (cs := #[.bool true, .bool true, .bool true, .bool true, .bool false, .bool false, .int .i64 0, .int .i64 0, .int .i64 0]) ?_ 5 _ rfl; refine qp (cs := #[.bool true, .bool true, .bool true, .bool true, .bool false, .bool false, .int .i64 0, .int .i64 0, .int .i64 0]) ?_ 4 _ rfl; refine qp (cs := #[.bool true, .bool true, .bool true, .bool false, .bool false, .bool false, .int .i64 0, .int .i64 0, .int .i64 0]) ?_ 3 _ rfl; refine qp (cs := #[.bool true, .bool true, .bool false, .bool false, .bool false, .bool false, .int .i64 0, .int .i64 0, .int .i64 0]) ?_ 2 _ rfl; refine qp (cs := #[.bool true, .bool false, .bool false, .bool false, .bool false, .bool false, .int .i64 0, .int .i64 0, .int .i64 0]) ?_ 1 _ rfl; refine qp (cs := #[.bool false, .bool false, .bool false, .bool false, .bool false, .bool false, .int .i64 0, .int .i64 0, .int .i64 0]) ?_ 0 _ rfl; refine qr ?_ NB146_147.out _; refine qr ?_ NB146_147.out _; refine qr ?_ NB146_147.out _; (with_reducible repeat (first | refine ql ?_ _ | refine qn ?_ | refine qo ?_ _)); exact BK146.out) Try.underlying81 rfl (by kernel_rfl)) rfl ?_
  exact ⟨by first | rfl | (simp <;> rfl) | (simp [*] <;> rfl), by repeat (first | (with_reducible first | exact HB.out | apply qh | apply qi | apply qj | refine qk ?_ GE146.out | refine qk ?_ GE147.out) | exact HB.out)⟩
 rw [if_neg c24] at H
 have c24b0 : (a0 == 4) = false := beq_eq_false_iff_ne.mpr c24
 have c24b1 : (a0 != 4) = true := bne_iff_ne.mpr c24
 have HC28 := qm H
 clear H
 go_upto_if 25 with (fail)
 go_cut [25] (fun v25 wc => ∃ (kq : Nat) (x25_27 : Bool), v25 = .bool x25_27 ∧ Aside0 (spec_l05Kind.j2 kq a0 x25_27 true false false false false false 0 0 0 = some (r1, r2, r3, r4, r5, r6, r7, r8, r9)) ∧ Aside0 (kq ≤ kj11) ∧ Aside0 (wc.heap[gb146]? = some (.cells #[.bool false, .bool false, .bool false, .bool false, .bool false, .bool false, .int .i64 0, .int .i64 0, .int .i64 0] 81 (0, 0))) ∧ Aside0 (wc.heap[gb147]? = some (.cells #[.bool true, .bool false, .bool false, .bool false, .bool false, .bool false, .int .i64 0, .int .i64 0, .int .i64 0] 81 (0, 0))) ∧ Aside0 (Below w.heap.size w wc))
 case first =>
  have H := HC28.out
  clear HC28
  by_cases c29 : a0 = 5
  ·rw [if_pos c29] at H
   have c29b0 : (a0 == 5) = true := beq_iff_eq.mpr c29
   have c29b1 : (a0 != 5) = false := bne_eq_false_iff_eq.mpr c29
   clear c29
   (first | rw [c29b0] | (simp only [i64_w, i32_w]; rw [c29b0]) | skip)
   have H' := qm H
   clear H
   go_wp2
   go_meet
   case rel => exact ⟨_, ((a0 == 5)), (by first | rfl | (simp; done) | (simp [*]; done)), H', ⟨by have := HJ1.out; have := HJ11.out; first | omega | exact Nat.le_refl _⟩, ⟨BK146.out⟩, ⟨BK147.out⟩, ⟨by repeat (first | (with_reducible first | exact HB.out | apply qh | apply qi | apply qj | refine qk ?_ GE146.out | refine qk ?_ GE147.out) | exact HB.out)⟩⟩
  rw [if_neg c29] at H
  have c29b0 : (a0 == 5) = false := beq_eq_false_iff_ne.mpr c29
  have c29b1 : (a0 != 5) = true := bne_iff_ne.mpr c29
  (first | rw [c29b0] | (simp only [i64_w, i32_w]; rw [c29b0]) | skip)
  by_cases c30 : a0 = 17
  ·rw [if_pos c30] at H
   have c30b0 : (a0 == 17) = true := beq_iff_eq.mpr c30
   have c30b1 : (a0 != 17) = false := bne_eq_false_iff_eq.mpr c30
   clear c30
   have H' := qm H
   clear H
   go_wp2
   go_meet
   case rel => exact ⟨_, ((a0 == 17)), (by first | rfl | (simp; done) | (simp [*]; done)), H', ⟨by have := HJ1.out; have := HJ11.out; first | omega | exact Nat.le_refl _⟩, ⟨BK146.out⟩, ⟨BK147.out⟩, ⟨by repeat (first | (with_reducible first | exact HB.out | apply qh | apply qi | apply qj | refine qk ?_ GE146.out | refine qk ?_ GE147.out) | exact HB.out)⟩⟩
  rw [if_neg c30] at H
  have c30b0 : (a0 == 17) = false := beq_eq_false_iff_ne.mpr c30
  have c30b1 : (a0 != 17) = true := bne_iff_ne.mpr c30
  by_cases c31 : a0 = 21
  ·rw [if_pos c31] at H
   have c31b0 : (a0 == 21) = true := beq_iff_eq.mpr c31
   have c31b1 : (a0 != 21) = false := bne_eq_false_iff_eq.mpr c31
   clear c31
   have H' := qm H
   clear H
   go_wp2
   go_meet
   case rel => exact ⟨_, ((a0 == 21)), (by first | rfl | (simp; done) | (simp [*]; done)), H', ⟨by have := HJ1.out; have := HJ11.out; first | omega | exact Nat.le_refl _⟩, ⟨BK146.out⟩, ⟨BK147.out⟩, ⟨by repeat (first | (with_reducible first | exact HB.out | apply qh | apply qi | apply qj | refine qk ?_ GE146.out | refine qk ?_ GE147.out) | exact HB.out)⟩⟩
  rw [if_neg c31] at H
  have c31b0 : (a0 == 21) = false := beq_eq_false_iff_ne.mpr c31
  have c31b1 : (a0 != 21) = true := bne_iff_ne.mpr c31
  by_cases c32 : a0 = 18
  ·rw [if_pos c32] at H
   have c32b0 : (a0 == 18) = true := beq_iff_eq.mpr c32
   have c32b1 : (a0 != 18) = false := bne_eq_false_iff_eq.mpr c32
   clear c32
   have H' := qm H
   clear H
   go_wp2
   go_meet
   case rel => exact ⟨_, ((a0 == 18)), (by first | rfl | (simp; done) | (simp [*]; done)), H', ⟨by have := HJ1.out; have := HJ11.out; first | omega | exact Nat.le_refl _⟩, ⟨BK146.out⟩, ⟨BK147.out⟩, ⟨by repeat (first | (with_reducible first | exact HB.out | apply qh | apply qi | apply qj | refine qk ?_ GE146.out | refine qk ?_ GE147.out) | exact HB.out)⟩⟩
  rw [if_neg c32] at H
  have c32b0 : (a0 == 18) = false := beq_eq_false_iff_ne.mpr c32
  have c32b1 : (a0 != 18) = true := bne_iff_ne.mpr c32
  have H' := qm H
  clear H
  go_wp2
  go_meet
  case rel => exact ⟨_, ((a0 == 22)), rfl, H', ⟨by have := HJ1.out; have := HJ11.out; omega⟩, ⟨BK146.out⟩, ⟨BK147.out⟩, ⟨by repeat (first | (with_reducible first | exact HB.out | apply qh | apply qi | apply qj | refine qk ?_ GE146.out | refine qk ?_ GE147.out) | exact HB.out)⟩⟩
 clear HC28
 try clear c8
 try clear c16
 try clear c20
 try clear c20b0
 try clear c20b1
 try clear c24
 try clear c24b0
 try clear c24b1
 obtain ⟨kq, x25_27, rfl, HA, HJ27, BK146, BK147, HB⟩ := hcut
 cases kq with
 | zero => exact absurd HA.out (by simp [spec_l05Kind.j2])
 | succ kj27 => ?_
 have H := HA.out
 clear HA
 simp only [spec_l05Kind.j2] at H
 by_cases c33 : x25_27 = true
 ·subst c33
  rw [if_pos rfl] at H
  simp only [Option.some.injEq, Prod.mk.injEq] at H
  obtain ⟨rfl, rfl, rfl, rfl, rfl, rfl, rfl, rfl, rfl⟩ := H
  have hnb34 := NB147_146.out
  have hnc34 := NB146_147.out
  obtain ⟨_, _, _, _, _, _, _, _, _, _, _, _, _, _, _, _, _, _⟩ := fc9 BK147.out
  obtain ⟨_, _, _, _, _, _, _, _, _, _, _, _, _, _, _, _, _, _⟩ := fc9 BK146.out
  go_wp2
  refine bodyPost_ret (results_cell_row rfl _ _ gb146 81 #[.bool true, .bool true, .bool true, .bool false, .bool false, .bool false, .int .i64 0, .int .i64 0, .int .i64 0] (0, 0) _ rfl (by (with_reducible repeat (first | refine ql ?_ _ | refine qn ?_ | refine qo ?_ _)); refine qp (cs := #[.bool true, .bool true, .bool true, .bool false, .bool false, .bool false, .int .i64 0, .int .i64 0, .int .i64 0]) ?_ 8 _ rfl; refine qp (cs := #[.bool true, .bool true, .bool true, .bool false, .bool false, .bool false, .int .i64 0, .int .i64 0, .int .i64 0]) ?_ 7 _ rfl; refine qp (cs := #[.bool true, .bool true, .bool true, .bool false, .bool false, .bool false, .int .i64 0, .int .i64 0, .int .i64 0]) ?_ 6 _ rfl; refine qp (cs := #[.bool true, .bool true, .bool true, .bool false, .bool false, .bool false, .int .i64 0, .int .i64 0, .int .i64 0]) ?_ 5 _ rfl; refine qp (cs := #[.bool true, .bool true, .bool true, .bool false, .bool false, .bool false, .int .i64 0, .int .i64 0, .int .i64 0]) ?_ 4 _ rfl; refine qp (cs := #[.bool true, .bool true, .bool true, .bool false, .bool false, .bool false, .int .i64 0, .int .i64 0, .int .i64 0]) ?_ 3 _ rfl; refine qp (cs := #[.bool true, .bool true, .bool false, .bool false, .bool false, .bool false, .int .i64 0, .int .i64 0, .int .i64 0]) ?_ 2 _ rfl; refine qp (cs := #[.bool true, .bool false, .bool false, .bool false, .bool false, .bool false, .int .i64 0, .int .i64 0, .int .i64 0]) ?_ 1 _ rfl; refine qp (cs := #[.bool false, .bool false, .bool false, .bool false, .bool false, .bool false, .int .i64 0, .int .i64 0, .int .i64 0]) ?_ 0 _ rfl; refine qr ?_ NB146_147.out _; refine qr ?_ NB146_147.out _; (with_reducible repeat (first | refine ql ?_ _ | refine qn ?_ | refine qo ?_ _)); exact BK146.out) Try.underlying81 rfl (by kernel_rfl)) rfl ?_
  exact ⟨by first | rfl | (simp <;> rfl) | (simp [*] <;> rfl), by repeat (first | (with_reducible first | exact HB.out | apply qh | apply qi | apply qj | refine qk ?_ GE146.out | refine qk ?_ GE147.out) | exact HB.out)⟩
 replace c33 := Bool.eq_false_iff.mpr c33
 subst c33
 rw [if_neg nt] at H
 by_cases c37 : a0 = 6
 ·rw [if_pos c37] at H
  have c37b0 : (a0 == 6) = true := beq_iff_eq.mpr c37
  have c37b1 : (a0 != 6) = false := bne_eq_false_iff_eq.mpr c37
  clear c37
  simp only [Option.some.injEq, Prod.mk.injEq] at H
  obtain ⟨rfl, rfl, rfl, rfl, rfl, rfl, rfl, rfl, rfl⟩ := H
  have hnb38 := NB147_146.out
  have hnc38 := NB146_147.out
  obtain ⟨_, _, _, _, _, _, _, _, _, _, _, _, _, _, _, _, _, _⟩ := fc9 BK147.out
  obtain ⟨_, _, _, _, _, _, _, _, _, _, _, _, _, _, _, _, _, _⟩ := fc9 BK146.out
  go_wp2
  refine bodyPost_ret (results_cell_row rfl _ _ gb146 81 #[.bool true, .bool true, .bool false, .bool false, .bool false, .bool false, .int .i64 0, .int .i64 1500, .int .i64 0] (0, 0) _ rfl (by (with_reducible repeat (first | refine ql ?_ _ | refine qn ?_ | refine qo ?_ _)); refine qp (cs := #[.bool true, .bool true, .bool false, .bool false, .bool false, .bool false, .int .i64 0, .int .i64 1500, .int .i64 0]) ?_ 8 _ rfl; refine qp (cs := #[.bool true, .bool true, .bool false, .bool false, .bool false, .bool false, .int .i64 0, .int .i64 0, .int .i64 0]) ?_ 7 _ rfl; refine qp (cs := #[.bool true, .bool true, .bool false, .bool false, .bool false, .bool false, .int .i64 0, .int .i64 0, .int .i64 0]) ?_ 6 _ rfl; refine qp (cs := #[.bool true, .bool true, .bool false, .bool false, .bool false, .bool false, .int .i64 0, .int .i64 0, .int .i64 0]) ?_ 5 _ rfl; refine qp (cs := #[.bool true, .bool true, .bool false, .bool false, .bool false, .bool false, .int .i64 0, .int .i64 0, .int .i64 0]) ?_ 4 _ rfl; refine qp (cs := #[.bool true, .bool true, .bool false, .bool false, .bool false, .bool false, .int .i64 0, .int .i64 0, .int .i64 0]) ?_ 3 _ rfl; refine qp (cs := #[.bool true, .bool true, .bool false, .bool false, .bool false, .bool false, .int .i64 0, .int .i64 0, .int .i64 0]) ?_ 2 _ rfl; refine qp (cs := #[.bool true, .bool false, .bool false, .bool false, .bool false, .bool false, .int .i64 0, .int .i64 0, .int .i64 0]) ?_ 1 _ rfl; refine qp (cs := #[.bool false, .bool false, .bool false, .bool false, .bool false, .bool false, .int .i64 0, .int .i64 0, .int .i64 0]) ?_ 0 _ rfl; refine qr ?_ NB146_147.out _; refine qr ?_ NB146_147.out _; (with_reducible repeat (first | refine ql ?_ _ | refine qn ?_ | refine qo ?_ _)); exact BK146.out) Try.underlying81 rfl (by kernel_rfl)) rfl ?_
  exact ⟨by first | rfl | (simp <;> rfl) | (simp [*] <;> rfl), by repeat (first | (with_reducible first | exact HB.out | apply qh | apply qi | apply qj | refine qk ?_ GE146.out | refine qk ?_ GE147.out) | exact HB.out)⟩
 rw [if_neg c37] at H
 have c37b0 : (a0 == 6) = false := beq_eq_false_iff_ne.mpr c37
 have c37b1 : (a0 != 6) = true := bne_iff_ne.mpr c37
 by_cases c41 : a0 = 7
 ·rw [if_pos c41] at H
  have c41b0 : (a0 == 7) = true := beq_iff_eq.mpr c41
  have c41b1 : (a0 != 7) = false := bne_eq_false_iff_eq.mpr c41
  clear c41
  simp only [Option.some.injEq, Prod.mk.injEq] at H
  obtain ⟨rfl, rfl, rfl, rfl, rfl, rfl, rfl, rfl, rfl⟩ := H
  have hnb42 := NB147_146.out
  have hnc42 := NB146_147.out
  obtain ⟨_, _, _, _, _, _, _, _, _, _, _, _, _, _, _, _, _, _⟩ := fc9 BK147.out
  obtain ⟨_, _, _, _, _, _, _, _, _, _, _, _, _, _, _, _, _, _⟩ := fc9 BK146.out
  go_wp2
  refine bodyPost_ret (results_cell_row rfl _ _ gb146 81 #[.bool true, .bool false, .bool false, .bool false, .bool false, .bool false, .int .i64 1, .int .i64 64, .int .i64 0] (0, 0) _ rfl (by (with_reducible repeat (first | refine ql ?_ _ | refine qn ?_ | refine qo ?_ _)); refine qp (cs := #[.bool true, .bool false, .bool false, .bool false, .bool false, .bool false, .int .i64 1, .int .i64 64, .int .i64 0]) ?_ 8 _ rfl; refine qp (cs := #[.bool true, .bool false, .bool false, .bool false, .bool false, .bool false, .int .i64 1, .int .i64 0, .int .i64 0]) ?_ 7 _ rfl; refine qp (cs := #[.bool true, .bool false, .bool false, .bool false, .bool false, .bool false, .int .i64 0, .int .i64 0, .int .i64 0]) ?_ 6 _ rfl; refine qp (cs := #[.bool true, .bool false, .bool false, .bool false, .bool false, .bool false, .int .i64 0, .int .i64 0, .int .i64 0]) ?_ 5 _ rfl; refine qp (cs := #[.bool true, .bool false, .bool false, .bool false, .bool false, .bool false, .int .i64 0, .int .i64 0, .int .i64 0]) ?_ 4 _ rfl; refine qp (cs := #[.bool true, .bool false, .bool false, .bool false, .bool false, .bool false, .int .i64 0, .int .i64 0, .int .i64 0]) ?_ 3 _ rfl; refine qp (cs := #[.bool true, .bool false, .bool false, .bool false, .bool false, .bool false, .int .i64 0, .int .i64 0, .int .i64 0]) ?_ 2 _ rfl; refine qp (cs := #[.bool true, .bool false, .bool false, .bool false, .bool false, .bool false, .int .i64 0, .int .i64 0, .int .i64 0]) ?_ 1 _ rfl; refine qp (cs := #[.bool false, .bool false, .bool false, .bool false, .bool false, .bool false, .int .i64 0, .int .i64 0, .int .i64 0]) ?_ 0 _ rfl; refine qr ?_ NB146_147.out _; refine qr ?_ NB146_147.out _; (with_reducible repeat (first | refine ql ?_ _ | refine qn ?_ | refine qo ?_ _)); exact BK146.out) Try.underlying81 rfl (by kernel_rfl)) rfl ?_
  exact ⟨by first | rfl | (simp <;> rfl) | (simp [*] <;> rfl), by repeat (first | (with_reducible first | exact HB.out | apply qh | apply qi | apply qj | refine qk ?_ GE146.out | refine qk ?_ GE147.out) | exact HB.out)⟩
 rw [if_neg c41] at H
 have c41b0 : (a0 == 7) = false := beq_eq_false_iff_ne.mpr c41
 have c41b1 : (a0 != 7) = true := bne_iff_ne.mpr c41
 by_cases c45 : a0 = 8
 ·rw [if_pos c45] at H
  have c45b0 : (a0 == 8) = true := beq_iff_eq.mpr c45
  have c45b1 : (a0 != 8) = false := bne_eq_false_iff_eq.mpr c45
  clear c45
  simp only [Option.some.injEq, Prod.mk.injEq] at H
  obtain ⟨rfl, rfl, rfl, rfl, rfl, rfl, rfl, rfl, rfl⟩ := H
  have hnb46 := NB147_146.out
  have hnc46 := NB146_147.out
  obtain ⟨_, _, _, _, _, _, _, _, _, _, _, _, _, _, _, _, _, _⟩ := fc9 BK147.out
  obtain ⟨_, _, _, _, _, _, _, _, _, _, _, _, _, _, _, _, _, _⟩ := fc9 BK146.out
  go_wp2
  refine bodyPost_ret (results_cell_row rfl _ _ gb146 81 #[.bool true, .bool true, .bool true, .bool false, .bool true, .bool false, .int .i64 0, .int .i64 1500, .int .i64 0] (0, 0) _ rfl (by (with_reducible repeat (first | refine ql ?_ _ | refine qn ?_ | refine qo ?_ _)); refine qp (cs := #[.bool true, .bool true, .bool true, .bool false, .bool true, .bool false, .int .i64 0, .int .i64 1500, .int .i64 0]) ?_ 8 _ rfl; refine qp (cs := #[.bool true, .bool true, .bool true, .bool false, .bool true, .bool false, .int .i64 0, .int .i64 0, .int .i64 0]) ?_ 7 _ rfl; refine qp (cs := #[.bool true, .bool true, .bool true, .bool false, .bool true, .bool false, .int .i64 0, .int .i64 0, .int .i64 0]) ?_ 6 _ rfl; refine qp (cs := #[.bool true, .bool true, .bool true, .bool false, .bool true, .bool false, .int .i64 0, .int .i64 0, .int .i64 0]) ?_ 5 _ rfl; refine qp (cs := #[.bool true, .bool true, .bool true, .bool false, .bool false, .bool false, .int .i64 0, .int .i64 0, .int .i64 0]) ?_ 4 _ rfl; refine qp (cs := #[.bool true, .bool true, .bool true, .bool false, .bool false, .bool false, .int .i64 0, .int .i64 0, .int .i64 0]) ?_ 3 _ rfl; refine qp (cs := #[.bool true, .bool true, .bool false, .bool false, .bool false, .bool false, .int .i64 0, .int .i64 0, .int .i64 0]) ?_ 2 _ rfl; refine qp (cs := #[.bool true, .bool false, .bool false, .bool false, .bool false, .bool false, .int .i64 0, .int .i64 0, .int .i64 0]) ?_ 1 _ rfl; refine qp (cs := #[.bool false, .bool false, .bool false, .bool false, .bool false, .bool false, .int .i64 0, .int .i64 0, .int .i64 0]) ?_ 0 _ rfl; refine qr ?_ NB146_147.out _; refine qr ?_ NB146_147.out _; refine qr ?_ NB146_147.out _; refine qr ?_ NB146_147.out _; (with_reducible repeat (first | refine ql ?_ _ | refine qn ?_ | refine qo ?_ _)); exact BK146.out) Try.underlying81 rfl (by kernel_rfl)) rfl ?_
  exact ⟨by first | rfl | (simp <;> rfl) | (simp [*] <;> rfl), by repeat (first | (with_reducible first | exact HB.out | apply qh | apply qi | apply qj | refine qk ?_ GE146.out | refine qk ?_ GE147.out) | exact HB.out)⟩
 rw [if_neg c45] at H
 have c45b0 : (a0 == 8) = false := beq_eq_false_iff_ne.mpr c45
 have c45b1 : (a0 != 8) = true := bne_iff_ne.mpr c45
 by_cases c49 : a0 = 24
 ·rw [if_pos c49] at H
  have c49b0 : (a0 == 24) = true := beq_iff_eq.mpr c49
  have c49b1 : (a0 != 24) = false := bne_eq_false_iff_eq.mpr c49
  clear c49
  simp only [Option.some.injEq, Prod.mk.injEq] at H
  obtain ⟨rfl, rfl, rfl, rfl, rfl, rfl, rfl, rfl, rfl⟩ := H
  have hnb50 := NB147_146.out
  have hnc50 := NB146_147.out
  obtain ⟨_, _, _, _, _, _, _, _, _, _, _, _, _, _, _, _, _, _⟩ := fc9 BK147.out
  obtain ⟨_, _, _, _, _, _, _, _, _, _, _, _, _, _, _, _, _, _⟩ := fc9 BK146.out
  go_wp2
  refine bodyPost_ret (results_cell_row rfl _ _ gb146 81 #[.bool true, .bool true, .bool true, .bool false, .bool false, .bool false, .int .i64 1, .int .i64 8, .int .i64 8] (0, 0) _ rfl (by (with_reducible repeat (first | refine ql ?_ _ | refine qn ?_ | refine qo ?_ _)); refine qp (cs := #[.bool true, .bool true, .bool true, .bool false, .bool false, .bool false, .int .i64 1, .int .i64 8, .int .i64 0]) ?_ 8 _ rfl; refine qp (cs := #[.bool true, .bool true, .bool true, .bool false, .bool false, .bool false, .int .i64 1, .int .i64 0, .int .i64 0]) ?_ 7 _ rfl; refine qp (cs := #[.bool true, .bool true, .bool true, .bool false, .bool false, .bool false, .int .i64 0, .int .i64 0, .int .i64 0]) ?_ 6 _ rfl; refine qp (cs := #[.bool true, .bool true, .bool true, .bool false, .bool false, .bool false, .int .i64 0, .int .i64 0, .int .i64 0]) ?_ 5 _ rfl; refine qp (cs := #[.bool true, .bool true, .bool true, .bool false, .bool false, .bool false, .int .i64 0, .int .i64 0, .int .i64 0]) ?_ 4 _ rfl; refine qp (cs := #[.bool true, .bool true, .bool true, .bool false, .bool false, .bool false, .int .i64 0, .int .i64 0, .int .i64 0]) ?_ 3 _ rfl; refine qp (cs := #[.bool true, .bool true, .bool false, .bool false, .bool false, .bool false, .int .i64 0, .int .i64 0, .int .i64 0]) ?_ 2 _ rfl; refine qp (cs := #[.bool true, .bool false, .bool false, .bool false, .bool false, .bool false, .int .i64 0, .int .i64 0, .int .i64 0]) ?_ 1 _ rfl; refine qp (cs := #[.bool false, .bool false, .bool false, .bool false, .bool false, .bool false, .int .i64 0, .int .i64 0, .int .i64 0]) ?_ 0 _ rfl; refine qr ?_ NB146_147.out _; refine qr ?_ NB146_147.out _; refine qr ?_ NB146_147.out _; refine qr ?_ NB146_147.out _; refine qr ?_ NB146_147.out _; (with_reducible repeat (first | refine ql ?_ _ | refine qn ?_ | refine qo ?_ _)); exact BK146.out) Try.underlying81 rfl (by kernel_rfl)) rfl ?_
  exact ⟨by first | rfl | (simp <;> rfl) | (simp [*] <;> rfl), by repeat (first | (with_reducible first | exact HB.out | apply qh | apply qi | apply qj | refine qk ?_ GE146.out | refine qk ?_ GE147.out) | exact HB.out)⟩
 rw [if_neg c49] at H
 have c49b0 : (a0 == 24) = false := beq_eq_false_iff_ne.mpr c49
 have c49b1 : (a0 != 24) = true := bne_iff_ne.mpr c49
 have HC53 := qm H
 clear H
 go_upto_if 54 with (fail)
 go_cut [54] (fun v54 wc => ∃ (kq : Nat) (x54_52 : Bool), v54 = .bool x54_52 ∧ Aside0 (spec_l05Kind.j3 kq a0 x54_52 true false false false false false 0 0 0 = some (r1, r2, r3, r4, r5, r6, r7, r8, r9)) ∧ Aside0 (kq ≤ kj27) ∧ Aside0 (wc.heap[gb146]? = some (.cells #[.bool false, .bool false, .bool false, .bool false, .bool false, .bool false, .int .i64 0, .int .i64 0, .int .i64 0] 81 (0, 0))) ∧ Aside0 (wc.heap[gb147]? = some (.cells #[.bool true, .bool false, .bool false, .bool false, .bool false, .bool false, .int .i64 0, .int .i64 0, .int .i64 0] 81 (0, 0))) ∧ Aside0 (Below w.heap.size w wc))
 case first =>
  have H := HC53.out
  clear HC53
  by_cases c54 : a0 = 26
  ·rw [if_pos c54] at H
   have c54b0 : (a0 == 26) = true := beq_iff_eq.mpr c54
   have c54b1 : (a0 != 26) = false := bne_eq_false_iff_eq.mpr c54
   clear c54
   (first | rw [c54b0] | (simp only [i64_w, i32_w]; rw [c54b0]) | skip)
   have H' := qm H
   clear H
   go_wp2
   go_meet
   case rel => exact ⟨_, ((a0 == 26)), (by first | rfl | (simp; done) | (simp [*]; done)), H', ⟨by have := HJ1.out; have := HJ11.out; have := HJ27.out; first | omega | exact Nat.le_refl _⟩, ⟨BK146.out⟩, ⟨BK147.out⟩, ⟨by repeat (first | (with_reducible first | exact HB.out | apply qh | apply qi | apply qj | refine qk ?_ GE146.out | refine qk ?_ GE147.out) | exact HB.out)⟩⟩
  rw [if_neg c54] at H
  have c54b0 : (a0 == 26) = false := beq_eq_false_iff_ne.mpr c54
  have c54b1 : (a0 != 26) = true := bne_iff_ne.mpr c54
  (first | rw [c54b0] | (simp only [i64_w, i32_w]; rw [c54b0]) | skip)
  have H' := qm H
  clear H
  go_wp2
  go_meet
  case rel => exact ⟨_, ((a0 == 27)), rfl, H', ⟨by have := HJ1.out; have := HJ11.out; have := HJ27.out; omega⟩, ⟨BK146.out⟩, ⟨BK147.out⟩, ⟨by repeat (first | (with_reducible first | exact HB.out | apply qh | apply qi | apply qj | refine qk ?_ GE146.out | refine qk ?_ GE147.out) | exact HB.out)⟩⟩
 clear HC53
 try clear c8
 try clear c16
 try clear c20
 try clear c20b0
 try clear c20b1
 try clear c24
 try clear c24b0
 try clear c24b1
 try clear c33
 try clear c37
 try clear c37b0
 try clear c37b1
 try clear c41
 try clear c41b0
 try clear c41b1
 try clear c45
 try clear c45b0
 try clear c45b1
 try clear c49
 try clear c49b0
 try clear c49b1
 obtain ⟨kq, x54_52, rfl, HA, HJ52, BK146, BK147, HB⟩ := hcut
 cases kq with
 | zero => exact absurd HA.out (by simp [spec_l05Kind.j3])
 | succ kj52 => ?_
 have H := HA.out
 clear HA
 simp only [spec_l05Kind.j3] at H
 by_cases c55 : x54_52 = true
 ·subst c55
  rw [if_pos rfl] at H
  simp only [Option.some.injEq, Prod.mk.injEq] at H
  obtain ⟨rfl, rfl, rfl, rfl, rfl, rfl, rfl, rfl, rfl⟩ := H
  have hnb56 := NB147_146.out
  have hnc56 := NB146_147.out
  obtain ⟨_, _, _, _, _, _, _, _, _, _, _, _, _, _, _, _, _, _⟩ := fc9 BK147.out
  obtain ⟨_, _, _, _, _, _, _, _, _, _, _, _, _, _, _, _, _, _⟩ := fc9 BK146.out
  go_wp2
  refine bodyPost_ret (results_cell_row rfl _ _ gb146 81 #[.bool true, .bool false, .bool false, .bool false, .bool false, .bool false, .int .i64 8, .int .i64 8, .int .i64 0] (0, 0) _ rfl (by (with_reducible repeat (first | refine ql ?_ _ | refine qn ?_ | refine qo ?_ _)); refine qp (cs := #[.bool true, .bool false, .bool false, .bool false, .bool false, .bool false, .int .i64 8, .int .i64 8, .int .i64 0]) ?_ 8 _ rfl; refine qp (cs := #[.bool true, .bool false, .bool false, .bool false, .bool false, .bool false, .int .i64 8, .int .i64 0, .int .i64 0]) ?_ 7 _ rfl; refine qp (cs := #[.bool true, .bool false, .bool false, .bool false, .bool false, .bool false, .int .i64 0, .int .i64 0, .int .i64 0]) ?_ 6 _ rfl; refine qp (cs := #[.bool true, .bool false, .bool false, .bool false, .bool false, .bool false, .int .i64 0, .int .i64 0, .int .i64 0]) ?_ 5 _ rfl; refine qp (cs := #[.bool true, .bool false, .bool false, .bool false, .bool false, .bool false, .int .i64 0, .int .i64 0, .int .i64 0]) ?_ 4 _ rfl; refine qp (cs := #[.bool true, .bool false, .bool false, .bool false, .bool false, .bool false, .int .i64 0, .int .i64 0, .int .i64 0]) ?_ 3 _ rfl; refine qp (cs := #[.bool true, .bool false, .bool false, .bool false, .bool false, .bool false, .int .i64 0, .int .i64 0, .int .i64 0]) ?_ 2 _ rfl; refine qp (cs := #[.bool true, .bool false, .bool false, .bool false, .bool false, .bool false, .int .i64 0, .int .i64 0, .int .i64 0]) ?_ 1 _ rfl; refine qp (cs := #[.bool false, .bool false, .bool false, .bool false, .bool false, .bool false, .int .i64 0, .int .i64 0, .int .i64 0]) ?_ 0 _ rfl; refine qr ?_ NB146_147.out _; refine qr ?_ NB146_147.out _; (with_reducible repeat (first | refine ql ?_ _ | refine qn ?_ | refine qo ?_ _)); exact BK146.out) Try.underlying81 rfl (by kernel_rfl)) rfl ?_
  exact ⟨by first | rfl | (simp <;> rfl) | (simp [*] <;> rfl), by repeat (first | (with_reducible first | exact HB.out | apply qh | apply qi | apply qj | refine qk ?_ GE146.out | refine qk ?_ GE147.out) | exact HB.out)⟩
 replace c55 := Bool.eq_false_iff.mpr c55
 subst c55
 rw [if_neg nt] at H
 by_cases c59 : a0 = 28
 ·rw [if_pos c59] at H
  have c59b0 : (a0 == 28) = true := beq_iff_eq.mpr c59
  have c59b1 : (a0 != 28) = false := bne_eq_false_iff_eq.mpr c59
  clear c59
  simp only [Option.some.injEq, Prod.mk.injEq] at H
  obtain ⟨rfl, rfl, rfl, rfl, rfl, rfl, rfl, rfl, rfl⟩ := H
  have hnb60 := NB147_146.out
  have hnc60 := NB146_147.out
  obtain ⟨_, _, _, _, _, _, _, _, _, _, _, _, _, _, _, _, _, _⟩ := fc9 BK147.out
  obtain ⟨_, _, _, _, _, _, _, _, _, _, _, _, _, _, _, _, _, _⟩ := fc9 BK146.out
  go_wp2
  refine bodyPost_ret (results_cell_row rfl _ _ gb146 81 #[.bool true, .bool true, .bool true, .bool false, .bool false, .bool false, .int .i64 0, .int .i64 200, .int .i64 0] (0, 0) _ rfl (by (with_reducible repeat (first | refine ql ?_ _ | refine qn ?_ | refine qo ?_ _)); refine qp (cs := #[.bool true, .bool true, .bool true, .bool false, .bool false, .bool false, .int .i64 0, .int .i64 200, .int .i64 0]) ?_ 8 _ rfl; refine qp (cs := #[.bool true, .bool true, .bool true, .bool false, .bool false, .bool false, .int .i64 0, .int .i64 0, .int .i64 0]) ?_ 7 _ rfl; refine qp (cs := #[.bool true, .bool true, .bool true, .bool false, .bool false, .bool false, .int .i64 0, .int .i64 0, .int .i64 0]) ?_ 6 _ rfl; refine qp (cs := #[.bool true, .bool true, .bool true, .bool false, .bool false, .bool false, .int .i64 0, .int .i64 0, .int .i64 0]) ?_ 5 _ rfl; refine qp (cs := #[.bool true, .bool true, .bool true, .bool false, .bool false, .bool false, .int .i64 0, .int .i64 0, .int .i64 0]) ?_ 4 _ rfl; refine qp (cs := #[.bool true, .bool true, .bool true, .bool false, .bool false, .bool false, .int .i64 0, .int .i64 0, .int .i64 0]) ?_ 3 _ rfl; refine qp (cs := #[.bool true, .bool true, .bool false, .bool false, .bool false, .bool false, .int .i64 0, .int .i64 0, .int .i64 0]) ?_ 2 _ rfl; refine qp (cs := #[.bool true, .bool false, .bool false, .bool false, .bool false, .bool false, .int .i64 0, .int .i64 0, .int .i64 0]) ?_ 1 _ rfl; refine qp (cs := #[.bool false, .bool false, .bool false, .bool false, .bool false, .bool false, .int .i64 0, .int .i64 0, .int .i64 0]) ?_ 0 _ rfl; refine qr ?_ NB146_147.out _; refine qr ?_ NB146_147.out _; refine qr ?_ NB146_147.out _; (with_reducible repeat (first | refine ql ?_ _ | refine qn ?_ | refine qo ?_ _)); exact BK146.out) Try.underlying81 rfl (by kernel_rfl)) rfl ?_
  exact ⟨by first | rfl | (simp <;> rfl) | (simp [*] <;> rfl), by repeat (first | (with_reducible first | exact HB.out | apply qh | apply qi | apply qj | refine qk ?_ GE146.out | refine qk ?_ GE147.out) | exact HB.out)⟩
 rw [if_neg c59] at H
 have c59b0 : (a0 == 28) = false := beq_eq_false_iff_ne.mpr c59
 have c59b1 : (a0 != 28) = true := bne_iff_ne.mpr c59
 by_cases c63 : a0 = 29
 ·rw [if_pos c63] at H
  have c63b0 : (a0 == 29) = true := beq_iff_eq.mpr c63
  have c63b1 : (a0 != 29) = false := bne_eq_false_iff_eq.mpr c63
  clear c63
  simp only [Option.some.injEq, Prod.mk.injEq] at H
  obtain ⟨rfl, rfl, rfl, rfl, rfl, rfl, rfl, rfl, rfl⟩ := H
  have hnb64 := NB147_146.out
  have hnc64 := NB146_147.out
  obtain ⟨_, _, _, _, _, _, _, _, _, _, _, _, _, _, _, _, _, _⟩ := fc9 BK147.out
  obtain ⟨_, _, _, _, _, _, _, _, _, _, _, _, _, _, _, _, _, _⟩ := fc9 BK146.out
  go_wp2
  refine bodyPost_ret (results_cell_row rfl _ _ gb146 81 #[.bool true, .bool true, .bool false, .bool false, .bool false, .bool false, .int .i64 0, .int .i64 200, .int .i64 0] (0, 0) _ rfl (by (with_reducible repeat (first | refine ql ?_ _ | refine qn ?_ | refine qo ?_ _)); refine qp (cs := #[.bool true, .bool true, .bool false, .bool false, .bool false, .bool false, .int .i64 0, .int .i64 200, .int .i64 0]) ?_ 8 _ rfl; refine qp (cs := #[.bool true, .bool true, .bool false, .bool false, .bool false, .bool false, .int .i64 0, .int .i64 0, .int .i64 0]) ?_ 7 _ rfl; refine qp (cs := #[.bool true, .bool true, .bool false, .bool false, .bool false, .bool false, .int .i64 0, .int .i64 0, .int .i64 0]) ?_ 6 _ rfl; refine qp (cs := #[.bool true, .bool true, .bool false, .bool false, .bool false, .bool false, .int .i64 0, .int .i64 0, .int .i64 0]) ?_ 5 _ rfl; refine qp (cs := #[.bool true, .bool true, .bool false, .bool false, .bool false, .bool false, .int .i64 0, .int .i64 0, .int .i64 0]) ?_ 4 _ rfl; refine qp (cs := #[.bool true, .bool true, .bool false, .bool false, .bool false, .bool false, .int .i64 0, .int .i64 0, .int .i64 0]) ?_ 3 _ rfl; refine qp (cs := #[.bool true, .bool true, .bool false, .bool false, .bool false, .bool false, .int .i64 0, .int .i64 0, .int .i64 0]) ?_ 2 _ rfl; refine qp (cs := #[.bool true, .bool false, .bool false, .bool false, .bool false, .bool false, .int .i64 0, .int .i64 0, .int .i64 0]) ?_ 1 _ rfl; refine qp (cs := #[.bool false, .bool false, .bool false, .bool false, .bool false, .bool false, .int .i64 0, .int .i64 0, .int .i64 0]) ?_ 0 _ rfl; refine qr ?_ NB146_147.out _; refine qr ?_ NB146_147.out _; (with_reducible repeat (first | refine ql ?_ _ | refine qn ?_ | refine qo ?_ _)); exact BK146.out) Try.underlying81 rfl (by kernel_rfl)) rfl ?_
  exact ⟨by first | rfl | (simp <;> rfl) | (simp [*] <;> rfl), by repeat (first | (with_reducible first | exact HB.out | apply qh | apply qi | apply qj | refine qk ?_ GE146.out | refine qk ?_ GE147.out) | exact HB.out)⟩
 rw [if_neg c63] at H
 have c63b0 : (a0 == 29) = false := beq_eq_false_iff_ne.mpr c63
 have c63b1 : (a0 != 29) = true := bne_iff_ne.mpr c63
 by_cases c67 : a0 = 48
 ·rw [if_pos c67] at H
  have c67b0 : (a0 == 48) = true := beq_iff_eq.mpr c67
  have c67b1 : (a0 != 48) = false := bne_eq_false_iff_eq.mpr c67
  clear c67
  simp only [Option.some.injEq, Prod.mk.injEq] at H
  obtain ⟨rfl, rfl, rfl, rfl, rfl, rfl, rfl, rfl, rfl⟩ := H
  have hnb68 := NB147_146.out
  have hnc68 := NB146_147.out
  obtain ⟨_, _, _, _, _, _, _, _, _, _, _, _, _, _, _, _, _, _⟩ := fc9 BK147.out
  obtain ⟨_, _, _, _, _, _, _, _, _, _, _, _, _, _, _, _, _, _⟩ := fc9 BK146.out
  go_wp2
  refine bodyPost_ret (results_cell_row rfl _ _ gb146 81 #[.bool true, .bool false, .bool false, .bool false, .bool false, .bool false, .int .i64 0, .int .i64 1500, .int .i64 0] (0, 0) _ rfl (by (with_reducible repeat (first | refine ql ?_ _ | refine qn ?_ | refine qo ?_ _)); refine qp (cs := #[.bool true, .bool false, .bool false, .bool false, .bool false, .bool false, .int .i64 0, .int .i64 1500, .int .i64 0]) ?_ 8 _ rfl; refine qp (cs := #[.bool true, .bool false, .bool false, .bool false, .bool false, .bool false, .int .i64 0, .int .i64 0, .int .i64 0]) ?_ 7 _ rfl; refine qp (cs := #[.bool true, .bool false, .bool false, .bool false, .bool false, .bool false, .int .i64 0, .int .i64 0, .int .i64 0]) ?_ 6 _ rfl; refine qp (cs := #[.bool true, .bool false, .bool false, .bool false, .bool false, .bool false, .int .i64 0, .int .i64 0, .int .i64 0]) ?_ 5 _ rfl; refine qp (cs := #[.bool true, .bool false, .bool false, .bool false, .bool false, .bool false, .int .i64 0, .int .i64 0, .int .i64 0]) ?_ 4 _ rfl; refine qp (cs := #[.bool true, .bool false, .bool false, .bool false, .bool false, .bool false, .int .i64 0, .int .i64 0, .int .i64 0]) ?_ 3 _ rfl; refine qp (cs := #[.bool true, .bool false, .bool false, .bool false, .bool false, .bool false, .int .i64 0, .int .i64 0, .int .i64 0]) ?_ 2 _ rfl; refine qp (cs := #[.bool true, .bool false, .bool false, .bool false, .bool false, .bool false, .int .i64 0, .int .i64 0, .int .i64 0]) ?_ 1 _ rfl; refine qp (cs := #[.bool false, .bool false, .bool false, .bool false, .bool false, .bool false, .int .i64 0, .int .i64 0, .int .i64 0]) ?_ 0 _ rfl; refine qr ?_ NB146_147.out _; (with_reducible repeat (first | refine ql ?_ _ | refine qn ?_ | refine qo ?_ _)); exact BK146.out) Try.underlying81 rfl (by kernel_rfl)) rfl ?_
  exact ⟨by first | rfl | (simp <;> rfl) | (simp [*] <;> rfl), by repeat (first | (with_reducible first | exact HB.out | apply qh | apply qi | apply qj | refine qk ?_ GE146.out | refine qk ?_ GE147.out) | exact HB.out)⟩
 rw [if_neg c67] at H
 have c67b0 : (a0 == 48) = false := beq_eq_false_iff_ne.mpr c67
 have c67b1 : (a0 != 48) = true := bne_iff_ne.mpr c67
 simp only [Option.some.injEq, Prod.mk.injEq] at H
 obtain ⟨rfl, rfl, rfl, rfl, rfl, rfl, rfl, rfl, rfl⟩ := H
 have hnb71 := NB147_146.out
 have hnc71 := NB146_147.out
 obtain ⟨_, _, _, _, _, _, _, _, _, _, _, _, _, _, _, _, _, _⟩ := fc9 BK147.out
 obtain ⟨_, _, _, _, _, _, _, _, _, _, _, _, _, _, _, _, _, _⟩ := fc9 BK146.out
 go_wp2
 refine bodyPost_ret (results_cell_row rfl _ _ gb146 81 #[.bool false, .bool false, .bool false, .bool false, .bool false, .bool false, .int .i64 0, .int .i64 0, .int .i64 0] (0, 0) _ rfl (by (with_reducible repeat (first | refine ql ?_ _ | refine qn ?_ | refine qo ?_ _)); refine qp (cs := #[.bool false, .bool false, .bool false, .bool false, .bool false, .bool false, .int .i64 0, .int .i64 0, .int .i64 0]) ?_ 8 _ rfl; refine qp (cs := #[.bool false, .bool false, .bool false, .bool false, .bool false, .bool false, .int .i64 0, .int .i64 0, .int .i64 0]) ?_ 7 _ rfl; refine qp (cs := #[.bool false, .bool false, .bool false, .bool false, .bool false, .bool false, .int .i64 0, .int .i64 0, .int .i64 0]) ?_ 6 _ rfl; refine qp (cs := #[.bool false, .bool false, .bool false, .bool false, .bool false, .bool false, .int .i64 0, .int .i64 0, .int .i64 0]) ?_ 5 _ rfl; refine qp (cs := #[.bool false, .bool false, .bool false, .bool false, .bool false, .bool false, .int .i64 0, .int .i64 0, .int .i64 0]) ?_ 4 _ rfl; refine qp (cs := #[.bool false, .bool false, .bool false, .bool false, .bool false, .bool false, .int .i64 0, .int .i64 0, .int .i64 0]) ?_ 3 _ rfl; refine qp (cs := #[.bool false, .bool false, .bool false, .bool false, .bool false, .bool false, .int .i64 0, .int .i64 0, .int .i64 0]) ?_ 2 _ rfl; refine qp (cs := #[.bool false, .bool false, .bool false, .bool false, .bool false, .bool false, .int .i64 0, .int .i64 0, .int .i64 0]) ?_ 1 _ rfl; refine qp (cs := #[.bool false, .bool false, .bool false, .bool false, .bool false, .bool false, .int .i64 0, .int .i64 0, .int .i64 0]) ?_ 0 _ rfl; refine qr ?_ NB146_147.out _; (with_reducible repeat (first | refine ql ?_ _ | refine qn ?_ | refine qo ?_ _)); exact BK146.out) Try.underlying81 rfl (by kernel_rfl)) rfl ?_
 exact ⟨by first | rfl | (simp <;> rfl) | (simp [*] <;> rfl), by repeat (first | (with_reducible first | exact HB.out | apply qh | apply qi | apply qj | refine qk ?_ GE146.out | refine qk ?_ GE147.out) | exact HB.out)⟩
end Go.Proofs.Ytdojcdhlcnlohaa.SFnExactFrameBytes
