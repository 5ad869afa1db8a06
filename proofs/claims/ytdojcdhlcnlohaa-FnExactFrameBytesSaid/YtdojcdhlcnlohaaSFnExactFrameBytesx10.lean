/- The walk of functions that the law FnExactFrameBytes uses, written by program. -/
import Derived.Test.YtdojcdhlcnlohaaSFnExactFrameBytesx0
import Derived.Test.YtdojcdhlcnlohaaSFnExactFrameBytesx9
import Derived.Test.YtdojcdhlcnlohaaSteps2
namespace Go.Proofs.Ytdojcdhlcnlohaa.SFnExactFrameBytes
open Go.Proofs.Ytdojcdhlcnlohaa.Steps2 Go.RowKit Go.Proofs.YtdojcdhlcnlohaaW.PrintWords Go.Proofs.YtdojcdhlcnlohaaW.PrintLast Go.Proofs.YtdojcdhlcnlohaaW.PrintMore
open Go.Proofs.YtdojcdhlcnlohaaW.PrintWords renaming below_alloc → qh, pw_below_drewN → qi, below_drew1 → qj, below_set → qk, blk_drewN → ql, blk_drew → qn, blk_alloc → qo, blk_put → qp, below_size → qs, below_step → qt, blk_cell → qu
open Go.Proofs.YtdojcdhlcnlohaaW.PrintWords.Aside0 renaming mk → qm
attribute [local go_sem] max2_int min2_int max_two min_two max_three min_three max_four min_four 
set_option linter.unusedVariables false
set_option linter.unusedSimpArgs false
/-! ### impl_rangesOK: function 77 -/
def impl_rangesOK.l0 : Nat → List (S105) → List (S105) → Int → Int → Option (Bool)
 | 0, _, _, _, _ => none
 | k + 1, x0, x8, x9, x10 => if x10 < x9 then (if 0 ≤ x10 then (if x10 < (x8.length : Int) then (if ((rd_T105 x8 x10).f0) > ((rd_T105 x8 x10).f1) then (some false) else ((impl_inVar.f ((rd_T105 x8 x10).f0)).bind fun t333 => (if t333 = true then ((impl_inVar.f ((rd_T105 x8 x10).f1)).bind fun t334 => (if t334 = true then (if x10 > 0 then (if 0 ≤ (wrap64 (x10 - 1)) then (if (wrap64 (x10 - 1)) < (x0.length : Int) then (if ((rd_T105 x8 x10).f0) ≤ (wrap64 (((rd_T105 x0 (wrap64 (x10 - 1))).f1) + 1)) then (some false) else (impl_rangesOK.l0 k x0 x8 x9 (wrap64 (x10 + 1)))) else (none)) else (none)) else (impl_rangesOK.l0 k x0 x8 x9 (wrap64 (x10 + 1)))) else (some false))) else (some false)))) else (none)) else (none)) else (some true)
def impl_rangesOK.f (k : Nat) (l0 : List (S105)) : Option (Bool) := if (l0.length : Int) > 64 then (some false) else (impl_rangesOK.l0 k l0 l0 (l0.length : Int) 0)
theorem impl_rangesOK.mono_l : ∀ k, (∀ y0 y1 y2 y3, LeO (impl_rangesOK.l0 k y0 y1 y2 y3) (impl_rangesOK.l0 (k + 1) y0 y1 y2 y3))
 | 0 => fun _ _ _ _ r h => by simp [impl_rangesOK.l0] at h
 | k + 1 => by
  have ih0 := impl_rangesOK.mono_l k
  ·intro y0 y1 y2 y3
   unfold impl_rangesOK.l0
   repeat' first
   | (with_reducible apply ih0)
   | (with_reducible exact LeO.refl _)
   | (with_reducible exact LeO.none _)
   | (with_reducible refine LeO.ite ?_ ?_)
   | (with_reducible refine LeO.bind ?_ (fun _ => ?_))
theorem impl_rangesOK.mono : ∀ a0 k, LeO (impl_rangesOK.f k a0) (impl_rangesOK.f (k + 1) a0) := by
 intro a0 k
 have ih0 := impl_rangesOK.mono_l k
 unfold impl_rangesOK.f
 repeat' first
   | (with_reducible apply ih0)
   | (with_reducible exact LeO.refl _)
   | (with_reducible exact LeO.none _)
   | (with_reducible refine LeO.ite ?_ ?_)
   | (with_reducible refine LeO.bind ?_ (fun _ => ?_))
def impl_rangesOK.T6 : Bool × List (List Nat × List Nat) := (true, [([], []), ([0], [0]), ([], []), ([2], [2]), ([1, 3], [1, 3]), ([4], [4]), ([5], [5]), ([6, 5], [5, 6]), ([7, 5, 5], [5, 7]), ([8, 5], [5, 8]), ([5, 9], [5, 9]), ([10, 8], [10]), ([11], [11]), ([12, 11], [11, 12]), ([13, 11, 11], [11, 13]), ([14, 11], [11, 14]), ([11, 15], [11, 15]), ([16, 14], [16]), ([17], [17]), ([18, 17], [17, 18]), ([19, 17, 17], [17, 19]), ([20], [20]), ([21, 20], [20, 21]), ([20], [20]), ([20], [20]), ([24, 20], [20, 24]), ([23, 25, 20], [20, 23, 25]), ([26, 20], [20, 26]), ([27, 20], [20, 27]), ([28, 20], [20, 28]), ([22, 29, 20], [20, 22, 29]), ([20, 30, 17], [17, 20, 30]), ([17, 31], [17, 31])])
def impl_rangesOK.B6 : List Nat := [0, 1, 0, 4, 15, 31, 63, 127, 255, 511, 1023, 2047, 4095, 8191, 16383, 32767, 65535, 131071, 262143, 524287, 1048575, 2097151, 4194303, 2097151, 2097151, 18874367, 60817407, 127926271, 262143999, 530579455, 1073741823, 2147483647, 4294967295]
theorem impl_rangesOK.tab6 : rtab .any (opsOf Try.f77 6) = impl_rangesOK.T6 := by kernel_rfl
theorem impl_rangesOK.bits6 : waitsOk impl_rangesOK.T6.2 impl_rangesOK.B6 = true := by kernel_rfl
set_option maxHeartbeats 8000000 in
set_option maxRecDepth 100000 in
theorem impl_rangesOK.calls (k : Nat) (A0 : Option Addr) (c0 : Nat) (l0 : List (S105)) (r : Bool) (w : World) (hr0 : Kd.C k105 w A0 l0.length l0) (hc0 : l0.length ≤ c0) (h : impl_rangesOK.f k l0 = some r) :
  Calls Try.prog 77 #[.slice A0 l0.length c0] w fun e w' => e = .returned (.bool r) ∧ Below w.heap.size w w' := by
 have hu105 := Try.underlying105
 have HR0 := qm hr0
 have HC0 := qm hc0
 clear hr0 hc0
 have HB := qm (Below.refl w.heap.size w)
 have H : (if (l0.length : Int) > 64 then (some false) else (impl_rangesOK.l0 k l0 l0 (l0.length : Int) 0)) = some r := h
 clear h
 by_cases c2 : (l0.length : Int) > 64
 ·rw [if_pos c2] at H
  have c2b0 : decide (64 < (l0.length : Int)) = true := decide_eq_true c2
  have c2b1 : decide (64 < l0.length) = true := decide_eq_true (by omega)
  clear c2
  obtain rfl := Option.some.inj H
  go_enter Try.func77, Try.ntmps77
  go_wp2
  go_ret
  exact ⟨by first | rfl | (simp <;> rfl) | (simp [*] <;> rfl), HB.out⟩
 rw [if_neg c2] at H
 have c2b0 : decide (64 < (l0.length : Int)) = false := decide_eq_false c2
 have c2b1 : decide (64 < l0.length) = false := decide_eq_false (by omega)
 clear c2
 have H' := qm H
 clear H
 go_enter Try.func77, Try.ntmps77
 go_wp2
 go_loopg [10] k (fun kq v10 w' => ∃ (x10_1 : Int), v10 = .int .i64 x10_1 ∧ Aside0 (impl_rangesOK.l0 kq l0 l0 (l0.length : Int) x10_1 = some r) ∧ Aside0 (kq ≤ k) ∧ Aside0 (Below w.heap.size w w'))
 case atStart => exact ⟨(0), (by first | rfl | (simp; done) | (simp [*]; done)), H', ⟨Nat.le_refl _⟩, ⟨HB.out⟩⟩
 case round =>
  clear H'
  try clear c2
  try clear c2b0
  try clear c2b1
  obtain ⟨x10_1, rfl, HA, HK1, HB⟩ := hrel
  cases gk with
  | zero => exact absurd HA.out (by simp [impl_rangesOK.l0])
  | succ k1 => ?_
  have H := HA.out
  clear HA
  simp only [impl_rangesOK.l0] at H
  by_cases c3 : x10_1 < (l0.length : Int)
  ·rw [if_pos c3] at H
   have c3b0 : decide (x10_1 < (l0.length : Int)) = true := decide_eq_true c3
   clear c3
   by_cases c4 : 0 ≤ x10_1
   ·rw [if_pos c4] at H
    have c4b0 : decide (0 ≤ x10_1) = true := decide_eq_true c4
    clear c4
    by_cases c5 : x10_1 < (l0.length : Int)
    ·rw [if_pos c5] at H
     have c5b0 : decide (x10_1 < (l0.length : Int)) = true := decide_eq_true c5
     clear c5
     by_cases c6 : ((rd_T105 l0 x10_1).f0) > ((rd_T105 l0 x10_1).f1)
     ·rw [if_pos c6] at H
      have c6b0 : decide (((rd_T105 l0 x10_1).f1) < ((rd_T105 l0 x10_1).f0)) = true := decide_eq_true c6
      clear c6
      obtain rfl := Option.some.inj H
      have p331 : 0 ≤ (x10_1 : Int) := of_decide_eq_true (by assumption)
      have q331 : x10_1 < (l0.length : Int) := of_decide_eq_true (by assumption)
      obtain ⟨ad331, e331, hx331_0, hx331_1⟩ := at_T105 HR0.out x10_1 p331 q331
      cases e331
      replace hx331_0 := (HB.out.cell (World.block_lt_of_cell? w _ hx331_0)).trans hx331_0
      replace hx331_1 := (HB.out.cell (World.block_lt_of_cell? w _ hx331_1)).trans hx331_1
      replace p331 := eq_true p331
      replace q331 := eq_true q331
      try go_wp2_with (first | ((with_reducible refine gate_dst (N := 4) rfl ?_); refine box_event (by rfl) (N := 4) (by rfl) (cs := #[.int .i64 0, .int .i64 0]) (t := 105) (by first | (go_simp; done) | (go_simp; rfl)) ?_; intro gb332 hg w7 hbox hb; have n0_ := qm (qt HB.out hb); have n1_ := qm (hbox); have n2_ := qm ((by rw [hg]; exact (qs HB.out) : w.heap.size ≤ gb332)); have n3_ := qm ((by rw [hg]; exact (qs HB.out) : w.heap.size ≤ gb332)); clear HB; have HB := n0_; have BK332 := n1_; have GW332 := n2_; have GE332 := n3_; clear hb hbox hg; obtain ⟨_, _, _, _⟩ := fc2 BK332.out))
      have n0_ : Aside0 (((w7.setCell ⟨gb332, 0, none⟩ (.int .i64 ((rd_T105 l0 x10_1).f0))).setCell ⟨gb332, 1, none⟩ (.int .i64 ((rd_T105 l0 x10_1).f1))).heap[gb332]? = some (.cells #[.int .i64 ((rd_T105 l0 x10_1).f0), .int .i64 ((rd_T105 l0 x10_1).f1)] 105 (0, 0))) := ⟨by (with_reducible repeat (first | refine ql ?_ _ | refine qn ?_ | refine qo ?_ _)); refine qp (cs := #[.int .i64 ((rd_T105 l0 x10_1).f0), .int .i64 0]) ?_ 1 _ rfl; refine qp (cs := #[.int .i64 0, .int .i64 0]) ?_ 0 _ rfl; (with_reducible repeat (first | refine ql ?_ _ | refine qn ?_ | refine qo ?_ _)); exact BK332.out⟩
      have n1_ : Aside0 (Below w.heap.size w ((w7.setCell ⟨gb332, 0, none⟩ (.int .i64 ((rd_T105 l0 x10_1).f0))).setCell ⟨gb332, 1, none⟩ (.int .i64 ((rd_T105 l0 x10_1).f1)))) := ⟨by repeat (first | (with_reducible first | exact HB.out | apply qh | apply qi | apply qj | refine qk ?_ GE332.out) | exact HB.out)⟩
      (try clear BK332)
      (try clear HB)
      generalize ((w7.setCell ⟨gb332, 0, none⟩ (.int .i64 ((rd_T105 l0 x10_1).f0))).setCell ⟨gb332, 1, none⟩ (.int .i64 ((rd_T105 l0 x10_1).f1))) = w9 at n0_ n1_ ⊢
      have BK332 := n0_
      have HB := n1_
      clear n0_ n1_
      have n0_ := qm (qn BK332.out)
      have n1_ := qm (qj HB.out)
      clear BK332
      clear HB
      have BK332 := n0_
      have HB := n1_
      clear n0_ n1_
      refine start_ (n := 33) (S := fun w' => w'.cell? ⟨gb332, 0, none⟩ = some (.int .i64 ((rd_T105 l0 x10_1).f0)) ∧ w'.cell? ⟨gb332, 1, none⟩ = some (.int .i64 ((rd_T105 l0 x10_1).f1))) (ds := []) (bm 0 33) (by kernel_rfl) rfl rfl ⟨(qu BK332.out 0).trans rfl, (qu BK332.out 1).trans rfl⟩ (fun hHeld => ?_); refine with_tabW impl_rangesOK.tab6 impl_rangesOK.bits6 (fun HT_ HW_ => ?_)
      generalize w9.drew = w10 at BK332 HB hHeld ⊢
      refine pu 0 15 (bm 1 33) HT_ (h := ⟨_, by intro w'; go_simp; with_reducible rfl, _, by simp only [Act.put, s1, s2, s3, i64_w, i32_w]; rfl, ?_⟩)
      refine pu 2 17 (bb 5 33) HT_ (h := ⟨_, by intro w'; go_simp; with_reducible rfl, _, by simp only [Act.put, s1, s2, s3, i64_w, i32_w]; rfl, ?_⟩)
      refine tk 1 16 (bm 3 33) HT_ HW_ (hS := hHeld) (h := ⟨_, by rintro w' ⟨s0, s1⟩; go_simp; with_reducible rfl, _, by simp only [Act.put, s1, s2, s3, i64_w, i32_w]; rfl, ?_⟩)
      refine tk 3 18 (bm 4 33) HT_ HW_ (hS := hHeld) (h := ⟨_, by rintro w' ⟨s0, s1⟩; go_simp; with_reducible rfl, _, by simp only [Act.put, s1, s2, s3, i64_w, i32_w]; rfl, ?_⟩)
      refine pu 4 19 (bm 5 33) HT_ (h := ⟨_, by intro w'; go_simp; with_reducible rfl, _, by simp only [Act.put, s1, s2, s3, i64_w, i32_w]; rfl, ?_⟩)
      refine pu 5 20 (bm 6 33) HT_ (h := ⟨_, by intro w'; go_simp; with_reducible rfl, _, by simp only [Act.put, s1, s2, s3, i64_w, i32_w]; rfl, ?_⟩)
      refine sk 6 21 (bm 7 33) HT_ (h := ⟨_, by simp only [Act.put, s1, s2, s3, i64_w, i32_w]; rfl, ?_⟩)
      refine sk 7 22 (bm 8 33) HT_ (h := ⟨_, by simp only [Act.put, s1, s2, s3, i64_w, i32_w]; rfl, ?_⟩)
      refine sk 8 23 (bm 9 33) HT_ (h := ⟨_, by simp only [Act.put, s1, s2, s3, i64_w, i32_w]; rfl, ?_⟩)
      refine sk 9 24 (bm 10 33) HT_ (h := ⟨_, by simp only [Act.put, s1, s2, s3, i64_w, i32_w]; rfl, ?_⟩)
      refine pu 10 25 (bm 11 33) HT_ (h := ⟨_, by intro w'; go_simp; with_reducible rfl, _, by simp only [Act.put, s1, s2, s3, i64_w, i32_w]; rfl, ?_⟩)
      refine pu 11 26 (bm 12 33) HT_ (h := ⟨_, by intro w'; go_simp; with_reducible rfl, _, by simp only [Act.put, s1, s2, s3, i64_w, i32_w]; rfl, ?_⟩)
      refine sk 12 27 (bm 13 33) HT_ (h := ⟨_, by simp only [Act.put, s1, s2, s3, i64_w, i32_w]; rfl, ?_⟩)
      refine sk 13 28 (bm 14 33) HT_ (h := ⟨_, by simp only [Act.put, s1, s2, s3, i64_w, i32_w]; rfl, ?_⟩)
      refine sk 14 29 (bm 15 33) HT_ (h := ⟨_, by simp only [Act.put, s1, s2, s3, i64_w, i32_w]; rfl, ?_⟩)
      refine sk 15 30 (bm 16 33) HT_ (h := ⟨_, by simp only [Act.put, s1, s2, s3, i64_w, i32_w]; rfl, ?_⟩)
      refine pu 16 31 (bm 17 33) HT_ (h := ⟨_, by intro w'; go_simp; with_reducible rfl, _, by simp only [Act.put, s1, s2, s3, i64_w, i32_w]; rfl, ?_⟩)
      refine pu 17 32 (bm 18 33) HT_ (h := ⟨_, by intro w'; go_simp; with_reducible rfl, _, by simp only [Act.put, s1, s2, s3, i64_w, i32_w]; rfl, ?_⟩)
      refine sk 18 33 (bm 19 33) HT_ (h := ⟨_, by simp only [Act.put, s1, s2, s3, i64_w, i32_w]; rfl, ?_⟩)
      refine sk 19 34 (bm 20 33) HT_ (h := ⟨_, by simp only [Act.put, s1, s2, s3, i64_w, i32_w]; rfl, ?_⟩)
      refine sk 20 35 (bm 21 33) HT_ (h := ⟨_, by simp only [Act.put, s1, s2, s3, i64_w, i32_w]; rfl, ?_⟩)
      refine sk 21 36 (bm 22 33) HT_ (h := ⟨_, by simp only [Act.put, s1, s2, s3, i64_w, i32_w]; rfl, ?_⟩)
      refine sk 22 37 (bm 23 33) HT_ (h := ⟨_, by simp only [Act.put, s1, s2, s3, i64_w, i32_w]; rfl, ?_⟩)
      refine sk 23 38 (bm 24 33) HT_ (h := ⟨_, by simp only [Act.put, s1, s2, s3, i64_w, i32_w]; rfl, ?_⟩)
      refine sk 24 39 (bm 25 33) HT_ (h := ⟨_, by simp only [Act.put, s1, s2, s3, i64_w, i32_w]; rfl, ?_⟩)
      refine sk 25 40 (bm 26 33) HT_ (h := ⟨_, by simp only [Act.put, s1, s2, s3, i64_w, i32_w]; rfl, ?_⟩)
      refine sk 26 41 (bm 27 33) HT_ (h := ⟨_, by simp only [Act.put, s1, s2, s3, i64_w, i32_w]; rfl, ?_⟩)
      refine sk 27 42 (bm 28 33) HT_ (h := ⟨_, by simp only [Act.put, s1, s2, s3, i64_w, i32_w]; rfl, ?_⟩)
      refine sk 28 43 (bm 29 33) HT_ (h := ⟨_, by simp only [Act.put, s1, s2, s3, i64_w, i32_w]; rfl, ?_⟩)
      refine sk 29 44 (bm 30 33) HT_ (h := ⟨_, by simp only [Act.put, s1, s2, s3, i64_w, i32_w]; rfl, ?_⟩)
      refine sk 30 45 (bm 31 33) HT_ (h := ⟨_, by simp only [Act.put, s1, s2, s3, i64_w, i32_w]; rfl, ?_⟩)
      refine sk 31 46 (bm 32 33) HT_ (h := ⟨_, by simp only [Act.put, s1, s2, s3, i64_w, i32_w]; rfl, ?_⟩)
      refine pu 32 47 (bm 33 33) HT_ (h := ⟨_, by intro w'; go_simp; with_reducible rfl, _, by simp only [Act.put, s1, s2, s3, i64_w, i32_w]; rfl, ?_⟩)
      refine done_ (done_of HT_.out (by kernel_rfl)) ?_
      try go_wp2
      go_ret
      exact ⟨by first | rfl | (simp <;> rfl) | (simp [*] <;> rfl), by repeat (first | (with_reducible first | exact HB.out | apply qh | apply qi | apply qj | refine qk ?_ GE332.out) | exact HB.out)⟩
     rw [if_neg c6] at H
     have c6b0 : decide (((rd_T105 l0 x10_1).f1) < ((rd_T105 l0 x10_1).f0)) = false := decide_eq_false c6
     clear c6
     replace H := Option.bind_eq_some_iff.mp H
     obtain ⟨t333, A110, H⟩ := H
     try dsimp only at H
     have A11 := qm A110
     clear A110
     by_cases c12 : t333 = true
     ·subst c12
      rw [if_pos rfl] at H
      replace H := Option.bind_eq_some_iff.mp H
      obtain ⟨t334, A130, H⟩ := H
      try dsimp only at H
      have A13 := qm A130
      clear A130
      by_cases c14 : t334 = true
      ·subst c14
       rw [if_pos rfl] at H
       by_cases c15 : x10_1 > 0
       ·rw [if_pos c15] at H
        have c15b0 : decide (0 < x10_1) = true := decide_eq_true c15
        clear c15
        obtain ⟨ji16, hji16⟩ : ∃ j_ : Int, (wrap64 (x10_1 - 1)) = j_ := ⟨_, rfl⟩
        replace H : (if 0 ≤ (ji16) then (if (ji16) < (l0.length : Int) then (if ((rd_T105 l0 x10_1).f0) ≤ (wrap64 (((rd_T105 l0 (ji16)).f1) + 1)) then (some false) else (impl_rangesOK.l0 k1 l0 l0 (l0.length : Int) (wrap64 (x10_1 + 1)))) else (none)) else (none)) = some r := by first | (rw [hji16] at H; exact H) | (simp only [hji16] at H ⊢; exact H)
        (try rw [hji16] at A11)
        (try rw [hji16] at A13)
        have hji16w : (IntKind.i64.wrap (x10_1 - 1)) = ji16 := (i64_w _).trans hji16
        by_cases c17 : 0 ≤ (ji16)
        ·rw [if_pos c17] at H
         have c17b0 : decide (0 ≤ (ji16)) = true := decide_eq_true c17
         clear c17
         by_cases c18 : (ji16) < (l0.length : Int)
         ·rw [if_pos c18] at H
          have c18b0 : decide ((ji16) < (l0.length : Int)) = true := decide_eq_true c18
          clear c18
          by_cases c19 : ((rd_T105 l0 x10_1).f0) ≤ (wrap64 (((rd_T105 l0 (ji16)).f1) + 1))
          ·rw [if_pos c19] at H
           have c19b0 : decide (((rd_T105 l0 x10_1).f0) ≤ (wrap64 (((rd_T105 l0 (ji16)).f1) + 1))) = true := decide_eq_true c19
           clear c19
           obtain rfl := Option.some.inj H
           have p331 : 0 ≤ (x10_1 : Int) := of_decide_eq_true (by assumption)
           have q331 : x10_1 < (l0.length : Int) := of_decide_eq_true (by assumption)
           obtain ⟨ad331, e331, hx331_0, hx331_1⟩ := at_T105 HR0.out x10_1 p331 q331
           cases e331
           replace hx331_0 := (HB.out.cell (World.block_lt_of_cell? w _ hx331_0)).trans hx331_0
           replace hx331_1 := (HB.out.cell (World.block_lt_of_cell? w _ hx331_1)).trans hx331_1
           replace p331 := eq_true p331
           replace q331 := eq_true q331
           try go_wp2_with (first | ((with_reducible refine gate_dst (N := 4) rfl ?_); refine box_event (by rfl) (N := 4) (by rfl) (cs := #[.int .i64 0, .int .i64 0]) (t := 105) (by first | (go_simp; done) | (go_simp; rfl)) ?_; intro gb332 hg w20 hbox hb; have n0_ := qm (qt HB.out hb); have n1_ := qm (hbox); have n2_ := qm ((by rw [hg]; exact (qs HB.out) : w.heap.size ≤ gb332)); have n3_ := qm ((by rw [hg]; exact (qs HB.out) : w.heap.size ≤ gb332)); clear HB; have HB := n0_; have BK332 := n1_; have GW332 := n2_; have GE332 := n3_; clear hb hbox hg; obtain ⟨_, _, _, _⟩ := fc2 BK332.out))
           have n0_ : Aside0 (((w20.setCell ⟨gb332, 0, none⟩ (.int .i64 ((rd_T105 l0 x10_1).f0))).setCell ⟨gb332, 1, none⟩ (.int .i64 ((rd_T105 l0 x10_1).f1))).heap[gb332]? = some (.cells #[.int .i64 ((rd_T105 l0 x10_1).f0), .int .i64 ((rd_T105 l0 x10_1).f1)] 105 (0, 0))) := ⟨by (with_reducible repeat (first | refine ql ?_ _ | refine qn ?_ | refine qo ?_ _)); refine qp (cs := #[.int .i64 ((rd_T105 l0 x10_1).f0), .int .i64 0]) ?_ 1 _ rfl; refine qp (cs := #[.int .i64 0, .int .i64 0]) ?_ 0 _ rfl; (with_reducible repeat (first | refine ql ?_ _ | refine qn ?_ | refine qo ?_ _)); exact BK332.out⟩
           have n1_ : Aside0 (Below w.heap.size w ((w20.setCell ⟨gb332, 0, none⟩ (.int .i64 ((rd_T105 l0 x10_1).f0))).setCell ⟨gb332, 1, none⟩ (.int .i64 ((rd_T105 l0 x10_1).f1)))) := ⟨by repeat (first | (with_reducible first | exact HB.out | apply qh | apply qi | apply qj | refine qk ?_ GE332.out) | exact HB.out)⟩
           (try clear BK332)
           (try clear HB)
           generalize ((w20.setCell ⟨gb332, 0, none⟩ (.int .i64 ((rd_T105 l0 x10_1).f0))).setCell ⟨gb332, 1, none⟩ (.int .i64 ((rd_T105 l0 x10_1).f1))) = w22 at n0_ n1_ ⊢
           have BK332 := n0_
           have HB := n1_
           clear n0_ n1_
           have n0_ := qm (qn BK332.out)
           have n1_ := qm (qj HB.out)
           clear BK332
           clear HB
           have BK332 := n0_
           have HB := n1_
           clear n0_ n1_
           have p335 : 0 ≤ ((ji16) : Int) := of_decide_eq_true (by assumption)
           have q335 : (ji16) < (l0.length : Int) := of_decide_eq_true (by assumption)
           obtain ⟨ad335, e335, hx335_0, hx335_1⟩ := at_T105 HR0.out (ji16) p335 q335
           have hw335_1 := hx335_1
           have hw335_0 := hx335_0
           obtain rfl : ad331 = ad335 := (by injection e335)
           replace hx335_0 := (HB.out.cell (World.block_lt_of_cell? w _ hx335_0)).trans hx335_0
           replace hx335_1 := (HB.out.cell (World.block_lt_of_cell? w _ hx335_1)).trans hx335_1
           replace p335 := eq_true p335
           replace q335 := eq_true q335
           refine start_ (n := 33) (S := fun w' => w'.cell? ⟨gb332, 0, none⟩ = some (.int .i64 ((rd_T105 l0 x10_1).f0)) ∧ w'.cell? ⟨gb332, 1, none⟩ = some (.int .i64 ((rd_T105 l0 x10_1).f1)) ∧ w'.cell? (ad331.add (((ji16)).toNat * 2)) = some (.int .i64 ((rd_T105 l0 (ji16)).f0)) ∧ w'.cell? ⟨(ad331.add (((ji16)).toNat * 2)).block, (ad331.add (((ji16)).toNat * 2)).off + 1, none⟩ = some (.int .i64 ((rd_T105 l0 (ji16)).f1))) (ds := []) (bm 0 33) (by kernel_rfl) rfl rfl ⟨(qu BK332.out 0).trans rfl, (qu BK332.out 1).trans rfl, ((HB.out.cell (World.block_lt_of_cell? w _ hw335_0)).trans hw335_0), ((HB.out.cell (World.block_lt_of_cell? w _ hw335_1)).trans hw335_1)⟩ (fun hHeld => ?_); refine with_tabW impl_rangesOK.tab6 impl_rangesOK.bits6 (fun HT_ HW_ => ?_)
           generalize w22.drew = w23 at BK332 HB hx335_0 hx335_1 hHeld ⊢
           refine pu 0 15 (bm 1 33) HT_ (h := ⟨_, by intro w'; go_simp; with_reducible rfl, _, by simp only [Act.put, s1, s2, s3, i64_w, i32_w]; rfl, ?_⟩)
           refine pu 2 17 (bb 5 33) HT_ (h := ⟨_, by intro w'; go_simp; with_reducible rfl, _, by simp only [Act.put, s1, s2, s3, i64_w, i32_w]; rfl, ?_⟩)
           refine tk 1 16 (bm 3 33) HT_ HW_ (hS := hHeld) (h := ⟨_, by rintro w' ⟨s0, s1, s2, s3⟩; go_simp; with_reducible rfl, _, by simp only [Act.put, s1, s2, s3, i64_w, i32_w]; rfl, ?_⟩)
           refine tk 3 18 (bm 4 33) HT_ HW_ (hS := hHeld) (h := ⟨_, by rintro w' ⟨s0, s1, s2, s3⟩; go_simp; with_reducible rfl, _, by simp only [Act.put, s1, s2, s3, i64_w, i32_w]; rfl, ?_⟩)
           refine pu 4 19 (bm 5 33) HT_ (h := ⟨_, by intro w'; go_simp; with_reducible rfl, _, by simp only [Act.put, s1, s2, s3, i64_w, i32_w]; rfl, ?_⟩)
           refine pu 5 20 (bm 6 33) HT_ (h := ⟨_, by intro w'; go_simp; with_reducible rfl, _, by simp only [Act.put, s1, s2, s3, i64_w, i32_w]; rfl, ?_⟩)
           refine pu 6 21 (bm 7 33) HT_ (h := ⟨_, by intro w'; go_simp; with_reducible rfl, _, by simp only [Act.put, s1, s2, s3, i64_w, i32_w]; rfl, ?_⟩)
           refine tk 7 22 (bm 8 33) HT_ HW_ (hS := hHeld) (h := ⟨_, by rintro w' ⟨s0, s1, s2, s3⟩; go_simp; with_reducible rfl, _, by simp only [Act.put, s1, s2, s3, i64_w, i32_w]; rfl, ?_⟩)
           refine one_ (i := 8) (N := some 23) (bm 9 33) rfl rfl (one_of HT_.out (by kernel_rfl)) (by decide) (fun K hK => ?_)
           refine goes_ Try.func58 (by kernel_rfl) rfl #[.int .i64 ((rd_T105 l0 x10_1).f0)] (by rfl) rfl rfl (by (try simp only [m1, m2, m3]); first | done | rfl) ?_
           with_reducible refine (impl_inVar.calls ((rd_T105 l0 x10_1).f0) true _ A11.out).mono ?_
           rintro e w' ⟨rfl, ⟨nd, rfl⟩⟩
           refine ⟨_, rfl, ?_⟩
           refine hK.out _ _ ⟨(qu BK332.out 0).trans rfl, (qu BK332.out 1).trans rfl, ((HB.out.cell (World.block_lt_of_cell? w _ hw335_0)).trans hw335_0), ((HB.out.cell (World.block_lt_of_cell? w _ hw335_1)).trans hw335_1)⟩ (fun hHeld => ?_)
           clear hK K
           refine norm_ (a' := ?_) ?_ ?_
           rotate_left
           ·show Act.put _ (some 23) _ = _
            simp only [Act.put, s1, s2, s3, i64_w, i32_w]
            rfl
           refine pu 9 24 (bm 10 33) HT_ (h := ⟨_, by intro w'; go_simp; with_reducible rfl, _, by simp only [Act.put, s1, s2, s3, i64_w, i32_w]; rfl, ?_⟩)
           refine pu 10 25 (bm 11 33) HT_ (h := ⟨_, by intro w'; go_simp; with_reducible rfl, _, by simp only [Act.put, s1, s2, s3, i64_w, i32_w]; rfl, ?_⟩)
           refine pu 11 26 (bm 12 33) HT_ (h := ⟨_, by intro w'; go_simp; with_reducible rfl, _, by simp only [Act.put, s1, s2, s3, i64_w, i32_w]; rfl, ?_⟩)
           refine pu 12 27 (bm 13 33) HT_ (h := ⟨_, by intro w'; go_simp; with_reducible rfl, _, by simp only [Act.put, s1, s2, s3, i64_w, i32_w]; rfl, ?_⟩)
           refine tk 13 28 (bm 14 33) HT_ HW_ (hS := hHeld) (h := ⟨_, by rintro w' ⟨s0, s1, s2, s3⟩; go_simp; with_reducible rfl, _, by simp only [Act.put, s1, s2, s3, i64_w, i32_w]; rfl, ?_⟩)
           refine one_ (i := 14) (N := some 29) (bm 15 33) rfl rfl (one_of HT_.out (by kernel_rfl)) (by decide) (fun K hK => ?_)
           refine goes_ Try.func58 (by kernel_rfl) rfl #[.int .i64 ((rd_T105 l0 x10_1).f1)] (by rfl) rfl rfl (by (try simp only [m1, m2, m3]); first | done | rfl) ?_
           with_reducible refine (impl_inVar.calls ((rd_T105 l0 x10_1).f1) true _ A13.out).mono ?_
           rintro e w' ⟨rfl, ⟨nd, rfl⟩⟩
           refine ⟨_, rfl, ?_⟩
           refine hK.out _ _ ⟨(qu BK332.out 0).trans rfl, (qu BK332.out 1).trans rfl, ((HB.out.cell (World.block_lt_of_cell? w _ hw335_0)).trans hw335_0), ((HB.out.cell (World.block_lt_of_cell? w _ hw335_1)).trans hw335_1)⟩ (fun hHeld => ?_)
           clear hK K
           refine norm_ (a' := ?_) ?_ ?_
           rotate_left
           ·show Act.put _ (some 29) _ = _
            simp only [Act.put, s1, s2, s3, i64_w, i32_w]
            rfl
           refine pu 15 30 (bm 16 33) HT_ (h := ⟨_, by intro w'; go_simp; with_reducible rfl, _, by simp only [Act.put, s1, s2, s3, i64_w, i32_w]; rfl, ?_⟩)
           refine pu 16 31 (bm 17 33) HT_ (h := ⟨_, by intro w'; go_simp; with_reducible rfl, _, by simp only [Act.put, s1, s2, s3, i64_w, i32_w]; rfl, ?_⟩)
           refine pu 17 32 (bm 18 33) HT_ (h := ⟨_, by intro w'; go_simp; with_reducible rfl, _, by simp only [Act.put, s1, s2, s3, i64_w, i32_w]; rfl, ?_⟩)
           refine pu 18 33 (bm 19 33) HT_ (h := ⟨_, by intro w'; go_simp; with_reducible rfl, _, by simp only [Act.put, s1, s2, s3, i64_w, i32_w]; rfl, ?_⟩)
           refine pu 19 34 (bm 20 33) HT_ (h := ⟨_, by intro w'; go_simp; with_reducible rfl, _, by simp only [Act.put, s1, s2, s3, i64_w, i32_w]; rfl, ?_⟩)
           refine pu 20 35 (bm 21 33) HT_ (h := ⟨_, by intro w'; go_simp; with_reducible rfl, _, by simp only [Act.put, s1, s2, s3, i64_w, i32_w]; rfl, ?_⟩)
           refine pu 21 36 (bm 22 33) HT_ (h := ⟨_, by intro w'; go_simp; with_reducible rfl, _, by simp only [Act.put, s1, s2, s3, i64_w, i32_w]; rfl, ?_⟩)
           refine pu 23 38 (bb 12582911 33) HT_ (h := ⟨_, by intro w'; go_simp; with_reducible rfl, _, by simp only [Act.put, s1, s2, s3, i64_w, i32_w]; rfl, ?_⟩)
           refine pu 24 39 (bb 29360127 33) HT_ (h := ⟨_, by intro w'; go_simp; with_reducible rfl, _, by simp only [Act.put, s1, s2, s3, i64_w, i32_w]; rfl, ?_⟩)
           refine pu 25 40 (bb 62914559 33) HT_ (h := ⟨_, by intro w'; go_simp; with_reducible rfl, _, by simp only [Act.put, s1, s2, s3, i64_w, i32_w]; rfl, ?_⟩)
           refine pu 26 41 (bb 130023423 33) HT_ (h := ⟨_, by intro w'; go_simp; with_reducible rfl, _, by simp only [Act.put, s1, s2, s3, i64_w, i32_w]; rfl, ?_⟩)
           refine pu 27 42 (bb 264241151 33) HT_ (h := ⟨_, by intro w'; go_simp; with_reducible rfl, _, by simp only [Act.put, s1, s2, s3, i64_w, i32_w]; rfl, ?_⟩)
           refine tk 22 37 (bm 28 33) HT_ HW_ (hS := hHeld) (h := ⟨_, by rintro w' ⟨s0, s1, s2, s3⟩; go_simp; with_reducible rfl, _, by simp only [Act.put, s1, s2, s3, i64_w, i32_w]; rfl, ?_⟩)
           refine tk 28 43 (bm 29 33) HT_ HW_ (hS := hHeld) (h := ⟨_, by rintro w' ⟨s0, s1, s2, s3⟩; go_simp; with_reducible rfl, _, by simp only [Act.put, s1, s2, s3, i64_w, i32_w]; rfl, ?_⟩)
           refine pu 29 44 (bm 30 33) HT_ (h := ⟨_, by intro w'; go_simp; with_reducible rfl, _, by simp only [Act.put, s1, s2, s3, i64_w, i32_w]; rfl, ?_⟩)
           refine pu 30 45 (bm 31 33) HT_ (h := ⟨_, by intro w'; go_simp; with_reducible rfl, _, by simp only [Act.put, s1, s2, s3, i64_w, i32_w]; rfl, ?_⟩)
           refine pu 31 46 (bm 32 33) HT_ (h := ⟨_, by intro w'; go_simp; with_reducible rfl, _, by simp only [Act.put, s1, s2, s3, i64_w, i32_w]; rfl, ?_⟩)
           refine pu 32 47 (bm 33 33) HT_ (h := ⟨_, by intro w'; go_simp; with_reducible rfl, _, by simp only [Act.put, s1, s2, s3, i64_w, i32_w]; rfl, ?_⟩)
           refine done_ (done_of HT_.out (by kernel_rfl)) ?_
           try go_wp2
           go_ret
           exact ⟨by first | rfl | (simp [errW_none, errW_some] <;> rfl) | (simp only [← hji16]; first | rfl | (simp [errW_none, errW_some] <;> rfl)) | (simp [*, errW_none, errW_some] <;> rfl), by repeat (first | (with_reducible first | exact HB.out | apply qh | apply qi | apply qj | refine qk ?_ GE332.out) | exact HB.out)⟩
          rw [if_neg c19] at H
          have c19b0 : decide (((rd_T105 l0 x10_1).f0) ≤ (wrap64 (((rd_T105 l0 (ji16)).f1) + 1))) = false := decide_eq_false c19
          clear c19
          have H' := qm H
          clear H
          have p331 : 0 ≤ (x10_1 : Int) := of_decide_eq_true (by assumption)
          have q331 : x10_1 < (l0.length : Int) := of_decide_eq_true (by assumption)
          obtain ⟨ad331, e331, hx331_0, hx331_1⟩ := at_T105 HR0.out x10_1 p331 q331
          cases e331
          replace hx331_0 := (HB.out.cell (World.block_lt_of_cell? w _ hx331_0)).trans hx331_0
          replace hx331_1 := (HB.out.cell (World.block_lt_of_cell? w _ hx331_1)).trans hx331_1
          replace p331 := eq_true p331
          replace q331 := eq_true q331
          try go_wp2_with (first | ((with_reducible refine gate_dst (N := 4) rfl ?_); refine box_event (by rfl) (N := 4) (by rfl) (cs := #[.int .i64 0, .int .i64 0]) (t := 105) (by first | (go_simp; done) | (go_simp; rfl)) ?_; intro gb332 hg w24 hbox hb; have n0_ := qm (qt HB.out hb); have n1_ := qm (hbox); have n2_ := qm ((by rw [hg]; exact (qs HB.out) : w.heap.size ≤ gb332)); have n3_ := qm ((by rw [hg]; exact (qs HB.out) : w.heap.size ≤ gb332)); clear HB; have HB := n0_; have BK332 := n1_; have GW332 := n2_; have GE332 := n3_; clear hb hbox hg; obtain ⟨_, _, _, _⟩ := fc2 BK332.out))
          have n0_ : Aside0 (((w24.setCell ⟨gb332, 0, none⟩ (.int .i64 ((rd_T105 l0 x10_1).f0))).setCell ⟨gb332, 1, none⟩ (.int .i64 ((rd_T105 l0 x10_1).f1))).heap[gb332]? = some (.cells #[.int .i64 ((rd_T105 l0 x10_1).f0), .int .i64 ((rd_T105 l0 x10_1).f1)] 105 (0, 0))) := ⟨by (with_reducible repeat (first | refine ql ?_ _ | refine qn ?_ | refine qo ?_ _)); refine qp (cs := #[.int .i64 ((rd_T105 l0 x10_1).f0), .int .i64 0]) ?_ 1 _ rfl; refine qp (cs := #[.int .i64 0, .int .i64 0]) ?_ 0 _ rfl; (with_reducible repeat (first | refine ql ?_ _ | refine qn ?_ | refine qo ?_ _)); exact BK332.out⟩
          have n1_ : Aside0 (Below w.heap.size w ((w24.setCell ⟨gb332, 0, none⟩ (.int .i64 ((rd_T105 l0 x10_1).f0))).setCell ⟨gb332, 1, none⟩ (.int .i64 ((rd_T105 l0 x10_1).f1)))) := ⟨by repeat (first | (with_reducible first | exact HB.out | apply qh | apply qi | apply qj | refine qk ?_ GE332.out) | exact HB.out)⟩
          (try clear BK332)
          (try clear HB)
          generalize ((w24.setCell ⟨gb332, 0, none⟩ (.int .i64 ((rd_T105 l0 x10_1).f0))).setCell ⟨gb332, 1, none⟩ (.int .i64 ((rd_T105 l0 x10_1).f1))) = w26 at n0_ n1_ ⊢
          have BK332 := n0_
          have HB := n1_
          clear n0_ n1_
          have n0_ := qm (qn BK332.out)
          have n1_ := qm (qj HB.out)
          clear BK332
          clear HB
          have BK332 := n0_
          have HB := n1_
          clear n0_ n1_
          have p335 : 0 ≤ ((ji16) : Int) := of_decide_eq_true (by assumption)
          have q335 : (ji16) < (l0.length : Int) := of_decide_eq_true (by assumption)
          obtain ⟨ad335, e335, hx335_0, hx335_1⟩ := at_T105 HR0.out (ji16) p335 q335
          have hw335_1 := hx335_1
          have hw335_0 := hx335_0
          obtain rfl : ad331 = ad335 := (by injection e335)
          replace hx335_0 := (HB.out.cell (World.block_lt_of_cell? w _ hx335_0)).trans hx335_0
          replace hx335_1 := (HB.out.cell (World.block_lt_of_cell? w _ hx335_1)).trans hx335_1
          replace p335 := eq_true p335
          replace q335 := eq_true q335
          refine start_ (n := 33) (S := fun w' => w'.cell? ⟨gb332, 0, none⟩ = some (.int .i64 ((rd_T105 l0 x10_1).f0)) ∧ w'.cell? ⟨gb332, 1, none⟩ = some (.int .i64 ((rd_T105 l0 x10_1).f1)) ∧ w'.cell? (ad331.add (((ji16)).toNat * 2)) = some (.int .i64 ((rd_T105 l0 (ji16)).f0)) ∧ w'.cell? ⟨(ad331.add (((ji16)).toNat * 2)).block, (ad331.add (((ji16)).toNat * 2)).off + 1, none⟩ = some (.int .i64 ((rd_T105 l0 (ji16)).f1))) (ds := []) (bm 0 33) (by kernel_rfl) rfl rfl ⟨(qu BK332.out 0).trans rfl, (qu BK332.out 1).trans rfl, ((HB.out.cell (World.block_lt_of_cell? w _ hw335_0)).trans hw335_0), ((HB.out.cell (World.block_lt_of_cell? w _ hw335_1)).trans hw335_1)⟩ (fun hHeld => ?_); refine with_tabW impl_rangesOK.tab6 impl_rangesOK.bits6 (fun HT_ HW_ => ?_)
          generalize w26.drew = w27 at BK332 HB hx335_0 hx335_1 hHeld ⊢
          refine pu 0 15 (bm 1 33) HT_ (h := ⟨_, by intro w'; go_simp; with_reducible rfl, _, by simp only [Act.put, s1, s2, s3, i64_w, i32_w]; rfl, ?_⟩)
          refine pu 2 17 (bb 5 33) HT_ (h := ⟨_, by intro w'; go_simp; with_reducible rfl, _, by simp only [Act.put, s1, s2, s3, i64_w, i32_w]; rfl, ?_⟩)
          refine tk 1 16 (bm 3 33) HT_ HW_ (hS := hHeld) (h := ⟨_, by rintro w' ⟨s0, s1, s2, s3⟩; go_simp; with_reducible rfl, _, by simp only [Act.put, s1, s2, s3, i64_w, i32_w]; rfl, ?_⟩)
          refine tk 3 18 (bm 4 33) HT_ HW_ (hS := hHeld) (h := ⟨_, by rintro w' ⟨s0, s1, s2, s3⟩; go_simp; with_reducible rfl, _, by simp only [Act.put, s1, s2, s3, i64_w, i32_w]; rfl, ?_⟩)
          refine pu 4 19 (bm 5 33) HT_ (h := ⟨_, by intro w'; go_simp; with_reducible rfl, _, by simp only [Act.put, s1, s2, s3, i64_w, i32_w]; rfl, ?_⟩)
          refine pu 5 20 (bm 6 33) HT_ (h := ⟨_, by intro w'; go_simp; with_reducible rfl, _, by simp only [Act.put, s1, s2, s3, i64_w, i32_w]; rfl, ?_⟩)
          refine pu 6 21 (bm 7 33) HT_ (h := ⟨_, by intro w'; go_simp; with_reducible rfl, _, by simp only [Act.put, s1, s2, s3, i64_w, i32_w]; rfl, ?_⟩)
          refine tk 7 22 (bm 8 33) HT_ HW_ (hS := hHeld) (h := ⟨_, by rintro w' ⟨s0, s1, s2, s3⟩; go_simp; with_reducible rfl, _, by simp only [Act.put, s1, s2, s3, i64_w, i32_w]; rfl, ?_⟩)
          refine one_ (i := 8) (N := some 23) (bm 9 33) rfl rfl (one_of HT_.out (by kernel_rfl)) (by decide) (fun K hK => ?_)
          refine goes_ Try.func58 (by kernel_rfl) rfl #[.int .i64 ((rd_T105 l0 x10_1).f0)] (by rfl) rfl rfl (by (try simp only [m1, m2, m3]); first | done | rfl) ?_
          with_reducible refine (impl_inVar.calls ((rd_T105 l0 x10_1).f0) true _ A11.out).mono ?_
          rintro e w' ⟨rfl, ⟨nd, rfl⟩⟩
          refine ⟨_, rfl, ?_⟩
          refine hK.out _ _ ⟨(qu BK332.out 0).trans rfl, (qu BK332.out 1).trans rfl, ((HB.out.cell (World.block_lt_of_cell? w _ hw335_0)).trans hw335_0), ((HB.out.cell (World.block_lt_of_cell? w _ hw335_1)).trans hw335_1)⟩ (fun hHeld => ?_)
          clear hK K
          refine norm_ (a' := ?_) ?_ ?_
          rotate_left
          ·show Act.put _ (some 23) _ = _
           simp only [Act.put, s1, s2, s3, i64_w, i32_w]
           rfl
          refine pu 9 24 (bm 10 33) HT_ (h := ⟨_, by intro w'; go_simp; with_reducible rfl, _, by simp only [Act.put, s1, s2, s3, i64_w, i32_w]; rfl, ?_⟩)
          refine pu 10 25 (bm 11 33) HT_ (h := ⟨_, by intro w'; go_simp; with_reducible rfl, _, by simp only [Act.put, s1, s2, s3, i64_w, i32_w]; rfl, ?_⟩)
          refine pu 11 26 (bm 12 33) HT_ (h := ⟨_, by intro w'; go_simp; with_reducible rfl, _, by simp only [Act.put, s1, s2, s3, i64_w, i32_w]; rfl, ?_⟩)
          refine pu 12 27 (bm 13 33) HT_ (h := ⟨_, by intro w'; go_simp; with_reducible rfl, _, by simp only [Act.put, s1, s2, s3, i64_w, i32_w]; rfl, ?_⟩)
          refine tk 13 28 (bm 14 33) HT_ HW_ (hS := hHeld) (h := ⟨_, by rintro w' ⟨s0, s1, s2, s3⟩; go_simp; with_reducible rfl, _, by simp only [Act.put, s1, s2, s3, i64_w, i32_w]; rfl, ?_⟩)
          refine one_ (i := 14) (N := some 29) (bm 15 33) rfl rfl (one_of HT_.out (by kernel_rfl)) (by decide) (fun K hK => ?_)
          refine goes_ Try.func58 (by kernel_rfl) rfl #[.int .i64 ((rd_T105 l0 x10_1).f1)] (by rfl) rfl rfl (by (try simp only [m1, m2, m3]); first | done | rfl) ?_
          with_reducible refine (impl_inVar.calls ((rd_T105 l0 x10_1).f1) true _ A13.out).mono ?_
          rintro e w' ⟨rfl, ⟨nd, rfl⟩⟩
          refine ⟨_, rfl, ?_⟩
          refine hK.out _ _ ⟨(qu BK332.out 0).trans rfl, (qu BK332.out 1).trans rfl, ((HB.out.cell (World.block_lt_of_cell? w _ hw335_0)).trans hw335_0), ((HB.out.cell (World.block_lt_of_cell? w _ hw335_1)).trans hw335_1)⟩ (fun hHeld => ?_)
          clear hK K
          refine norm_ (a' := ?_) ?_ ?_
          rotate_left
          ·show Act.put _ (some 29) _ = _
           simp only [Act.put, s1, s2, s3, i64_w, i32_w]
           rfl
          refine pu 15 30 (bm 16 33) HT_ (h := ⟨_, by intro w'; go_simp; with_reducible rfl, _, by simp only [Act.put, s1, s2, s3, i64_w, i32_w]; rfl, ?_⟩)
          refine pu 16 31 (bm 17 33) HT_ (h := ⟨_, by intro w'; go_simp; with_reducible rfl, _, by simp only [Act.put, s1, s2, s3, i64_w, i32_w]; rfl, ?_⟩)
          refine pu 17 32 (bm 18 33) HT_ (h := ⟨_, by intro w'; go_simp; with_reducible rfl, _, by simp only [Act.put, s1, s2, s3, i64_w, i32_w]; rfl, ?_⟩)
          refine pu 18 33 (bm 19 33) HT_ (h := ⟨_, by intro w'; go_simp; with_reducible rfl, _, by simp only [Act.put, s1, s2, s3, i64_w, i32_w]; rfl, ?_⟩)
          refine pu 19 34 (bm 20 33) HT_ (h := ⟨_, by intro w'; go_simp; with_reducible rfl, _, by simp only [Act.put, s1, s2, s3, i64_w, i32_w]; rfl, ?_⟩)
          refine pu 20 35 (bm 21 33) HT_ (h := ⟨_, by intro w'; go_simp; with_reducible rfl, _, by simp only [Act.put, s1, s2, s3, i64_w, i32_w]; rfl, ?_⟩)
          refine pu 21 36 (bm 22 33) HT_ (h := ⟨_, by intro w'; go_simp; with_reducible rfl, _, by simp only [Act.put, s1, s2, s3, i64_w, i32_w]; rfl, ?_⟩)
          refine pu 23 38 (bb 12582911 33) HT_ (h := ⟨_, by intro w'; go_simp; with_reducible rfl, _, by simp only [Act.put, s1, s2, s3, i64_w, i32_w]; rfl, ?_⟩)
          refine pu 24 39 (bb 29360127 33) HT_ (h := ⟨_, by intro w'; go_simp; with_reducible rfl, _, by simp only [Act.put, s1, s2, s3, i64_w, i32_w]; rfl, ?_⟩)
          refine pu 25 40 (bb 62914559 33) HT_ (h := ⟨_, by intro w'; go_simp; with_reducible rfl, _, by simp only [Act.put, s1, s2, s3, i64_w, i32_w]; rfl, ?_⟩)
          refine pu 26 41 (bb 130023423 33) HT_ (h := ⟨_, by intro w'; go_simp; with_reducible rfl, _, by simp only [Act.put, s1, s2, s3, i64_w, i32_w]; rfl, ?_⟩)
          refine pu 27 42 (bb 264241151 33) HT_ (h := ⟨_, by intro w'; go_simp; with_reducible rfl, _, by simp only [Act.put, s1, s2, s3, i64_w, i32_w]; rfl, ?_⟩)
          refine tk 22 37 (bm 28 33) HT_ HW_ (hS := hHeld) (h := ⟨_, by rintro w' ⟨s0, s1, s2, s3⟩; go_simp; with_reducible rfl, _, by simp only [Act.put, s1, s2, s3, i64_w, i32_w]; rfl, ?_⟩)
          refine tk 28 43 (bm 29 33) HT_ HW_ (hS := hHeld) (h := ⟨_, by rintro w' ⟨s0, s1, s2, s3⟩; go_simp; with_reducible rfl, _, by simp only [Act.put, s1, s2, s3, i64_w, i32_w]; rfl, ?_⟩)
          refine pu 29 44 (bm 30 33) HT_ (h := ⟨_, by intro w'; go_simp; with_reducible rfl, _, by simp only [Act.put, s1, s2, s3, i64_w, i32_w]; rfl, ?_⟩)
          refine pu 30 45 (bm 31 33) HT_ (h := ⟨_, by intro w'; go_simp; with_reducible rfl, _, by simp only [Act.put, s1, s2, s3, i64_w, i32_w]; rfl, ?_⟩)
          refine pu 31 46 (bm 32 33) HT_ (h := ⟨_, by intro w'; go_simp; with_reducible rfl, _, by simp only [Act.put, s1, s2, s3, i64_w, i32_w]; rfl, ?_⟩)
          refine pu 32 47 (bm 33 33) HT_ (h := ⟨_, by intro w'; go_simp; with_reducible rfl, _, by simp only [Act.put, s1, s2, s3, i64_w, i32_w]; rfl, ?_⟩)
          refine done_ (done_of HT_.out (by kernel_rfl)) ?_
          try go_wp2
          go_roundg k1
          case measure => have := HK1.out; omega
          case rel => exact ⟨(wrap64 (x10_1 + 1)), rfl, H', ⟨by have := HK1.out; omega⟩, ⟨by repeat (first | (with_reducible first | exact HB.out | apply qh | apply qi | apply qj | refine qk ?_ GE332.out) | exact HB.out)⟩⟩
         rw [if_neg c18] at H
         exact absurd H (by simp)
        rw [if_neg c17] at H
        exact absurd H (by simp)
       rw [if_neg c15] at H
       have c15b0 : decide (0 < x10_1) = false := decide_eq_false c15
       clear c15
       have H' := qm H
       clear H
       have p331 : 0 ≤ (x10_1 : Int) := of_decide_eq_true (by assumption)
       have q331 : x10_1 < (l0.length : Int) := of_decide_eq_true (by assumption)
       obtain ⟨ad331, e331, hx331_0, hx331_1⟩ := at_T105 HR0.out x10_1 p331 q331
       cases e331
       replace hx331_0 := (HB.out.cell (World.block_lt_of_cell? w _ hx331_0)).trans hx331_0
       replace hx331_1 := (HB.out.cell (World.block_lt_of_cell? w _ hx331_1)).trans hx331_1
       replace p331 := eq_true p331
       replace q331 := eq_true q331
       try go_wp2_with (first | ((with_reducible refine gate_dst (N := 4) rfl ?_); refine box_event (by rfl) (N := 4) (by rfl) (cs := #[.int .i64 0, .int .i64 0]) (t := 105) (by first | (go_simp; done) | (go_simp; rfl)) ?_; intro gb332 hg w28 hbox hb; have n0_ := qm (qt HB.out hb); have n1_ := qm (hbox); have n2_ := qm ((by rw [hg]; exact (qs HB.out) : w.heap.size ≤ gb332)); have n3_ := qm ((by rw [hg]; exact (qs HB.out) : w.heap.size ≤ gb332)); clear HB; have HB := n0_; have BK332 := n1_; have GW332 := n2_; have GE332 := n3_; clear hb hbox hg; obtain ⟨_, _, _, _⟩ := fc2 BK332.out))
       have n0_ : Aside0 (((w28.setCell ⟨gb332, 0, none⟩ (.int .i64 ((rd_T105 l0 x10_1).f0))).setCell ⟨gb332, 1, none⟩ (.int .i64 ((rd_T105 l0 x10_1).f1))).heap[gb332]? = some (.cells #[.int .i64 ((rd_T105 l0 x10_1).f0), .int .i64 ((rd_T105 l0 x10_1).f1)] 105 (0, 0))) := ⟨by (with_reducible repeat (first | refine ql ?_ _ | refine qn ?_ | refine qo ?_ _)); refine qp (cs := #[.int .i64 ((rd_T105 l0 x10_1).f0), .int .i64 0]) ?_ 1 _ rfl; refine qp (cs := #[.int .i64 0, .int .i64 0]) ?_ 0 _ rfl; (with_reducible repeat (first | refine ql ?_ _ | refine qn ?_ | refine qo ?_ _)); exact BK332.out⟩
       have n1_ : Aside0 (Below w.heap.size w ((w28.setCell ⟨gb332, 0, none⟩ (.int .i64 ((rd_T105 l0 x10_1).f0))).setCell ⟨gb332, 1, none⟩ (.int .i64 ((rd_T105 l0 x10_1).f1)))) := ⟨by repeat (first | (with_reducible first | exact HB.out | apply qh | apply qi | apply qj | refine qk ?_ GE332.out) | exact HB.out)⟩
       (try clear BK332)
       (try clear HB)
       generalize ((w28.setCell ⟨gb332, 0, none⟩ (.int .i64 ((rd_T105 l0 x10_1).f0))).setCell ⟨gb332, 1, none⟩ (.int .i64 ((rd_T105 l0 x10_1).f1))) = w30 at n0_ n1_ ⊢
       have BK332 := n0_
       have HB := n1_
       clear n0_ n1_
       have n0_ := qm (qn BK332.out)
       have n1_ := qm (qj HB.out)
       clear BK332
       clear HB
       have BK332 := n0_
       have HB := n1_
       clear n0_ n1_
       refine start_ (n := 33) (S := fun w' => w'.cell? ⟨gb332, 0, none⟩ = some (.int .i64 ((rd_T105 l0 x10_1).f0)) ∧ w'.cell? ⟨gb332, 1, none⟩ = some (.int .i64 ((rd_T105 l0 x10_1).f1))) (ds := []) (bm 0 33) (by kernel_rfl) rfl rfl ⟨(qu BK332.out 0).trans rfl, (qu BK332.out 1).trans rfl⟩ (fun hHeld => ?_); refine with_tabW impl_rangesOK.tab6 impl_rangesOK.bits6 (fun HT_ HW_ => ?_)
       generalize w30.drew = w31 at BK332 HB hHeld ⊢
       refine pu 0 15 (bm 1 33) HT_ (h := ⟨_, by intro w'; go_simp; with_reducible rfl, _, by simp only [Act.put, s1, s2, s3, i64_w, i32_w]; rfl, ?_⟩)
       refine pu 2 17 (bb 5 33) HT_ (h := ⟨_, by intro w'; go_simp; with_reducible rfl, _, by simp only [Act.put, s1, s2, s3, i64_w, i32_w]; rfl, ?_⟩)
       refine tk 1 16 (bm 3 33) HT_ HW_ (hS := hHeld) (h := ⟨_, by rintro w' ⟨s0, s1⟩; go_simp; with_reducible rfl, _, by simp only [Act.put, s1, s2, s3, i64_w, i32_w]; rfl, ?_⟩)
       refine tk 3 18 (bm 4 33) HT_ HW_ (hS := hHeld) (h := ⟨_, by rintro w' ⟨s0, s1⟩; go_simp; with_reducible rfl, _, by simp only [Act.put, s1, s2, s3, i64_w, i32_w]; rfl, ?_⟩)
       refine pu 4 19 (bm 5 33) HT_ (h := ⟨_, by intro w'; go_simp; with_reducible rfl, _, by simp only [Act.put, s1, s2, s3, i64_w, i32_w]; rfl, ?_⟩)
       refine pu 5 20 (bm 6 33) HT_ (h := ⟨_, by intro w'; go_simp; with_reducible rfl, _, by simp only [Act.put, s1, s2, s3, i64_w, i32_w]; rfl, ?_⟩)
       refine pu 6 21 (bm 7 33) HT_ (h := ⟨_, by intro w'; go_simp; with_reducible rfl, _, by simp only [Act.put, s1, s2, s3, i64_w, i32_w]; rfl, ?_⟩)
       refine tk 7 22 (bm 8 33) HT_ HW_ (hS := hHeld) (h := ⟨_, by rintro w' ⟨s0, s1⟩; go_simp; with_reducible rfl, _, by simp only [Act.put, s1, s2, s3, i64_w, i32_w]; rfl, ?_⟩)
       refine one_ (i := 8) (N := some 23) (bm 9 33) rfl rfl (one_of HT_.out (by kernel_rfl)) (by decide) (fun K hK => ?_)
       refine goes_ Try.func58 (by kernel_rfl) rfl #[.int .i64 ((rd_T105 l0 x10_1).f0)] (by rfl) rfl rfl (by (try simp only [m1, m2, m3]); first | done | rfl) ?_
       with_reducible refine (impl_inVar.calls ((rd_T105 l0 x10_1).f0) true _ A11.out).mono ?_
       rintro e w' ⟨rfl, ⟨nd, rfl⟩⟩
       refine ⟨_, rfl, ?_⟩
       refine hK.out _ _ ⟨(qu BK332.out 0).trans rfl, (qu BK332.out 1).trans rfl⟩ (fun hHeld => ?_)
       clear hK K
       refine norm_ (a' := ?_) ?_ ?_
       rotate_left
       ·show Act.put _ (some 23) _ = _
        simp only [Act.put, s1, s2, s3, i64_w, i32_w]
        rfl
       refine pu 9 24 (bm 10 33) HT_ (h := ⟨_, by intro w'; go_simp; with_reducible rfl, _, by simp only [Act.put, s1, s2, s3, i64_w, i32_w]; rfl, ?_⟩)
       refine pu 10 25 (bm 11 33) HT_ (h := ⟨_, by intro w'; go_simp; with_reducible rfl, _, by simp only [Act.put, s1, s2, s3, i64_w, i32_w]; rfl, ?_⟩)
       refine pu 11 26 (bm 12 33) HT_ (h := ⟨_, by intro w'; go_simp; with_reducible rfl, _, by simp only [Act.put, s1, s2, s3, i64_w, i32_w]; rfl, ?_⟩)
       refine pu 12 27 (bm 13 33) HT_ (h := ⟨_, by intro w'; go_simp; with_reducible rfl, _, by simp only [Act.put, s1, s2, s3, i64_w, i32_w]; rfl, ?_⟩)
       refine tk 13 28 (bm 14 33) HT_ HW_ (hS := hHeld) (h := ⟨_, by rintro w' ⟨s0, s1⟩; go_simp; with_reducible rfl, _, by simp only [Act.put, s1, s2, s3, i64_w, i32_w]; rfl, ?_⟩)
       refine one_ (i := 14) (N := some 29) (bm 15 33) rfl rfl (one_of HT_.out (by kernel_rfl)) (by decide) (fun K hK => ?_)
       refine goes_ Try.func58 (by kernel_rfl) rfl #[.int .i64 ((rd_T105 l0 x10_1).f1)] (by rfl) rfl rfl (by (try simp only [m1, m2, m3]); first | done | rfl) ?_
       with_reducible refine (impl_inVar.calls ((rd_T105 l0 x10_1).f1) true _ A13.out).mono ?_
       rintro e w' ⟨rfl, ⟨nd, rfl⟩⟩
       refine ⟨_, rfl, ?_⟩
       refine hK.out _ _ ⟨(qu BK332.out 0).trans rfl, (qu BK332.out 1).trans rfl⟩ (fun hHeld => ?_)
       clear hK K
       refine norm_ (a' := ?_) ?_ ?_
       rotate_left
       ·show Act.put _ (some 29) _ = _
        simp only [Act.put, s1, s2, s3, i64_w, i32_w]
        rfl
       refine pu 15 30 (bm 16 33) HT_ (h := ⟨_, by intro w'; go_simp; with_reducible rfl, _, by simp only [Act.put, s1, s2, s3, i64_w, i32_w]; rfl, ?_⟩)
       refine pu 16 31 (bm 17 33) HT_ (h := ⟨_, by intro w'; go_simp; with_reducible rfl, _, by simp only [Act.put, s1, s2, s3, i64_w, i32_w]; rfl, ?_⟩)
       refine pu 17 32 (bm 18 33) HT_ (h := ⟨_, by intro w'; go_simp; with_reducible rfl, _, by simp only [Act.put, s1, s2, s3, i64_w, i32_w]; rfl, ?_⟩)
       refine pu 18 33 (bm 19 33) HT_ (h := ⟨_, by intro w'; go_simp; with_reducible rfl, _, by simp only [Act.put, s1, s2, s3, i64_w, i32_w]; rfl, ?_⟩)
       refine pu 19 34 (bm 20 33) HT_ (h := ⟨_, by intro w'; go_simp; with_reducible rfl, _, by simp only [Act.put, s1, s2, s3, i64_w, i32_w]; rfl, ?_⟩)
       refine pu 20 35 (bm 21 33) HT_ (h := ⟨_, by intro w'; go_simp; with_reducible rfl, _, by simp only [Act.put, s1, s2, s3, i64_w, i32_w]; rfl, ?_⟩)
       refine sk 21 36 (bm 22 33) HT_ (h := ⟨_, by simp only [Act.put, s1, s2, s3, i64_w, i32_w]; rfl, ?_⟩)
       refine sk 22 37 (bm 23 33) HT_ (h := ⟨_, by simp only [Act.put, s1, s2, s3, i64_w, i32_w]; rfl, ?_⟩)
       refine sk 23 38 (bm 24 33) HT_ (h := ⟨_, by simp only [Act.put, s1, s2, s3, i64_w, i32_w]; rfl, ?_⟩)
       refine sk 24 39 (bm 25 33) HT_ (h := ⟨_, by simp only [Act.put, s1, s2, s3, i64_w, i32_w]; rfl, ?_⟩)
       refine sk 25 40 (bm 26 33) HT_ (h := ⟨_, by simp only [Act.put, s1, s2, s3, i64_w, i32_w]; rfl, ?_⟩)
       refine sk 26 41 (bm 27 33) HT_ (h := ⟨_, by simp only [Act.put, s1, s2, s3, i64_w, i32_w]; rfl, ?_⟩)
       refine sk 27 42 (bm 28 33) HT_ (h := ⟨_, by simp only [Act.put, s1, s2, s3, i64_w, i32_w]; rfl, ?_⟩)
       refine sk 28 43 (bm 29 33) HT_ (h := ⟨_, by simp only [Act.put, s1, s2, s3, i64_w, i32_w]; rfl, ?_⟩)
       refine sk 29 44 (bm 30 33) HT_ (h := ⟨_, by simp only [Act.put, s1, s2, s3, i64_w, i32_w]; rfl, ?_⟩)
       refine sk 30 45 (bm 31 33) HT_ (h := ⟨_, by simp only [Act.put, s1, s2, s3, i64_w, i32_w]; rfl, ?_⟩)
       refine pu 31 46 (bm 32 33) HT_ (h := ⟨_, by intro w'; go_simp; with_reducible rfl, _, by simp only [Act.put, s1, s2, s3, i64_w, i32_w]; rfl, ?_⟩)
       refine pu 32 47 (bm 33 33) HT_ (h := ⟨_, by intro w'; go_simp; with_reducible rfl, _, by simp only [Act.put, s1, s2, s3, i64_w, i32_w]; rfl, ?_⟩)
       refine done_ (done_of HT_.out (by kernel_rfl)) ?_
       try go_wp2
       go_roundg k1
       case measure => have := HK1.out; omega
       case rel => exact ⟨(wrap64 (x10_1 + 1)), rfl, H', ⟨by have := HK1.out; omega⟩, ⟨by repeat (first | (with_reducible first | exact HB.out | apply qh | apply qi | apply qj | refine qk ?_ GE332.out) | exact HB.out)⟩⟩
      replace c14 := Bool.eq_false_iff.mpr c14
      subst c14
      rw [if_neg nt] at H
      obtain rfl := Option.some.inj H
      have p331 : 0 ≤ (x10_1 : Int) := of_decide_eq_true (by assumption)
      have q331 : x10_1 < (l0.length : Int) := of_decide_eq_true (by assumption)
      obtain ⟨ad331, e331, hx331_0, hx331_1⟩ := at_T105 HR0.out x10_1 p331 q331
      cases e331
      replace hx331_0 := (HB.out.cell (World.block_lt_of_cell? w _ hx331_0)).trans hx331_0
      replace hx331_1 := (HB.out.cell (World.block_lt_of_cell? w _ hx331_1)).trans hx331_1
      replace p331 := eq_true p331
      replace q331 := eq_true q331
      try go_wp2_with (first | ((with_reducible refine gate_dst (N := 4) rfl ?_); refine box_event (by rfl) (N := 4) (by rfl) (cs := #[.int .i64 0, .int .i64 0]) (t := 105) (by first | (go_simp; done) | (go_simp; rfl)) ?_; intro gb332 hg w32 hbox hb; have n0_ := qm (qt HB.out hb); have n1_ := qm (hbox); have n2_ := qm ((by rw [hg]; exact (qs HB.out) : w.heap.size ≤ gb332)); have n3_ := qm ((by rw [hg]; exact (qs HB.out) : w.heap.size ≤ gb332)); clear HB; have HB := n0_; have BK332 := n1_; have GW332 := n2_; have GE332 := n3_; clear hb hbox hg; obtain ⟨_, _, _, _⟩ := fc2 BK332.out))
      have n0_ : Aside0 (((w32.setCell ⟨gb332, 0, none⟩ (.int .i64 ((rd_T105 l0 x10_1).f0))).setCell ⟨gb332, 1, none⟩ (.int .i64 ((rd_T105 l0 x10_1).f1))).heap[gb332]? = some (.cells #[.int .i64 ((rd_T105 l0 x10_1).f0), .int .i64 ((rd_T105 l0 x10_1).f1)] 105 (0, 0))) := ⟨by (with_reducible repeat (first | refine ql ?_ _ | refine qn ?_ | refine qo ?_ _)); refine qp (cs := #[.int .i64 ((rd_T105 l0 x10_1).f0), .int .i64 0]) ?_ 1 _ rfl; refine qp (cs := #[.int .i64 0, .int .i64 0]) ?_ 0 _ rfl; (with_reducible repeat (first | refine ql ?_ _ | refine qn ?_ | refine qo ?_ _)); exact BK332.out⟩
      have n1_ : Aside0 (Below w.heap.size w ((w32.setCell ⟨gb332, 0, none⟩ (.int .i64 ((rd_T105 l0 x10_1).f0))).setCell ⟨gb332, 1, none⟩ (.int .i64 ((rd_T105 l0 x10_1).f1)))) := ⟨by repeat (first | (with_reducible first | exact HB.out | apply qh | apply qi | apply qj | refine qk ?_ GE332.out) | exact HB.out)⟩
      (try clear BK332)
      (try clear HB)
      generalize ((w32.setCell ⟨gb332, 0, none⟩ (.int .i64 ((rd_T105 l0 x10_1).f0))).setCell ⟨gb332, 1, none⟩ (.int .i64 ((rd_T105 l0 x10_1).f1))) = w34 at n0_ n1_ ⊢
      have BK332 := n0_
      have HB := n1_
      clear n0_ n1_
      have n0_ := qm (qn BK332.out)
      have n1_ := qm (qj HB.out)
      clear BK332
      clear HB
      have BK332 := n0_
      have HB := n1_
      clear n0_ n1_
      refine start_ (n := 33) (S := fun w' => w'.cell? ⟨gb332, 0, none⟩ = some (.int .i64 ((rd_T105 l0 x10_1).f0)) ∧ w'.cell? ⟨gb332, 1, none⟩ = some (.int .i64 ((rd_T105 l0 x10_1).f1))) (ds := []) (bm 0 33) (by kernel_rfl) rfl rfl ⟨(qu BK332.out 0).trans rfl, (qu BK332.out 1).trans rfl⟩ (fun hHeld => ?_); refine with_tabW impl_rangesOK.tab6 impl_rangesOK.bits6 (fun HT_ HW_ => ?_)
      generalize w34.drew = w35 at BK332 HB hHeld ⊢
      refine pu 0 15 (bm 1 33) HT_ (h := ⟨_, by intro w'; go_simp; with_reducible rfl, _, by simp only [Act.put, s1, s2, s3, i64_w, i32_w]; rfl, ?_⟩)
      refine pu 2 17 (bb 5 33) HT_ (h := ⟨_, by intro w'; go_simp; with_reducible rfl, _, by simp only [Act.put, s1, s2, s3, i64_w, i32_w]; rfl, ?_⟩)
      refine tk 1 16 (bm 3 33) HT_ HW_ (hS := hHeld) (h := ⟨_, by rintro w' ⟨s0, s1⟩; go_simp; with_reducible rfl, _, by simp only [Act.put, s1, s2, s3, i64_w, i32_w]; rfl, ?_⟩)
      refine tk 3 18 (bm 4 33) HT_ HW_ (hS := hHeld) (h := ⟨_, by rintro w' ⟨s0, s1⟩; go_simp; with_reducible rfl, _, by simp only [Act.put, s1, s2, s3, i64_w, i32_w]; rfl, ?_⟩)
      refine pu 4 19 (bm 5 33) HT_ (h := ⟨_, by intro w'; go_simp; with_reducible rfl, _, by simp only [Act.put, s1, s2, s3, i64_w, i32_w]; rfl, ?_⟩)
      refine pu 5 20 (bm 6 33) HT_ (h := ⟨_, by intro w'; go_simp; with_reducible rfl, _, by simp only [Act.put, s1, s2, s3, i64_w, i32_w]; rfl, ?_⟩)
      refine pu 6 21 (bm 7 33) HT_ (h := ⟨_, by intro w'; go_simp; with_reducible rfl, _, by simp only [Act.put, s1, s2, s3, i64_w, i32_w]; rfl, ?_⟩)
      refine tk 7 22 (bm 8 33) HT_ HW_ (hS := hHeld) (h := ⟨_, by rintro w' ⟨s0, s1⟩; go_simp; with_reducible rfl, _, by simp only [Act.put, s1, s2, s3, i64_w, i32_w]; rfl, ?_⟩)
      refine one_ (i := 8) (N := some 23) (bm 9 33) rfl rfl (one_of HT_.out (by kernel_rfl)) (by decide) (fun K hK => ?_)
      refine goes_ Try.func58 (by kernel_rfl) rfl #[.int .i64 ((rd_T105 l0 x10_1).f0)] (by rfl) rfl rfl (by (try simp only [m1, m2, m3]); first | done | rfl) ?_
      with_reducible refine (impl_inVar.calls ((rd_T105 l0 x10_1).f0) true _ A11.out).mono ?_
      rintro e w' ⟨rfl, ⟨nd, rfl⟩⟩
      refine ⟨_, rfl, ?_⟩
      refine hK.out _ _ ⟨(qu BK332.out 0).trans rfl, (qu BK332.out 1).trans rfl⟩ (fun hHeld => ?_)
      clear hK K
      refine norm_ (a' := ?_) ?_ ?_
      rotate_left
      ·show Act.put _ (some 23) _ = _
       simp only [Act.put, s1, s2, s3, i64_w, i32_w]
       rfl
      refine pu 9 24 (bm 10 33) HT_ (h := ⟨_, by intro w'; go_simp; with_reducible rfl, _, by simp only [Act.put, s1, s2, s3, i64_w, i32_w]; rfl, ?_⟩)
      refine pu 10 25 (bm 11 33) HT_ (h := ⟨_, by intro w'; go_simp; with_reducible rfl, _, by simp only [Act.put, s1, s2, s3, i64_w, i32_w]; rfl, ?_⟩)
      refine pu 11 26 (bm 12 33) HT_ (h := ⟨_, by intro w'; go_simp; with_reducible rfl, _, by simp only [Act.put, s1, s2, s3, i64_w, i32_w]; rfl, ?_⟩)
      refine pu 12 27 (bm 13 33) HT_ (h := ⟨_, by intro w'; go_simp; with_reducible rfl, _, by simp only [Act.put, s1, s2, s3, i64_w, i32_w]; rfl, ?_⟩)
      refine tk 13 28 (bm 14 33) HT_ HW_ (hS := hHeld) (h := ⟨_, by rintro w' ⟨s0, s1⟩; go_simp; with_reducible rfl, _, by simp only [Act.put, s1, s2, s3, i64_w, i32_w]; rfl, ?_⟩)
      refine one_ (i := 14) (N := some 29) (bm 15 33) rfl rfl (one_of HT_.out (by kernel_rfl)) (by decide) (fun K hK => ?_)
      refine goes_ Try.func58 (by kernel_rfl) rfl #[.int .i64 ((rd_T105 l0 x10_1).f1)] (by rfl) rfl rfl (by (try simp only [m1, m2, m3]); first | done | rfl) ?_
      with_reducible refine (impl_inVar.calls ((rd_T105 l0 x10_1).f1) false _ A13.out).mono ?_
      rintro e w' ⟨rfl, ⟨nd, rfl⟩⟩
      refine ⟨_, rfl, ?_⟩
      refine hK.out _ _ ⟨(qu BK332.out 0).trans rfl, (qu BK332.out 1).trans rfl⟩ (fun hHeld => ?_)
      clear hK K
      refine norm_ (a' := ?_) ?_ ?_
      rotate_left
      ·show Act.put _ (some 29) _ = _
       simp only [Act.put, s1, s2, s3, i64_w, i32_w]
       rfl
      refine pu 15 30 (bm 16 33) HT_ (h := ⟨_, by intro w'; go_simp; with_reducible rfl, _, by simp only [Act.put, s1, s2, s3, i64_w, i32_w]; rfl, ?_⟩)
      refine pu 16 31 (bm 17 33) HT_ (h := ⟨_, by intro w'; go_simp; with_reducible rfl, _, by simp only [Act.put, s1, s2, s3, i64_w, i32_w]; rfl, ?_⟩)
      refine pu 17 32 (bm 18 33) HT_ (h := ⟨_, by intro w'; go_simp; with_reducible rfl, _, by simp only [Act.put, s1, s2, s3, i64_w, i32_w]; rfl, ?_⟩)
      refine sk 18 33 (bm 19 33) HT_ (h := ⟨_, by simp only [Act.put, s1, s2, s3, i64_w, i32_w]; rfl, ?_⟩)
      refine sk 19 34 (bm 20 33) HT_ (h := ⟨_, by simp only [Act.put, s1, s2, s3, i64_w, i32_w]; rfl, ?_⟩)
      refine sk 20 35 (bm 21 33) HT_ (h := ⟨_, by simp only [Act.put, s1, s2, s3, i64_w, i32_w]; rfl, ?_⟩)
      refine sk 21 36 (bm 22 33) HT_ (h := ⟨_, by simp only [Act.put, s1, s2, s3, i64_w, i32_w]; rfl, ?_⟩)
      refine sk 22 37 (bm 23 33) HT_ (h := ⟨_, by simp only [Act.put, s1, s2, s3, i64_w, i32_w]; rfl, ?_⟩)
      refine sk 23 38 (bm 24 33) HT_ (h := ⟨_, by simp only [Act.put, s1, s2, s3, i64_w, i32_w]; rfl, ?_⟩)
      refine sk 24 39 (bm 25 33) HT_ (h := ⟨_, by simp only [Act.put, s1, s2, s3, i64_w, i32_w]; rfl, ?_⟩)
      refine sk 25 40 (bm 26 33) HT_ (h := ⟨_, by simp only [Act.put, s1, s2, s3, i64_w, i32_w]; rfl, ?_⟩)
      refine sk 26 41 (bm 27 33) HT_ (h := ⟨_, by simp only [Act.put, s1, s2, s3, i64_w, i32_w]; rfl, ?_⟩)
      refine sk 27 42 (bm 28 33) HT_ (h := ⟨_, by simp only [Act.put, s1, s2, s3, i64_w, i32_w]; rfl, ?_⟩)
      refine sk 28 43 (bm 29 33) HT_ (h := ⟨_, by simp only [Act.put, s1, s2, s3, i64_w, i32_w]; rfl, ?_⟩)
      refine sk 29 44 (bm 30 33) HT_ (h := ⟨_, by simp only [Act.put, s1, s2, s3, i64_w, i32_w]; rfl, ?_⟩)
      refine sk 30 45 (bm 31 33) HT_ (h := ⟨_, by simp only [Act.put, s1, s2, s3, i64_w, i32_w]; rfl, ?_⟩)
      refine sk 31 46 (bm 32 33) HT_ (h := ⟨_, by simp only [Act.put, s1, s2, s3, i64_w, i32_w]; rfl, ?_⟩)
      refine pu 32 47 (bm 33 33) HT_ (h := ⟨_, by intro w'; go_simp; with_reducible rfl, _, by simp only [Act.put, s1, s2, s3, i64_w, i32_w]; rfl, ?_⟩)
      refine done_ (done_of HT_.out (by kernel_rfl)) ?_
      try go_wp2
      go_ret
      exact ⟨by first | rfl | (simp <;> rfl) | (simp [*] <;> rfl), by repeat (first | (with_reducible first | exact HB.out | apply qh | apply qi | apply qj | refine qk ?_ GE332.out) | exact HB.out)⟩
     replace c12 := Bool.eq_false_iff.mpr c12
     subst c12
     rw [if_neg nt] at H
     obtain rfl := Option.some.inj H
     have p331 : 0 ≤ (x10_1 : Int) := of_decide_eq_true (by assumption)
     have q331 : x10_1 < (l0.length : Int) := of_decide_eq_true (by assumption)
     obtain ⟨ad331, e331, hx331_0, hx331_1⟩ := at_T105 HR0.out x10_1 p331 q331
     cases e331
     replace hx331_0 := (HB.out.cell (World.block_lt_of_cell? w _ hx331_0)).trans hx331_0
     replace hx331_1 := (HB.out.cell (World.block_lt_of_cell? w _ hx331_1)).trans hx331_1
     replace p331 := eq_true p331
     replace q331 := eq_true q331
     try go_wp2_with (first | ((with_reducible refine gate_dst (N := 4) rfl ?_); refine box_event (by rfl) (N := 4) (by rfl) (cs := #[.int .i64 0, .int .i64 0]) (t := 105) (by first | (go_simp; done) | (go_simp; rfl)) ?_; intro gb332 hg w36 hbox hb; have n0_ := qm (qt HB.out hb); have n1_ := qm (hbox); have n2_ := qm ((by rw [hg]; exact (qs HB.out) : w.heap.size ≤ gb332)); have n3_ := qm ((by rw [hg]; exact (qs HB.out) : w.heap.size ≤ gb332)); clear HB; have HB := n0_; have BK332 := n1_; have GW332 := n2_; have GE332 := n3_; clear hb hbox hg; obtain ⟨_, _, _, _⟩ := fc2 BK332.out))
     have n0_ : Aside0 (((w36.setCell ⟨gb332, 0, none⟩ (.int .i64 ((rd_T105 l0 x10_1).f0))).setCell ⟨gb332, 1, none⟩ (.int .i64 ((rd_T105 l0 x10_1).f1))).heap[gb332]? = some (.cells #[.int .i64 ((rd_T105 l0 x10_1).f0), .int .i64 ((rd_T105 l0 x10_1).f1)] 105 (0, 0))) := ⟨by (with_reducible repeat (first | refine ql ?_ _ | refine qn ?_ | refine qo ?_ _)); refine qp (cs := #[.int .i64 ((rd_T105 l0 x10_1).f0), .int .i64 0]) ?_ 1 _ rfl; refine qp (cs := #[.int .i64 0, .int .i64 0]) ?_ 0 _ rfl; (with_reducible repeat (first | refine ql ?_ _ | refine qn ?_ | refine qo ?_ _)); exact BK332.out⟩
     have n1_ : Aside0 (Below w.heap.size w ((w36.setCell ⟨gb332, 0, none⟩ (.int .i64 ((rd_T105 l0 x10_1).f0))).setCell ⟨gb332, 1, none⟩ (.int .i64 ((rd_T105 l0 x10_1).f1)))) := ⟨by repeat (first | (with_reducible first | exact HB.out | apply qh | apply qi | apply qj | refine qk ?_ GE332.out) | exact HB.out)⟩
     (try clear BK332)
     (try clear HB)
     generalize ((w36.setCell ⟨gb332, 0, none⟩ (.int .i64 ((rd_T105 l0 x10_1).f0))).setCell ⟨gb332, 1, none⟩ (.int .i64 ((rd_T105 l0 x10_1).f1))) = w38 at n0_ n1_ ⊢
     have BK332 := n0_
     have HB := n1_
     clear n0_ n1_
     have n0_ := qm (qn BK332.out)
     have n1_ := qm (qj HB.out)
     clear BK332
     clear HB
     have BK332 := n0_
     have HB := n1_
     clear n0_ n1_
     refine start_ (n := 33) (S := fun w' => w'.cell? ⟨gb332, 0, none⟩ = some (.int .i64 ((rd_T105 l0 x10_1).f0)) ∧ w'.cell? ⟨gb332, 1, none⟩ = some (.int .i64 ((rd_T105 l0 x10_1).f1))) (ds := []) (bm 0 33) (by kernel_rfl) rfl rfl ⟨(qu BK332.out 0).trans rfl, (qu BK332.out 1).trans rfl⟩ (fun hHeld => ?_); refine with_tabW impl_rangesOK.tab6 impl_rangesOK.bits6 (fun HT_ HW_ => ?_)
     generalize w38.drew = w39 at BK332 HB hHeld ⊢
     refine pu 0 15 (bm 1 33) HT_ (h := ⟨_, by intro w'; go_simp; with_reducible rfl, _, by simp only [Act.put, s1, s2, s3, i64_w, i32_w]; rfl, ?_⟩)
     refine pu 2 17 (bb 5 33) HT_ (h := ⟨_, by intro w'; go_simp; with_reducible rfl, _, by simp only [Act.put, s1, s2, s3, i64_w, i32_w]; rfl, ?_⟩)
     refine tk 1 16 (bm 3 33) HT_ HW_ (hS := hHeld) (h := ⟨_, by rintro w' ⟨s0, s1⟩; go_simp; with_reducible rfl, _, by simp only [Act.put, s1, s2, s3, i64_w, i32_w]; rfl, ?_⟩)
     refine tk 3 18 (bm 4 33) HT_ HW_ (hS := hHeld) (h := ⟨_, by rintro w' ⟨s0, s1⟩; go_simp; with_reducible rfl, _, by simp only [Act.put, s1, s2, s3, i64_w, i32_w]; rfl, ?_⟩)
     refine pu 4 19 (bm 5 33) HT_ (h := ⟨_, by intro w'; go_simp; with_reducible rfl, _, by simp only [Act.put, s1, s2, s3, i64_w, i32_w]; rfl, ?_⟩)
     refine pu 5 20 (bm 6 33) HT_ (h := ⟨_, by intro w'; go_simp; with_reducible rfl, _, by simp only [Act.put, s1, s2, s3, i64_w, i32_w]; rfl, ?_⟩)
     refine pu 6 21 (bm 7 33) HT_ (h := ⟨_, by intro w'; go_simp; with_reducible rfl, _, by simp only [Act.put, s1, s2, s3, i64_w, i32_w]; rfl, ?_⟩)
     refine tk 7 22 (bm 8 33) HT_ HW_ (hS := hHeld) (h := ⟨_, by rintro w' ⟨s0, s1⟩; go_simp; with_reducible rfl, _, by simp only [Act.put, s1, s2, s3, i64_w, i32_w]; rfl, ?_⟩)
     refine one_ (i := 8) (N := some 23) (bm 9 33) rfl rfl (one_of HT_.out (by kernel_rfl)) (by decide) (fun K hK => ?_)
     refine goes_ Try.func58 (by kernel_rfl) rfl #[.int .i64 ((rd_T105 l0 x10_1).f0)] (by rfl) rfl rfl (by (try simp only [m1, m2, m3]); first | done | rfl) ?_
     with_reducible refine (impl_inVar.calls ((rd_T105 l0 x10_1).f0) false _ A11.out).mono ?_
     rintro e w' ⟨rfl, ⟨nd, rfl⟩⟩
     refine ⟨_, rfl, ?_⟩
     refine hK.out _ _ ⟨(qu BK332.out 0).trans rfl, (qu BK332.out 1).trans rfl⟩ (fun hHeld => ?_)
     clear hK K
     refine norm_ (a' := ?_) ?_ ?_
     rotate_left
     ·show Act.put _ (some 23) _ = _
      simp only [Act.put, s1, s2, s3, i64_w, i32_w]
      rfl
     refine pu 9 24 (bm 10 33) HT_ (h := ⟨_, by intro w'; go_simp; with_reducible rfl, _, by simp only [Act.put, s1, s2, s3, i64_w, i32_w]; rfl, ?_⟩)
     refine pu 10 25 (bm 11 33) HT_ (h := ⟨_, by intro w'; go_simp; with_reducible rfl, _, by simp only [Act.put, s1, s2, s3, i64_w, i32_w]; rfl, ?_⟩)
     refine pu 11 26 (bm 12 33) HT_ (h := ⟨_, by intro w'; go_simp; with_reducible rfl, _, by simp only [Act.put, s1, s2, s3, i64_w, i32_w]; rfl, ?_⟩)
     refine sk 12 27 (bm 13 33) HT_ (h := ⟨_, by simp only [Act.put, s1, s2, s3, i64_w, i32_w]; rfl, ?_⟩)
     refine sk 13 28 (bm 14 33) HT_ (h := ⟨_, by simp only [Act.put, s1, s2, s3, i64_w, i32_w]; rfl, ?_⟩)
     refine sk 14 29 (bm 15 33) HT_ (h := ⟨_, by simp only [Act.put, s1, s2, s3, i64_w, i32_w]; rfl, ?_⟩)
     refine sk 15 30 (bm 16 33) HT_ (h := ⟨_, by simp only [Act.put, s1, s2, s3, i64_w, i32_w]; rfl, ?_⟩)
     refine pu 16 31 (bm 17 33) HT_ (h := ⟨_, by intro w'; go_simp; with_reducible rfl, _, by simp only [Act.put, s1, s2, s3, i64_w, i32_w]; rfl, ?_⟩)
     refine pu 17 32 (bm 18 33) HT_ (h := ⟨_, by intro w'; go_simp; with_reducible rfl, _, by simp only [Act.put, s1, s2, s3, i64_w, i32_w]; rfl, ?_⟩)
     refine sk 18 33 (bm 19 33) HT_ (h := ⟨_, by simp only [Act.put, s1, s2, s3, i64_w, i32_w]; rfl, ?_⟩)
     refine sk 19 34 (bm 20 33) HT_ (h := ⟨_, by simp only [Act.put, s1, s2, s3, i64_w, i32_w]; rfl, ?_⟩)
     refine sk 20 35 (bm 21 33) HT_ (h := ⟨_, by simp only [Act.put, s1, s2, s3, i64_w, i32_w]; rfl, ?_⟩)
     refine sk 21 36 (bm 22 33) HT_ (h := ⟨_, by simp only [Act.put, s1, s2, s3, i64_w, i32_w]; rfl, ?_⟩)
     refine sk 22 37 (bm 23 33) HT_ (h := ⟨_, by simp only [Act.put, s1, s2, s3, i64_w, i32_w]; rfl, ?_⟩)
     refine sk 23 38 (bm 24 33) HT_ (h := ⟨_, by simp only [Act.put, s1, s2, s3, i64_w, i32_w]; rfl, ?_⟩)
     refine sk 24 39 (bm 25 33) HT_ (h := ⟨_, by simp only [Act.put, s1, s2, s3, i64_w, i32_w]; rfl, ?_⟩)
     refine sk 25 40 (bm 26 33) HT_ (h := ⟨_, by simp only [Act.put, s1, s2, s3, i64_w, i32_w]; rfl, ?_⟩)
     refine sk 26 41 (bm 27 33) HT_ (h := ⟨_, by simp only [Act.put, s1, s2, s3, i64_w, i32_w]; rfl, ?_⟩)
     refine sk 27 42 (bm 28 33) HT_ (h := ⟨_, by simp only [Act.put, s1, s2, s3, i64_w, i32_w]; rfl, ?_⟩)
     refine sk 28 43 (bm 29 33) HT_ (h := ⟨_, by simp only [Act.put, s1, s2, s3, i64_w, i32_w]; rfl, ?_⟩)
     refine sk 29 44 (bm 30 33) HT_ (h := ⟨_, by simp only [Act.put, s1, s2, s3, i64_w, i32_w]; rfl, ?_⟩)
     refine sk 30 45 (bm 31 33) HT_ (h := ⟨_, by simp only [Act.put, s1, s2, s3, i64_w, i32_w]; rfl, ?_⟩)
     refine sk 31 46 (bm 32 33) HT_ (h := ⟨_, by simp only [Act.put, s1, s2, s3, i64_w, i32_w]; rfl, ?_⟩)
     refine pu 32 47 (bm 33 33) HT_ (h := ⟨_, by intro w'; go_simp; with_reducible rfl, _, by simp only [Act.put, s1, s2, s3, i64_w, i32_w]; rfl, ?_⟩)
     refine done_ (done_of HT_.out (by kernel_rfl)) ?_
     try go_wp2
     go_ret
     exact ⟨by first | rfl | (simp <;> rfl) | (simp [*] <;> rfl), by repeat (first | (with_reducible first | exact HB.out | apply qh | apply qi | apply qj | refine qk ?_ GE332.out) | exact HB.out)⟩
    rw [if_neg c5] at H
    exact absurd H (by simp)
   rw [if_neg c4] at H
   exact absurd H (by simp)
  rw [if_neg c3] at H
  have c3b0 : decide (x10_1 < (l0.length : Int)) = false := decide_eq_false c3
  clear c3
  obtain rfl := Option.some.inj H
  go_wp2
  go_ret
  exact ⟨by first | rfl | (simp <;> rfl) | (simp [*] <;> rfl), HB.out⟩
end Go.Proofs.Ytdojcdhlcnlohaa.SFnExactFrameBytes
