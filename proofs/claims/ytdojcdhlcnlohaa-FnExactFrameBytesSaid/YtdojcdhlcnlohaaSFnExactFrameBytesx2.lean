/- The walk of functions that the law FnExactFrameBytes uses, written by program. -/
import Derived.Test.YtdojcdhlcnlohaaSFnExactFrameBytesx0
import Derived.Test.YtdojcdhlcnlohaaSFnExactFrameBytesx1
import Derived.Test.YtdojcdhlcnlohaaSteps2
namespace Go.Proofs.Ytdojcdhlcnlohaa.SFnExactFrameBytes
open Go.Proofs.Ytdojcdhlcnlohaa.Steps2 Go.RowKit Go.Proofs.YtdojcdhlcnlohaaW.PrintWords Go.Proofs.YtdojcdhlcnlohaaW.PrintLast Go.Proofs.YtdojcdhlcnlohaaW.PrintMore
open Go.Proofs.YtdojcdhlcnlohaaW.PrintWords renaming below_alloc → qh, pw_below_drewN → qi, below_drew1 → qj, below_set → qk, blk_drewN → ql, blk_drew → qn, blk_alloc → qo, below_size → qs, below_step → qt, blk_below → qv
open Go.Proofs.YtdojcdhlcnlohaaW.PrintWords.Aside0 renaming mk → qm
attribute [local go_sem] max2_int min2_int max_two min_two max_three min_three max_four min_four 
set_option linter.unusedVariables false
set_option linter.unusedSimpArgs false
/-! ### laws_eqRangeS: function 78 -/
def laws_eqRangeS.l0 : Nat → List (S105) → List (S105) → Int → Option (Bool)
 | 0, _, _, _ => none
 | k + 1, x0, x1, x5 => if x5 < (x0.length : Int) then (if 0 ≤ x5 then (if x5 < (x1.length : Int) then ((laws_eqRange.f ((rd_T105 x0 x5).f0) ((rd_T105 x0 x5).f1) ((rd_T105 x1 x5).f0) ((rd_T105 x1 x5).f1)).bind fun t140 => (if t140 = true then (laws_eqRangeS.l0 k x0 x1 (wrap64 (x5 + 1))) else (some false))) else (none)) else (none)) else (some true)
def laws_eqRangeS.f (k : Nat) (l0 : List (S105)) (l1 : List (S105)) : Option (Bool) := if (l0.length : Int) = (l1.length : Int) then (laws_eqRangeS.l0 k l0 l1 0) else (some false)
theorem laws_eqRangeS.mono_l : ∀ k, (∀ y0 y1 y2, LeO (laws_eqRangeS.l0 k y0 y1 y2) (laws_eqRangeS.l0 (k + 1) y0 y1 y2))
 | 0 => fun _ _ _ r h => by simp [laws_eqRangeS.l0] at h
 | k + 1 => by
  have ih0 := laws_eqRangeS.mono_l k
  ·intro y0 y1 y2
   unfold laws_eqRangeS.l0
   repeat' first
   | (with_reducible apply ih0)
   | (with_reducible exact LeO.refl _)
   | (with_reducible exact LeO.none _)
   | (with_reducible refine LeO.ite ?_ ?_)
   | (with_reducible refine LeO.bind ?_ (fun _ => ?_))
theorem laws_eqRangeS.mono : ∀ a0 a1 k, LeO (laws_eqRangeS.f k a0 a1) (laws_eqRangeS.f (k + 1) a0 a1) := by
 intro a0 a1 k
 have ih0 := laws_eqRangeS.mono_l k
 unfold laws_eqRangeS.f
 repeat' first
   | (with_reducible apply ih0)
   | (with_reducible exact LeO.refl _)
   | (with_reducible exact LeO.none _)
   | (with_reducible refine LeO.ite ?_ ?_)
   | (with_reducible refine LeO.bind ?_ (fun _ => ?_))
def laws_eqRangeS.T6 : Bool × List (List Nat × List Nat) := (true, [([], []), ([], []), ([0, 1], [0, 1]), ([2], [2]), ([], []), ([], []), ([4, 5], [4, 5]), ([6], [6]), ([3, 7], [3, 7]), ([8], [8])])
def laws_eqRangeS.B6 : List Nat := [0, 0, 3, 7, 0, 0, 48, 112, 255, 511]
theorem laws_eqRangeS.tab6 : rtab .any (opsOf Try.f78 6) = laws_eqRangeS.T6 := by kernel_rfl
theorem laws_eqRangeS.bits6 : waitsOk laws_eqRangeS.T6.2 laws_eqRangeS.B6 = true := by kernel_rfl
set_option maxHeartbeats 8000000 in
set_option maxRecDepth 100000 in
theorem laws_eqRangeS.calls (k : Nat) (A0 : Option Addr) (c0 : Nat) (l0 : List (S105)) (A1 : Option Addr) (c1 : Nat) (l1 : List (S105)) (r : Bool) (w : World) (hr0 : Kd.C k105 w A0 l0.length l0) (hc0 : l0.length ≤ c0) (hr1 : Kd.C k105 w A1 l1.length l1) (hc1 : l1.length ≤ c1) (h : laws_eqRangeS.f k l0 l1 = some r) :
  Calls Try.prog 78 #[.slice A0 l0.length c0, .slice A1 l1.length c1] w fun e w' => e = .returned (.bool r) ∧ Below w.heap.size w w' := by
 have hu105 := Try.underlying105
 have HR0 := qm hr0
 have HC0 := qm hc0
 clear hr0 hc0
 have HR1 := qm hr1
 have HC1 := qm hc1
 clear hr1 hc1
 have HB := qm (Below.refl w.heap.size w)
 have H : (if (l0.length : Int) = (l1.length : Int) then (laws_eqRangeS.l0 k l0 l1 0) else (some false)) = some r := h
 clear h
 by_cases c3 : (l0.length : Int) = (l1.length : Int)
 ·rw [if_pos c3] at H
  have c3b0 : ((l0.length : Int) == (l1.length : Int)) = true := beq_iff_eq.mpr c3
  have c3b1 : ((l0.length : Int) != (l1.length : Int)) = false := bne_eq_false_iff_eq.mpr c3
  have c3b2 : (l0.length == l1.length) = true := by first | simpa using c3 | (simp at c3 ⊢; omega)
  clear c3
  have H' := qm H
  clear H
  go_enter Try.func78, Try.ntmps78
  go_wp2
  go_loopg [5] k (fun kq v5 w' => ∃ (x5_1 : Int), v5 = .int .i64 x5_1 ∧ Aside0 (laws_eqRangeS.l0 kq l0 l1 x5_1 = some r) ∧ Aside0 (kq ≤ k) ∧ Aside0 (Below w.heap.size w w'))
  case atStart => exact ⟨(0), (by first | rfl | (simp; done) | (simp [*]; done)), H', ⟨Nat.le_refl _⟩, ⟨HB.out⟩⟩
  case round =>
   clear H'
   try clear c1
   try clear c3
   try clear c3b0
   try clear c3b1
   try clear c3b2
   obtain ⟨x5_1, rfl, HA, HK1, HB⟩ := hrel
   cases gk with
   | zero => exact absurd HA.out (by simp [laws_eqRangeS.l0])
   | succ k1 => ?_
   have H := HA.out
   clear HA
   simp only [laws_eqRangeS.l0] at H
   by_cases c4 : x5_1 < (l0.length : Int)
   ·rw [if_pos c4] at H
    have c4b0 : decide (x5_1 < (l0.length : Int)) = true := decide_eq_true c4
    clear c4
    by_cases c5 : 0 ≤ x5_1
    ·rw [if_pos c5] at H
     have c5b0 : decide (0 ≤ x5_1) = true := decide_eq_true c5
     clear c5
     by_cases c6 : x5_1 < (l1.length : Int)
     ·rw [if_pos c6] at H
      have c6b0 : decide (x5_1 < (l1.length : Int)) = true := decide_eq_true c6
      clear c6
      replace H := Option.bind_eq_some_iff.mp H
      obtain ⟨t140, A70, H⟩ := H
      try dsimp only at H
      have A7 := qm A70
      clear A70
      by_cases c8 : t140 = true
      ·subst c8
       rw [if_pos rfl] at H
       have H' := qm H
       clear H
       try go_wp2
       have n0_ := qm (qj HB.out)
       clear HB
       have HB := n0_
       clear n0_
       have p138 : 0 ≤ (x5_1 : Int) := of_decide_eq_true (by assumption)
       have q138 : x5_1 < (l0.length : Int) := of_decide_eq_true (by assumption)
       obtain ⟨ad138, e138, hx138_0, hx138_1⟩ := at_T105 HR0.out x5_1 p138 q138
       have hw138_1 := hx138_1
       have hw138_0 := hx138_0
       cases e138
       replace hx138_0 := (HB.out.cell (World.block_lt_of_cell? w _ hx138_0)).trans hx138_0
       replace hx138_1 := (HB.out.cell (World.block_lt_of_cell? w _ hx138_1)).trans hx138_1
       replace p138 := eq_true p138
       replace q138 := eq_true q138
       have p139 : 0 ≤ (x5_1 : Int) := of_decide_eq_true (by assumption)
       have q139 : x5_1 < (l1.length : Int) := of_decide_eq_true (by assumption)
       obtain ⟨ad139, e139, hx139_0, hx139_1⟩ := at_T105 HR1.out x5_1 p139 q139
       have hw139_1 := hx139_1
       have hw139_0 := hx139_0
       cases e139
       replace hx139_0 := (HB.out.cell (World.block_lt_of_cell? w _ hx139_0)).trans hx139_0
       replace hx139_1 := (HB.out.cell (World.block_lt_of_cell? w _ hx139_1)).trans hx139_1
       replace p139 := eq_true p139
       replace q139 := eq_true q139
       refine start_ (n := 10) (S := fun w' => w'.cell? (ad138.add ((x5_1).toNat * 2)) = some (.int .i64 ((rd_T105 l0 x5_1).f0)) ∧ w'.cell? ⟨(ad138.add ((x5_1).toNat * 2)).block, (ad138.add ((x5_1).toNat * 2)).off + 1, none⟩ = some (.int .i64 ((rd_T105 l0 x5_1).f1)) ∧ w'.cell? (ad139.add ((x5_1).toNat * 2)) = some (.int .i64 ((rd_T105 l1 x5_1).f0)) ∧ w'.cell? ⟨(ad139.add ((x5_1).toNat * 2)).block, (ad139.add ((x5_1).toNat * 2)).off + 1, none⟩ = some (.int .i64 ((rd_T105 l1 x5_1).f1))) (ds := []) (bm 0 10) (by kernel_rfl) rfl rfl ⟨((HB.out.cell (World.block_lt_of_cell? w _ hw138_0)).trans hw138_0), ((HB.out.cell (World.block_lt_of_cell? w _ hw138_1)).trans hw138_1), ((HB.out.cell (World.block_lt_of_cell? w _ hw139_0)).trans hw139_0), ((HB.out.cell (World.block_lt_of_cell? w _ hw139_1)).trans hw139_1)⟩ (fun hHeld => ?_); refine with_tabW laws_eqRangeS.tab6 laws_eqRangeS.bits6 (fun HT_ HW_ => ?_)
       generalize wr.drew = w9 at HB hx138_0 hx138_1 hx139_0 hx139_1 hHeld ⊢
       refine pu 0 17 (bm 1 10) HT_ (h := ⟨_, by intro w'; go_simp; with_reducible rfl, _, by simp only [Act.put, s1, s2, s3, i64_w, i32_w]; rfl, ?_⟩)
       refine pu 1 18 (bm 2 10) HT_ (h := ⟨_, by intro w'; go_simp; with_reducible rfl, _, by simp only [Act.put, s1, s2, s3, i64_w, i32_w]; rfl, ?_⟩)
       refine pu 2 19 (bm 3 10) HT_ (h := ⟨_, by intro w'; go_simp; with_reducible rfl, _, by simp only [Act.put, s1, s2, s3, i64_w, i32_w]; rfl, ?_⟩)
       refine pu 4 21 (bb 23 10) HT_ (h := ⟨_, by intro w'; go_simp; with_reducible rfl, _, by simp only [Act.put, s1, s2, s3, i64_w, i32_w]; rfl, ?_⟩)
       refine pu 5 22 (bb 55 10) HT_ (h := ⟨_, by intro w'; go_simp; with_reducible rfl, _, by simp only [Act.put, s1, s2, s3, i64_w, i32_w]; rfl, ?_⟩)
       refine pu 6 23 (bb 119 10) HT_ (h := ⟨_, by intro w'; go_simp; with_reducible rfl, _, by simp only [Act.put, s1, s2, s3, i64_w, i32_w]; rfl, ?_⟩)
       refine tk 3 20 (bm 7 10) HT_ HW_ rfl rfl (by kernel_rfl) (fun _ _ _ _ h => h) (by rfl) hHeld ⟨_, by rintro w' ⟨s0, s1, s2, s3⟩; go_simp; with_reducible rfl, _, by simp only [Act.put, s1, s2, s3, i64_w, i32_w]; rfl, ?_⟩
       refine tk 7 24 (bm 8 10) HT_ HW_ rfl rfl (by kernel_rfl) (fun _ _ _ _ h => h) (by rfl) hHeld ⟨_, by rintro w' ⟨s0, s1, s2, s3⟩; go_simp; with_reducible rfl, _, by simp only [Act.put, s1, s2, s3, i64_w, i32_w]; rfl, ?_⟩
       refine one_ (i := 8) (N := some 25) (bm 9 10) rfl rfl (one_of HT_.out (by kernel_rfl)) (by decide) (fun K hK => ?_)
       refine goes_ Try.func98 (by kernel_rfl) rfl #[.agg #[.int .i64 ((rd_T105 l0 x5_1).f0), .int .i64 ((rd_T105 l0 x5_1).f1)], .agg #[.int .i64 ((rd_T105 l1 x5_1).f0), .int .i64 ((rd_T105 l1 x5_1).f1)]] (by rfl) rfl rfl (by (try simp only [m1, m2, m3]); first | done | rfl) ?_
       with_reducible refine (laws_eqRange.calls ((rd_T105 l0 x5_1).f0) ((rd_T105 l0 x5_1).f1) ((rd_T105 l1 x5_1).f0) ((rd_T105 l1 x5_1).f1) true _ A7.out).mono ?_
       rintro e w10 ⟨rfl, hb⟩
       refine ⟨_, rfl, ?_⟩
       have n0_ := qm (qt HB.out hb)
       clear HB
       have HB := n0_
       clear n0_
       (try clear hb)
       (try clear hb2)
       (try clear hk)
       (try clear hi)
       refine hK.out _ _ ⟨((HB.out.cell (World.block_lt_of_cell? w _ hw138_0)).trans hw138_0), ((HB.out.cell (World.block_lt_of_cell? w _ hw138_1)).trans hw138_1), ((HB.out.cell (World.block_lt_of_cell? w _ hw139_0)).trans hw139_0), ((HB.out.cell (World.block_lt_of_cell? w _ hw139_1)).trans hw139_1)⟩ (fun hHeld => ?_)
       clear hK K
       refine norm_ (a' := ?_) ?_ ?_
       rotate_left
       ·show Act.put _ (some 25) _ = _
        simp only [Act.put, s1, s2, s3, i64_w, i32_w]
        rfl
       refine pu 9 26 (bm 10 10) HT_ (h := ⟨_, by intro w'; go_simp; with_reducible rfl, _, by simp only [Act.put, s1, s2, s3, i64_w, i32_w]; rfl, ?_⟩)
       refine done_ (done_of HT_.out (by kernel_rfl)) ?_
       try go_wp2
       go_roundg k1
       case measure => have := HK1.out; omega
       case rel => exact ⟨(wrap64 (x5_1 + 1)), rfl, H', ⟨by have := HK1.out; omega⟩, ⟨HB.out⟩⟩
      replace c8 := Bool.eq_false_iff.mpr c8
      subst c8
      rw [if_neg nt] at H
      obtain rfl := Option.some.inj H
      try go_wp2
      have n0_ := qm (qj HB.out)
      clear HB
      have HB := n0_
      clear n0_
      have p138 : 0 ≤ (x5_1 : Int) := of_decide_eq_true (by assumption)
      have q138 : x5_1 < (l0.length : Int) := of_decide_eq_true (by assumption)
      obtain ⟨ad138, e138, hx138_0, hx138_1⟩ := at_T105 HR0.out x5_1 p138 q138
      have hw138_1 := hx138_1
      have hw138_0 := hx138_0
      cases e138
      replace hx138_0 := (HB.out.cell (World.block_lt_of_cell? w _ hx138_0)).trans hx138_0
      replace hx138_1 := (HB.out.cell (World.block_lt_of_cell? w _ hx138_1)).trans hx138_1
      replace p138 := eq_true p138
      replace q138 := eq_true q138
      have p139 : 0 ≤ (x5_1 : Int) := of_decide_eq_true (by assumption)
      have q139 : x5_1 < (l1.length : Int) := of_decide_eq_true (by assumption)
      obtain ⟨ad139, e139, hx139_0, hx139_1⟩ := at_T105 HR1.out x5_1 p139 q139
      have hw139_1 := hx139_1
      have hw139_0 := hx139_0
      cases e139
      replace hx139_0 := (HB.out.cell (World.block_lt_of_cell? w _ hx139_0)).trans hx139_0
      replace hx139_1 := (HB.out.cell (World.block_lt_of_cell? w _ hx139_1)).trans hx139_1
      replace p139 := eq_true p139
      replace q139 := eq_true q139
      refine start_ (n := 10) (S := fun w' => w'.cell? (ad138.add ((x5_1).toNat * 2)) = some (.int .i64 ((rd_T105 l0 x5_1).f0)) ∧ w'.cell? ⟨(ad138.add ((x5_1).toNat * 2)).block, (ad138.add ((x5_1).toNat * 2)).off + 1, none⟩ = some (.int .i64 ((rd_T105 l0 x5_1).f1)) ∧ w'.cell? (ad139.add ((x5_1).toNat * 2)) = some (.int .i64 ((rd_T105 l1 x5_1).f0)) ∧ w'.cell? ⟨(ad139.add ((x5_1).toNat * 2)).block, (ad139.add ((x5_1).toNat * 2)).off + 1, none⟩ = some (.int .i64 ((rd_T105 l1 x5_1).f1))) (ds := []) (bm 0 10) (by kernel_rfl) rfl rfl ⟨((HB.out.cell (World.block_lt_of_cell? w _ hw138_0)).trans hw138_0), ((HB.out.cell (World.block_lt_of_cell? w _ hw138_1)).trans hw138_1), ((HB.out.cell (World.block_lt_of_cell? w _ hw139_0)).trans hw139_0), ((HB.out.cell (World.block_lt_of_cell? w _ hw139_1)).trans hw139_1)⟩ (fun hHeld => ?_); refine with_tabW laws_eqRangeS.tab6 laws_eqRangeS.bits6 (fun HT_ HW_ => ?_)
      generalize wr.drew = w11 at HB hx138_0 hx138_1 hx139_0 hx139_1 hHeld ⊢
      refine pu 0 17 (bm 1 10) HT_ (h := ⟨_, by intro w'; go_simp; with_reducible rfl, _, by simp only [Act.put, s1, s2, s3, i64_w, i32_w]; rfl, ?_⟩)
      refine pu 1 18 (bm 2 10) HT_ (h := ⟨_, by intro w'; go_simp; with_reducible rfl, _, by simp only [Act.put, s1, s2, s3, i64_w, i32_w]; rfl, ?_⟩)
      refine pu 2 19 (bm 3 10) HT_ (h := ⟨_, by intro w'; go_simp; with_reducible rfl, _, by simp only [Act.put, s1, s2, s3, i64_w, i32_w]; rfl, ?_⟩)
      refine pu 4 21 (bb 23 10) HT_ (h := ⟨_, by intro w'; go_simp; with_reducible rfl, _, by simp only [Act.put, s1, s2, s3, i64_w, i32_w]; rfl, ?_⟩)
      refine pu 5 22 (bb 55 10) HT_ (h := ⟨_, by intro w'; go_simp; with_reducible rfl, _, by simp only [Act.put, s1, s2, s3, i64_w, i32_w]; rfl, ?_⟩)
      refine pu 6 23 (bb 119 10) HT_ (h := ⟨_, by intro w'; go_simp; with_reducible rfl, _, by simp only [Act.put, s1, s2, s3, i64_w, i32_w]; rfl, ?_⟩)
      refine tk 3 20 (bm 7 10) HT_ HW_ rfl rfl (by kernel_rfl) (fun _ _ _ _ h => h) (by rfl) hHeld ⟨_, by rintro w' ⟨s0, s1, s2, s3⟩; go_simp; with_reducible rfl, _, by simp only [Act.put, s1, s2, s3, i64_w, i32_w]; rfl, ?_⟩
      refine tk 7 24 (bm 8 10) HT_ HW_ rfl rfl (by kernel_rfl) (fun _ _ _ _ h => h) (by rfl) hHeld ⟨_, by rintro w' ⟨s0, s1, s2, s3⟩; go_simp; with_reducible rfl, _, by simp only [Act.put, s1, s2, s3, i64_w, i32_w]; rfl, ?_⟩
      refine one_ (i := 8) (N := some 25) (bm 9 10) rfl rfl (one_of HT_.out (by kernel_rfl)) (by decide) (fun K hK => ?_)
      refine goes_ Try.func98 (by kernel_rfl) rfl #[.agg #[.int .i64 ((rd_T105 l0 x5_1).f0), .int .i64 ((rd_T105 l0 x5_1).f1)], .agg #[.int .i64 ((rd_T105 l1 x5_1).f0), .int .i64 ((rd_T105 l1 x5_1).f1)]] (by rfl) rfl rfl (by (try simp only [m1, m2, m3]); first | done | rfl) ?_
      with_reducible refine (laws_eqRange.calls ((rd_T105 l0 x5_1).f0) ((rd_T105 l0 x5_1).f1) ((rd_T105 l1 x5_1).f0) ((rd_T105 l1 x5_1).f1) false _ A7.out).mono ?_
      rintro e w12 ⟨rfl, hb⟩
      refine ⟨_, rfl, ?_⟩
      have n0_ := qm (qt HB.out hb)
      clear HB
      have HB := n0_
      clear n0_
      (try clear hb)
      (try clear hb2)
      (try clear hk)
      (try clear hi)
      refine hK.out _ _ ⟨((HB.out.cell (World.block_lt_of_cell? w _ hw138_0)).trans hw138_0), ((HB.out.cell (World.block_lt_of_cell? w _ hw138_1)).trans hw138_1), ((HB.out.cell (World.block_lt_of_cell? w _ hw139_0)).trans hw139_0), ((HB.out.cell (World.block_lt_of_cell? w _ hw139_1)).trans hw139_1)⟩ (fun hHeld => ?_)
      clear hK K
      refine norm_ (a' := ?_) ?_ ?_
      rotate_left
      ·show Act.put _ (some 25) _ = _
       simp only [Act.put, s1, s2, s3, i64_w, i32_w]
       rfl
      refine pu 9 26 (bm 10 10) HT_ (h := ⟨_, by intro w'; go_simp; with_reducible rfl, _, by simp only [Act.put, s1, s2, s3, i64_w, i32_w]; rfl, ?_⟩)
      refine done_ (done_of HT_.out (by kernel_rfl)) ?_
      try go_wp2
      go_ret
      exact ⟨by first | rfl | (simp <;> rfl) | (simp [*] <;> rfl), HB.out⟩
     rw [if_neg c6] at H
     exact absurd H (by simp)
    rw [if_neg c5] at H
    exact absurd H (by simp)
   rw [if_neg c4] at H
   have c4b0 : decide (x5_1 < (l0.length : Int)) = false := decide_eq_false c4
   clear c4
   obtain rfl := Option.some.inj H
   go_wp2
   go_ret
   exact ⟨by first | rfl | (simp <;> rfl) | (simp [*] <;> rfl), HB.out⟩
 rw [if_neg c3] at H
 have c3b0 : ((l0.length : Int) == (l1.length : Int)) = false := beq_eq_false_iff_ne.mpr c3
 have c3b1 : ((l0.length : Int) != (l1.length : Int)) = true := bne_iff_ne.mpr c3
 have c3b2 : (l0.length == l1.length) = false := by first | simpa using c3 | (simp at c3 ⊢; omega)
 obtain rfl := Option.some.inj H
 go_enter Try.func78, Try.ntmps78
 go_wp2
 go_ret
 exact ⟨by first | rfl | (simp <;> rfl) | (simp [*] <;> rfl), HB.out⟩
/-! ### laws_eqFrame: function 42 -/
def laws_eqFrame.f (k : Nat) (a0_0 : Int) (a0_1 : Int) (a0_2 : Int) (a0_3 : Int) (a0_4 : Bool) (l0_5 : List Int) (l0_6 : List Int) (l0_7 : List (S105)) (a1_0 : Int) (a1_1 : Int) (a1_2 : Int) (a1_3 : Int) (a1_4 : Bool) (l1_5 : List Int) (l1_6 : List Int) (l1_7 : List (S105)) : Option (Bool) := if a0_0 = a1_0 then (if a0_1 = a1_1 then (if a0_2 = a1_2 then (if a0_3 = a1_3 then (if (a0_4 != a1_4) = true then (some false) else ((laws_eqByteS.f k l0_5 l1_5).bind fun t143 => (if t143 = true then ((laws_eqByteS.f k l0_6 l1_6).bind fun t144 => (if t144 = true then ((laws_eqRangeS.f k l0_7 l1_7).bind fun t145 => (if t145 = true then (some true) else (some false))) else (some false))) else (some false)))) else (some false)) else (some false)) else (some false)) else (some false)
theorem laws_eqFrame.mono : ∀ a0 a1 a2 a3 a4 a5 a6 a7 a8 a9 a10 a11 a12 a13 a14 a15 k, LeO (laws_eqFrame.f k a0 a1 a2 a3 a4 a5 a6 a7 a8 a9 a10 a11 a12 a13 a14 a15) (laws_eqFrame.f (k + 1) a0 a1 a2 a3 a4 a5 a6 a7 a8 a9 a10 a11 a12 a13 a14 a15) := by
 intro a0 a1 a2 a3 a4 a5 a6 a7 a8 a9 a10 a11 a12 a13 a14 a15 k
 unfold laws_eqFrame.f
 repeat' first
   | (with_reducible apply laws_eqByteS.mono)
   | (with_reducible apply laws_eqRangeS.mono)
   | (with_reducible exact LeO.refl _)
   | (with_reducible exact LeO.none _)
   | (with_reducible refine LeO.ite ?_ ?_)
   | (with_reducible refine LeO.bind ?_ (fun _ => ?_))
set_option maxHeartbeats 8000000 in
set_option maxRecDepth 100000 in
theorem laws_eqFrame.calls (k : Nat) (a0_0 : Int) (a0_1 : Int) (a0_2 : Int) (a0_3 : Int) (a0_4 : Bool) (A0_5 : Option Addr) (c0_5 : Nat) (l0_5 : List Int) (A0_6 : Option Addr) (c0_6 : Nat) (l0_6 : List Int) (A0_7 : Option Addr) (c0_7 : Nat) (l0_7 : List (S105)) (a1_0 : Int) (a1_1 : Int) (a1_2 : Int) (a1_3 : Int) (a1_4 : Bool) (A1_5 : Option Addr) (c1_5 : Nat) (l1_5 : List Int) (A1_6 : Option Addr) (c1_6 : Nat) (l1_6 : List Int) (A1_7 : Option Addr) (c1_7 : Nat) (l1_7 : List (S105)) (r : Bool) (w : World) (hr0_5 : Kd.C (Kd.int .u8) w A0_5 l0_5.length l0_5) (hc0_5 : l0_5.length ≤ c0_5) (hr0_6 : Kd.C (Kd.int .u8) w A0_6 l0_6.length l0_6) (hc0_6 : l0_6.length ≤ c0_6) (hr0_7 : Kd.C k105 w A0_7 l0_7.length l0_7) (hc0_7 : l0_7.length ≤ c0_7) (hr1_5 : Kd.C (Kd.int .u8) w A1_5 l1_5.length l1_5) (hc1_5 : l1_5.length ≤ c1_5) (hr1_6 : Kd.C (Kd.int .u8) w A1_6 l1_6.length l1_6) (hc1_6 : l1_6.length ≤ c1_6) (hr1_7 : Kd.C k105 w A1_7 l1_7.length l1_7) (hc1_7 : l1_7.length ≤ c1_7) (h : laws_eqFrame.f k a0_0 a0_1 a0_2 a0_3 a0_4 l0_5 l0_6 l0_7 a1_0 a1_1 a1_2 a1_3 a1_4 l1_5 l1_6 l1_7 = some r) :
  Calls Try.prog 42 #[.agg #[.int .i64 a0_0, .int .i64 a0_1, .int .i64 a0_2, .int .i64 a0_3, .bool a0_4, .slice A0_5 l0_5.length c0_5, .slice A0_6 l0_6.length c0_6, .slice A0_7 l0_7.length c0_7], .agg #[.int .i64 a1_0, .int .i64 a1_1, .int .i64 a1_2, .int .i64 a1_3, .bool a1_4, .slice A1_5 l1_5.length c1_5, .slice A1_6 l1_6.length c1_6, .slice A1_7 l1_7.length c1_7]] w fun e w' => e = .returned (.bool r) ∧ Below w.heap.size w w' := by
 have hu55 := Try.underlying55
 have HR0_5 := qm hr0_5
 have HC0_5 := qm hc0_5
 clear hr0_5 hc0_5
 have HR0_6 := qm hr0_6
 have HC0_6 := qm hc0_6
 clear hr0_6 hc0_6
 have HR0_7 := qm hr0_7
 have HC0_7 := qm hc0_7
 clear hr0_7 hc0_7
 have HR1_5 := qm hr1_5
 have HC1_5 := qm hc1_5
 clear hr1_5 hc1_5
 have HR1_6 := qm hr1_6
 have HC1_6 := qm hc1_6
 clear hr1_6 hc1_6
 have HR1_7 := qm hr1_7
 have HC1_7 := qm hc1_7
 clear hr1_7 hc1_7
 have HB := qm (Below.refl w.heap.size w)
 have H : (if a0_0 = a1_0 then (if a0_1 = a1_1 then (if a0_2 = a1_2 then (if a0_3 = a1_3 then (if (a0_4 != a1_4) = true then (some false) else ((laws_eqByteS.f k l0_5 l1_5).bind fun t143 => (if t143 = true then ((laws_eqByteS.f k l0_6 l1_6).bind fun t144 => (if t144 = true then ((laws_eqRangeS.f k l0_7 l1_7).bind fun t145 => (if t145 = true then (some true) else (some false))) else (some false))) else (some false)))) else (some false)) else (some false)) else (some false)) else (some false)) = some r := h
 clear h
 by_cases c3 : a0_0 = a1_0
 ·rw [if_pos c3] at H
  have c3b0 : (a0_0 == a1_0) = true := beq_iff_eq.mpr c3
  have c3b1 : (a0_0 != a1_0) = false := bne_eq_false_iff_eq.mpr c3
  clear c3
  by_cases c4 : a0_1 = a1_1
  ·rw [if_pos c4] at H
   have c4b0 : (a0_1 == a1_1) = true := beq_iff_eq.mpr c4
   have c4b1 : (a0_1 != a1_1) = false := bne_eq_false_iff_eq.mpr c4
   clear c4
   by_cases c5 : a0_2 = a1_2
   ·rw [if_pos c5] at H
    have c5b0 : (a0_2 == a1_2) = true := beq_iff_eq.mpr c5
    have c5b1 : (a0_2 != a1_2) = false := bne_eq_false_iff_eq.mpr c5
    clear c5
    by_cases c6 : a0_3 = a1_3
    ·rw [if_pos c6] at H
     have c6b0 : (a0_3 == a1_3) = true := beq_iff_eq.mpr c6
     have c6b1 : (a0_3 != a1_3) = false := bne_eq_false_iff_eq.mpr c6
     clear c6
     by_cases c7 : (a0_4 != a1_4) = true
     ·rw [if_pos c7] at H
      have c7b0 : (a0_4 != a1_4) = true := c7
      (try (have c7b1 : decide (a0_4 = a1_4) = false := by simpa using c7))
      (try (have c7b2 : (a0_4 == a1_4) = false := by simpa using c7))
      (try (have c7b3 : ¬ (a0_4 = a1_4) := by simpa using c7))
      clear c7
      obtain rfl := Option.some.inj H
      go_enter Try.func42, Try.ntmps42
      go_wp2_with (first | ((with_reducible refine gate_dst (N := 2) rfl ?_); refine box_event (by rfl) (N := 2) (by rfl) (cs := #[.int .i64 a0_0, .int .i64 a0_1, .int .i64 a0_2, .int .i64 a0_3, .bool a0_4, .slice A0_5 l0_5.length c0_5, .slice A0_6 l0_6.length c0_6, .slice A0_7 l0_7.length c0_7]) (t := 55) (by first | (go_simp; done) | (go_simp; rfl)) ?_; intro gb141 hg w8 hbox hb; have n0_ := qm (qt HB.out hb); have n1_ := qm (hbox); have n2_ := qm ((by rw [hg]; exact (qs HB.out) : w.heap.size ≤ gb141)); have n3_ := qm ((by rw [hg]; exact (qs HB.out) : w.heap.size ≤ gb141)); clear HB; have HB := n0_; have BK141 := n1_; have GW141 := n2_; have GE141 := n3_; clear hb hbox hg) | ((with_reducible refine gate_dst (N := 3) rfl ?_); refine box_event (by rfl) (N := 3) (by rfl) (cs := #[.int .i64 a1_0, .int .i64 a1_1, .int .i64 a1_2, .int .i64 a1_3, .bool a1_4, .slice A1_5 l1_5.length c1_5, .slice A1_6 l1_6.length c1_6, .slice A1_7 l1_7.length c1_7]) (t := 55) (by first | (go_simp; done) | (go_simp; rfl)) ?_; intro gb142 hg w9 hbox hb; have n0_ := qm (qv (g := gb141) BK141.out hb); have n1_ := qm (qt (by repeat (first | (with_reducible first | exact HB.out | apply qh | apply qi | apply qj | refine qk ?_ GE141.out) | exact HB.out)) hb); have n2_ := qm (hbox); have n3_ := qm ((by rw [hg]; exact (qs (by repeat (first | (with_reducible first | exact HB.out | apply qh | apply qi | apply qj | refine qk ?_ GE141.out) | exact HB.out))) : w.heap.size ≤ gb142)); have n4_ := qm ((by rw [hg]; exact (qs (by repeat (first | (with_reducible first | exact HB.out | apply qh | apply qi | apply qj | refine qk ?_ GE141.out) | exact HB.out))) : w.heap.size ≤ gb142)); have n5_ := qm ((by rw [hg]; exact Nat.ne_of_lt (blk_lt (g := gb141) (o := .cells #[.int .i64 a0_0, .int .i64 a0_1, .int .i64 a0_2, .int .i64 a0_3, .bool a0_4, .slice A0_5 l0_5.length c0_5, .slice A0_6 l0_6.length c0_6, .slice A0_7 l0_7.length c0_7] 55 (0, 0)) BK141.out) : gb141 ≠ gb142)); have n6_ := qm ((by rw [hg]; exact Nat.ne_of_gt (blk_lt (g := gb141) (o := .cells #[.int .i64 a0_0, .int .i64 a0_1, .int .i64 a0_2, .int .i64 a0_3, .bool a0_4, .slice A0_5 l0_5.length c0_5, .slice A0_6 l0_6.length c0_6, .slice A0_7 l0_7.length c0_7] 55 (0, 0)) BK141.out) : gb142 ≠ gb141)); clear BK141; clear HB; have BK141 := n0_; have HB := n1_; have BK142 := n2_; have GW142 := n3_; have GE142 := n4_; have NB141_142 := n5_; have NB142_141 := n6_; clear hb hbox hg; have hnb10 := NB141_142.out; have hnc10 := NB142_141.out; obtain ⟨_, _, _, _, _, _, _, _, _, _, _, _, _, _, _, _⟩ := fc8 BK141.out; obtain ⟨_, _, _, _, _, _, _, _, _, _, _, _, _, _, _, _⟩ := fc8 BK142.out))
      go_ret
      exact ⟨by first | rfl | (simp <;> rfl) | (simp [*] <;> rfl), by repeat (first | (with_reducible first | exact HB.out | apply qh | apply qi | apply qj | refine qk ?_ GE141.out | refine qk ?_ GE142.out) | exact HB.out)⟩
     rw [if_neg c7] at H
     have c7b0 : (a0_4 != a1_4) = false := by simpa using c7
     (try (have c7b1 : decide (a0_4 = a1_4) = true := by simpa using c7))
     (try (have c7b2 : (a0_4 == a1_4) = true := by simpa using c7))
     clear c7
     replace H := Option.bind_eq_some_iff.mp H
     obtain ⟨t143, A130, H⟩ := H
     try dsimp only at H
     have A13 := qm A130
     clear A130
     by_cases c14 : t143 = true
     ·subst c14
      rw [if_pos rfl] at H
      replace H := Option.bind_eq_some_iff.mp H
      obtain ⟨t144, A150, H⟩ := H
      try dsimp only at H
      have A15 := qm A150
      clear A150
      by_cases c16 : t144 = true
      ·subst c16
       rw [if_pos rfl] at H
       replace H := Option.bind_eq_some_iff.mp H
       obtain ⟨t145, A170, H⟩ := H
       try dsimp only at H
       have A17 := qm A170
       clear A170
       by_cases c18 : t145 = true
       ·subst c18
        rw [if_pos rfl] at H
        obtain rfl := Option.some.inj H
        go_enter Try.func42, Try.ntmps42
        go_wp2_with (first | ((with_reducible refine gate_dst (N := 2) rfl ?_); refine box_event ?hg (N := 2) ?hd (cs := #[.int .i64 a0_0, .int .i64 a0_1, .int .i64 a0_2, .int .i64 a0_3, .bool a0_4, .slice A0_5 l0_5.length c0_5, .slice A0_6 l0_6.length c0_6, .slice A0_7 l0_7.length c0_7]) (t := 55) ?hr ?_; (case hd => rfl); (case hg => rfl); (case hr => first | (go_simp; done) | (go_simp; rfl)); intro gb141 hg w19 hbox hb; have n0_ := qm (qt (by repeat (first | (with_reducible first | exact HB.out | apply qh | apply qi | apply qj) | exact HB.out)) hb); have n1_ := qm (hbox); have n2_ := qm ((by rw [hg]; exact (qs (by repeat (first | (with_reducible first | exact HB.out | apply qh | apply qi | apply qj) | exact HB.out))) : w.heap.size ≤ gb141)); have n3_ := qm ((by rw [hg]; exact (qs (by repeat (first | (with_reducible first | exact HB.out | apply qh | apply qi | apply qj) | exact HB.out))) : w.heap.size ≤ gb141)); clear HB; have HB := n0_; have BK141 := n1_; have GW141 := n2_; have GE141 := n3_; clear n0_ n1_ n2_ n3_; clear hb hbox hg) | ((with_reducible refine gate_dst (N := 3) rfl ?_); refine box_event ?hg (N := 3) ?hd (cs := #[.int .i64 a1_0, .int .i64 a1_1, .int .i64 a1_2, .int .i64 a1_3, .bool a1_4, .slice A1_5 l1_5.length c1_5, .slice A1_6 l1_6.length c1_6, .slice A1_7 l1_7.length c1_7]) (t := 55) ?hr ?_; (case hd => rfl); (case hg => rfl); (case hr => first | (go_simp; done) | (go_simp; rfl)); intro gb142 hg w20 hbox hb; have n0_ := qm (qv (g := gb141) (o := .cells #[.int .i64 a0_0, .int .i64 a0_1, .int .i64 a0_2, .int .i64 a0_3, .bool a0_4, .slice A0_5 l0_5.length c0_5, .slice A0_6 l0_6.length c0_6, .slice A0_7 l0_7.length c0_7] 55 (0, 0)) (by (with_reducible repeat (first | refine ql ?_ _ | refine qn ?_ | refine qo ?_ _)); exact BK141.out) hb); have n1_ := qm (qt (by repeat (first | (with_reducible first | exact HB.out | apply qh | apply qi | apply qj | refine qk ?_ GE141.out) | exact HB.out)) hb); have n2_ := qm (hbox); have n3_ := qm ((by rw [hg]; exact (qs (by repeat (first | (with_reducible first | exact HB.out | apply qh | apply qi | apply qj | refine qk ?_ GE141.out) | exact HB.out))) : w.heap.size ≤ gb142)); have n4_ := qm ((by rw [hg]; exact (qs (by repeat (first | (with_reducible first | exact HB.out | apply qh | apply qi | apply qj | refine qk ?_ GE141.out) | exact HB.out))) : w.heap.size ≤ gb142)); have n5_ := qm ((by rw [hg]; exact Nat.ne_of_lt (blk_lt (g := gb141) (o := .cells #[.int .i64 a0_0, .int .i64 a0_1, .int .i64 a0_2, .int .i64 a0_3, .bool a0_4, .slice A0_5 l0_5.length c0_5, .slice A0_6 l0_6.length c0_6, .slice A0_7 l0_7.length c0_7] 55 (0, 0)) (by (with_reducible repeat (first | refine ql ?_ _ | refine qn ?_ | refine qo ?_ _)); exact BK141.out)) : gb141 ≠ gb142)); have n6_ := qm ((by rw [hg]; exact Nat.ne_of_gt (blk_lt (g := gb141) (o := .cells #[.int .i64 a0_0, .int .i64 a0_1, .int .i64 a0_2, .int .i64 a0_3, .bool a0_4, .slice A0_5 l0_5.length c0_5, .slice A0_6 l0_6.length c0_6, .slice A0_7 l0_7.length c0_7] 55 (0, 0)) (by (with_reducible repeat (first | refine ql ?_ _ | refine qn ?_ | refine qo ?_ _)); exact BK141.out)) : gb142 ≠ gb141)); clear BK141; clear HB; have BK141 := n0_; have HB := n1_; have BK142 := n2_; have GW142 := n3_; have GE142 := n4_; have NB141_142 := n5_; have NB142_141 := n6_; clear n0_ n1_ n2_ n3_ n4_ n5_ n6_; clear hb hbox hg; have hnb21 := NB141_142.out; have hnc21 := NB142_141.out; obtain ⟨z8_0, z8_1, z8_2, z8_3, z8_4, z8_5, z8_6, z8_7, z8_8, z8_9, z8_10, z8_11, z8_12, z8_13, z8_14, z8_15⟩ := fc8 BK141.out; obtain ⟨z8_0, z8_1, z8_2, z8_3, z8_4, z8_5, z8_6, z8_7, z8_8, z8_9, z8_10, z8_11, z8_12, z8_13, z8_14, z8_15⟩ := fc8 BK142.out) | ((with_reducible refine gate_callee (f := 16) rfl ?_); refine goesL_ (some 34) rfl rfl Try.func16 (by kernel_rfl) rfl #[.slice A0_5 l0_5.length c0_5, .slice A1_5 l1_5.length c1_5] rfl (by (try simp only [m1, m2, m3]); first | done | rfl) ?_; (with_reducible refine (laws_eqByteS.calls k _ _ l0_5 _ _ l1_5 true _ ?side1 ?side2 ?side3 ?side4 A13.out).mono ?_); (case side1 => repeat (first | exact (Kd.C_below HR0_5.out HB.out) | (with_reducible refine Kd.C_alloc ?_ _) | (with_reducible refine Kd.C_drewN ?_ _) | (with_reducible refine Kd.C_drew ?_))); (case side2 => exact HC0_5.out); (case side3 => repeat (first | exact (Kd.C_below HR1_5.out HB.out) | (with_reducible refine Kd.C_alloc ?_ _) | (with_reducible refine Kd.C_drewN ?_ _) | (with_reducible refine Kd.C_drew ?_))); (case side4 => exact HC1_5.out); rintro e w' ⟨rfl, ⟨nd, rfl⟩⟩; refine ⟨_, rfl, ?_⟩) | ((with_reducible refine gate_callee (f := 16) rfl ?_); refine goesL_ (some 40) rfl rfl Try.func16 (by kernel_rfl) rfl #[.slice A0_6 l0_6.length c0_6, .slice A1_6 l1_6.length c1_6] rfl (by (try simp only [m1, m2, m3]); first | done | rfl) ?_; (with_reducible refine (laws_eqByteS.calls k _ _ l0_6 _ _ l1_6 true _ ?side1 ?side2 ?side3 ?side4 A15.out).mono ?_); (case side1 => repeat (first | exact (Kd.C_below HR0_6.out (by repeat (first | (with_reducible first | exact HB.out | apply qh | apply qi | apply qj | refine qk ?_ GE141.out | refine qk ?_ GE142.out) | exact HB.out))) | (with_reducible refine Kd.C_alloc ?_ _) | (with_reducible refine Kd.C_drewN ?_ _) | (with_reducible refine Kd.C_drew ?_))); (case side2 => exact HC0_6.out); (case side3 => repeat (first | exact (Kd.C_below HR1_6.out (by repeat (first | (with_reducible first | exact HB.out | apply qh | apply qi | apply qj | refine qk ?_ GE141.out | refine qk ?_ GE142.out) | exact HB.out))) | (with_reducible refine Kd.C_alloc ?_ _) | (with_reducible refine Kd.C_drewN ?_ _) | (with_reducible refine Kd.C_drew ?_))); (case side4 => exact HC1_6.out); rintro e w' ⟨rfl, ⟨nd, rfl⟩⟩; refine ⟨_, rfl, ?_⟩) | ((with_reducible refine gate_callee (f := 78) rfl ?_); refine goesL_ (some 46) rfl rfl Try.func78 (by kernel_rfl) rfl #[.slice A0_7 l0_7.length c0_7, .slice A1_7 l1_7.length c1_7] rfl (by (try simp only [m1, m2, m3]); first | done | rfl) ?_; (with_reducible refine (laws_eqRangeS.calls k _ _ l0_7 _ _ l1_7 true _ ?side1 ?side2 ?side3 ?side4 A17.out).mono ?_); (case side1 => repeat (first | exact (Kd.C_below HR0_7.out (by repeat (first | (with_reducible first | exact HB.out | apply qh | apply qi | apply qj | refine qk ?_ GE141.out | refine qk ?_ GE142.out) | exact HB.out))) | (with_reducible refine Kd.C_alloc ?_ _) | (with_reducible refine Kd.C_drewN ?_ _) | (with_reducible refine Kd.C_drew ?_))); (case side2 => exact HC0_7.out); (case side3 => repeat (first | exact (Kd.C_below HR1_7.out (by repeat (first | (with_reducible first | exact HB.out | apply qh | apply qi | apply qj | refine qk ?_ GE141.out | refine qk ?_ GE142.out) | exact HB.out))) | (with_reducible refine Kd.C_alloc ?_ _) | (with_reducible refine Kd.C_drewN ?_ _) | (with_reducible refine Kd.C_drew ?_))); (case side4 => exact HC1_7.out); rintro e w24 ⟨rfl, hb⟩; refine ⟨_, rfl, ?_⟩; have n0_ := qm (qv (g := gb141) (o := .cells #[.int .i64 a0_0, .int .i64 a0_1, .int .i64 a0_2, .int .i64 a0_3, .bool a0_4, .slice A0_5 l0_5.length c0_5, .slice A0_6 l0_6.length c0_6, .slice A0_7 l0_7.length c0_7] 55 (0, 0)) (by (with_reducible repeat (first | refine ql ?_ _ | refine qn ?_ | refine qo ?_ _)); exact BK141.out) hb); have n1_ := qm (qv (g := gb142) (o := .cells #[.int .i64 a1_0, .int .i64 a1_1, .int .i64 a1_2, .int .i64 a1_3, .bool a1_4, .slice A1_5 l1_5.length c1_5, .slice A1_6 l1_6.length c1_6, .slice A1_7 l1_7.length c1_7] 55 (0, 0)) (by (with_reducible repeat (first | refine ql ?_ _ | refine qn ?_ | refine qo ?_ _)); exact BK142.out) hb); have n2_ := qm (qt (by repeat (first | (with_reducible first | exact HB.out | apply qh | apply qi | apply qj | refine qk ?_ GE141.out | refine qk ?_ GE142.out) | exact HB.out)) hb); clear BK141; clear BK142; clear HB; have BK141 := n0_; have BK142 := n1_; have HB := n2_; clear n0_ n1_ n2_; (try clear hb); (try clear hb2); (try clear hk); (try clear hi)))
        go_ret
        exact ⟨by first | rfl | (simp <;> rfl) | (simp [*] <;> rfl), by repeat (first | (with_reducible first | exact HB.out | apply qh | apply qi | apply qj | refine qk ?_ GE141.out | refine qk ?_ GE142.out) | exact HB.out)⟩
       replace c18 := Bool.eq_false_iff.mpr c18
       subst c18
       rw [if_neg nt] at H
       obtain rfl := Option.some.inj H
       go_enter Try.func42, Try.ntmps42
       go_wp2_with (first | ((with_reducible refine gate_dst (N := 2) rfl ?_); refine box_event ?hg (N := 2) ?hd (cs := #[.int .i64 a0_0, .int .i64 a0_1, .int .i64 a0_2, .int .i64 a0_3, .bool a0_4, .slice A0_5 l0_5.length c0_5, .slice A0_6 l0_6.length c0_6, .slice A0_7 l0_7.length c0_7]) (t := 55) ?hr ?_; (case hd => rfl); (case hg => rfl); (case hr => first | (go_simp; done) | (go_simp; rfl)); intro gb141 hg w25 hbox hb; have n0_ := qm (qt (by repeat (first | (with_reducible first | exact HB.out | apply qh | apply qi | apply qj) | exact HB.out)) hb); have n1_ := qm (hbox); have n2_ := qm ((by rw [hg]; exact (qs (by repeat (first | (with_reducible first | exact HB.out | apply qh | apply qi | apply qj) | exact HB.out))) : w.heap.size ≤ gb141)); have n3_ := qm ((by rw [hg]; exact (qs (by repeat (first | (with_reducible first | exact HB.out | apply qh | apply qi | apply qj) | exact HB.out))) : w.heap.size ≤ gb141)); clear HB; have HB := n0_; have BK141 := n1_; have GW141 := n2_; have GE141 := n3_; clear n0_ n1_ n2_ n3_; clear hb hbox hg) | ((with_reducible refine gate_dst (N := 3) rfl ?_); refine box_event ?hg (N := 3) ?hd (cs := #[.int .i64 a1_0, .int .i64 a1_1, .int .i64 a1_2, .int .i64 a1_3, .bool a1_4, .slice A1_5 l1_5.length c1_5, .slice A1_6 l1_6.length c1_6, .slice A1_7 l1_7.length c1_7]) (t := 55) ?hr ?_; (case hd => rfl); (case hg => rfl); (case hr => first | (go_simp; done) | (go_simp; rfl)); intro gb142 hg w26 hbox hb; have n0_ := qm (qv (g := gb141) (o := .cells #[.int .i64 a0_0, .int .i64 a0_1, .int .i64 a0_2, .int .i64 a0_3, .bool a0_4, .slice A0_5 l0_5.length c0_5, .slice A0_6 l0_6.length c0_6, .slice A0_7 l0_7.length c0_7] 55 (0, 0)) (by (with_reducible repeat (first | refine ql ?_ _ | refine qn ?_ | refine qo ?_ _)); exact BK141.out) hb); have n1_ := qm (qt (by repeat (first | (with_reducible first | exact HB.out | apply qh | apply qi | apply qj | refine qk ?_ GE141.out) | exact HB.out)) hb); have n2_ := qm (hbox); have n3_ := qm ((by rw [hg]; exact (qs (by repeat (first | (with_reducible first | exact HB.out | apply qh | apply qi | apply qj | refine qk ?_ GE141.out) | exact HB.out))) : w.heap.size ≤ gb142)); have n4_ := qm ((by rw [hg]; exact (qs (by repeat (first | (with_reducible first | exact HB.out | apply qh | apply qi | apply qj | refine qk ?_ GE141.out) | exact HB.out))) : w.heap.size ≤ gb142)); have n5_ := qm ((by rw [hg]; exact Nat.ne_of_lt (blk_lt (g := gb141) (o := .cells #[.int .i64 a0_0, .int .i64 a0_1, .int .i64 a0_2, .int .i64 a0_3, .bool a0_4, .slice A0_5 l0_5.length c0_5, .slice A0_6 l0_6.length c0_6, .slice A0_7 l0_7.length c0_7] 55 (0, 0)) (by (with_reducible repeat (first | refine ql ?_ _ | refine qn ?_ | refine qo ?_ _)); exact BK141.out)) : gb141 ≠ gb142)); have n6_ := qm ((by rw [hg]; exact Nat.ne_of_gt (blk_lt (g := gb141) (o := .cells #[.int .i64 a0_0, .int .i64 a0_1, .int .i64 a0_2, .int .i64 a0_3, .bool a0_4, .slice A0_5 l0_5.length c0_5, .slice A0_6 l0_6.length c0_6, .slice A0_7 l0_7.length c0_7] 55 (0, 0)) (by (with_reducible repeat (first | refine ql ?_ _ | refine qn ?_ | refine qo ?_ _)); exact BK141.out)) : gb142 ≠ gb141)); clear BK141; clear HB; have BK141 := n0_; have HB := n1_; have BK142 := n2_; have GW142 := n3_; have GE142 := n4_; have NB141_142 := n5_; have NB142_141 := n6_; clear n0_ n1_ n2_ n3_ n4_ n5_ n6_; clear hb hbox hg; have hnb27 := NB141_142.out; have hnc27 := NB142_141.out; obtain ⟨z8_0, z8_1, z8_2, z8_3, z8_4, z8_5, z8_6, z8_7, z8_8, z8_9, z8_10, z8_11, z8_12, z8_13, z8_14, z8_15⟩ := fc8 BK141.out; obtain ⟨z8_0, z8_1, z8_2, z8_3, z8_4, z8_5, z8_6, z8_7, z8_8, z8_9, z8_10, z8_11, z8_12, z8_13, z8_14, z8_15⟩ := fc8 BK142.out) | ((with_reducible refine gate_callee (f := 16) rfl ?_); refine goesL_ (some 34) rfl rfl Try.func16 (by kernel_rfl) rfl #[.slice A0_5 l0_5.length c0_5, .slice A1_5 l1_5.length c1_5] rfl (by (try simp only [m1, m2, m3]); first | done | rfl) ?_; (with_reducible refine (laws_eqByteS.calls k _ _ l0_5 _ _ l1_5 true _ ?side1 ?side2 ?side3 ?side4 A13.out).mono ?_); (case side1 => repeat (first | exact (Kd.C_below HR0_5.out HB.out) | (with_reducible refine Kd.C_alloc ?_ _) | (with_reducible refine Kd.C_drewN ?_ _) | (with_reducible refine Kd.C_drew ?_))); (case side2 => exact HC0_5.out); (case side3 => repeat (first | exact (Kd.C_below HR1_5.out HB.out) | (with_reducible refine Kd.C_alloc ?_ _) | (with_reducible refine Kd.C_drewN ?_ _) | (with_reducible refine Kd.C_drew ?_))); (case side4 => exact HC1_5.out); rintro e w' ⟨rfl, ⟨nd, rfl⟩⟩; refine ⟨_, rfl, ?_⟩) | ((with_reducible refine gate_callee (f := 16) rfl ?_); refine goesL_ (some 40) rfl rfl Try.func16 (by kernel_rfl) rfl #[.slice A0_6 l0_6.length c0_6, .slice A1_6 l1_6.length c1_6] rfl (by (try simp only [m1, m2, m3]); first | done | rfl) ?_; (with_reducible refine (laws_eqByteS.calls k _ _ l0_6 _ _ l1_6 true _ ?side1 ?side2 ?side3 ?side4 A15.out).mono ?_); (case side1 => repeat (first | exact (Kd.C_below HR0_6.out (by repeat (first | (with_reducible first | exact HB.out | apply qh | apply qi | apply qj | refine qk ?_ GE141.out | refine qk ?_ GE142.out) | exact HB.out))) | (with_reducible refine Kd.C_alloc ?_ _) | (with_reducible refine Kd.C_drewN ?_ _) | (with_reducible refine Kd.C_drew ?_))); (case side2 => exact HC0_6.out); (case side3 => repeat (first | exact (Kd.C_below HR1_6.out (by repeat (first | (with_reducible first | exact HB.out | apply qh | apply qi | apply qj | refine qk ?_ GE141.out | refine qk ?_ GE142.out) | exact HB.out))) | (with_reducible refine Kd.C_alloc ?_ _) | (with_reducible refine Kd.C_drewN ?_ _) | (with_reducible refine Kd.C_drew ?_))); (case side4 => exact HC1_6.out); rintro e w' ⟨rfl, ⟨nd, rfl⟩⟩; refine ⟨_, rfl, ?_⟩) | ((with_reducible refine gate_callee (f := 78) rfl ?_); refine goesL_ (some 46) rfl rfl Try.func78 (by kernel_rfl) rfl #[.slice A0_7 l0_7.length c0_7, .slice A1_7 l1_7.length c1_7] rfl (by (try simp only [m1, m2, m3]); first | done | rfl) ?_; (with_reducible refine (laws_eqRangeS.calls k _ _ l0_7 _ _ l1_7 false _ ?side1 ?side2 ?side3 ?side4 A17.out).mono ?_); (case side1 => repeat (first | exact (Kd.C_below HR0_7.out (by repeat (first | (with_reducible first | exact HB.out | apply qh | apply qi | apply qj | refine qk ?_ GE141.out | refine qk ?_ GE142.out) | exact HB.out))) | (with_reducible refine Kd.C_alloc ?_ _) | (with_reducible refine Kd.C_drewN ?_ _) | (with_reducible refine Kd.C_drew ?_))); (case side2 => exact HC0_7.out); (case side3 => repeat (first | exact (Kd.C_below HR1_7.out (by repeat (first | (with_reducible first | exact HB.out | apply qh | apply qi | apply qj | refine qk ?_ GE141.out | refine qk ?_ GE142.out) | exact HB.out))) | (with_reducible refine Kd.C_alloc ?_ _) | (with_reducible refine Kd.C_drewN ?_ _) | (with_reducible refine Kd.C_drew ?_))); (case side4 => exact HC1_7.out); rintro e w30 ⟨rfl, hb⟩; refine ⟨_, rfl, ?_⟩; have n0_ := qm (qv (g := gb141) (o := .cells #[.int .i64 a0_0, .int .i64 a0_1, .int .i64 a0_2, .int .i64 a0_3, .bool a0_4, .slice A0_5 l0_5.length c0_5, .slice A0_6 l0_6.length c0_6, .slice A0_7 l0_7.length c0_7] 55 (0, 0)) (by (with_reducible repeat (first | refine ql ?_ _ | refine qn ?_ | refine qo ?_ _)); exact BK141.out) hb); have n1_ := qm (qv (g := gb142) (o := .cells #[.int .i64 a1_0, .int .i64 a1_1, .int .i64 a1_2, .int .i64 a1_3, .bool a1_4, .slice A1_5 l1_5.length c1_5, .slice A1_6 l1_6.length c1_6, .slice A1_7 l1_7.length c1_7] 55 (0, 0)) (by (with_reducible repeat (first | refine ql ?_ _ | refine qn ?_ | refine qo ?_ _)); exact BK142.out) hb); have n2_ := qm (qt (by repeat (first | (with_reducible first | exact HB.out | apply qh | apply qi | apply qj | refine qk ?_ GE141.out | refine qk ?_ GE142.out) | exact HB.out)) hb); clear BK141; clear BK142; clear HB; have BK141 := n0_; have BK142 := n1_; have HB := n2_; clear n0_ n1_ n2_; (try clear hb); (try clear hb2); (try clear hk); (try clear hi)))
       go_ret
       exact ⟨by first | rfl | (simp <;> rfl) | (simp [*] <;> rfl), by repeat (first | (with_reducible first | exact HB.out | apply qh | apply qi | apply qj | refine qk ?_ GE141.out | refine qk ?_ GE142.out) | exact HB.out)⟩
      replace c16 := Bool.eq_false_iff.mpr c16
      subst c16
      rw [if_neg nt] at H
      obtain rfl := Option.some.inj H
      go_enter Try.func42, Try.ntmps42
      go_wp2_with (first | ((with_reducible refine gate_dst (N := 2) rfl ?_); refine box_event (by rfl) (N := 2) (by rfl) (cs := #[.int .i64 a0_0, .int .i64 a0_1, .int .i64 a0_2, .int .i64 a0_3, .bool a0_4, .slice A0_5 l0_5.length c0_5, .slice A0_6 l0_6.length c0_6, .slice A0_7 l0_7.length c0_7]) (t := 55) (by first | (go_simp; done) | (go_simp; rfl)) ?_; intro gb141 hg w31 hbox hb; have n0_ := qm (qt HB.out hb); have n1_ := qm (hbox); have n2_ := qm ((by rw [hg]; exact (qs HB.out) : w.heap.size ≤ gb141)); have n3_ := qm ((by rw [hg]; exact (qs HB.out) : w.heap.size ≤ gb141)); clear HB; have HB := n0_; have BK141 := n1_; have GW141 := n2_; have GE141 := n3_; clear hb hbox hg) | ((with_reducible refine gate_dst (N := 3) rfl ?_); refine box_event (by rfl) (N := 3) (by rfl) (cs := #[.int .i64 a1_0, .int .i64 a1_1, .int .i64 a1_2, .int .i64 a1_3, .bool a1_4, .slice A1_5 l1_5.length c1_5, .slice A1_6 l1_6.length c1_6, .slice A1_7 l1_7.length c1_7]) (t := 55) (by first | (go_simp; done) | (go_simp; rfl)) ?_; intro gb142 hg w32 hbox hb; have n0_ := qm (qv (g := gb141) BK141.out hb); have n1_ := qm (qt (by repeat (first | (with_reducible first | exact HB.out | apply qh | apply qi | apply qj | refine qk ?_ GE141.out) | exact HB.out)) hb); have n2_ := qm (hbox); have n3_ := qm ((by rw [hg]; exact (qs (by repeat (first | (with_reducible first | exact HB.out | apply qh | apply qi | apply qj | refine qk ?_ GE141.out) | exact HB.out))) : w.heap.size ≤ gb142)); have n4_ := qm ((by rw [hg]; exact (qs (by repeat (first | (with_reducible first | exact HB.out | apply qh | apply qi | apply qj | refine qk ?_ GE141.out) | exact HB.out))) : w.heap.size ≤ gb142)); have n5_ := qm ((by rw [hg]; exact Nat.ne_of_lt (blk_lt (g := gb141) (o := .cells #[.int .i64 a0_0, .int .i64 a0_1, .int .i64 a0_2, .int .i64 a0_3, .bool a0_4, .slice A0_5 l0_5.length c0_5, .slice A0_6 l0_6.length c0_6, .slice A0_7 l0_7.length c0_7] 55 (0, 0)) BK141.out) : gb141 ≠ gb142)); have n6_ := qm ((by rw [hg]; exact Nat.ne_of_gt (blk_lt (g := gb141) (o := .cells #[.int .i64 a0_0, .int .i64 a0_1, .int .i64 a0_2, .int .i64 a0_3, .bool a0_4, .slice A0_5 l0_5.length c0_5, .slice A0_6 l0_6.length c0_6, .slice A0_7 l0_7.length c0_7] 55 (0, 0)) BK141.out) : gb142 ≠ gb141)); clear BK141; clear HB; have BK141 := n0_; have HB := n1_; have BK142 := n2_; have GW142 := n3_; have GE142 := n4_; have NB141_142 := n5_; have NB142_141 := n6_; clear hb hbox hg; have hnb33 := NB141_142.out; have hnc33 := NB142_141.out; obtain ⟨_, _, _, _, _, _, _, _, _, _, _, _, _, _, _, _⟩ := fc8 BK141.out; obtain ⟨_, _, _, _, _, _, _, _, _, _, _, _, _, _, _, _⟩ := fc8 BK142.out) | ((with_reducible refine gate_callee (f := 16) rfl ?_); refine goesL_ (some 34) rfl rfl Try.func16 (by kernel_rfl) rfl #[.slice A0_5 l0_5.length c0_5, .slice A1_5 l1_5.length c1_5] rfl (by (try simp only [m1, m2, m3]); first | done | rfl) ?_; (with_reducible refine (laws_eqByteS.calls k _ _ l0_5 _ _ l1_5 true _ ?side1 ?side2 ?side3 ?side4 A13.out).mono ?_); (case side1 => repeat (first | exact (Kd.C_below HR0_5.out HB.out) | (with_reducible refine Kd.C_alloc ?_ _) | (with_reducible refine Kd.C_drewN ?_ _) | (with_reducible refine Kd.C_drew ?_))); (case side2 => exact HC0_5.out); (case side3 => repeat (first | exact (Kd.C_below HR1_5.out HB.out) | (with_reducible refine Kd.C_alloc ?_ _) | (with_reducible refine Kd.C_drewN ?_ _) | (with_reducible refine Kd.C_drew ?_))); (case side4 => exact HC1_5.out); rintro e w' ⟨rfl, ⟨nd, rfl⟩⟩; refine ⟨_, rfl, ?_⟩) | ((with_reducible refine gate_callee (f := 16) rfl ?_); refine goesL_ (some 40) rfl rfl Try.func16 (by kernel_rfl) rfl #[.slice A0_6 l0_6.length c0_6, .slice A1_6 l1_6.length c1_6] rfl (by (try simp only [m1, m2, m3]); first | done | rfl) ?_; (with_reducible refine (laws_eqByteS.calls k _ _ l0_6 _ _ l1_6 false _ ?side1 ?side2 ?side3 ?side4 A15.out).mono ?_); (case side1 => repeat (first | exact (Kd.C_below HR0_6.out (by repeat (first | (with_reducible first | exact HB.out | apply qh | apply qi | apply qj | refine qk ?_ GE141.out | refine qk ?_ GE142.out) | exact HB.out))) | (with_reducible refine Kd.C_alloc ?_ _) | (with_reducible refine Kd.C_drewN ?_ _) | (with_reducible refine Kd.C_drew ?_))); (case side2 => exact HC0_6.out); (case side3 => repeat (first | exact (Kd.C_below HR1_6.out (by repeat (first | (with_reducible first | exact HB.out | apply qh | apply qi | apply qj | refine qk ?_ GE141.out | refine qk ?_ GE142.out) | exact HB.out))) | (with_reducible refine Kd.C_alloc ?_ _) | (with_reducible refine Kd.C_drewN ?_ _) | (with_reducible refine Kd.C_drew ?_))); (case side4 => exact HC1_6.out); rintro e w' ⟨rfl, ⟨nd, rfl⟩⟩; refine ⟨_, rfl, ?_⟩))
      go_ret
      exact ⟨by first | rfl | (simp <;> rfl) | (simp [*] <;> rfl), by repeat (first | (with_reducible first | exact HB.out | apply qh | apply qi | apply qj | refine qk ?_ GE141.out | refine qk ?_ GE142.out) | exact HB.out)⟩
     replace c14 := Bool.eq_false_iff.mpr c14
     subst c14
     rw [if_neg nt] at H
     obtain rfl := Option.some.inj H
     go_enter Try.func42, Try.ntmps42
     go_wp2_with (first | ((with_reducible refine gate_dst (N := 2) rfl ?_); refine box_event (by rfl) (N := 2) (by rfl) (cs := #[.int .i64 a0_0, .int .i64 a0_1, .int .i64 a0_2, .int .i64 a0_3, .bool a0_4, .slice A0_5 l0_5.length c0_5, .slice A0_6 l0_6.length c0_6, .slice A0_7 l0_7.length c0_7]) (t := 55) (by first | (go_simp; done) | (go_simp; rfl)) ?_; intro gb141 hg w36 hbox hb; have n0_ := qm (qt HB.out hb); have n1_ := qm (hbox); have n2_ := qm ((by rw [hg]; exact (qs HB.out) : w.heap.size ≤ gb141)); have n3_ := qm ((by rw [hg]; exact (qs HB.out) : w.heap.size ≤ gb141)); clear HB; have HB := n0_; have BK141 := n1_; have GW141 := n2_; have GE141 := n3_; clear hb hbox hg) | ((with_reducible refine gate_dst (N := 3) rfl ?_); refine box_event (by rfl) (N := 3) (by rfl) (cs := #[.int .i64 a1_0, .int .i64 a1_1, .int .i64 a1_2, .int .i64 a1_3, .bool a1_4, .slice A1_5 l1_5.length c1_5, .slice A1_6 l1_6.length c1_6, .slice A1_7 l1_7.length c1_7]) (t := 55) (by first | (go_simp; done) | (go_simp; rfl)) ?_; intro gb142 hg w37 hbox hb; have n0_ := qm (qv (g := gb141) BK141.out hb); have n1_ := qm (qt (by repeat (first | (with_reducible first | exact HB.out | apply qh | apply qi | apply qj | refine qk ?_ GE141.out) | exact HB.out)) hb); have n2_ := qm (hbox); have n3_ := qm ((by rw [hg]; exact (qs (by repeat (first | (with_reducible first | exact HB.out | apply qh | apply qi | apply qj | refine qk ?_ GE141.out) | exact HB.out))) : w.heap.size ≤ gb142)); have n4_ := qm ((by rw [hg]; exact (qs (by repeat (first | (with_reducible first | exact HB.out | apply qh | apply qi | apply qj | refine qk ?_ GE141.out) | exact HB.out))) : w.heap.size ≤ gb142)); have n5_ := qm ((by rw [hg]; exact Nat.ne_of_lt (blk_lt (g := gb141) (o := .cells #[.int .i64 a0_0, .int .i64 a0_1, .int .i64 a0_2, .int .i64 a0_3, .bool a0_4, .slice A0_5 l0_5.length c0_5, .slice A0_6 l0_6.length c0_6, .slice A0_7 l0_7.length c0_7] 55 (0, 0)) BK141.out) : gb141 ≠ gb142)); have n6_ := qm ((by rw [hg]; exact Nat.ne_of_gt (blk_lt (g := gb141) (o := .cells #[.int .i64 a0_0, .int .i64 a0_1, .int .i64 a0_2, .int .i64 a0_3, .bool a0_4, .slice A0_5 l0_5.length c0_5, .slice A0_6 l0_6.length c0_6, .slice A0_7 l0_7.length c0_7] 55 (0, 0)) BK141.out) : gb142 ≠ gb141)); clear BK141; clear HB; have BK141 := n0_; have HB := n1_; have BK142 := n2_; have GW142 := n3_; have GE142 := n4_; have NB141_142 := n5_; have NB142_141 := n6_; clear hb hbox hg; have hnb38 := NB141_142.out; have hnc38 := NB142_141.out; obtain ⟨_, _, _, _, _, _, _, _, _, _, _, _, _, _, _, _⟩ := fc8 BK141.out; obtain ⟨_, _, _, _, _, _, _, _, _, _, _, _, _, _, _, _⟩ := fc8 BK142.out) | ((with_reducible refine gate_callee (f := 16) rfl ?_); refine goesL_ (some 34) rfl rfl Try.func16 (by kernel_rfl) rfl #[.slice A0_5 l0_5.length c0_5, .slice A1_5 l1_5.length c1_5] rfl (by (try simp only [m1, m2, m3]); first | done | rfl) ?_; (with_reducible refine (laws_eqByteS.calls k _ _ l0_5 _ _ l1_5 false _ ?side1 ?side2 ?side3 ?side4 A13.out).mono ?_); (case side1 => repeat (first | exact (Kd.C_below HR0_5.out HB.out) | (with_reducible refine Kd.C_alloc ?_ _) | (with_reducible refine Kd.C_drewN ?_ _) | (with_reducible refine Kd.C_drew ?_))); (case side2 => exact HC0_5.out); (case side3 => repeat (first | exact (Kd.C_below HR1_5.out HB.out) | (with_reducible refine Kd.C_alloc ?_ _) | (with_reducible refine Kd.C_drewN ?_ _) | (with_reducible refine Kd.C_drew ?_))); (case side4 => exact HC1_5.out); rintro e w' ⟨rfl, ⟨nd, rfl⟩⟩; refine ⟨_, rfl, ?_⟩))
     go_ret
     exact ⟨by first | rfl | (simp <;> rfl) | (simp [*] <;> rfl), by repeat (first | (with_reducible first | exact HB.out | apply qh | apply qi | apply qj | refine qk ?_ GE141.out | refine qk ?_ GE142.out) | exact HB.out)⟩
    rw [if_neg c6] at H
    have c6b0 : (a0_3 == a1_3) = false := beq_eq_false_iff_ne.mpr c6
    have c6b1 : (a0_3 != a1_3) = true := bne_iff_ne.mpr c6
    obtain rfl := Option.some.inj H
    go_enter Try.func42, Try.ntmps42
    go_wp2_with (first | ((with_reducible refine gate_dst (N := 2) rfl ?_); refine box_event (by rfl) (N := 2) (by rfl) (cs := #[.int .i64 a0_0, .int .i64 a0_1, .int .i64 a0_2, .int .i64 a0_3, .bool a0_4, .slice A0_5 l0_5.length c0_5, .slice A0_6 l0_6.length c0_6, .slice A0_7 l0_7.length c0_7]) (t := 55) (by first | (go_simp; done) | (go_simp; rfl)) ?_; intro gb141 hg w41 hbox hb; have n0_ := qm (qt HB.out hb); have n1_ := qm (hbox); have n2_ := qm ((by rw [hg]; exact (qs HB.out) : w.heap.size ≤ gb141)); have n3_ := qm ((by rw [hg]; exact (qs HB.out) : w.heap.size ≤ gb141)); clear HB; have HB := n0_; have BK141 := n1_; have GW141 := n2_; have GE141 := n3_; clear hb hbox hg) | ((with_reducible refine gate_dst (N := 3) rfl ?_); refine box_event (by rfl) (N := 3) (by rfl) (cs := #[.int .i64 a1_0, .int .i64 a1_1, .int .i64 a1_2, .int .i64 a1_3, .bool a1_4, .slice A1_5 l1_5.length c1_5, .slice A1_6 l1_6.length c1_6, .slice A1_7 l1_7.length c1_7]) (t := 55) (by first | (go_simp; done) | (go_simp; rfl)) ?_; intro gb142 hg w42 hbox hb; have n0_ := qm (qv (g := gb141) BK141.out hb); have n1_ := qm (qt (by repeat (first | (with_reducible first | exact HB.out | apply qh | apply qi | apply qj | refine qk ?_ GE141.out) | exact HB.out)) hb); have n2_ := qm (hbox); have n3_ := qm ((by rw [hg]; exact (qs (by repeat (first | (with_reducible first | exact HB.out | apply qh | apply qi | apply qj | refine qk ?_ GE141.out) | exact HB.out))) : w.heap.size ≤ gb142)); have n4_ := qm ((by rw [hg]; exact (qs (by repeat (first | (with_reducible first | exact HB.out | apply qh | apply qi | apply qj | refine qk ?_ GE141.out) | exact HB.out))) : w.heap.size ≤ gb142)); have n5_ := qm ((by rw [hg]; exact Nat.ne_of_lt (blk_lt (g := gb141) (o := .cells #[.int .i64 a0_0, .int .i64 a0_1, .int .i64 a0_2, .int .i64 a0_3, .bool a0_4, .slice A0_5 l0_5.length c0_5, .slice A0_6 l0_6.length c0_6, .slice A0_7 l0_7.length c0_7] 55 (0, 0)) BK141.out) : gb141 ≠ gb142)); have n6_ := qm ((by rw [hg]; exact Nat.ne_of_gt (blk_lt (g := gb141) (o := .cells #[.int .i64 a0_0, .int .i64 a0_1, .int .i64 a0_2, .int .i64 a0_3, .bool a0_4, .slice A0_5 l0_5.length c0_5, .slice A0_6 l0_6.length c0_6, .slice A0_7 l0_7.length c0_7] 55 (0, 0)) BK141.out) : gb142 ≠ gb141)); clear BK141; clear HB; have BK141 := n0_; have HB := n1_; have BK142 := n2_; have GW142 := n3_; have GE142 := n4_; have NB141_142 := n5_; have NB142_141 := n6_; clear hb hbox hg; have hnb43 := NB141_142.out; have hnc43 := NB142_141.out; obtain ⟨_, _, _, _, _, _, _, _, _, _, _, _, _, _, _, _⟩ := fc8 BK141.out; obtain ⟨_, _, _, _, _, _, _, _, _, _, _, _, _, _, _, _⟩ := fc8 BK142.out))
    go_ret
    exact ⟨by first | rfl | (simp <;> rfl) | (simp [*] <;> rfl), by repeat (first | (with_reducible first | exact HB.out | apply qh | apply qi | apply qj | refine qk ?_ GE141.out | refine qk ?_ GE142.out) | exact HB.out)⟩
   rw [if_neg c5] at H
   have c5b0 : (a0_2 == a1_2) = false := beq_eq_false_iff_ne.mpr c5
   have c5b1 : (a0_2 != a1_2) = true := bne_iff_ne.mpr c5
   obtain rfl := Option.some.inj H
   go_enter Try.func42, Try.ntmps42
   go_wp2_with (first | ((with_reducible refine gate_dst (N := 2) rfl ?_); refine box_event (by rfl) (N := 2) (by rfl) (cs := #[.int .i64 a0_0, .int .i64 a0_1, .int .i64 a0_2, .int .i64 a0_3, .bool a0_4, .slice A0_5 l0_5.length c0_5, .slice A0_6 l0_6.length c0_6, .slice A0_7 l0_7.length c0_7]) (t := 55) (by first | (go_simp; done) | (go_simp; rfl)) ?_; intro gb141 hg w46 hbox hb; have n0_ := qm (qt HB.out hb); have n1_ := qm (hbox); have n2_ := qm ((by rw [hg]; exact (qs HB.out) : w.heap.size ≤ gb141)); have n3_ := qm ((by rw [hg]; exact (qs HB.out) : w.heap.size ≤ gb141)); clear HB; have HB := n0_; have BK141 := n1_; have GW141 := n2_; have GE141 := n3_; clear hb hbox hg) | ((with_reducible refine gate_dst (N := 3) rfl ?_); refine box_event (by rfl) (N := 3) (by rfl) (cs := #[.int .i64 a1_0, .int .i64 a1_1, .int .i64 a1_2, .int .i64 a1_3, .bool a1_4, .slice A1_5 l1_5.length c1_5, .slice A1_6 l1_6.length c1_6, .slice A1_7 l1_7.length c1_7]) (t := 55) (by first | (go_simp; done) | (go_simp; rfl)) ?_; intro gb142 hg w47 hbox hb; have n0_ := qm (qv (g := gb141) BK141.out hb); have n1_ := qm (qt (by repeat (first | (with_reducible first | exact HB.out | apply qh | apply qi | apply qj | refine qk ?_ GE141.out) | exact HB.out)) hb); have n2_ := qm (hbox); have n3_ := qm ((by rw [hg]; exact (qs (by repeat (first | (with_reducible first | exact HB.out | apply qh | apply qi | apply qj | refine qk ?_ GE141.out) | exact HB.out))) : w.heap.size ≤ gb142)); have n4_ := qm ((by rw [hg]; exact (qs (by repeat (first | (with_reducible first | exact HB.out | apply qh | apply qi | apply qj | refine qk ?_ GE141.out) | exact HB.out))) : w.heap.size ≤ gb142)); have n5_ := qm ((by rw [hg]; exact Nat.ne_of_lt (blk_lt (g := gb141) (o := .cells #[.int .i64 a0_0, .int .i64 a0_1, .int .i64 a0_2, .int .i64 a0_3, .bool a0_4, .slice A0_5 l0_5.length c0_5, .slice A0_6 l0_6.length c0_6, .slice A0_7 l0_7.length c0_7] 55 (0, 0)) BK141.out) : gb141 ≠ gb142)); have n6_ := qm ((by rw [hg]; exact Nat.ne_of_gt (blk_lt (g := gb141) (o := .cells #[.int .i64 a0_0, .int .i64 a0_1, .int .i64 a0_2, .int .i64 a0_3, .bool a0_4, .slice A0_5 l0_5.length c0_5, .slice A0_6 l0_6.length c0_6, .slice A0_7 l0_7.length c0_7] 55 (0, 0)) BK141.out) : gb142 ≠ gb141)); clear BK141; clear HB; have BK141 := n0_; have HB := n1_; have BK142 := n2_; have GW142 := n3_; have GE142 := n4_; have NB141_142 := n5_; have NB142_141 := n6_; clear hb hbox hg; have hnb48 := NB141_142.out; have hnc48 := NB142_141.out; obtain ⟨_, _, _, _, _, _, _, _, _, _, _, _, _, _, _, _⟩ := fc8 BK141.out; obtain ⟨_, _, _, _, _, _, _, _, _, _, _, _, _, _, _, _⟩ := fc8 BK142.out))
   go_ret
   exact ⟨by first | rfl | (simp <;> rfl) | (simp [*] <;> rfl), by repeat (first | (with_reducible first | exact HB.out | apply qh | apply qi | apply qj | refine qk ?_ GE141.out | refine qk ?_ GE142.out) | exact HB.out)⟩
  rw [if_neg c4] at H
  have c4b0 : (a0_1 == a1_1) = false := beq_eq_false_iff_ne.mpr c4
  have c4b1 : (a0_1 != a1_1) = true := bne_iff_ne.mpr c4
  obtain rfl := Option.some.inj H
  go_enter Try.func42, Try.ntmps42
  go_wp2_with (first | ((with_reducible refine gate_dst (N := 2) rfl ?_); refine box_event (by rfl) (N := 2) (by rfl) (cs := #[.int .i64 a0_0, .int .i64 a0_1, .int .i64 a0_2, .int .i64 a0_3, .bool a0_4, .slice A0_5 l0_5.length c0_5, .slice A0_6 l0_6.length c0_6, .slice A0_7 l0_7.length c0_7]) (t := 55) (by first | (go_simp; done) | (go_simp; rfl)) ?_; intro gb141 hg w51 hbox hb; have n0_ := qm (qt HB.out hb); have n1_ := qm (hbox); have n2_ := qm ((by rw [hg]; exact (qs HB.out) : w.heap.size ≤ gb141)); have n3_ := qm ((by rw [hg]; exact (qs HB.out) : w.heap.size ≤ gb141)); clear HB; have HB := n0_; have BK141 := n1_; have GW141 := n2_; have GE141 := n3_; clear hb hbox hg) | ((with_reducible refine gate_dst (N := 3) rfl ?_); refine box_event (by rfl) (N := 3) (by rfl) (cs := #[.int .i64 a1_0, .int .i64 a1_1, .int .i64 a1_2, .int .i64 a1_3, .bool a1_4, .slice A1_5 l1_5.length c1_5, .slice A1_6 l1_6.length c1_6, .slice A1_7 l1_7.length c1_7]) (t := 55) (by first | (go_simp; done) | (go_simp; rfl)) ?_; intro gb142 hg w52 hbox hb; have n0_ := qm (qv (g := gb141) BK141.out hb); have n1_ := qm (qt (by repeat (first | (with_reducible first | exact HB.out | apply qh | apply qi | apply qj | refine qk ?_ GE141.out) | exact HB.out)) hb); have n2_ := qm (hbox); have n3_ := qm ((by rw [hg]; exact (qs (by repeat (first | (with_reducible first | exact HB.out | apply qh | apply qi | apply qj | refine qk ?_ GE141.out) | exact HB.out))) : w.heap.size ≤ gb142)); have n4_ := qm ((by rw [hg]; exact (qs (by repeat (first | (with_reducible first | exact HB.out | apply qh | apply qi | apply qj | refine qk ?_ GE141.out) | exact HB.out))) : w.heap.size ≤ gb142)); have n5_ := qm ((by rw [hg]; exact Nat.ne_of_lt (blk_lt (g := gb141) (o := .cells #[.int .i64 a0_0, .int .i64 a0_1, .int .i64 a0_2, .int .i64 a0_3, .bool a0_4, .slice A0_5 l0_5.length c0_5, .slice A0_6 l0_6.length c0_6, .slice A0_7 l0_7.length c0_7] 55 (0, 0)) BK141.out) : gb141 ≠ gb142)); have n6_ := qm ((by rw [hg]; exact Nat.ne_of_gt (blk_lt (g := gb141) (o := .cells #[.int .i64 a0_0, .int .i64 a0_1, .int .i64 a0_2, .int .i64 a0_3, .bool a0_4, .slice A0_5 l0_5.length c0_5, .slice A0_6 l0_6.length c0_6, .slice A0_7 l0_7.length c0_7] 55 (0, 0)) BK141.out) : gb142 ≠ gb141)); clear BK141; clear HB; have BK141 := n0_; have HB := n1_; have BK142 := n2_; have GW142 := n3_; have GE142 := n4_; have NB141_142 := n5_; have NB142_141 := n6_; clear hb hbox hg; have hnb53 := NB141_142.out; have hnc53 := NB142_141.out; obtain ⟨_, _, _, _, _, _, _, _, _, _, _, _, _, _, _, _⟩ := fc8 BK141.out; obtain ⟨_, _, _, _, _, _, _, _, _, _, _, _, _, _, _, _⟩ := fc8 BK142.out))
  go_ret
  exact ⟨by first | rfl | (simp <;> rfl) | (simp [*] <;> rfl), by repeat (first | (with_reducible first | exact HB.out | apply qh | apply qi | apply qj | refine qk ?_ GE141.out | refine qk ?_ GE142.out) | exact HB.out)⟩
 rw [if_neg c3] at H
 have c3b0 : (a0_0 == a1_0) = false := beq_eq_false_iff_ne.mpr c3
 have c3b1 : (a0_0 != a1_0) = true := bne_iff_ne.mpr c3
 obtain rfl := Option.some.inj H
 go_enter Try.func42, Try.ntmps42
 go_wp2_with (first | ((with_reducible refine gate_dst (N := 2) rfl ?_); refine box_event (by rfl) (N := 2) (by rfl) (cs := #[.int .i64 a0_0, .int .i64 a0_1, .int .i64 a0_2, .int .i64 a0_3, .bool a0_4, .slice A0_5 l0_5.length c0_5, .slice A0_6 l0_6.length c0_6, .slice A0_7 l0_7.length c0_7]) (t := 55) (by first | (go_simp; done) | (go_simp; rfl)) ?_; intro gb141 hg w56 hbox hb; have n0_ := qm (qt HB.out hb); have n1_ := qm (hbox); have n2_ := qm ((by rw [hg]; exact (qs HB.out) : w.heap.size ≤ gb141)); have n3_ := qm ((by rw [hg]; exact (qs HB.out) : w.heap.size ≤ gb141)); clear HB; have HB := n0_; have BK141 := n1_; have GW141 := n2_; have GE141 := n3_; clear hb hbox hg) | ((with_reducible refine gate_dst (N := 3) rfl ?_); refine box_event (by rfl) (N := 3) (by rfl) (cs := #[.int .i64 a1_0, .int .i64 a1_1, .int .i64 a1_2, .int .i64 a1_3, .bool a1_4, .slice A1_5 l1_5.length c1_5, .slice A1_6 l1_6.length c1_6, .slice A1_7 l1_7.length c1_7]) (t := 55) (by first | (go_simp; done) | (go_simp; rfl)) ?_; intro gb142 hg w57 hbox hb; have n0_ := qm (qv (g := gb141) BK141.out hb); have n1_ := qm (qt (by repeat (first | (with_reducible first | exact HB.out | apply qh | apply qi | apply qj | refine qk ?_ GE141.out) | exact HB.out)) hb); have n2_ := qm (hbox); have n3_ := qm ((by rw [hg]; exact (qs (by repeat (first | (with_reducible first | exact HB.out | apply qh | apply qi | apply qj | refine qk ?_ GE141.out) | exact HB.out))) : w.heap.size ≤ gb142)); have n4_ := qm ((by rw [hg]; exact (qs (by repeat (first | (with_reducible first | exact HB.out | apply qh | apply qi | apply qj | refine qk ?_ GE141.out) | exact HB.out))) : w.heap.size ≤ gb142)); have n5_ := qm ((by rw [hg]; exact Nat.ne_of_lt (blk_lt (g := gb141) (o := .cells #[.int .i64 a0_0, .int .i64 a0_1, .int .i64 a0_2, .int .i64 a0_3, .bool a0_4, .slice A0_5 l0_5.length c0_5, .slice A0_6 l0_6.length c0_6, .slice A0_7 l0_7.length c0_7] 55 (0, 0)) BK141.out) : gb141 ≠ gb142)); have n6_ := qm ((by rw [hg]; exact Nat.ne_of_gt (blk_lt (g := gb141) (o := .cells #[.int .i64 a0_0, .int .i64 a0_1, .int .i64 a0_2, .int .i64 a0_3, .bool a0_4, .slice A0_5 l0_5.length c0_5, .slice A0_6 l0_6.length c0_6, .slice A0_7 l0_7.length c0_7] 55 (0, 0)) BK141.out) : gb142 ≠ gb141)); clear BK141; clear HB; have BK141 := n0_; have HB := n1_; have BK142 := n2_; have GW142 := n3_; have GE142 := n4_; have NB141_142 := n5_; have NB142_141 := n6_; clear hb hbox hg; have hnb58 := NB141_142.out; have hnc58 := NB142_141.out; obtain ⟨_, _, _, _, _, _, _, _, _, _, _, _, _, _, _, _⟩ := fc8 BK141.out; obtain ⟨_, _, _, _, _, _, _, _, _, _, _, _, _, _, _, _⟩ := fc8 BK142.out))
 go_ret
 exact ⟨by first | rfl | (simp <;> rfl) | (simp [*] <;> rfl), by repeat (first | (with_reducible first | exact HB.out | apply qh | apply qi | apply qj | refine qk ?_ GE141.out | refine qk ?_ GE142.out) | exact HB.out)⟩
end Go.Proofs.Ytdojcdhlcnlohaa.SFnExactFrameBytes
