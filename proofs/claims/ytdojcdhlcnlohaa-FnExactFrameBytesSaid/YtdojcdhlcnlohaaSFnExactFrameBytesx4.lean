/- The walk of functions that the law FnExactFrameBytes uses, written by program. -/
import Derived.Test.YtdojcdhlcnlohaaSFnExactFrameBytesx0
import Derived.Test.YtdojcdhlcnlohaaSteps2
namespace Go.Proofs.Ytdojcdhlcnlohaa.SFnExactFrameBytes
open Go.Proofs.Ytdojcdhlcnlohaa.Steps2 Go.RowKit Go.Proofs.YtdojcdhlcnlohaaW.PrintWords Go.Proofs.YtdojcdhlcnlohaaW.PrintLast Go.Proofs.YtdojcdhlcnlohaaW.PrintMore
open Go.Proofs.YtdojcdhlcnlohaaW.PrintWords renaming below_alloc → qh, pw_below_drewN → qi, below_drew1 → qj, below_set → qk, below_size → qs, below_step → qt
open Go.Proofs.YtdojcdhlcnlohaaW.PrintWords.Aside0 renaming mk → qm
attribute [local go_sem] max2_int min2_int max_two min_two max_three min_three max_four min_four 
set_option linter.unusedVariables false
set_option linter.unusedSimpArgs false
/-! ### spec_l05Var: function 74 -/
def spec_l05Var.f (a0 : Int) : Option (Bool) := if a0 ≥ 0 then (some (decide (a0 ≤ 4611686018427387903))) else (some false)
set_option maxHeartbeats 8000000 in
set_option maxRecDepth 100000 in
theorem spec_l05Var.calls (a0 : Int) (r : Bool) (w : World) (h : spec_l05Var.f a0 = some r) :
  Calls Try.prog 74 #[.int .i64 a0] w fun e w' => e = .returned (.bool r) ∧ Drawn0 w w' := by
 have H : (if a0 ≥ 0 then (some (decide (a0 ≤ 4611686018427387903))) else (some false)) = some r := h
 clear h
 by_cases c2 : a0 ≥ 0
 ·rw [if_pos c2] at H
  have c2b0 : decide (0 ≤ a0) = true := decide_eq_true c2
  clear c2
  obtain rfl := Option.some.inj H
  go_enter Try.func74, Try.ntmps74
  go_wp2
  go_ret
  exact ⟨by first | rfl | (simp; done) | (simp [*]; done), by repeat (first | exact Drawn0.refl _ | apply Drawn0.step)⟩
 rw [if_neg c2] at H
 have c2b0 : decide (0 ≤ a0) = false := decide_eq_false c2
 clear c2
 obtain rfl := Option.some.inj H
 go_enter Try.func74, Try.ntmps74
 go_wp2
 go_ret
 exact ⟨by first | rfl | (simp; done) | (simp [*]; done), by repeat (first | exact Drawn0.refl _ | apply Drawn0.step)⟩
/-! ### spec_l05RangesOK: function 75 -/
def spec_l05RangesOK.l0 : Nat → List (S105) → Int → Option (Bool)
 | 0, _, _ => none
 | k + 1, x0, x3 => if x3 < (x0.length : Int) then (if 0 ≤ x3 then (if ((rd_T105 x0 x3).f0) < 0 then (some false) else (if ((rd_T105 x0 x3).f1) > 4611686018427387903 then (some false) else (if ((rd_T105 x0 x3).f0) > ((rd_T105 x0 x3).f1) then (some false) else (if x3 > 0 then (if 0 ≤ (wrap64 (x3 - 1)) then (if (wrap64 (x3 - 1)) < (x0.length : Int) then (if ((rd_T105 x0 x3).f0) ≤ (wrap64 (((rd_T105 x0 (wrap64 (x3 - 1))).f1) + 1)) then (some false) else (spec_l05RangesOK.l0 k x0 (wrap64 (x3 + 1)))) else (none)) else (none)) else (spec_l05RangesOK.l0 k x0 (wrap64 (x3 + 1))))))) else (none)) else (some true)
def spec_l05RangesOK.f (k : Nat) (l0 : List (S105)) : Option (Bool) := if (l0.length : Int) > 64 then (some false) else (spec_l05RangesOK.l0 k l0 0)
theorem spec_l05RangesOK.mono_l : ∀ k, (∀ y0 y1, LeO (spec_l05RangesOK.l0 k y0 y1) (spec_l05RangesOK.l0 (k + 1) y0 y1))
 | 0 => fun _ _ r h => by simp [spec_l05RangesOK.l0] at h
 | k + 1 => by
  have ih0 := spec_l05RangesOK.mono_l k
  ·intro y0 y1
   unfold spec_l05RangesOK.l0
   repeat' first
   | (with_reducible apply ih0)
   | (with_reducible exact LeO.refl _)
   | (with_reducible exact LeO.none _)
   | (with_reducible refine LeO.ite ?_ ?_)
   | (with_reducible refine LeO.bind ?_ (fun _ => ?_))
theorem spec_l05RangesOK.mono : ∀ a0 k, LeO (spec_l05RangesOK.f k a0) (spec_l05RangesOK.f (k + 1) a0) := by
 intro a0 k
 have ih0 := spec_l05RangesOK.mono_l k
 unfold spec_l05RangesOK.f
 repeat' first
   | (with_reducible apply ih0)
   | (with_reducible exact LeO.refl _)
   | (with_reducible exact LeO.none _)
   | (with_reducible refine LeO.ite ?_ ?_)
   | (with_reducible refine LeO.bind ?_ (fun _ => ?_))
set_option maxHeartbeats 8000000 in
set_option maxRecDepth 100000 in
theorem spec_l05RangesOK.calls (k : Nat) (A0 : Option Addr) (c0 : Nat) (l0 : List (S105)) (r : Bool) (w : World) (hr0 : Kd.C k105 w A0 l0.length l0) (hc0 : l0.length ≤ c0) (h : spec_l05RangesOK.f k l0 = some r) :
  Calls Try.prog 75 #[.slice A0 l0.length c0] w fun e w' => e = .returned (.bool r) ∧ Below w.heap.size w w' := by
 have hu105 := Try.underlying105
 have HR0 := qm hr0
 have HC0 := qm hc0
 clear hr0 hc0
 have HB := qm (Below.refl w.heap.size w)
 have H : (if (l0.length : Int) > 64 then (some false) else (spec_l05RangesOK.l0 k l0 0)) = some r := h
 clear h
 by_cases c2 : (l0.length : Int) > 64
 ·rw [if_pos c2] at H
  have c2b0 : decide (64 < (l0.length : Int)) = true := decide_eq_true c2
  have c2b1 : decide (64 < l0.length) = true := decide_eq_true (by omega)
  clear c2
  obtain rfl := Option.some.inj H
  go_enter Try.func75, Try.ntmps75
  go_wp2
  repeat (go_quiet (fail); try go_wp2)
  go_ret
  exact ⟨by first | rfl | (simp <;> rfl) | (simp [*] <;> rfl), HB.out⟩
 rw [if_neg c2] at H
 have c2b0 : decide (64 < (l0.length : Int)) = false := decide_eq_false c2
 have c2b1 : decide (64 < l0.length) = false := decide_eq_false (by omega)
 clear c2
 have H' := qm H
 clear H
 go_enter Try.func75, Try.ntmps75
 go_wp2
 repeat (go_quiet (fail); try go_wp2)
 go_loopg [3] k (fun kq v3 w' => ∃ (x3_1 : Int), v3 = .int .i64 x3_1 ∧ Aside0 (spec_l05RangesOK.l0 kq l0 x3_1 = some r) ∧ Aside0 (kq ≤ k) ∧ Aside0 (Below w.heap.size w w'))
 case atStart => exact ⟨(0), (by first | rfl | (simp; done) | (simp [*]; done)), H', ⟨Nat.le_refl _⟩, ⟨HB.out⟩⟩
 case round =>
  clear H'
  try clear c2
  try clear c2b0
  try clear c2b1
  obtain ⟨x3_1, rfl, HA, HK1, HB⟩ := hrel
  cases gk with
  | zero => exact absurd HA.out (by simp [spec_l05RangesOK.l0])
  | succ k1 => ?_
  have H := HA.out
  clear HA
  simp only [spec_l05RangesOK.l0] at H
  by_cases c3 : x3_1 < (l0.length : Int)
  ·rw [if_pos c3] at H
   have c3b0 : decide (x3_1 < (l0.length : Int)) = true := decide_eq_true c3
   clear c3
   by_cases c4 : 0 ≤ x3_1
   ·rw [if_pos c4] at H
    have c4b0 : decide (0 ≤ x3_1) = true := decide_eq_true c4
    clear c4
    by_cases c5 : ((rd_T105 l0 x3_1).f0) < 0
    ·rw [if_pos c5] at H
     have c5b0 : decide (((rd_T105 l0 x3_1).f0) < 0) = true := decide_eq_true c5
     clear c5
     obtain rfl := Option.some.inj H
     have p148 : 0 ≤ (x3_1 : Int) := of_decide_eq_true (by assumption)
     have q148 : x3_1 < (l0.length : Int) := of_decide_eq_true (by assumption)
     obtain ⟨ad148, e148, hx148_0, hx148_1⟩ := at_T105 HR0.out x3_1 p148 q148
     cases e148
     replace hx148_0 := (HB.out.cell (World.block_lt_of_cell? w _ hx148_0)).trans hx148_0
     replace hx148_1 := (HB.out.cell (World.block_lt_of_cell? w _ hx148_1)).trans hx148_1
     replace p148 := eq_true p148
     replace q148 := eq_true q148
     go_wp2_with (first | ((with_reducible refine gate_dst (N := 4) rfl ?_); refine box_event ?hg (N := 4) ?hd (cs := #[.int .i64 0, .int .i64 0]) (t := 105) ?hr ?_; (case hd => rfl); (case hg => rfl); (case hr => first | (go_simp; done) | (go_simp; rfl)); intro gb149 hg w6 hbox hb; have n0_ := qm (qt (by repeat (first | (with_reducible first | exact HB.out | apply qh | apply qi | apply qj) | exact HB.out)) hb); have n1_ := qm (hbox); have n2_ := qm ((by rw [hg]; exact (qs (by repeat (first | (with_reducible first | exact HB.out | apply qh | apply qi | apply qj) | exact HB.out))) : w.heap.size ≤ gb149)); have n3_ := qm ((by rw [hg]; exact (qs (by repeat (first | (with_reducible first | exact HB.out | apply qh | apply qi | apply qj) | exact HB.out))) : w.heap.size ≤ gb149)); clear HB; have HB := n0_; have BK149 := n1_; have GW149 := n2_; have GE149 := n3_; clear n0_ n1_ n2_ n3_; clear hb hbox hg; obtain ⟨z2_0, z2_1, z2_2, z2_3⟩ := fc2 BK149.out))
     repeat (go_quiet (first | ((with_reducible refine gate_dst (N := 4) rfl ?_); refine box_event (by rfl) (N := 4) (by rfl) (cs := #[.int .i64 0, .int .i64 0]) (t := 105) (by first | (go_simp; done) | (go_simp; rfl)) ?_; intro gb149 hg w6 hbox hb; have n0_ := qm (qt HB.out hb); have n1_ := qm (hbox); have n2_ := qm ((by rw [hg]; exact (qs HB.out) : w.heap.size ≤ gb149)); have n3_ := qm ((by rw [hg]; exact (qs HB.out) : w.heap.size ≤ gb149)); clear HB; have HB := n0_; have BK149 := n1_; have GW149 := n2_; have GE149 := n3_; clear hb hbox hg; obtain ⟨_, _, _, _⟩ := fc2 BK149.out)); try go_wp2_with (first | ((with_reducible refine gate_dst (N := 4) rfl ?_); refine box_event (by rfl) (N := 4) (by rfl) (cs := #[.int .i64 0, .int .i64 0]) (t := 105) (by first | (go_simp; done) | (go_simp; rfl)) ?_; intro gb149 hg w6 hbox hb; have n0_ := qm (qt HB.out hb); have n1_ := qm (hbox); have n2_ := qm ((by rw [hg]; exact (qs HB.out) : w.heap.size ≤ gb149)); have n3_ := qm ((by rw [hg]; exact (qs HB.out) : w.heap.size ≤ gb149)); clear HB; have HB := n0_; have BK149 := n1_; have GW149 := n2_; have GE149 := n3_; clear hb hbox hg; obtain ⟨_, _, _, _⟩ := fc2 BK149.out)))
     go_ret
     exact ⟨by first | rfl | (simp [errW_none, errW_some] <;> rfl) | (simp [*, errW_none, errW_some] <;> rfl), by repeat (first | (with_reducible first | exact HB.out | apply qh | apply qi | apply qj | refine qk ?_ GE149.out) | exact HB.out)⟩
    rw [if_neg c5] at H
    have c5b0 : decide (((rd_T105 l0 x3_1).f0) < 0) = false := decide_eq_false c5
    clear c5
    by_cases c8 : ((rd_T105 l0 x3_1).f1) > 4611686018427387903
    ·rw [if_pos c8] at H
     have c8b0 : decide (4611686018427387903 < ((rd_T105 l0 x3_1).f1)) = true := decide_eq_true c8
     clear c8
     obtain rfl := Option.some.inj H
     have p148 : 0 ≤ (x3_1 : Int) := of_decide_eq_true (by assumption)
     have q148 : x3_1 < (l0.length : Int) := of_decide_eq_true (by assumption)
     obtain ⟨ad148, e148, hx148_0, hx148_1⟩ := at_T105 HR0.out x3_1 p148 q148
     cases e148
     replace hx148_0 := (HB.out.cell (World.block_lt_of_cell? w _ hx148_0)).trans hx148_0
     replace hx148_1 := (HB.out.cell (World.block_lt_of_cell? w _ hx148_1)).trans hx148_1
     replace p148 := eq_true p148
     replace q148 := eq_true q148
     go_wp2_with (first | ((with_reducible refine gate_dst (N := 4) rfl ?_); refine box_event ?hg (N := 4) ?hd (cs := #[.int .i64 0, .int .i64 0]) (t := 105) ?hr ?_; (case hd => rfl); (case hg => rfl); (case hr => first | (go_simp; done) | (go_simp; rfl)); intro gb149 hg w9 hbox hb; have n0_ := qm (qt (by repeat (first | (with_reducible first | exact HB.out | apply qh | apply qi | apply qj) | exact HB.out)) hb); have n1_ := qm (hbox); have n2_ := qm ((by rw [hg]; exact (qs (by repeat (first | (with_reducible first | exact HB.out | apply qh | apply qi | apply qj) | exact HB.out))) : w.heap.size ≤ gb149)); have n3_ := qm ((by rw [hg]; exact (qs (by repeat (first | (with_reducible first | exact HB.out | apply qh | apply qi | apply qj) | exact HB.out))) : w.heap.size ≤ gb149)); clear HB; have HB := n0_; have BK149 := n1_; have GW149 := n2_; have GE149 := n3_; clear n0_ n1_ n2_ n3_; clear hb hbox hg; obtain ⟨z2_0, z2_1, z2_2, z2_3⟩ := fc2 BK149.out))
     repeat (go_quiet (first | ((with_reducible refine gate_dst (N := 4) rfl ?_); refine box_event (by rfl) (N := 4) (by rfl) (cs := #[.int .i64 0, .int .i64 0]) (t := 105) (by first | (go_simp; done) | (go_simp; rfl)) ?_; intro gb149 hg w9 hbox hb; have n0_ := qm (qt HB.out hb); have n1_ := qm (hbox); have n2_ := qm ((by rw [hg]; exact (qs HB.out) : w.heap.size ≤ gb149)); have n3_ := qm ((by rw [hg]; exact (qs HB.out) : w.heap.size ≤ gb149)); clear HB; have HB := n0_; have BK149 := n1_; have GW149 := n2_; have GE149 := n3_; clear hb hbox hg; obtain ⟨_, _, _, _⟩ := fc2 BK149.out)); try go_wp2_with (first | ((with_reducible refine gate_dst (N := 4) rfl ?_); refine box_event (by rfl) (N := 4) (by rfl) (cs := #[.int .i64 0, .int .i64 0]) (t := 105) (by first | (go_simp; done) | (go_simp; rfl)) ?_; intro gb149 hg w9 hbox hb; have n0_ := qm (qt HB.out hb); have n1_ := qm (hbox); have n2_ := qm ((by rw [hg]; exact (qs HB.out) : w.heap.size ≤ gb149)); have n3_ := qm ((by rw [hg]; exact (qs HB.out) : w.heap.size ≤ gb149)); clear HB; have HB := n0_; have BK149 := n1_; have GW149 := n2_; have GE149 := n3_; clear hb hbox hg; obtain ⟨_, _, _, _⟩ := fc2 BK149.out)))
     go_ret
     exact ⟨by first | rfl | (simp [errW_none, errW_some] <;> rfl) | (simp [*, errW_none, errW_some] <;> rfl), by repeat (first | (with_reducible first | exact HB.out | apply qh | apply qi | apply qj | refine qk ?_ GE149.out) | exact HB.out)⟩
    rw [if_neg c8] at H
    have c8b0 : decide (4611686018427387903 < ((rd_T105 l0 x3_1).f1)) = false := decide_eq_false c8
    clear c8
    by_cases c11 : ((rd_T105 l0 x3_1).f0) > ((rd_T105 l0 x3_1).f1)
    ·rw [if_pos c11] at H
     have c11b0 : decide (((rd_T105 l0 x3_1).f1) < ((rd_T105 l0 x3_1).f0)) = true := decide_eq_true c11
     clear c11
     obtain rfl := Option.some.inj H
     have p148 : 0 ≤ (x3_1 : Int) := of_decide_eq_true (by assumption)
     have q148 : x3_1 < (l0.length : Int) := of_decide_eq_true (by assumption)
     obtain ⟨ad148, e148, hx148_0, hx148_1⟩ := at_T105 HR0.out x3_1 p148 q148
     cases e148
     replace hx148_0 := (HB.out.cell (World.block_lt_of_cell? w _ hx148_0)).trans hx148_0
     replace hx148_1 := (HB.out.cell (World.block_lt_of_cell? w _ hx148_1)).trans hx148_1
     replace p148 := eq_true p148
     replace q148 := eq_true q148
     go_wp2_with (first | ((with_reducible refine gate_dst (N := 4) rfl ?_); refine box_event ?hg (N := 4) ?hd (cs := #[.int .i64 0, .int .i64 0]) (t := 105) ?hr ?_; (case hd => rfl); (case hg => rfl); (case hr => first | (go_simp; done) | (go_simp; rfl)); intro gb149 hg w12 hbox hb; have n0_ := qm (qt (by repeat (first | (with_reducible first | exact HB.out | apply qh | apply qi | apply qj) | exact HB.out)) hb); have n1_ := qm (hbox); have n2_ := qm ((by rw [hg]; exact (qs (by repeat (first | (with_reducible first | exact HB.out | apply qh | apply qi | apply qj) | exact HB.out))) : w.heap.size ≤ gb149)); have n3_ := qm ((by rw [hg]; exact (qs (by repeat (first | (with_reducible first | exact HB.out | apply qh | apply qi | apply qj) | exact HB.out))) : w.heap.size ≤ gb149)); clear HB; have HB := n0_; have BK149 := n1_; have GW149 := n2_; have GE149 := n3_; clear n0_ n1_ n2_ n3_; clear hb hbox hg; obtain ⟨z2_0, z2_1, z2_2, z2_3⟩ := fc2 BK149.out))
     repeat (go_quiet (first | ((with_reducible refine gate_dst (N := 4) rfl ?_); refine box_event (by rfl) (N := 4) (by rfl) (cs := #[.int .i64 0, .int .i64 0]) (t := 105) (by first | (go_simp; done) | (go_simp; rfl)) ?_; intro gb149 hg w12 hbox hb; have n0_ := qm (qt HB.out hb); have n1_ := qm (hbox); have n2_ := qm ((by rw [hg]; exact (qs HB.out) : w.heap.size ≤ gb149)); have n3_ := qm ((by rw [hg]; exact (qs HB.out) : w.heap.size ≤ gb149)); clear HB; have HB := n0_; have BK149 := n1_; have GW149 := n2_; have GE149 := n3_; clear hb hbox hg; obtain ⟨_, _, _, _⟩ := fc2 BK149.out)); try go_wp2_with (first | ((with_reducible refine gate_dst (N := 4) rfl ?_); refine box_event (by rfl) (N := 4) (by rfl) (cs := #[.int .i64 0, .int .i64 0]) (t := 105) (by first | (go_simp; done) | (go_simp; rfl)) ?_; intro gb149 hg w12 hbox hb; have n0_ := qm (qt HB.out hb); have n1_ := qm (hbox); have n2_ := qm ((by rw [hg]; exact (qs HB.out) : w.heap.size ≤ gb149)); have n3_ := qm ((by rw [hg]; exact (qs HB.out) : w.heap.size ≤ gb149)); clear HB; have HB := n0_; have BK149 := n1_; have GW149 := n2_; have GE149 := n3_; clear hb hbox hg; obtain ⟨_, _, _, _⟩ := fc2 BK149.out)))
     go_ret
     exact ⟨by first | rfl | (simp [errW_none, errW_some] <;> rfl) | (simp [*, errW_none, errW_some] <;> rfl), by repeat (first | (with_reducible first | exact HB.out | apply qh | apply qi | apply qj | refine qk ?_ GE149.out) | exact HB.out)⟩
    rw [if_neg c11] at H
    have c11b0 : decide (((rd_T105 l0 x3_1).f1) < ((rd_T105 l0 x3_1).f0)) = false := decide_eq_false c11
    clear c11
    by_cases c14 : x3_1 > 0
    ·rw [if_pos c14] at H
     have c14b0 : decide (0 < x3_1) = true := decide_eq_true c14
     clear c14
     obtain ⟨ji15, hji15⟩ : ∃ j_ : Int, (wrap64 (x3_1 - 1)) = j_ := ⟨_, rfl⟩
     replace H : (if 0 ≤ (ji15) then (if (ji15) < (l0.length : Int) then (if ((rd_T105 l0 x3_1).f0) ≤ (wrap64 (((rd_T105 l0 (ji15)).f1) + 1)) then (some false) else (spec_l05RangesOK.l0 k1 l0 (wrap64 (x3_1 + 1)))) else (none)) else (none)) = some r := by first | (rw [hji15] at H; exact H) | (simp only [hji15] at H ⊢; exact H)
     have hji15w : (IntKind.i64.wrap (x3_1 - 1)) = ji15 := (i64_w _).trans hji15
     by_cases c16 : 0 ≤ (ji15)
     ·rw [if_pos c16] at H
      have c16b0 : decide (0 ≤ (ji15)) = true := decide_eq_true c16
      clear c16
      by_cases c17 : (ji15) < (l0.length : Int)
      ·rw [if_pos c17] at H
       have c17b0 : decide ((ji15) < (l0.length : Int)) = true := decide_eq_true c17
       clear c17
       by_cases c18 : ((rd_T105 l0 x3_1).f0) ≤ (wrap64 (((rd_T105 l0 (ji15)).f1) + 1))
       ·rw [if_pos c18] at H
        have c18b0 : decide (((rd_T105 l0 x3_1).f0) ≤ (wrap64 (((rd_T105 l0 (ji15)).f1) + 1))) = true := decide_eq_true c18
        clear c18
        obtain rfl := Option.some.inj H
        have p148 : 0 ≤ (x3_1 : Int) := of_decide_eq_true (by assumption)
        have q148 : x3_1 < (l0.length : Int) := of_decide_eq_true (by assumption)
        obtain ⟨ad148, e148, hx148_0, hx148_1⟩ := at_T105 HR0.out x3_1 p148 q148
        cases e148
        replace hx148_0 := (HB.out.cell (World.block_lt_of_cell? w _ hx148_0)).trans hx148_0
        replace hx148_1 := (HB.out.cell (World.block_lt_of_cell? w _ hx148_1)).trans hx148_1
        replace p148 := eq_true p148
        replace q148 := eq_true q148
        go_wp2_with (first | ((with_reducible refine gate_dst (N := 4) rfl ?_); refine box_event ?hg (N := 4) ?hd (cs := #[.int .i64 0, .int .i64 0]) (t := 105) ?hr ?_; (case hd => rfl); (case hg => rfl); (case hr => first | (go_simp; done) | (go_simp; rfl)); intro gb149 hg w19 hbox hb; have n0_ := qm (qt (by repeat (first | (with_reducible first | exact HB.out | apply qh | apply qi | apply qj) | exact HB.out)) hb); have n1_ := qm (hbox); have n2_ := qm ((by rw [hg]; exact (qs (by repeat (first | (with_reducible first | exact HB.out | apply qh | apply qi | apply qj) | exact HB.out))) : w.heap.size ≤ gb149)); have n3_ := qm ((by rw [hg]; exact (qs (by repeat (first | (with_reducible first | exact HB.out | apply qh | apply qi | apply qj) | exact HB.out))) : w.heap.size ≤ gb149)); clear HB; have HB := n0_; have BK149 := n1_; have GW149 := n2_; have GE149 := n3_; clear n0_ n1_ n2_ n3_; clear hb hbox hg; obtain ⟨z2_0, z2_1, z2_2, z2_3⟩ := fc2 BK149.out; have p150 : 0 ≤ ((ji15) : Int) := of_decide_eq_true (by first | (with_reducible assumption) | assumption); have q150 : (ji15) < (l0.length : Int) := of_decide_eq_true (by first | (with_reducible assumption) | assumption); obtain ⟨ad150, e150, hx150_0, hx150_1⟩ := at_T105 HR0.out (ji15) p150 q150; obtain rfl : ad148 = ad150 := (by injection e150); have hn150_0 : ad148.block ≠ gb149 := Nat.ne_of_lt (Nat.lt_of_lt_of_le (by have := World.block_lt_of_cell? _ _ hx150_0; first | rwa [add_block] at this | exact this) GW149.out); have hn150_1 : ad148.block ≠ gb149 := Nat.ne_of_lt (Nat.lt_of_lt_of_le (by have := World.block_lt_of_cell? _ _ hx150_0; first | rwa [add_block] at this | exact this) GW149.out); replace hx150_0 := (HB.out.cell (World.block_lt_of_cell? w _ hx150_0)).trans hx150_0; replace hx150_1 := (HB.out.cell (World.block_lt_of_cell? w _ hx150_1)).trans hx150_1; replace hx150_0 := (cell_far (p := ⟨gb149, 0, none⟩) (by first | (rw [add_block]; exact hn150_0) | (show (Addr.add _ _).block ≠ _; rw [add_block]; exact hn150_0) | exact hn150_0) (.int .i64 ((rd_T105 l0 x3_1).f0))).trans hx150_0; replace hx150_1 := (cell_far (p := ⟨gb149, 0, none⟩) (by first | (rw [add_block]; exact hn150_0) | (show (Addr.add _ _).block ≠ _; rw [add_block]; exact hn150_0) | exact hn150_0) (.int .i64 ((rd_T105 l0 x3_1).f0))).trans hx150_1; replace hx150_0 := (cell_far (p := ⟨gb149, 1, none⟩) (by first | (rw [add_block]; exact hn150_1) | (show (Addr.add _ _).block ≠ _; rw [add_block]; exact hn150_1) | exact hn150_1) (.int .i64 ((rd_T105 l0 x3_1).f1))).trans hx150_0; replace hx150_1 := (cell_far (p := ⟨gb149, 1, none⟩) (by first | (rw [add_block]; exact hn150_1) | (show (Addr.add _ _).block ≠ _; rw [add_block]; exact hn150_1) | exact hn150_1) (.int .i64 ((rd_T105 l0 x3_1).f1))).trans hx150_1; (try have hy150_0 := fun (n_ : Nat) => (show ((((w19.drewN n_).setCell ⟨gb149, 0, none⟩ (.int .i64 ((rd_T105 l0 x3_1).f0))).setCell ⟨gb149, 1, none⟩ (.int .i64 ((rd_T105 l0 x3_1).f1)))).cell? _ = some _ from hx150_0)); (try have hy150_1 := fun (n_ : Nat) => (show ((((w19.drewN n_).setCell ⟨gb149, 0, none⟩ (.int .i64 ((rd_T105 l0 x3_1).f0))).setCell ⟨gb149, 1, none⟩ (.int .i64 ((rd_T105 l0 x3_1).f1)))).cell? _ = some _ from hx150_1)); clear hn150_0; clear hn150_1; replace p150 := eq_true p150; replace q150 := eq_true q150))
        repeat (go_quiet (first | ((with_reducible refine gate_dst (N := 4) rfl ?_); refine box_event (by rfl) (N := 4) (by rfl) (cs := #[.int .i64 0, .int .i64 0]) (t := 105) (by first | (go_simp; done) | (go_simp; rfl)) ?_; intro gb149 hg w19 hbox hb; have n0_ := qm (qt HB.out hb); have n1_ := qm (hbox); have n2_ := qm ((by rw [hg]; exact (qs HB.out) : w.heap.size ≤ gb149)); have n3_ := qm ((by rw [hg]; exact (qs HB.out) : w.heap.size ≤ gb149)); clear HB; have HB := n0_; have BK149 := n1_; have GW149 := n2_; have GE149 := n3_; clear hb hbox hg; obtain ⟨_, _, _, _⟩ := fc2 BK149.out; have p150 : 0 ≤ ((ji15) : Int) := of_decide_eq_true (by assumption); have q150 : (ji15) < (l0.length : Int) := of_decide_eq_true (by assumption); obtain ⟨ad150, e150, hx150_0, hx150_1⟩ := at_T105 HR0.out (ji15) p150 q150; obtain rfl : ad148 = ad150 := (by injection e150); have hn150_0 : ad148.block ≠ gb149 := Nat.ne_of_lt (Nat.lt_of_lt_of_le (by have := World.block_lt_of_cell? _ _ hx150_0; first | rwa [add_block] at this | exact this) GW149.out); have hn150_1 : ad148.block ≠ gb149 := Nat.ne_of_lt (Nat.lt_of_lt_of_le (by have := World.block_lt_of_cell? _ _ hx150_0; first | rwa [add_block] at this | exact this) GW149.out); replace hx150_0 := (HB.out.cell (World.block_lt_of_cell? w _ hx150_0)).trans hx150_0; replace hx150_1 := (HB.out.cell (World.block_lt_of_cell? w _ hx150_1)).trans hx150_1; replace hx150_0 := (cell_far (p := ⟨gb149, 0, none⟩) (by first | (rw [add_block]; exact hn150_0) | (show (Addr.add _ _).block ≠ _; rw [add_block]; exact hn150_0) | exact hn150_0) (.int .i64 ((rd_T105 l0 x3_1).f0))).trans hx150_0; replace hx150_1 := (cell_far (p := ⟨gb149, 0, none⟩) (by first | (rw [add_block]; exact hn150_0) | (show (Addr.add _ _).block ≠ _; rw [add_block]; exact hn150_0) | exact hn150_0) (.int .i64 ((rd_T105 l0 x3_1).f0))).trans hx150_1; replace hx150_0 := (cell_far (p := ⟨gb149, 1, none⟩) (by first | (rw [add_block]; exact hn150_1) | (show (Addr.add _ _).block ≠ _; rw [add_block]; exact hn150_1) | exact hn150_1) (.int .i64 ((rd_T105 l0 x3_1).f1))).trans hx150_0; replace hx150_1 := (cell_far (p := ⟨gb149, 1, none⟩) (by first | (rw [add_block]; exact hn150_1) | (show (Addr.add _ _).block ≠ _; rw [add_block]; exact hn150_1) | exact hn150_1) (.int .i64 ((rd_T105 l0 x3_1).f1))).trans hx150_1; (try have hy150_0 := fun (n_ : Nat) => (show ((((w19.drewN n_).setCell ⟨gb149, 0, none⟩ (.int .i64 ((rd_T105 l0 x3_1).f0))).setCell ⟨gb149, 1, none⟩ (.int .i64 ((rd_T105 l0 x3_1).f1)))).cell? _ = some _ from hx150_0)); (try have hy150_1 := fun (n_ : Nat) => (show ((((w19.drewN n_).setCell ⟨gb149, 0, none⟩ (.int .i64 ((rd_T105 l0 x3_1).f0))).setCell ⟨gb149, 1, none⟩ (.int .i64 ((rd_T105 l0 x3_1).f1)))).cell? _ = some _ from hx150_1)); clear hn150_0; clear hn150_1; replace p150 := eq_true p150; replace q150 := eq_true q150)); try go_wp2_with (first | ((with_reducible refine gate_dst (N := 4) rfl ?_); refine box_event (by rfl) (N := 4) (by rfl) (cs := #[.int .i64 0, .int .i64 0]) (t := 105) (by first | (go_simp; done) | (go_simp; rfl)) ?_; intro gb149 hg w19 hbox hb; have n0_ := qm (qt HB.out hb); have n1_ := qm (hbox); have n2_ := qm ((by rw [hg]; exact (qs HB.out) : w.heap.size ≤ gb149)); have n3_ := qm ((by rw [hg]; exact (qs HB.out) : w.heap.size ≤ gb149)); clear HB; have HB := n0_; have BK149 := n1_; have GW149 := n2_; have GE149 := n3_; clear hb hbox hg; obtain ⟨_, _, _, _⟩ := fc2 BK149.out; have p150 : 0 ≤ ((ji15) : Int) := of_decide_eq_true (by assumption); have q150 : (ji15) < (l0.length : Int) := of_decide_eq_true (by assumption); obtain ⟨ad150, e150, hx150_0, hx150_1⟩ := at_T105 HR0.out (ji15) p150 q150; obtain rfl : ad148 = ad150 := (by injection e150); have hn150_0 : ad148.block ≠ gb149 := Nat.ne_of_lt (Nat.lt_of_lt_of_le (by have := World.block_lt_of_cell? _ _ hx150_0; first | rwa [add_block] at this | exact this) GW149.out); have hn150_1 : ad148.block ≠ gb149 := Nat.ne_of_lt (Nat.lt_of_lt_of_le (by have := World.block_lt_of_cell? _ _ hx150_0; first | rwa [add_block] at this | exact this) GW149.out); replace hx150_0 := (HB.out.cell (World.block_lt_of_cell? w _ hx150_0)).trans hx150_0; replace hx150_1 := (HB.out.cell (World.block_lt_of_cell? w _ hx150_1)).trans hx150_1; replace hx150_0 := (cell_far (p := ⟨gb149, 0, none⟩) (by first | (rw [add_block]; exact hn150_0) | (show (Addr.add _ _).block ≠ _; rw [add_block]; exact hn150_0) | exact hn150_0) (.int .i64 ((rd_T105 l0 x3_1).f0))).trans hx150_0; replace hx150_1 := (cell_far (p := ⟨gb149, 0, none⟩) (by first | (rw [add_block]; exact hn150_0) | (show (Addr.add _ _).block ≠ _; rw [add_block]; exact hn150_0) | exact hn150_0) (.int .i64 ((rd_T105 l0 x3_1).f0))).trans hx150_1; replace hx150_0 := (cell_far (p := ⟨gb149, 1, none⟩) (by first | (rw [add_block]; exact hn150_1) | (show (Addr.add _ _).block ≠ _; rw [add_block]; exact hn150_1) | exact hn150_1) (.int .i64 ((rd_T105 l0 x3_1).f1))).trans hx150_0; replace hx150_1 := (cell_far (p := ⟨gb149, 1, none⟩) (by first | (rw [add_block]; exact hn150_1) | (show (Addr.add _ _).block ≠ _; rw [add_block]; exact hn150_1) | exact hn150_1) (.int .i64 ((rd_T105 l0 x3_1).f1))).trans hx150_1; (try have hy150_0 := fun (n_ : Nat) => (show ((((w19.drewN n_).setCell ⟨gb149, 0, none⟩ (.int .i64 ((rd_T105 l0 x3_1).f0))).setCell ⟨gb149, 1, none⟩ (.int .i64 ((rd_T105 l0 x3_1).f1)))).cell? _ = some _ from hx150_0)); (try have hy150_1 := fun (n_ : Nat) => (show ((((w19.drewN n_).setCell ⟨gb149, 0, none⟩ (.int .i64 ((rd_T105 l0 x3_1).f0))).setCell ⟨gb149, 1, none⟩ (.int .i64 ((rd_T105 l0 x3_1).f1)))).cell? _ = some _ from hx150_1)); clear hn150_0; clear hn150_1; replace p150 := eq_true p150; replace q150 := eq_true q150)))
        go_ret
        exact ⟨by first | rfl | (simp [errW_none, errW_some] <;> rfl) | (simp only [← hji15]; first | rfl | (simp [errW_none, errW_some] <;> rfl)) | (simp [*, errW_none, errW_some] <;> rfl), by repeat (first | (with_reducible first | exact HB.out | apply qh | apply qi | apply qj | refine qk ?_ GE149.out) | exact HB.out)⟩
       rw [if_neg c18] at H
       have c18b0 : decide (((rd_T105 l0 x3_1).f0) ≤ (wrap64 (((rd_T105 l0 (ji15)).f1) + 1))) = false := decide_eq_false c18
       clear c18
       have H' := qm H
       clear H
       have p148 : 0 ≤ (x3_1 : Int) := of_decide_eq_true (by assumption)
       have q148 : x3_1 < (l0.length : Int) := of_decide_eq_true (by assumption)
       obtain ⟨ad148, e148, hx148_0, hx148_1⟩ := at_T105 HR0.out x3_1 p148 q148
       cases e148
       replace hx148_0 := (HB.out.cell (World.block_lt_of_cell? w _ hx148_0)).trans hx148_0
       replace hx148_1 := (HB.out.cell (World.block_lt_of_cell? w _ hx148_1)).trans hx148_1
       replace p148 := eq_true p148
       replace q148 := eq_true q148
       go_wp2_with (first | ((with_reducible refine gate_dst (N := 4) rfl ?_); refine box_event ?hg (N := 4) ?hd (cs := #[.int .i64 0, .int .i64 0]) (t := 105) ?hr ?_; (case hd => rfl); (case hg => rfl); (case hr => first | (go_simp; done) | (go_simp; rfl)); intro gb149 hg w21 hbox hb; have n0_ := qm (qt (by repeat (first | (with_reducible first | exact HB.out | apply qh | apply qi | apply qj) | exact HB.out)) hb); have n1_ := qm (hbox); have n2_ := qm ((by rw [hg]; exact (qs (by repeat (first | (with_reducible first | exact HB.out | apply qh | apply qi | apply qj) | exact HB.out))) : w.heap.size ≤ gb149)); have n3_ := qm ((by rw [hg]; exact (qs (by repeat (first | (with_reducible first | exact HB.out | apply qh | apply qi | apply qj) | exact HB.out))) : w.heap.size ≤ gb149)); clear HB; have HB := n0_; have BK149 := n1_; have GW149 := n2_; have GE149 := n3_; clear n0_ n1_ n2_ n3_; clear hb hbox hg; obtain ⟨z2_0, z2_1, z2_2, z2_3⟩ := fc2 BK149.out; have p150 : 0 ≤ ((ji15) : Int) := of_decide_eq_true (by first | (with_reducible assumption) | assumption); have q150 : (ji15) < (l0.length : Int) := of_decide_eq_true (by first | (with_reducible assumption) | assumption); obtain ⟨ad150, e150, hx150_0, hx150_1⟩ := at_T105 HR0.out (ji15) p150 q150; obtain rfl : ad148 = ad150 := (by injection e150); have hn150_0 : ad148.block ≠ gb149 := Nat.ne_of_lt (Nat.lt_of_lt_of_le (by have := World.block_lt_of_cell? _ _ hx150_0; first | rwa [add_block] at this | exact this) GW149.out); have hn150_1 : ad148.block ≠ gb149 := Nat.ne_of_lt (Nat.lt_of_lt_of_le (by have := World.block_lt_of_cell? _ _ hx150_0; first | rwa [add_block] at this | exact this) GW149.out); replace hx150_0 := (HB.out.cell (World.block_lt_of_cell? w _ hx150_0)).trans hx150_0; replace hx150_1 := (HB.out.cell (World.block_lt_of_cell? w _ hx150_1)).trans hx150_1; replace hx150_0 := (cell_far (p := ⟨gb149, 0, none⟩) (by first | (rw [add_block]; exact hn150_0) | (show (Addr.add _ _).block ≠ _; rw [add_block]; exact hn150_0) | exact hn150_0) (.int .i64 ((rd_T105 l0 x3_1).f0))).trans hx150_0; replace hx150_1 := (cell_far (p := ⟨gb149, 0, none⟩) (by first | (rw [add_block]; exact hn150_0) | (show (Addr.add _ _).block ≠ _; rw [add_block]; exact hn150_0) | exact hn150_0) (.int .i64 ((rd_T105 l0 x3_1).f0))).trans hx150_1; replace hx150_0 := (cell_far (p := ⟨gb149, 1, none⟩) (by first | (rw [add_block]; exact hn150_1) | (show (Addr.add _ _).block ≠ _; rw [add_block]; exact hn150_1) | exact hn150_1) (.int .i64 ((rd_T105 l0 x3_1).f1))).trans hx150_0; replace hx150_1 := (cell_far (p := ⟨gb149, 1, none⟩) (by first | (rw [add_block]; exact hn150_1) | (show (Addr.add _ _).block ≠ _; rw [add_block]; exact hn150_1) | exact hn150_1) (.int .i64 ((rd_T105 l0 x3_1).f1))).trans hx150_1; (try have hy150_0 := fun (n_ : Nat) => (show ((((w21.drewN n_).setCell ⟨gb149, 0, none⟩ (.int .i64 ((rd_T105 l0 x3_1).f0))).setCell ⟨gb149, 1, none⟩ (.int .i64 ((rd_T105 l0 x3_1).f1)))).cell? _ = some _ from hx150_0)); (try have hy150_1 := fun (n_ : Nat) => (show ((((w21.drewN n_).setCell ⟨gb149, 0, none⟩ (.int .i64 ((rd_T105 l0 x3_1).f0))).setCell ⟨gb149, 1, none⟩ (.int .i64 ((rd_T105 l0 x3_1).f1)))).cell? _ = some _ from hx150_1)); clear hn150_0; clear hn150_1; replace p150 := eq_true p150; replace q150 := eq_true q150))
       repeat (go_quiet (first | ((with_reducible refine gate_dst (N := 4) rfl ?_); refine box_event (by rfl) (N := 4) (by rfl) (cs := #[.int .i64 0, .int .i64 0]) (t := 105) (by first | (go_simp; done) | (go_simp; rfl)) ?_; intro gb149 hg w21 hbox hb; have n0_ := qm (qt HB.out hb); have n1_ := qm (hbox); have n2_ := qm ((by rw [hg]; exact (qs HB.out) : w.heap.size ≤ gb149)); have n3_ := qm ((by rw [hg]; exact (qs HB.out) : w.heap.size ≤ gb149)); clear HB; have HB := n0_; have BK149 := n1_; have GW149 := n2_; have GE149 := n3_; clear hb hbox hg; obtain ⟨_, _, _, _⟩ := fc2 BK149.out; have p150 : 0 ≤ ((ji15) : Int) := of_decide_eq_true (by assumption); have q150 : (ji15) < (l0.length : Int) := of_decide_eq_true (by assumption); obtain ⟨ad150, e150, hx150_0, hx150_1⟩ := at_T105 HR0.out (ji15) p150 q150; obtain rfl : ad148 = ad150 := (by injection e150); have hn150_0 : ad148.block ≠ gb149 := Nat.ne_of_lt (Nat.lt_of_lt_of_le (by have := World.block_lt_of_cell? _ _ hx150_0; first | rwa [add_block] at this | exact this) GW149.out); have hn150_1 : ad148.block ≠ gb149 := Nat.ne_of_lt (Nat.lt_of_lt_of_le (by have := World.block_lt_of_cell? _ _ hx150_0; first | rwa [add_block] at this | exact this) GW149.out); replace hx150_0 := (HB.out.cell (World.block_lt_of_cell? w _ hx150_0)).trans hx150_0; replace hx150_1 := (HB.out.cell (World.block_lt_of_cell? w _ hx150_1)).trans hx150_1; replace hx150_0 := (cell_far (p := ⟨gb149, 0, none⟩) (by first | (rw [add_block]; exact hn150_0) | (show (Addr.add _ _).block ≠ _; rw [add_block]; exact hn150_0) | exact hn150_0) (.int .i64 ((rd_T105 l0 x3_1).f0))).trans hx150_0; replace hx150_1 := (cell_far (p := ⟨gb149, 0, none⟩) (by first | (rw [add_block]; exact hn150_0) | (show (Addr.add _ _).block ≠ _; rw [add_block]; exact hn150_0) | exact hn150_0) (.int .i64 ((rd_T105 l0 x3_1).f0))).trans hx150_1; replace hx150_0 := (cell_far (p := ⟨gb149, 1, none⟩) (by first | (rw [add_block]; exact hn150_1) | (show (Addr.add _ _).block ≠ _; rw [add_block]; exact hn150_1) | exact hn150_1) (.int .i64 ((rd_T105 l0 x3_1).f1))).trans hx150_0; replace hx150_1 := (cell_far (p := ⟨gb149, 1, none⟩) (by first | (rw [add_block]; exact hn150_1) | (show (Addr.add _ _).block ≠ _; rw [add_block]; exact hn150_1) | exact hn150_1) (.int .i64 ((rd_T105 l0 x3_1).f1))).trans hx150_1; (try have hy150_0 := fun (n_ : Nat) => (show ((((w21.drewN n_).setCell ⟨gb149, 0, none⟩ (.int .i64 ((rd_T105 l0 x3_1).f0))).setCell ⟨gb149, 1, none⟩ (.int .i64 ((rd_T105 l0 x3_1).f1)))).cell? _ = some _ from hx150_0)); (try have hy150_1 := fun (n_ : Nat) => (show ((((w21.drewN n_).setCell ⟨gb149, 0, none⟩ (.int .i64 ((rd_T105 l0 x3_1).f0))).setCell ⟨gb149, 1, none⟩ (.int .i64 ((rd_T105 l0 x3_1).f1)))).cell? _ = some _ from hx150_1)); clear hn150_0; clear hn150_1; replace p150 := eq_true p150; replace q150 := eq_true q150)); try go_wp2_with (first | ((with_reducible refine gate_dst (N := 4) rfl ?_); refine box_event (by rfl) (N := 4) (by rfl) (cs := #[.int .i64 0, .int .i64 0]) (t := 105) (by first | (go_simp; done) | (go_simp; rfl)) ?_; intro gb149 hg w21 hbox hb; have n0_ := qm (qt HB.out hb); have n1_ := qm (hbox); have n2_ := qm ((by rw [hg]; exact (qs HB.out) : w.heap.size ≤ gb149)); have n3_ := qm ((by rw [hg]; exact (qs HB.out) : w.heap.size ≤ gb149)); clear HB; have HB := n0_; have BK149 := n1_; have GW149 := n2_; have GE149 := n3_; clear hb hbox hg; obtain ⟨_, _, _, _⟩ := fc2 BK149.out; have p150 : 0 ≤ ((ji15) : Int) := of_decide_eq_true (by assumption); have q150 : (ji15) < (l0.length : Int) := of_decide_eq_true (by assumption); obtain ⟨ad150, e150, hx150_0, hx150_1⟩ := at_T105 HR0.out (ji15) p150 q150; obtain rfl : ad148 = ad150 := (by injection e150); have hn150_0 : ad148.block ≠ gb149 := Nat.ne_of_lt (Nat.lt_of_lt_of_le (by have := World.block_lt_of_cell? _ _ hx150_0; first | rwa [add_block] at this | exact this) GW149.out); have hn150_1 : ad148.block ≠ gb149 := Nat.ne_of_lt (Nat.lt_of_lt_of_le (by have := World.block_lt_of_cell? _ _ hx150_0; first | rwa [add_block] at this | exact this) GW149.out); replace hx150_0 := (HB.out.cell (World.block_lt_of_cell? w _ hx150_0)).trans hx150_0; replace hx150_1 := (HB.out.cell (World.block_lt_of_cell? w _ hx150_1)).trans hx150_1; replace hx150_0 := (cell_far (p := ⟨gb149, 0, none⟩) (by first | (rw [add_block]; exact hn150_0) | (show (Addr.add _ _).block ≠ _; rw [add_block]; exact hn150_0) | exact hn150_0) (.int .i64 ((rd_T105 l0 x3_1).f0))).trans hx150_0; replace hx150_1 := (cell_far (p := ⟨gb149, 0, none⟩) (by first | (rw [add_block]; exact hn150_0) | (show (Addr.add _ _).block ≠ _; rw [add_block]; exact hn150_0) | exact hn150_0) (.int .i64 ((rd_T105 l0 x3_1).f0))).trans hx150_1; replace hx150_0 := (cell_far (p := ⟨gb149, 1, none⟩) (by first | (rw [add_block]; exact hn150_1) | (show (Addr.add _ _).block ≠ _; rw [add_block]; exact hn150_1) | exact hn150_1) (.int .i64 ((rd_T105 l0 x3_1).f1))).trans hx150_0; replace hx150_1 := (cell_far (p := ⟨gb149, 1, none⟩) (by first | (rw [add_block]; exact hn150_1) | (show (Addr.add _ _).block ≠ _; rw [add_block]; exact hn150_1) | exact hn150_1) (.int .i64 ((rd_T105 l0 x3_1).f1))).trans hx150_1; (try have hy150_0 := fun (n_ : Nat) => (show ((((w21.drewN n_).setCell ⟨gb149, 0, none⟩ (.int .i64 ((rd_T105 l0 x3_1).f0))).setCell ⟨gb149, 1, none⟩ (.int .i64 ((rd_T105 l0 x3_1).f1)))).cell? _ = some _ from hx150_0)); (try have hy150_1 := fun (n_ : Nat) => (show ((((w21.drewN n_).setCell ⟨gb149, 0, none⟩ (.int .i64 ((rd_T105 l0 x3_1).f0))).setCell ⟨gb149, 1, none⟩ (.int .i64 ((rd_T105 l0 x3_1).f1)))).cell? _ = some _ from hx150_1)); clear hn150_0; clear hn150_1; replace p150 := eq_true p150; replace q150 := eq_true q150)))
       go_roundg k1
       case measure => have := HK1.out; omega
       case rel => exact ⟨(wrap64 (x3_1 + 1)), (by first | rfl | (simp; done) | (simp [*]; done)), H', ⟨by have := HK1.out; omega⟩, ⟨by repeat (first | (with_reducible first | exact HB.out | apply qh | apply qi | apply qj | refine qk ?_ GE149.out) | exact HB.out)⟩⟩
      rw [if_neg c17] at H
      exact absurd H (by simp)
     rw [if_neg c16] at H
     exact absurd H (by simp)
    rw [if_neg c14] at H
    have c14b0 : decide (0 < x3_1) = false := decide_eq_false c14
    clear c14
    have H' := qm H
    clear H
    have p148 : 0 ≤ (x3_1 : Int) := of_decide_eq_true (by assumption)
    have q148 : x3_1 < (l0.length : Int) := of_decide_eq_true (by assumption)
    obtain ⟨ad148, e148, hx148_0, hx148_1⟩ := at_T105 HR0.out x3_1 p148 q148
    cases e148
    replace hx148_0 := (HB.out.cell (World.block_lt_of_cell? w _ hx148_0)).trans hx148_0
    replace hx148_1 := (HB.out.cell (World.block_lt_of_cell? w _ hx148_1)).trans hx148_1
    replace p148 := eq_true p148
    replace q148 := eq_true q148
    go_wp2_with (first | ((with_reducible refine gate_dst (N := 4) rfl ?_); refine box_event ?hg (N := 4) ?hd (cs := #[.int .i64 0, .int .i64 0]) (t := 105) ?hr ?_; (case hd => rfl); (case hg => rfl); (case hr => first | (go_simp; done) | (go_simp; rfl)); intro gb149 hg w23 hbox hb; have n0_ := qm (qt (by repeat (first | (with_reducible first | exact HB.out | apply qh | apply qi | apply qj) | exact HB.out)) hb); have n1_ := qm (hbox); have n2_ := qm ((by rw [hg]; exact (qs (by repeat (first | (with_reducible first | exact HB.out | apply qh | apply qi | apply qj) | exact HB.out))) : w.heap.size ≤ gb149)); have n3_ := qm ((by rw [hg]; exact (qs (by repeat (first | (with_reducible first | exact HB.out | apply qh | apply qi | apply qj) | exact HB.out))) : w.heap.size ≤ gb149)); clear HB; have HB := n0_; have BK149 := n1_; have GW149 := n2_; have GE149 := n3_; clear n0_ n1_ n2_ n3_; clear hb hbox hg; obtain ⟨z2_0, z2_1, z2_2, z2_3⟩ := fc2 BK149.out))
    repeat (go_quiet (first | ((with_reducible refine gate_dst (N := 4) rfl ?_); refine box_event (by rfl) (N := 4) (by rfl) (cs := #[.int .i64 0, .int .i64 0]) (t := 105) (by first | (go_simp; done) | (go_simp; rfl)) ?_; intro gb149 hg w23 hbox hb; have n0_ := qm (qt HB.out hb); have n1_ := qm (hbox); have n2_ := qm ((by rw [hg]; exact (qs HB.out) : w.heap.size ≤ gb149)); have n3_ := qm ((by rw [hg]; exact (qs HB.out) : w.heap.size ≤ gb149)); clear HB; have HB := n0_; have BK149 := n1_; have GW149 := n2_; have GE149 := n3_; clear hb hbox hg; obtain ⟨_, _, _, _⟩ := fc2 BK149.out)); try go_wp2_with (first | ((with_reducible refine gate_dst (N := 4) rfl ?_); refine box_event (by rfl) (N := 4) (by rfl) (cs := #[.int .i64 0, .int .i64 0]) (t := 105) (by first | (go_simp; done) | (go_simp; rfl)) ?_; intro gb149 hg w23 hbox hb; have n0_ := qm (qt HB.out hb); have n1_ := qm (hbox); have n2_ := qm ((by rw [hg]; exact (qs HB.out) : w.heap.size ≤ gb149)); have n3_ := qm ((by rw [hg]; exact (qs HB.out) : w.heap.size ≤ gb149)); clear HB; have HB := n0_; have BK149 := n1_; have GW149 := n2_; have GE149 := n3_; clear hb hbox hg; obtain ⟨_, _, _, _⟩ := fc2 BK149.out)))
    go_roundg k1
    case measure => have := HK1.out; omega
    case rel => exact ⟨(wrap64 (x3_1 + 1)), (by first | rfl | (simp; done) | (simp [*]; done)), H', ⟨by have := HK1.out; omega⟩, ⟨by repeat (first | (with_reducible first | exact HB.out | apply qh | apply qi | apply qj | refine qk ?_ GE149.out) | exact HB.out)⟩⟩
   rw [if_neg c4] at H
   exact absurd H (by simp)
  rw [if_neg c3] at H
  have c3b0 : decide (x3_1 < (l0.length : Int)) = false := decide_eq_false c3
  clear c3
  obtain rfl := Option.some.inj H
  go_wp2
  repeat (go_quiet (fail); try go_wp2)
  go_ret
  exact ⟨by first | rfl | (simp <;> rfl) | (simp [*] <;> rfl), HB.out⟩
end Go.Proofs.Ytdojcdhlcnlohaa.SFnExactFrameBytes
