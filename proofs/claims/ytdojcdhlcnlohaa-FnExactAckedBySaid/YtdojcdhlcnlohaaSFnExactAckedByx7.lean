/- The walk of functions that the law FnExactAckedBy uses, written by program. -/
import Derived.Test.YtdojcdhlcnlohaaSFnExactAckedByx0
import Derived.Test.YtdojcdhlcnlohaaSFnExactAckedByx5
namespace Go.Proofs.Ytdojcdhlcnlohaa.SFnExactAckedBy
open Go.RowKit Go.Proofs.YtdojcdhlcnlohaaW.PrintWords Go.Proofs.YtdojcdhlcnlohaaW.PrintLast Go.Proofs.YtdojcdhlcnlohaaW.PrintMore
attribute [local go_sem] max2_int min2_int max_two min_two max_three min_three max_four min_four   -- for this text's walks alone
set_option linter.unusedVariables false
set_option linter.unusedSimpArgs false

/-! ### spec_RangesHas: function 84 -/
def spec_RangesHas.l0 : Nat → List (S105) → Int → Int → Option (Bool)
 | 0, _, _, _ => none
 | k + 1, x0, x1, x5 => if x5 < (x0.length : Int) then (if 0 ≤ x5 then (if ((rd_T105 x0 x5).f0) ≤ x1 then (if x1 ≤ ((rd_T105 x0 x5).f1) then (some true) else (spec_RangesHas.l0 k x0 x1 (wrap64 (x5 + 1)))) else (spec_RangesHas.l0 k x0 x1 (wrap64 (x5 + 1)))) else (none)) else (some false)
def spec_RangesHas.f (k : Nat) (l0 : List (S105)) (a1 : Int) : Option (Bool) := (spec_l05RangesOK.f k l0).bind fun t183 => (if t183 = true then (spec_RangesHas.l0 k l0 a1 0) else (some false))
theorem spec_RangesHas.mono_l : ∀ k, (∀ y0 y1 y2, LeO (spec_RangesHas.l0 k y0 y1 y2) (spec_RangesHas.l0 (k + 1) y0 y1 y2))
 | 0 => fun _ _ _ r h => by simp [spec_RangesHas.l0] at h
 | k + 1 => by
  have ih0 := spec_RangesHas.mono_l k
  ·intro y0 y1 y2
   unfold spec_RangesHas.l0
   repeat' first
   | (with_reducible exact ih0 _ _ _)
   | (with_reducible exact spec_l05RangesOK.mono _ _)
   | (with_reducible exact LeO.refl _)
   | (with_reducible exact LeO.none _)
   | (with_reducible refine LeO.ite ?_ ?_)
   | (with_reducible refine LeO.bind ?_ (fun _ => ?_))
   | exact ih0 _ _ _
   | exact spec_l05RangesOK.mono _ _
   | exact LeO.none _
   | refine LeO.ite ?_ ?_
   | refine LeO.bind ?_ (fun _ => ?_)
theorem spec_RangesHas.mono : ∀ a0 a1 k, LeO (spec_RangesHas.f k a0 a1) (spec_RangesHas.f (k + 1) a0 a1) := by
 intro a0 a1 k
 have ih0 := spec_RangesHas.mono_l k
 unfold spec_RangesHas.f
 repeat' first
   | (with_reducible exact ih0 _ _ _)
   | (with_reducible exact spec_l05RangesOK.mono _ _)
   | (with_reducible exact LeO.refl _)
   | (with_reducible exact LeO.none _)
   | (with_reducible refine LeO.ite ?_ ?_)
   | (with_reducible refine LeO.bind ?_ (fun _ => ?_))
   | exact ih0 _ _ _
   | exact spec_l05RangesOK.mono _ _
   | exact LeO.none _
   | refine LeO.ite ?_ ?_
   | refine LeO.bind ?_ (fun _ => ?_)
set_option maxHeartbeats 8000000 in
set_option maxRecDepth 100000 in
theorem spec_RangesHas.calls (k : Nat) (A0 : Option Addr) (c0 : Nat) (l0 : List (S105)) (a1 : Int) (r : Bool) (w : World) (hr0 : Kd.C k105 w A0 l0.length l0) (hc0 : l0.length ≤ c0) (h : spec_RangesHas.f k l0 a1 = some r) :
  Calls Try.prog 84 #[.slice A0 l0.length c0, .int .i64 a1] w fun e w' => e = .returned (.bool r) ∧ Below w.heap.size w w' := by
 have HR0 := Aside0.mk hr0
 have HC0 := Aside0.mk hc0
 clear hr0 hc0
 have HB := Aside0.mk (Below.refl w.heap.size w)
 have H : ((spec_l05RangesOK.f k l0).bind fun t183 => (if t183 = true then (spec_RangesHas.l0 k l0 a1 0) else (some false))) = some r := h
 clear h
 replace H := Option.bind_eq_some_iff.mp H
 obtain ⟨t183, A30, H⟩ := H
 try dsimp only at H
 have A3 := Aside0.mk A30
 clear A30
 by_cases c4 : t183 = true
 ·subst c4
  rw [if_pos rfl] at H
  have H' := Aside0.mk H
  clear H
  go_enter Try.func84, Try.ntmps84
  go_wp2_with (first | ((with_reducible refine gate_callee (f := 75) rfl ?_); refine goesL_ (some 7) rfl rfl Try.func75 (by kernel_rfl) rfl #[.slice A0 l0.length c0] rfl (by (try simp only [List.map_toArray, List.map_cons, List.map_nil]); first | done | rfl | (simp only [List.length_drop, List.length_take]; rfl)) ?_; (with_reducible refine (spec_l05RangesOK.calls k _ _ l0 true _ ?side1 ?side2 A3.out).mono ?_); (case side1 => repeat (first | exact HR0.out | (with_reducible refine Kd.C_alloc ?_ _) | (with_reducible refine Kd.C_drewN ?_ _) | (with_reducible refine Kd.C_drew ?_))); (case side2 => exact HC0.out); rintro e w5 ⟨rfl, hb⟩; refine ⟨_, rfl, ?_⟩; have n0_ := Aside0.mk (below_step (by repeat (first | (with_reducible first | exact HB.out | apply below_alloc | apply pw_below_drewN | apply below_drew1) | exact HB.out)) hb); clear HB; have HB := n0_; clear n0_; (try clear hb); (try clear hb2); (try clear hk); (try clear hi)))
  go_loopg [5] k (fun kq v5 w' => ∃ (x5_1 : Int), v5 = .int .i64 x5_1 ∧ Aside0 (spec_RangesHas.l0 kq l0 a1 x5_1 = some r) ∧ Aside0 (kq ≤ k) ∧ Aside0 (Below w.heap.size w w'))
  case atStart => exact ⟨(0), (by first | rfl | (simp; done) | (simp [*]; done)), H', ⟨Nat.le_refl _⟩, ⟨by repeat (first | (with_reducible first | exact HB.out | apply below_alloc | apply pw_below_drewN | apply below_drew1) | exact HB.out)⟩⟩
  case round =>
   clear H'
   try clear p2
   try clear c4
   obtain ⟨x5_1, rfl, HA, HK1, HB⟩ := hrel
   cases gk with
   | zero => exact absurd HA.out (by simp [spec_RangesHas.l0])
   | succ k1 =>
    have H := HA.out
    clear HA
    simp only [spec_RangesHas.l0] at H
    by_cases c6 : x5_1 < (l0.length : Int)
    ·rw [if_pos c6] at H
     have c6b0 : decide (x5_1 < (l0.length : Int)) = true := decide_eq_true c6
     clear c6
     by_cases c7 : 0 ≤ x5_1
     ·rw [if_pos c7] at H
      have c7b0 : decide (0 ≤ x5_1) = true := decide_eq_true c7
      clear c7
      by_cases c8 : ((rd_T105 l0 x5_1).f0) ≤ a1
      ·rw [if_pos c8] at H
       have c8b0 : decide (((rd_T105 l0 x5_1).f0) ≤ a1) = true := decide_eq_true c8
       clear c8
       by_cases c9 : a1 ≤ ((rd_T105 l0 x5_1).f1)
       ·rw [if_pos c9] at H
        have c9b0 : decide (a1 ≤ ((rd_T105 l0 x5_1).f1)) = true := decide_eq_true c9
        clear c9
        obtain rfl := Option.some.inj H
        have p184 : 0 ≤ (x5_1 : Int) := of_decide_eq_true (by first | (with_reducible assumption) | assumption)
        have q184 : x5_1 < (l0.length : Int) := of_decide_eq_true (by first | (with_reducible assumption) | assumption)
        obtain ⟨ad184, e184, hx184_0, hx184_1⟩ := at_T105 HR0.out x5_1 p184 q184
        cases e184
        replace hx184_0 := (HB.out.cell (World.block_lt_of_cell? w _ hx184_0)).trans hx184_0
        replace hx184_1 := (HB.out.cell (World.block_lt_of_cell? w _ hx184_1)).trans hx184_1
        replace p184 := eq_true p184
        replace q184 := eq_true q184
        have p185 : 0 ≤ (x5_1 : Int) := of_decide_eq_true (by first | (with_reducible assumption) | assumption)
        have q185 : x5_1 < (l0.length : Int) := of_decide_eq_true (by first | (with_reducible assumption) | assumption)
        obtain ⟨ad185, e185, hx185_0, hx185_1⟩ := at_T105 HR0.out x5_1 p185 q185
        obtain rfl : ad184 = ad185 := (by injection e185)
        replace hx185_0 := (HB.out.cell (World.block_lt_of_cell? w _ hx185_0)).trans hx185_0
        replace hx185_1 := (HB.out.cell (World.block_lt_of_cell? w _ hx185_1)).trans hx185_1
        replace p185 := eq_true p185
        replace q185 := eq_true q185
        go_wp2
        go_ret
        exact ⟨by first | rfl | (simp [errW_none, errW_some] <;> rfl) | (simp [*, errW_none, errW_some] <;> rfl), by repeat (first | (with_reducible first | exact HB.out | apply below_alloc | apply pw_below_drewN | apply below_drew1) | exact HB.out)⟩
       ·rw [if_neg c9] at H
        have c9b0 : decide (a1 ≤ ((rd_T105 l0 x5_1).f1)) = false := decide_eq_false c9
        clear c9
        have H' := Aside0.mk H
        clear H
        have p184 : 0 ≤ (x5_1 : Int) := of_decide_eq_true (by first | (with_reducible assumption) | assumption)
        have q184 : x5_1 < (l0.length : Int) := of_decide_eq_true (by first | (with_reducible assumption) | assumption)
        obtain ⟨ad184, e184, hx184_0, hx184_1⟩ := at_T105 HR0.out x5_1 p184 q184
        cases e184
        replace hx184_0 := (HB.out.cell (World.block_lt_of_cell? w _ hx184_0)).trans hx184_0
        replace hx184_1 := (HB.out.cell (World.block_lt_of_cell? w _ hx184_1)).trans hx184_1
        replace p184 := eq_true p184
        replace q184 := eq_true q184
        have p185 : 0 ≤ (x5_1 : Int) := of_decide_eq_true (by first | (with_reducible assumption) | assumption)
        have q185 : x5_1 < (l0.length : Int) := of_decide_eq_true (by first | (with_reducible assumption) | assumption)
        obtain ⟨ad185, e185, hx185_0, hx185_1⟩ := at_T105 HR0.out x5_1 p185 q185
        obtain rfl : ad184 = ad185 := (by injection e185)
        replace hx185_0 := (HB.out.cell (World.block_lt_of_cell? w _ hx185_0)).trans hx185_0
        replace hx185_1 := (HB.out.cell (World.block_lt_of_cell? w _ hx185_1)).trans hx185_1
        replace p185 := eq_true p185
        replace q185 := eq_true q185
        go_wp2
        go_roundg k1
        case measure => have := HK1.out; omega
        case rel => exact ⟨(wrap64 (x5_1 + 1)), (by first | rfl | (simp; done) | (simp [*]; done)), H', ⟨by have := HK1.out; omega⟩, ⟨by repeat (first | (with_reducible first | exact HB.out | apply below_alloc | apply pw_below_drewN | apply below_drew1) | exact HB.out)⟩⟩
      ·rw [if_neg c8] at H
       have c8b0 : decide (((rd_T105 l0 x5_1).f0) ≤ a1) = false := decide_eq_false c8
       clear c8
       have H' := Aside0.mk H
       clear H
       have p184 : 0 ≤ (x5_1 : Int) := of_decide_eq_true (by first | (with_reducible assumption) | assumption)
       have q184 : x5_1 < (l0.length : Int) := of_decide_eq_true (by first | (with_reducible assumption) | assumption)
       obtain ⟨ad184, e184, hx184_0, hx184_1⟩ := at_T105 HR0.out x5_1 p184 q184
       cases e184
       replace hx184_0 := (HB.out.cell (World.block_lt_of_cell? w _ hx184_0)).trans hx184_0
       replace hx184_1 := (HB.out.cell (World.block_lt_of_cell? w _ hx184_1)).trans hx184_1
       replace p184 := eq_true p184
       replace q184 := eq_true q184
       go_wp2
       go_roundg k1
       case measure => have := HK1.out; omega
       case rel => exact ⟨(wrap64 (x5_1 + 1)), (by first | rfl | (simp; done) | (simp [*]; done)), H', ⟨by have := HK1.out; omega⟩, ⟨by repeat (first | (with_reducible first | exact HB.out | apply below_alloc | apply pw_below_drewN | apply below_drew1) | exact HB.out)⟩⟩
     ·rw [if_neg c7] at H
      exact absurd H (by simp)
    ·rw [if_neg c6] at H
     have c6b0 : decide (x5_1 < (l0.length : Int)) = false := decide_eq_false c6
     clear c6
     obtain rfl := Option.some.inj H
     go_wp2
     go_ret
     exact ⟨by first | rfl | (simp [errW_none, errW_some] <;> rfl) | (simp [*, errW_none, errW_some] <;> rfl), by repeat (first | (with_reducible first | exact HB.out | apply below_alloc | apply pw_below_drewN | apply below_drew1) | exact HB.out)⟩
 ·replace c4 := Bool.eq_false_iff.mpr c4
  subst c4
  rw [if_neg (show ¬ (false = true) by decide)] at H
  obtain rfl := Option.some.inj H
  go_enter Try.func84, Try.ntmps84
  go_wp2_with (first | ((with_reducible refine gate_callee (f := 75) rfl ?_); refine goesL_ (some 7) rfl rfl Try.func75 (by kernel_rfl) rfl #[.slice A0 l0.length c0] rfl (by (try simp only [List.map_toArray, List.map_cons, List.map_nil]); first | done | rfl | (simp only [List.length_drop, List.length_take]; rfl)) ?_; (with_reducible refine (spec_l05RangesOK.calls k _ _ l0 false _ ?side1 ?side2 A3.out).mono ?_); (case side1 => repeat (first | exact HR0.out | (with_reducible refine Kd.C_alloc ?_ _) | (with_reducible refine Kd.C_drewN ?_ _) | (with_reducible refine Kd.C_drew ?_))); (case side2 => exact HC0.out); rintro e w10 ⟨rfl, hb⟩; refine ⟨_, rfl, ?_⟩; have n0_ := Aside0.mk (below_step (by repeat (first | (with_reducible first | exact HB.out | apply below_alloc | apply pw_below_drewN | apply below_drew1) | exact HB.out)) hb); clear HB; have HB := n0_; clear n0_; (try clear hb); (try clear hb2); (try clear hk); (try clear hi)))
  go_ret
  exact ⟨by first | rfl | (simp [errW_none, errW_some] <;> rfl) | (simp [*, errW_none, errW_some] <;> rfl), by repeat (first | (with_reducible first | exact HB.out | apply below_alloc | apply pw_below_drewN | apply below_drew1) | exact HB.out)⟩

end Go.Proofs.Ytdojcdhlcnlohaa.SFnExactAckedBy
