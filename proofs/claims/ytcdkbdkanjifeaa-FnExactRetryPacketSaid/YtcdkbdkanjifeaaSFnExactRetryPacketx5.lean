/- The walk of functions that the law FnExactRetryPacket uses, written by program. -/
import Derived.Test.YtcdkbdkanjifeaaSFnExactRetryPacketx0
import Derived.Test.YtcdkbdkanjifeaaSFnExactRetryPacketx3
import Derived.Test.YtcdkbdkanjifeaaSFnExactRetryPacketx4
namespace Go.Proofs.Ytcdkbdkanjifeaa.SFnExactRetryPacket
open Go.RowKit Go.Proofs.YtcdkbdkanjifeaaW.PrintWords Go.Proofs.YtcdkbdkanjifeaaW.PrintLast Go.Proofs.YtcdkbdkanjifeaaW.PrintMore
attribute [local go_sem] max2_int min2_int max_two min_two max_three min_three max_four min_four   -- for this text's walks alone
set_option linter.unusedVariables false
set_option linter.unusedSimpArgs false

/-! ### impl_RetryPacket: function 36 -/
def impl_RetryPacket.j0 : Nat → List Int → Bool → Int → Int → List Int → List Int → List Int → Int → Int → Int → Option (List Int × Int)
  | 0, _, _, _, _, _, _, _, _, _, _ => none
  | k + 1, x1, x59, x298000, x298001, x298002, x298003, x298004, x298005, x298006, x298007 => if x59 = true then (some (([] : List Int), 1)) else ((impl_longBegin.f k 240 x298001 x298002 x298003).bind fun t299 => (if t299.length + x298004.length < 140737488355328 then ((some (t299 ++ x298004 : List Int)).bind fun y302 => ((impl_retryTag.f k x1 y302).bind fun t305 => (if y302.length + t305.length < 140737488355328 then (some ((y302 ++ t305), 0)) else (none)))) else (none)))
def impl_RetryPacket.f (k : Nat) (a0_0 : Int) (a0_1 : Int) (l0_2 : List Int) (l0_3 : List Int) (l0_4 : List Int) (a0_5 : Int) (a0_6 : Int) (a0_7 : Int) (l1 : List Int) : Option (List Int × Int) := if a0_0 = 3 then ((impl_versionOK.f a0_1).bind fun t298 => (if t298 = true then (if (l0_2.length : Int) > 8 then (impl_RetryPacket.j0 k l1 true a0_0 a0_1 l0_2 l0_3 l0_4 a0_5 a0_6 a0_7) else (if (l0_3.length : Int) > 8 then (impl_RetryPacket.j0 k l1 true a0_0 a0_1 l0_2 l0_3 l0_4 a0_5 a0_6 a0_7) else (if (l0_4.length : Int) < 1 then (impl_RetryPacket.j0 k l1 true a0_0 a0_1 l0_2 l0_3 l0_4 a0_5 a0_6 a0_7) else (if (l0_4.length : Int) > 64 then (impl_RetryPacket.j0 k l1 true a0_0 a0_1 l0_2 l0_3 l0_4 a0_5 a0_6 a0_7) else (if a0_5 = 0 then (if a0_6 = 0 then (if a0_7 = 0 then (impl_RetryPacket.j0 k l1 (decide ((l1.length : Int) > 8)) a0_0 a0_1 l0_2 l0_3 l0_4 a0_5 a0_6 a0_7) else (impl_RetryPacket.j0 k l1 true a0_0 a0_1 l0_2 l0_3 l0_4 a0_5 a0_6 a0_7)) else (impl_RetryPacket.j0 k l1 true a0_0 a0_1 l0_2 l0_3 l0_4 a0_5 a0_6 a0_7)) else (impl_RetryPacket.j0 k l1 true a0_0 a0_1 l0_2 l0_3 l0_4 a0_5 a0_6 a0_7)))))) else (impl_RetryPacket.j0 k l1 true a0_0 a0_1 l0_2 l0_3 l0_4 a0_5 a0_6 a0_7))) else (impl_RetryPacket.j0 k l1 true a0_0 a0_1 l0_2 l0_3 l0_4 a0_5 a0_6 a0_7)
theorem impl_RetryPacket.mono_l : ∀ k, (∀ y0 y1 y2 y3 y4 y5 y6 y7 y8 y9, LeO (impl_RetryPacket.j0 k y0 y1 y2 y3 y4 y5 y6 y7 y8 y9) (impl_RetryPacket.j0 (k + 1) y0 y1 y2 y3 y4 y5 y6 y7 y8 y9))
  | 0 => fun _ _ _ _ _ _ _ _ _ _ r h => by simp [impl_RetryPacket.j0] at h
  | k + 1 => by
    have ih0 := impl_RetryPacket.mono_l k
    · intro y0 y1 y2 y3 y4 y5 y6 y7 y8 y9
      unfold impl_RetryPacket.j0
      repeat' first
      | (with_reducible exact ih0 _ _ _ _ _ _ _ _ _ _)
      | (with_reducible exact impl_longBegin.mono _ _ _ _ _)
      | (with_reducible exact impl_retryTag.mono _ _ _)
      | (with_reducible exact LeO.refl _)
      | (with_reducible exact LeO.none _)
      | (with_reducible refine LeO.ite ?_ ?_)
      | (with_reducible refine LeO.bind ?_ (fun _ => ?_))
      | exact ih0 _ _ _ _ _ _ _ _ _ _
      | exact impl_longBegin.mono _ _ _ _ _
      | exact impl_retryTag.mono _ _ _
      | exact LeO.none _
      | refine LeO.ite ?_ ?_
      | refine LeO.bind ?_ (fun _ => ?_)
theorem impl_RetryPacket.mono : ∀ a0 a1 a2 a3 a4 a5 a6 a7 a8 k, LeO (impl_RetryPacket.f k a0 a1 a2 a3 a4 a5 a6 a7 a8) (impl_RetryPacket.f (k + 1) a0 a1 a2 a3 a4 a5 a6 a7 a8) := by
  intro a0 a1 a2 a3 a4 a5 a6 a7 a8 k
  have ih0 := impl_RetryPacket.mono_l k
  unfold impl_RetryPacket.f
  repeat' first
      | (with_reducible exact ih0 _ _ _ _ _ _ _ _ _ _)
      | (with_reducible exact impl_longBegin.mono _ _ _ _ _)
      | (with_reducible exact impl_retryTag.mono _ _ _)
      | (with_reducible exact LeO.refl _)
      | (with_reducible exact LeO.none _)
      | (with_reducible refine LeO.ite ?_ ?_)
      | (with_reducible refine LeO.bind ?_ (fun _ => ?_))
      | exact ih0 _ _ _ _ _ _ _ _ _ _
      | exact impl_longBegin.mono _ _ _ _ _
      | exact impl_retryTag.mono _ _ _
      | exact LeO.none _
      | refine LeO.ite ?_ ?_
      | refine LeO.bind ?_ (fun _ => ?_)
def impl_RetryPacket.T3 : Bool × List (List Nat × List Nat) := (true, [([], []), ([0], [0]), ([], []), ([2], [2]), ([], []), ([4], [4]), ([1, 3, 5], [1, 3, 5]), ([], []), ([7], [7]), ([6, 8, 6], [6, 8]), ([9, 9, 0, 1, 2, 3, 4, 5, 6, 7, 8, 9], [9])])
def impl_RetryPacket.B3 : List Nat := [0, 1, 0, 4, 0, 16, 63, 0, 128, 511, 1023]
theorem impl_RetryPacket.tab3 : rtab .any (opsOf Try.f36 3) = impl_RetryPacket.T3 := by kernel_rfl
theorem impl_RetryPacket.bits3 : waitsOk impl_RetryPacket.T3.2 impl_RetryPacket.B3 = true := by kernel_rfl
set_option maxHeartbeats 8000000 in
set_option maxRecDepth 100000 in
theorem impl_RetryPacket.calls (k : Nat) (a0_0 : Int) (a0_1 : Int) (A0_2 : Option Addr) (c0_2 : Nat) (l0_2 : List Int) (A0_3 : Option Addr) (c0_3 : Nat) (l0_3 : List Int) (A0_4 : Option Addr) (c0_4 : Nat) (l0_4 : List Int) (a0_5 : Int) (a0_6 : Int) (a0_7 : Int) (A1 : Option Addr) (c1 : Nat) (l1 : List Int) (r1 : List Int) (r2 : Int) (w : World) (hr0_2 : Kd.C (Kd.int .u8) w A0_2 l0_2.length l0_2) (hc0_2 : l0_2.length ≤ c0_2) (hr0_3 : Kd.C (Kd.int .u8) w A0_3 l0_3.length l0_3) (hc0_3 : l0_3.length ≤ c0_3) (hr0_4 : Kd.C (Kd.int .u8) w A0_4 l0_4.length l0_4) (hc0_4 : l0_4.length ≤ c0_4) (hr1 : Kd.C (Kd.int .u8) w A1 l1.length l1) (hc1 : l1.length ≤ c1) (h : impl_RetryPacket.f k a0_0 a0_1 l0_2 l0_3 l0_4 a0_5 a0_6 a0_7 l1 = some (r1, r2)) :
    Calls Try.prog 36 #[.agg #[.int .i64 a0_0, .int .i64 a0_1, .slice A0_2 l0_2.length c0_2, .slice A0_3 l0_3.length c0_3, .slice A0_4 l0_4.length c0_4, .int .i64 a0_5, .int .i64 a0_6, .int .i64 a0_7], .slice A1 l1.length c1] w fun e w' => ∃ v0_ : Value, e = .returned (.tuple #[v0_, .int .i64 r2]) ∧ Kd.R (Kd.int .u8) 5 w' w.heap.size (fun _ => True) v0_ r1 ∧ Below w.heap.size w w' := by
  have hu45 := Try.underlying45
  have HR0_2 := Aside0.mk hr0_2
  have HC0_2 := Aside0.mk hc0_2
  clear hr0_2 hc0_2
  have HR0_3 := Aside0.mk hr0_3
  have HC0_3 := Aside0.mk hc0_3
  clear hr0_3 hc0_3
  have HR0_4 := Aside0.mk hr0_4
  have HC0_4 := Aside0.mk hc0_4
  clear hr0_4 hc0_4
  have HR1 := Aside0.mk hr1
  have HC1 := Aside0.mk hc1
  clear hr1 hc1
  have HB := Aside0.mk (Below.refl w.heap.size w)
  have H : (if a0_0 = 3 then ((impl_versionOK.f a0_1).bind fun t298 => (if t298 = true then (if (l0_2.length : Int) > 8 then (impl_RetryPacket.j0 k l1 true a0_0 a0_1 l0_2 l0_3 l0_4 a0_5 a0_6 a0_7) else (if (l0_3.length : Int) > 8 then (impl_RetryPacket.j0 k l1 true a0_0 a0_1 l0_2 l0_3 l0_4 a0_5 a0_6 a0_7) else (if (l0_4.length : Int) < 1 then (impl_RetryPacket.j0 k l1 true a0_0 a0_1 l0_2 l0_3 l0_4 a0_5 a0_6 a0_7) else (if (l0_4.length : Int) > 64 then (impl_RetryPacket.j0 k l1 true a0_0 a0_1 l0_2 l0_3 l0_4 a0_5 a0_6 a0_7) else (if a0_5 = 0 then (if a0_6 = 0 then (if a0_7 = 0 then (impl_RetryPacket.j0 k l1 (decide ((l1.length : Int) > 8)) a0_0 a0_1 l0_2 l0_3 l0_4 a0_5 a0_6 a0_7) else (impl_RetryPacket.j0 k l1 true a0_0 a0_1 l0_2 l0_3 l0_4 a0_5 a0_6 a0_7)) else (impl_RetryPacket.j0 k l1 true a0_0 a0_1 l0_2 l0_3 l0_4 a0_5 a0_6 a0_7)) else (impl_RetryPacket.j0 k l1 true a0_0 a0_1 l0_2 l0_3 l0_4 a0_5 a0_6 a0_7)))))) else (impl_RetryPacket.j0 k l1 true a0_0 a0_1 l0_2 l0_3 l0_4 a0_5 a0_6 a0_7))) else (impl_RetryPacket.j0 k l1 true a0_0 a0_1 l0_2 l0_3 l0_4 a0_5 a0_6 a0_7)) = some (r1, r2) := h
  clear h
  have HC3 := Aside0.mk H
  clear H
  go_enter Try.func36, Try.ntmps36
  go_upto_region 1 with (first | ((with_reducible refine gate_dst (N := 2) rfl ?_); (try (refine gate_guard (by rfl) ?_; dsimp only)); refine box_event ?hg (N := 2) ?hd (cs := #[.int .i64 a0_0, .int .i64 a0_1, .slice A0_2 l0_2.length c0_2, .slice A0_3 l0_3.length c0_3, .slice A0_4 l0_4.length c0_4, .int .i64 a0_5, .int .i64 a0_6, .int .i64 a0_7]) (t := 45) ?hr ?_; (case hd => rfl); (case hg => rfl); (case hr => first | (go_simp; done) | (go_simp; rfl)); intro gb297 hg w4 hbox hb; have n0_ := Aside0.mk (below_step (by repeat (first | (with_reducible first | exact HB.out | apply below_alloc | apply pw_below_drewN | apply below_drew1) | exact HB.out)) hb); have n1_ := Aside0.mk (hbox); have n2_ := Aside0.mk ((by rw [hg]; exact (below_size (by repeat (first | (with_reducible first | exact HB.out | apply below_alloc | apply pw_below_drewN | apply below_drew1) | exact HB.out))) : w.heap.size ≤ gb297)); have n3_ := Aside0.mk ((by rw [hg]; exact (below_size (by repeat (first | (with_reducible first | exact HB.out | apply below_alloc | apply pw_below_drewN | apply below_drew1) | exact HB.out))) : w.heap.size ≤ gb297)); clear HB; have HB := n0_; have BK297 := n1_; have GW297 := n2_; have GE297 := n3_; clear n0_ n1_ n2_ n3_; clear hb hbox hg))
  (try simp only [Act.put, List.setIfInBounds_toArray, List.set_cons_zero, List.set_cons_succ])
  go_cut [59] (fun v59 wc => ∃ (kq : Nat) (x59_2 : Bool), v59 = .bool x59_2 ∧ Aside0 (impl_RetryPacket.j0 kq l1 x59_2 a0_0 a0_1 l0_2 l0_3 l0_4 a0_5 a0_6 a0_7 = some (r1, r2)) ∧ Aside0 (kq ≤ k) ∧ Aside0 (wc.heap[gb297]? = some (.cells #[.int .i64 a0_0, .int .i64 a0_1, (.slice A0_2 l0_2.length c0_2), (.slice A0_3 l0_3.length c0_3), (.slice A0_4 l0_4.length c0_4), .int .i64 a0_5, .int .i64 a0_6, .int .i64 a0_7] 45 (0, 0))) ∧ Aside0 (Below w.heap.size w wc))
  case first =>
    have H := HC3.out
    clear HC3
    by_cases c5 : a0_0 = 3
    · rw [if_pos c5] at H
      have c5b0 : (a0_0 == 3) = true := beq_iff_eq.mpr c5
      have c5b1 : (a0_0 != 3) = false := bne_eq_false_iff_eq.mpr c5
      clear c5
      (first | rw [c5b0] | (simp only [i64_w, i32_w]; rw [c5b0]) | skip)
      replace H := Option.bind_eq_some_iff.mp H
      obtain ⟨t298, A60, H⟩ := H
      replace H : (if t298 = true then (if (l0_2.length : Int) > 8 then (impl_RetryPacket.j0 k l1 true a0_0 a0_1 l0_2 l0_3 l0_4 a0_5 a0_6 a0_7) else (if (l0_3.length : Int) > 8 then (impl_RetryPacket.j0 k l1 true a0_0 a0_1 l0_2 l0_3 l0_4 a0_5 a0_6 a0_7) else (if (l0_4.length : Int) < 1 then (impl_RetryPacket.j0 k l1 true a0_0 a0_1 l0_2 l0_3 l0_4 a0_5 a0_6 a0_7) else (if (l0_4.length : Int) > 64 then (impl_RetryPacket.j0 k l1 true a0_0 a0_1 l0_2 l0_3 l0_4 a0_5 a0_6 a0_7) else (if a0_5 = 0 then (if a0_6 = 0 then (if a0_7 = 0 then (impl_RetryPacket.j0 k l1 (decide ((l1.length : Int) > 8)) a0_0 a0_1 l0_2 l0_3 l0_4 a0_5 a0_6 a0_7) else (impl_RetryPacket.j0 k l1 true a0_0 a0_1 l0_2 l0_3 l0_4 a0_5 a0_6 a0_7)) else (impl_RetryPacket.j0 k l1 true a0_0 a0_1 l0_2 l0_3 l0_4 a0_5 a0_6 a0_7)) else (impl_RetryPacket.j0 k l1 true a0_0 a0_1 l0_2 l0_3 l0_4 a0_5 a0_6 a0_7)))))) else (impl_RetryPacket.j0 k l1 true a0_0 a0_1 l0_2 l0_3 l0_4 a0_5 a0_6 a0_7)) = some (r1, r2) := H
      have A6 := Aside0.mk A60
      clear A60
      by_cases c7 : t298 = true
      · subst c7
        have H1 : (if (l0_2.length : Int) > 8 then (impl_RetryPacket.j0 k l1 true a0_0 a0_1 l0_2 l0_3 l0_4 a0_5 a0_6 a0_7) else (if (l0_3.length : Int) > 8 then (impl_RetryPacket.j0 k l1 true a0_0 a0_1 l0_2 l0_3 l0_4 a0_5 a0_6 a0_7) else (if (l0_4.length : Int) < 1 then (impl_RetryPacket.j0 k l1 true a0_0 a0_1 l0_2 l0_3 l0_4 a0_5 a0_6 a0_7) else (if (l0_4.length : Int) > 64 then (impl_RetryPacket.j0 k l1 true a0_0 a0_1 l0_2 l0_3 l0_4 a0_5 a0_6 a0_7) else (if a0_5 = 0 then (if a0_6 = 0 then (if a0_7 = 0 then (impl_RetryPacket.j0 k l1 (decide ((l1.length : Int) > 8)) a0_0 a0_1 l0_2 l0_3 l0_4 a0_5 a0_6 a0_7) else (impl_RetryPacket.j0 k l1 true a0_0 a0_1 l0_2 l0_3 l0_4 a0_5 a0_6 a0_7)) else (impl_RetryPacket.j0 k l1 true a0_0 a0_1 l0_2 l0_3 l0_4 a0_5 a0_6 a0_7)) else (impl_RetryPacket.j0 k l1 true a0_0 a0_1 l0_2 l0_3 l0_4 a0_5 a0_6 a0_7)))))) = some (r1, r2) := by rw [if_pos rfl] at H; exact H
        clear H
        have H := H1
        clear H1
        by_cases c8 : (l0_2.length : Int) > 8
        · rw [if_pos c8] at H
          have c8b0 : decide (8 < (l0_2.length : Int)) = true := decide_eq_true c8
          have c8b1 : decide (8 < l0_2.length) = true := decide_eq_true (by omega)
          clear c8
          have H' := Aside0.mk H
          clear H
          have hcz9_0 : w4.cell? ⟨gb297, 0, none⟩ = some (.int .i64 a0_0) := (blk_cell BK297.out 0).trans rfl
          have hcz9_1 : w4.cell? ⟨gb297, 1, none⟩ = some (.int .i64 a0_1) := (blk_cell BK297.out 1).trans rfl
          have hcz9_2 : w4.cell? ⟨gb297, 2, none⟩ = some (.slice A0_2 l0_2.length c0_2) := (blk_cell BK297.out 2).trans rfl
          have hcz9_3 : w4.cell? ⟨gb297, 3, none⟩ = some (.slice A0_3 l0_3.length c0_3) := (blk_cell BK297.out 3).trans rfl
          have hcz9_4 : w4.cell? ⟨gb297, 4, none⟩ = some (.slice A0_4 l0_4.length c0_4) := (blk_cell BK297.out 4).trans rfl
          have hcz9_5 : w4.cell? ⟨gb297, 5, none⟩ = some (.int .i64 a0_5) := (blk_cell BK297.out 5).trans rfl
          have hcz9_6 : w4.cell? ⟨gb297, 6, none⟩ = some (.int .i64 a0_6) := (blk_cell BK297.out 6).trans rfl
          have hcz9_7 : w4.cell? ⟨gb297, 7, none⟩ = some (.int .i64 a0_7) := (blk_cell BK297.out 7).trans rfl
          have hfz9_0 := blk_frozen BK297.out 0
          have hfz9_1 := blk_frozen BK297.out 1
          have hfz9_2 := blk_frozen BK297.out 2
          have hfz9_3 := blk_frozen BK297.out 3
          have hfz9_4 := blk_frozen BK297.out 4
          have hfz9_5 := blk_frozen BK297.out 5
          have hfz9_6 := blk_frozen BK297.out 6
          have hfz9_7 := blk_frozen BK297.out 7
          go_wp2_with (first | (go_at_call 60; (with_reducible refine (impl_versionOK.calls a0_1 true _ A6.out).mono ?_); rintro e w' ⟨rfl, ⟨nd, rfl⟩⟩))
          go_meet
          case rel => exact ⟨_, (true), (by first | rfl | (simp; done) | (simp [*]; done)), H', ⟨by first | omega | exact Nat.le_refl _⟩, ⟨by (with_reducible repeat (first | refine blk_drewN ?_ _ | refine blk_drew ?_ | refine blk_alloc ?_ _)); exact BK297.out⟩, ⟨by repeat (first | (with_reducible first | exact HB.out | apply below_alloc | apply pw_below_drewN | apply below_drew1 | refine below_set ?_ GE297.out) | exact HB.out)⟩⟩
        · rw [if_neg c8] at H
          have c8b0 : decide (8 < (l0_2.length : Int)) = false := decide_eq_false c8
          have c8b1 : decide (8 < l0_2.length) = false := decide_eq_false (by omega)
          clear c8
          by_cases c10 : (l0_3.length : Int) > 8
          · rw [if_pos c10] at H
            have c10b0 : decide (8 < (l0_3.length : Int)) = true := decide_eq_true c10
            have c10b1 : decide (8 < l0_3.length) = true := decide_eq_true (by omega)
            clear c10
            have H' := Aside0.mk H
            clear H
            have hcz11_0 : w4.cell? ⟨gb297, 0, none⟩ = some (.int .i64 a0_0) := (blk_cell BK297.out 0).trans rfl
            have hcz11_1 : w4.cell? ⟨gb297, 1, none⟩ = some (.int .i64 a0_1) := (blk_cell BK297.out 1).trans rfl
            have hcz11_2 : w4.cell? ⟨gb297, 2, none⟩ = some (.slice A0_2 l0_2.length c0_2) := (blk_cell BK297.out 2).trans rfl
            have hcz11_3 : w4.cell? ⟨gb297, 3, none⟩ = some (.slice A0_3 l0_3.length c0_3) := (blk_cell BK297.out 3).trans rfl
            have hcz11_4 : w4.cell? ⟨gb297, 4, none⟩ = some (.slice A0_4 l0_4.length c0_4) := (blk_cell BK297.out 4).trans rfl
            have hcz11_5 : w4.cell? ⟨gb297, 5, none⟩ = some (.int .i64 a0_5) := (blk_cell BK297.out 5).trans rfl
            have hcz11_6 : w4.cell? ⟨gb297, 6, none⟩ = some (.int .i64 a0_6) := (blk_cell BK297.out 6).trans rfl
            have hcz11_7 : w4.cell? ⟨gb297, 7, none⟩ = some (.int .i64 a0_7) := (blk_cell BK297.out 7).trans rfl
            have hfz11_0 := blk_frozen BK297.out 0
            have hfz11_1 := blk_frozen BK297.out 1
            have hfz11_2 := blk_frozen BK297.out 2
            have hfz11_3 := blk_frozen BK297.out 3
            have hfz11_4 := blk_frozen BK297.out 4
            have hfz11_5 := blk_frozen BK297.out 5
            have hfz11_6 := blk_frozen BK297.out 6
            have hfz11_7 := blk_frozen BK297.out 7
            go_wp2_with (first | (go_at_call 60; (with_reducible refine (impl_versionOK.calls a0_1 true _ A6.out).mono ?_); rintro e w' ⟨rfl, ⟨nd, rfl⟩⟩))
            go_meet
            case rel => exact ⟨_, (true), (by first | rfl | (simp; done) | (simp [*]; done)), H', ⟨by first | omega | exact Nat.le_refl _⟩, ⟨by (with_reducible repeat (first | refine blk_drewN ?_ _ | refine blk_drew ?_ | refine blk_alloc ?_ _)); exact BK297.out⟩, ⟨by repeat (first | (with_reducible first | exact HB.out | apply below_alloc | apply pw_below_drewN | apply below_drew1 | refine below_set ?_ GE297.out) | exact HB.out)⟩⟩
          · rw [if_neg c10] at H
            have c10b0 : decide (8 < (l0_3.length : Int)) = false := decide_eq_false c10
            have c10b1 : decide (8 < l0_3.length) = false := decide_eq_false (by omega)
            clear c10
            by_cases c12 : (l0_4.length : Int) < 1
            · rw [if_pos c12] at H
              have c12b0 : decide ((l0_4.length : Int) < 1) = true := decide_eq_true c12
              have c12b1 : decide (l0_4.length < 1) = true := decide_eq_true (by omega)
              clear c12
              have H' := Aside0.mk H
              clear H
              have hcz13_0 : w4.cell? ⟨gb297, 0, none⟩ = some (.int .i64 a0_0) := (blk_cell BK297.out 0).trans rfl
              have hcz13_1 : w4.cell? ⟨gb297, 1, none⟩ = some (.int .i64 a0_1) := (blk_cell BK297.out 1).trans rfl
              have hcz13_2 : w4.cell? ⟨gb297, 2, none⟩ = some (.slice A0_2 l0_2.length c0_2) := (blk_cell BK297.out 2).trans rfl
              have hcz13_3 : w4.cell? ⟨gb297, 3, none⟩ = some (.slice A0_3 l0_3.length c0_3) := (blk_cell BK297.out 3).trans rfl
              have hcz13_4 : w4.cell? ⟨gb297, 4, none⟩ = some (.slice A0_4 l0_4.length c0_4) := (blk_cell BK297.out 4).trans rfl
              have hcz13_5 : w4.cell? ⟨gb297, 5, none⟩ = some (.int .i64 a0_5) := (blk_cell BK297.out 5).trans rfl
              have hcz13_6 : w4.cell? ⟨gb297, 6, none⟩ = some (.int .i64 a0_6) := (blk_cell BK297.out 6).trans rfl
              have hcz13_7 : w4.cell? ⟨gb297, 7, none⟩ = some (.int .i64 a0_7) := (blk_cell BK297.out 7).trans rfl
              have hfz13_0 := blk_frozen BK297.out 0
              have hfz13_1 := blk_frozen BK297.out 1
              have hfz13_2 := blk_frozen BK297.out 2
              have hfz13_3 := blk_frozen BK297.out 3
              have hfz13_4 := blk_frozen BK297.out 4
              have hfz13_5 := blk_frozen BK297.out 5
              have hfz13_6 := blk_frozen BK297.out 6
              have hfz13_7 := blk_frozen BK297.out 7
              go_wp2_with (first | (go_at_call 60; (with_reducible refine (impl_versionOK.calls a0_1 true _ A6.out).mono ?_); rintro e w' ⟨rfl, ⟨nd, rfl⟩⟩))
              go_meet
              case rel => exact ⟨_, (true), (by first | rfl | (simp; done) | (simp [*]; done)), H', ⟨by first | omega | exact Nat.le_refl _⟩, ⟨by (with_reducible repeat (first | refine blk_drewN ?_ _ | refine blk_drew ?_ | refine blk_alloc ?_ _)); exact BK297.out⟩, ⟨by repeat (first | (with_reducible first | exact HB.out | apply below_alloc | apply pw_below_drewN | apply below_drew1 | refine below_set ?_ GE297.out) | exact HB.out)⟩⟩
            · rw [if_neg c12] at H
              have c12b0 : decide ((l0_4.length : Int) < 1) = false := decide_eq_false c12
              have c12b1 : decide (l0_4.length < 1) = false := decide_eq_false (by omega)
              clear c12
              by_cases c14 : (l0_4.length : Int) > 64
              · rw [if_pos c14] at H
                have c14b0 : decide (64 < (l0_4.length : Int)) = true := decide_eq_true c14
                have c14b1 : decide (64 < l0_4.length) = true := decide_eq_true (by omega)
                clear c14
                have H' := Aside0.mk H
                clear H
                have hcz15_0 : w4.cell? ⟨gb297, 0, none⟩ = some (.int .i64 a0_0) := (blk_cell BK297.out 0).trans rfl
                have hcz15_1 : w4.cell? ⟨gb297, 1, none⟩ = some (.int .i64 a0_1) := (blk_cell BK297.out 1).trans rfl
                have hcz15_2 : w4.cell? ⟨gb297, 2, none⟩ = some (.slice A0_2 l0_2.length c0_2) := (blk_cell BK297.out 2).trans rfl
                have hcz15_3 : w4.cell? ⟨gb297, 3, none⟩ = some (.slice A0_3 l0_3.length c0_3) := (blk_cell BK297.out 3).trans rfl
                have hcz15_4 : w4.cell? ⟨gb297, 4, none⟩ = some (.slice A0_4 l0_4.length c0_4) := (blk_cell BK297.out 4).trans rfl
                have hcz15_5 : w4.cell? ⟨gb297, 5, none⟩ = some (.int .i64 a0_5) := (blk_cell BK297.out 5).trans rfl
                have hcz15_6 : w4.cell? ⟨gb297, 6, none⟩ = some (.int .i64 a0_6) := (blk_cell BK297.out 6).trans rfl
                have hcz15_7 : w4.cell? ⟨gb297, 7, none⟩ = some (.int .i64 a0_7) := (blk_cell BK297.out 7).trans rfl
                have hfz15_0 := blk_frozen BK297.out 0
                have hfz15_1 := blk_frozen BK297.out 1
                have hfz15_2 := blk_frozen BK297.out 2
                have hfz15_3 := blk_frozen BK297.out 3
                have hfz15_4 := blk_frozen BK297.out 4
                have hfz15_5 := blk_frozen BK297.out 5
                have hfz15_6 := blk_frozen BK297.out 6
                have hfz15_7 := blk_frozen BK297.out 7
                go_wp2_with (first | (go_at_call 60; (with_reducible refine (impl_versionOK.calls a0_1 true _ A6.out).mono ?_); rintro e w' ⟨rfl, ⟨nd, rfl⟩⟩))
                go_meet
                case rel => exact ⟨_, (true), (by first | rfl | (simp; done) | (simp [*]; done)), H', ⟨by first | omega | exact Nat.le_refl _⟩, ⟨by (with_reducible repeat (first | refine blk_drewN ?_ _ | refine blk_drew ?_ | refine blk_alloc ?_ _)); exact BK297.out⟩, ⟨by repeat (first | (with_reducible first | exact HB.out | apply below_alloc | apply pw_below_drewN | apply below_drew1 | refine below_set ?_ GE297.out) | exact HB.out)⟩⟩
              · rw [if_neg c14] at H
                have c14b0 : decide (64 < (l0_4.length : Int)) = false := decide_eq_false c14
                have c14b1 : decide (64 < l0_4.length) = false := decide_eq_false (by omega)
                clear c14
                by_cases c16 : a0_5 = 0
                · rw [if_pos c16] at H
                  have c16b0 : (a0_5 == 0) = true := beq_iff_eq.mpr c16
                  have c16b1 : (a0_5 != 0) = false := bne_eq_false_iff_eq.mpr c16
                  clear c16
                  by_cases c17 : a0_6 = 0
                  · rw [if_pos c17] at H
                    have c17b0 : (a0_6 == 0) = true := beq_iff_eq.mpr c17
                    have c17b1 : (a0_6 != 0) = false := bne_eq_false_iff_eq.mpr c17
                    clear c17
                    by_cases c18 : a0_7 = 0
                    · rw [if_pos c18] at H
                      have c18b0 : (a0_7 == 0) = true := beq_iff_eq.mpr c18
                      have c18b1 : (a0_7 != 0) = false := bne_eq_false_iff_eq.mpr c18
                      clear c18
                      have H' := Aside0.mk H
                      clear H
                      have hcz19_0 : w4.cell? ⟨gb297, 0, none⟩ = some (.int .i64 a0_0) := (blk_cell BK297.out 0).trans rfl
                      have hcz19_1 : w4.cell? ⟨gb297, 1, none⟩ = some (.int .i64 a0_1) := (blk_cell BK297.out 1).trans rfl
                      have hcz19_2 : w4.cell? ⟨gb297, 2, none⟩ = some (.slice A0_2 l0_2.length c0_2) := (blk_cell BK297.out 2).trans rfl
                      have hcz19_3 : w4.cell? ⟨gb297, 3, none⟩ = some (.slice A0_3 l0_3.length c0_3) := (blk_cell BK297.out 3).trans rfl
                      have hcz19_4 : w4.cell? ⟨gb297, 4, none⟩ = some (.slice A0_4 l0_4.length c0_4) := (blk_cell BK297.out 4).trans rfl
                      have hcz19_5 : w4.cell? ⟨gb297, 5, none⟩ = some (.int .i64 a0_5) := (blk_cell BK297.out 5).trans rfl
                      have hcz19_6 : w4.cell? ⟨gb297, 6, none⟩ = some (.int .i64 a0_6) := (blk_cell BK297.out 6).trans rfl
                      have hcz19_7 : w4.cell? ⟨gb297, 7, none⟩ = some (.int .i64 a0_7) := (blk_cell BK297.out 7).trans rfl
                      have hfz19_0 := blk_frozen BK297.out 0
                      have hfz19_1 := blk_frozen BK297.out 1
                      have hfz19_2 := blk_frozen BK297.out 2
                      have hfz19_3 := blk_frozen BK297.out 3
                      have hfz19_4 := blk_frozen BK297.out 4
                      have hfz19_5 := blk_frozen BK297.out 5
                      have hfz19_6 := blk_frozen BK297.out 6
                      have hfz19_7 := blk_frozen BK297.out 7
                      go_wp2_with (first | (go_at_call 60; (with_reducible refine (impl_versionOK.calls a0_1 true _ A6.out).mono ?_); rintro e w' ⟨rfl, ⟨nd, rfl⟩⟩))
                      go_meet
                      case rel => exact ⟨_, (decide ((l1.length : Int) > 8)), (by first | rfl | (simp; done) | (simp [*]; done)), H', ⟨by first | omega | exact Nat.le_refl _⟩, ⟨by (with_reducible repeat (first | refine blk_drewN ?_ _ | refine blk_drew ?_ | refine blk_alloc ?_ _)); exact BK297.out⟩, ⟨by repeat (first | (with_reducible first | exact HB.out | apply below_alloc | apply pw_below_drewN | apply below_drew1 | refine below_set ?_ GE297.out) | exact HB.out)⟩⟩
                    · rw [if_neg c18] at H
                      have c18b0 : (a0_7 == 0) = false := beq_eq_false_iff_ne.mpr c18
                      have c18b1 : (a0_7 != 0) = true := bne_iff_ne.mpr c18
                      have H' := Aside0.mk H
                      clear H
                      have hcz20_0 : w4.cell? ⟨gb297, 0, none⟩ = some (.int .i64 a0_0) := (blk_cell BK297.out 0).trans rfl
                      have hcz20_1 : w4.cell? ⟨gb297, 1, none⟩ = some (.int .i64 a0_1) := (blk_cell BK297.out 1).trans rfl
                      have hcz20_2 : w4.cell? ⟨gb297, 2, none⟩ = some (.slice A0_2 l0_2.length c0_2) := (blk_cell BK297.out 2).trans rfl
                      have hcz20_3 : w4.cell? ⟨gb297, 3, none⟩ = some (.slice A0_3 l0_3.length c0_3) := (blk_cell BK297.out 3).trans rfl
                      have hcz20_4 : w4.cell? ⟨gb297, 4, none⟩ = some (.slice A0_4 l0_4.length c0_4) := (blk_cell BK297.out 4).trans rfl
                      have hcz20_5 : w4.cell? ⟨gb297, 5, none⟩ = some (.int .i64 a0_5) := (blk_cell BK297.out 5).trans rfl
                      have hcz20_6 : w4.cell? ⟨gb297, 6, none⟩ = some (.int .i64 a0_6) := (blk_cell BK297.out 6).trans rfl
                      have hcz20_7 : w4.cell? ⟨gb297, 7, none⟩ = some (.int .i64 a0_7) := (blk_cell BK297.out 7).trans rfl
                      have hfz20_0 := blk_frozen BK297.out 0
                      have hfz20_1 := blk_frozen BK297.out 1
                      have hfz20_2 := blk_frozen BK297.out 2
                      have hfz20_3 := blk_frozen BK297.out 3
                      have hfz20_4 := blk_frozen BK297.out 4
                      have hfz20_5 := blk_frozen BK297.out 5
                      have hfz20_6 := blk_frozen BK297.out 6
                      have hfz20_7 := blk_frozen BK297.out 7
                      go_wp2_with (first | (go_at_call 60; (with_reducible refine (impl_versionOK.calls a0_1 true _ A6.out).mono ?_); rintro e w' ⟨rfl, ⟨nd, rfl⟩⟩))
                      go_meet
                      case rel => exact ⟨_, (true), (by first | rfl | (simp; done) | (simp [*]; done)), H', ⟨by first | omega | exact Nat.le_refl _⟩, ⟨by (with_reducible repeat (first | refine blk_drewN ?_ _ | refine blk_drew ?_ | refine blk_alloc ?_ _)); exact BK297.out⟩, ⟨by repeat (first | (with_reducible first | exact HB.out | apply below_alloc | apply pw_below_drewN | apply below_drew1 | refine below_set ?_ GE297.out) | exact HB.out)⟩⟩
                  · rw [if_neg c17] at H
                    have c17b0 : (a0_6 == 0) = false := beq_eq_false_iff_ne.mpr c17
                    have c17b1 : (a0_6 != 0) = true := bne_iff_ne.mpr c17
                    have H' := Aside0.mk H
                    clear H
                    have hcz21_0 : w4.cell? ⟨gb297, 0, none⟩ = some (.int .i64 a0_0) := (blk_cell BK297.out 0).trans rfl
                    have hcz21_1 : w4.cell? ⟨gb297, 1, none⟩ = some (.int .i64 a0_1) := (blk_cell BK297.out 1).trans rfl
                    have hcz21_2 : w4.cell? ⟨gb297, 2, none⟩ = some (.slice A0_2 l0_2.length c0_2) := (blk_cell BK297.out 2).trans rfl
                    have hcz21_3 : w4.cell? ⟨gb297, 3, none⟩ = some (.slice A0_3 l0_3.length c0_3) := (blk_cell BK297.out 3).trans rfl
                    have hcz21_4 : w4.cell? ⟨gb297, 4, none⟩ = some (.slice A0_4 l0_4.length c0_4) := (blk_cell BK297.out 4).trans rfl
                    have hcz21_5 : w4.cell? ⟨gb297, 5, none⟩ = some (.int .i64 a0_5) := (blk_cell BK297.out 5).trans rfl
                    have hcz21_6 : w4.cell? ⟨gb297, 6, none⟩ = some (.int .i64 a0_6) := (blk_cell BK297.out 6).trans rfl
                    have hcz21_7 : w4.cell? ⟨gb297, 7, none⟩ = some (.int .i64 a0_7) := (blk_cell BK297.out 7).trans rfl
                    have hfz21_0 := blk_frozen BK297.out 0
                    have hfz21_1 := blk_frozen BK297.out 1
                    have hfz21_2 := blk_frozen BK297.out 2
                    have hfz21_3 := blk_frozen BK297.out 3
                    have hfz21_4 := blk_frozen BK297.out 4
                    have hfz21_5 := blk_frozen BK297.out 5
                    have hfz21_6 := blk_frozen BK297.out 6
                    have hfz21_7 := blk_frozen BK297.out 7
                    go_wp2_with (first | (go_at_call 60; (with_reducible refine (impl_versionOK.calls a0_1 true _ A6.out).mono ?_); rintro e w' ⟨rfl, ⟨nd, rfl⟩⟩))
                    go_meet
                    case rel => exact ⟨_, (true), (by first | rfl | (simp; done) | (simp [*]; done)), H', ⟨by first | omega | exact Nat.le_refl _⟩, ⟨by (with_reducible repeat (first | refine blk_drewN ?_ _ | refine blk_drew ?_ | refine blk_alloc ?_ _)); exact BK297.out⟩, ⟨by repeat (first | (with_reducible first | exact HB.out | apply below_alloc | apply pw_below_drewN | apply below_drew1 | refine below_set ?_ GE297.out) | exact HB.out)⟩⟩
                · rw [if_neg c16] at H
                  have c16b0 : (a0_5 == 0) = false := beq_eq_false_iff_ne.mpr c16
                  have c16b1 : (a0_5 != 0) = true := bne_iff_ne.mpr c16
                  have H' := Aside0.mk H
                  clear H
                  have hcz22_0 : w4.cell? ⟨gb297, 0, none⟩ = some (.int .i64 a0_0) := (blk_cell BK297.out 0).trans rfl
                  have hcz22_1 : w4.cell? ⟨gb297, 1, none⟩ = some (.int .i64 a0_1) := (blk_cell BK297.out 1).trans rfl
                  have hcz22_2 : w4.cell? ⟨gb297, 2, none⟩ = some (.slice A0_2 l0_2.length c0_2) := (blk_cell BK297.out 2).trans rfl
                  have hcz22_3 : w4.cell? ⟨gb297, 3, none⟩ = some (.slice A0_3 l0_3.length c0_3) := (blk_cell BK297.out 3).trans rfl
                  have hcz22_4 : w4.cell? ⟨gb297, 4, none⟩ = some (.slice A0_4 l0_4.length c0_4) := (blk_cell BK297.out 4).trans rfl
                  have hcz22_5 : w4.cell? ⟨gb297, 5, none⟩ = some (.int .i64 a0_5) := (blk_cell BK297.out 5).trans rfl
                  have hcz22_6 : w4.cell? ⟨gb297, 6, none⟩ = some (.int .i64 a0_6) := (blk_cell BK297.out 6).trans rfl
                  have hcz22_7 : w4.cell? ⟨gb297, 7, none⟩ = some (.int .i64 a0_7) := (blk_cell BK297.out 7).trans rfl
                  have hfz22_0 := blk_frozen BK297.out 0
                  have hfz22_1 := blk_frozen BK297.out 1
                  have hfz22_2 := blk_frozen BK297.out 2
                  have hfz22_3 := blk_frozen BK297.out 3
                  have hfz22_4 := blk_frozen BK297.out 4
                  have hfz22_5 := blk_frozen BK297.out 5
                  have hfz22_6 := blk_frozen BK297.out 6
                  have hfz22_7 := blk_frozen BK297.out 7
                  go_wp2_with (first | (go_at_call 60; (with_reducible refine (impl_versionOK.calls a0_1 true _ A6.out).mono ?_); rintro e w' ⟨rfl, ⟨nd, rfl⟩⟩))
                  go_meet
                  case rel => exact ⟨_, (true), (by first | rfl | (simp; done) | (simp [*]; done)), H', ⟨by first | omega | exact Nat.le_refl _⟩, ⟨by (with_reducible repeat (first | refine blk_drewN ?_ _ | refine blk_drew ?_ | refine blk_alloc ?_ _)); exact BK297.out⟩, ⟨by repeat (first | (with_reducible first | exact HB.out | apply below_alloc | apply pw_below_drewN | apply below_drew1 | refine below_set ?_ GE297.out) | exact HB.out)⟩⟩
      · replace c7 := Bool.eq_false_iff.mpr c7
        subst c7
        have H1 : (impl_RetryPacket.j0 k l1 true a0_0 a0_1 l0_2 l0_3 l0_4 a0_5 a0_6 a0_7) = some (r1, r2) := by rw [if_neg (show ¬ (false = true) by decide)] at H; exact H
        clear H
        have H := H1
        clear H1
        have H' := Aside0.mk H
        clear H
        have hcz23_0 : w4.cell? ⟨gb297, 0, none⟩ = some (.int .i64 a0_0) := (blk_cell BK297.out 0).trans rfl
        have hcz23_1 : w4.cell? ⟨gb297, 1, none⟩ = some (.int .i64 a0_1) := (blk_cell BK297.out 1).trans rfl
        have hcz23_2 : w4.cell? ⟨gb297, 2, none⟩ = some (.slice A0_2 l0_2.length c0_2) := (blk_cell BK297.out 2).trans rfl
        have hcz23_3 : w4.cell? ⟨gb297, 3, none⟩ = some (.slice A0_3 l0_3.length c0_3) := (blk_cell BK297.out 3).trans rfl
        have hcz23_4 : w4.cell? ⟨gb297, 4, none⟩ = some (.slice A0_4 l0_4.length c0_4) := (blk_cell BK297.out 4).trans rfl
        have hcz23_5 : w4.cell? ⟨gb297, 5, none⟩ = some (.int .i64 a0_5) := (blk_cell BK297.out 5).trans rfl
        have hcz23_6 : w4.cell? ⟨gb297, 6, none⟩ = some (.int .i64 a0_6) := (blk_cell BK297.out 6).trans rfl
        have hcz23_7 : w4.cell? ⟨gb297, 7, none⟩ = some (.int .i64 a0_7) := (blk_cell BK297.out 7).trans rfl
        have hfz23_0 := blk_frozen BK297.out 0
        have hfz23_1 := blk_frozen BK297.out 1
        have hfz23_2 := blk_frozen BK297.out 2
        have hfz23_3 := blk_frozen BK297.out 3
        have hfz23_4 := blk_frozen BK297.out 4
        have hfz23_5 := blk_frozen BK297.out 5
        have hfz23_6 := blk_frozen BK297.out 6
        have hfz23_7 := blk_frozen BK297.out 7
        go_wp2_with (first | (go_at_call 60; (with_reducible refine (impl_versionOK.calls a0_1 false _ A6.out).mono ?_); rintro e w' ⟨rfl, ⟨nd, rfl⟩⟩))
        go_meet
        case rel => exact ⟨_, (true), (by first | rfl | (simp; done) | (simp [*]; done)), H', ⟨by first | omega | exact Nat.le_refl _⟩, ⟨by (with_reducible repeat (first | refine blk_drewN ?_ _ | refine blk_drew ?_ | refine blk_alloc ?_ _)); exact BK297.out⟩, ⟨by repeat (first | (with_reducible first | exact HB.out | apply below_alloc | apply pw_below_drewN | apply below_drew1 | refine below_set ?_ GE297.out) | exact HB.out)⟩⟩
    · rw [if_neg c5] at H
      have c5b0 : (a0_0 == 3) = false := beq_eq_false_iff_ne.mpr c5
      have c5b1 : (a0_0 != 3) = true := bne_iff_ne.mpr c5
      (first | rw [c5b0] | (simp only [i64_w, i32_w]; rw [c5b0]) | skip)
      have H' := Aside0.mk H
      clear H
      have hcz24_0 : w4.cell? ⟨gb297, 0, none⟩ = some (.int .i64 a0_0) := (blk_cell BK297.out 0).trans rfl
      have hcz24_1 : w4.cell? ⟨gb297, 1, none⟩ = some (.int .i64 a0_1) := (blk_cell BK297.out 1).trans rfl
      have hcz24_2 : w4.cell? ⟨gb297, 2, none⟩ = some (.slice A0_2 l0_2.length c0_2) := (blk_cell BK297.out 2).trans rfl
      have hcz24_3 : w4.cell? ⟨gb297, 3, none⟩ = some (.slice A0_3 l0_3.length c0_3) := (blk_cell BK297.out 3).trans rfl
      have hcz24_4 : w4.cell? ⟨gb297, 4, none⟩ = some (.slice A0_4 l0_4.length c0_4) := (blk_cell BK297.out 4).trans rfl
      have hcz24_5 : w4.cell? ⟨gb297, 5, none⟩ = some (.int .i64 a0_5) := (blk_cell BK297.out 5).trans rfl
      have hcz24_6 : w4.cell? ⟨gb297, 6, none⟩ = some (.int .i64 a0_6) := (blk_cell BK297.out 6).trans rfl
      have hcz24_7 : w4.cell? ⟨gb297, 7, none⟩ = some (.int .i64 a0_7) := (blk_cell BK297.out 7).trans rfl
      have hfz24_0 := blk_frozen BK297.out 0
      have hfz24_1 := blk_frozen BK297.out 1
      have hfz24_2 := blk_frozen BK297.out 2
      have hfz24_3 := blk_frozen BK297.out 3
      have hfz24_4 := blk_frozen BK297.out 4
      have hfz24_5 := blk_frozen BK297.out 5
      have hfz24_6 := blk_frozen BK297.out 6
      have hfz24_7 := blk_frozen BK297.out 7
      go_wp2
      go_meet
      case rel => exact ⟨_, (true), (by first | rfl | (simp; done) | (simp [*]; done)), H', ⟨by first | omega | exact Nat.le_refl _⟩, ⟨by (with_reducible repeat (first | refine blk_drewN ?_ _ | refine blk_drew ?_ | refine blk_alloc ?_ _)); exact BK297.out⟩, ⟨by repeat (first | (with_reducible first | exact HB.out | apply below_alloc | apply pw_below_drewN | apply below_drew1 | refine below_set ?_ GE297.out) | exact HB.out)⟩⟩
  case rest =>
    clear HC3
    try clear c1
    try clear p2
    try clear c3
    try clear c5
    try clear c5b0
    try clear c5b1
    try clear c7
    try clear c8
    try clear c8b0
    try clear c8b1
    try clear c10
    try clear c10b0
    try clear c10b1
    try clear c12
    try clear c12b0
    try clear c12b1
    try clear c14
    try clear c14b0
    try clear c14b1
    try clear c16
    try clear c16b0
    try clear c16b1
    try clear c17
    try clear c17b0
    try clear c17b1
    try clear c18
    try clear c18b0
    try clear c18b1
    try clear hcz11_0
    try clear hcz11_1
    try clear hcz11_2
    try clear hcz11_3
    try clear hcz11_4
    try clear hcz11_5
    try clear hcz11_6
    try clear hcz11_7
    try clear hcz13_0
    try clear hcz13_1
    try clear hcz13_2
    try clear hcz13_3
    try clear hcz13_4
    try clear hcz13_5
    try clear hcz13_6
    try clear hcz13_7
    try clear hcz15_0
    try clear hcz15_1
    try clear hcz15_2
    try clear hcz15_3
    try clear hcz15_4
    try clear hcz15_5
    try clear hcz15_6
    try clear hcz15_7
    try clear hcz19_0
    try clear hcz19_1
    try clear hcz19_2
    try clear hcz19_3
    try clear hcz19_4
    try clear hcz19_5
    try clear hcz19_6
    try clear hcz19_7
    try clear hcz20_0
    try clear hcz20_1
    try clear hcz20_2
    try clear hcz20_3
    try clear hcz20_4
    try clear hcz20_5
    try clear hcz20_6
    try clear hcz20_7
    try clear hcz21_0
    try clear hcz21_1
    try clear hcz21_2
    try clear hcz21_3
    try clear hcz21_4
    try clear hcz21_5
    try clear hcz21_6
    try clear hcz21_7
    try clear hcz22_0
    try clear hcz22_1
    try clear hcz22_2
    try clear hcz22_3
    try clear hcz22_4
    try clear hcz22_5
    try clear hcz22_6
    try clear hcz22_7
    try clear hcz23_0
    try clear hcz23_1
    try clear hcz23_2
    try clear hcz23_3
    try clear hcz23_4
    try clear hcz23_5
    try clear hcz23_6
    try clear hcz23_7
    try clear hcz24_0
    try clear hcz24_1
    try clear hcz24_2
    try clear hcz24_3
    try clear hcz24_4
    try clear hcz24_5
    try clear hcz24_6
    try clear hcz24_7
    try clear hcz9_0
    try clear hcz9_1
    try clear hcz9_2
    try clear hcz9_3
    try clear hcz9_4
    try clear hcz9_5
    try clear hcz9_6
    try clear hcz9_7
    try clear hfz11_0
    try clear hfz11_1
    try clear hfz11_2
    try clear hfz11_3
    try clear hfz11_4
    try clear hfz11_5
    try clear hfz11_6
    try clear hfz11_7
    try clear hfz13_0
    try clear hfz13_1
    try clear hfz13_2
    try clear hfz13_3
    try clear hfz13_4
    try clear hfz13_5
    try clear hfz13_6
    try clear hfz13_7
    try clear hfz15_0
    try clear hfz15_1
    try clear hfz15_2
    try clear hfz15_3
    try clear hfz15_4
    try clear hfz15_5
    try clear hfz15_6
    try clear hfz15_7
    try clear hfz19_0
    try clear hfz19_1
    try clear hfz19_2
    try clear hfz19_3
    try clear hfz19_4
    try clear hfz19_5
    try clear hfz19_6
    try clear hfz19_7
    try clear hfz20_0
    try clear hfz20_1
    try clear hfz20_2
    try clear hfz20_3
    try clear hfz20_4
    try clear hfz20_5
    try clear hfz20_6
    try clear hfz20_7
    try clear hfz21_0
    try clear hfz21_1
    try clear hfz21_2
    try clear hfz21_3
    try clear hfz21_4
    try clear hfz21_5
    try clear hfz21_6
    try clear hfz21_7
    try clear hfz22_0
    try clear hfz22_1
    try clear hfz22_2
    try clear hfz22_3
    try clear hfz22_4
    try clear hfz22_5
    try clear hfz22_6
    try clear hfz22_7
    try clear hfz23_0
    try clear hfz23_1
    try clear hfz23_2
    try clear hfz23_3
    try clear hfz23_4
    try clear hfz23_5
    try clear hfz23_6
    try clear hfz23_7
    try clear hfz24_0
    try clear hfz24_1
    try clear hfz24_2
    try clear hfz24_3
    try clear hfz24_4
    try clear hfz24_5
    try clear hfz24_6
    try clear hfz24_7
    try clear hfz9_0
    try clear hfz9_1
    try clear hfz9_2
    try clear hfz9_3
    try clear hfz9_4
    try clear hfz9_5
    try clear hfz9_6
    try clear hfz9_7
    obtain ⟨kq, x59_2, rfl, HA, HJ2, BK297, HB⟩ := hcut
    cases kq with
    | zero => exact absurd HA.out (by simp [impl_RetryPacket.j0])
    | succ kj2 =>
      have H := HA.out
      clear HA
      simp only [impl_RetryPacket.j0] at H
      by_cases c25 : x59_2 = true
      · subst c25
        have H1 : (some (([] : List Int), 1)) = some (r1, r2) := by rw [if_pos rfl] at H; exact H
        clear H
        have H := H1
        clear H1
        simp only [Option.some.injEq, Prod.mk.injEq] at H
        obtain ⟨rfl, rfl⟩ := H
        go_wp2
        go_ret2
        exact ⟨_, by first | rfl | (simp [errW_none, errW_some] <;> rfl) | (simp [*, errW_none, errW_some] <;> rfl), by first | exact Kd.R_nil _ _ _ _ _ | exact Kd.N_nil _ _ _ _ _ | exact Kd.V_nil _ _ _ _ _ | exact Kd.Q_nil _ _ _ _ _ | exact Kd.S_nil _ _ _ _ _, by repeat (first | (with_reducible first | exact HB.out | apply below_alloc | apply pw_below_drewN | apply below_drew1 | refine below_set ?_ GE297.out) | exact HB.out)⟩
      · replace c25 := Bool.eq_false_iff.mpr c25
        subst c25
        have H1 : ((impl_longBegin.f kj2 240 a0_1 l0_2 l0_3).bind fun t299 => (if t299.length + l0_4.length < 140737488355328 then ((some (t299 ++ l0_4 : List Int)).bind fun y302 => ((impl_retryTag.f kj2 l1 y302).bind fun t305 => (if y302.length + t305.length < 140737488355328 then (some ((y302 ++ t305), 0)) else (none)))) else (none))) = some (r1, r2) := by rw [if_neg (show ¬ (false = true) by decide)] at H; exact H
        clear H
        have H := H1
        clear H1
        replace H := Option.bind_eq_some_iff.mp H
        obtain ⟨t299, A260, H⟩ := H
        replace H : (if t299.length + l0_4.length < 140737488355328 then ((some (t299 ++ l0_4 : List Int)).bind fun y302 => ((impl_retryTag.f kj2 l1 y302).bind fun t305 => (if y302.length + t305.length < 140737488355328 then (some ((y302 ++ t305), 0)) else (none)))) else (none)) = some (r1, r2) := H
        have A26 := Aside0.mk A260
        clear A260
        by_cases c27 : t299.length + l0_4.length < 140737488355328
        · rw [if_pos c27] at H
          have LMc27 := Aside0.mk c27
          clear c27
          obtain ⟨y302, hy302⟩ : ∃ y_ : List Int, y_ = (t299 ++ l0_4) := ⟨_, rfl⟩
          replace H : ((impl_retryTag.f kj2 l1 y302).bind fun t305 => (if y302.length + t305.length < 140737488355328 then (some ((y302 ++ t305), 0)) else (none))) = some (r1, r2) := by first | (rw [hy302]; with_reducible exact H) | (have H2_ := (Option.bind_some _ _).symm.trans H; rw [hy302]; with_reducible exact H2_) | (have H2_ := (Option.bind_some _ _).symm.trans H; with_reducible exact H2_) | with_reducible exact H | (rw [hy302]; exact H) | exact H
          have Ny302 := Aside0.mk hy302
          clear hy302
          replace H := Option.bind_eq_some_iff.mp H
          obtain ⟨t305, A280, H⟩ := H
          replace H : (if y302.length + t305.length < 140737488355328 then (some ((y302 ++ t305), 0)) else (none)) = some (r1, r2) := H
          have A28 := Aside0.mk A280
          clear A280
          by_cases c29 : y302.length + t305.length < 140737488355328
          · rw [if_pos c29] at H
            have LMc29 := Aside0.mk c29
            clear c29
            obtain ⟨y308, hy308⟩ : ∃ y_ : List Int, y_ = (y302 ++ t305) := ⟨_, rfl⟩
            replace H : (some (y308, 0)) = some (r1, r2) := by first | (rw [hy308]; with_reducible exact H) | (have H2_ := (Option.bind_some _ _).symm.trans H; rw [hy308]; with_reducible exact H2_) | (have H2_ := (Option.bind_some _ _).symm.trans H; with_reducible exact H2_) | with_reducible exact H | (rw [hy308]; exact H) | exact H
            have Ny308 := Aside0.mk hy308
            clear hy308
            simp only [Option.some.injEq, Prod.mk.injEq] at H
            obtain ⟨rfl, rfl⟩ := H
            try go_wp2
            have n0_ := Aside0.mk (blk_drew BK297.out)
            have n1_ := Aside0.mk (below_drew1 HB.out)
            clear BK297
            clear HB
            have BK297 := n0_
            have HB := n1_
            clear n0_ n1_
            refine start_ (n := 11) (S := fun w' => w'.cell? ⟨gb297, 0, none⟩ = some (.int .i64 a0_0) ∧ w'.cell? ⟨gb297, 1, none⟩ = some (.int .i64 a0_1) ∧ w'.cell? ⟨gb297, 2, none⟩ = some (.slice A0_2 l0_2.length c0_2) ∧ w'.cell? ⟨gb297, 3, none⟩ = some (.slice A0_3 l0_3.length c0_3) ∧ w'.cell? ⟨gb297, 4, none⟩ = some (.slice A0_4 l0_4.length c0_4) ∧ w'.cell? ⟨gb297, 5, none⟩ = some (.int .i64 a0_5) ∧ w'.cell? ⟨gb297, 6, none⟩ = some (.int .i64 a0_6) ∧ w'.cell? ⟨gb297, 7, none⟩ = some (.int .i64 a0_7)) (ds := []) #[false, false, false, false, false, false, false, false, false, false, false] (by kernel_rfl) rfl rfl ⟨(blk_cell BK297.out 0).trans rfl, (blk_cell BK297.out 1).trans rfl, (blk_cell BK297.out 2).trans rfl, (blk_cell BK297.out 3).trans rfl, (blk_cell BK297.out 4).trans rfl, (blk_cell BK297.out 5).trans rfl, (blk_cell BK297.out 6).trans rfl, (blk_cell BK297.out 7).trans rfl⟩ (fun hHeld => ?_); refine with_tabW impl_RetryPacket.tab3 impl_RetryPacket.bits3 (fun HT_ HW_ => ?_)
            generalize wc.drew = w30 at BK297 HB hHeld ⊢
            refine pure_ (i := 0) (N := some 60) (v := ?_) (a' := ?_) #[true, false, false, false, false, false, false, false, false, false, false] rfl rfl (any_of HT_.out (by kernel_rfl)) (fun _ _ _ h => h) (Or.inl ⟨by rfl, ?_⟩) ?_ ?_
            rotate_left
            · intro w'
              go_simp
              with_reducible rfl
            rotate_left
            · simp only [Act.put, List.setIfInBounds_toArray, List.set_cons_zero, List.set_cons_succ, i64_w, i32_w]
              rfl
            refine pure_ (i := 2) (N := some 62) (v := ?_) (a' := ?_) #[true, false, true, false, false, false, false, false, false, false, false] rfl rfl (any_of HT_.out (by kernel_rfl)) (fun _ _ _ h => h) (Or.inl ⟨by rfl, ?_⟩) ?_ ?_
            rotate_left
            · intro w'
              go_simp
              with_reducible rfl
            rotate_left
            · simp only [Act.put, List.setIfInBounds_toArray, List.set_cons_zero, List.set_cons_succ, i64_w, i32_w]
              rfl
            refine pure_ (i := 4) (N := some 64) (v := ?_) (a' := ?_) #[true, false, true, false, true, false, false, false, false, false, false] rfl rfl (any_of HT_.out (by kernel_rfl)) (fun _ _ _ h => h) (Or.inl ⟨by rfl, ?_⟩) ?_ ?_
            rotate_left
            · intro w'
              go_simp
              with_reducible rfl
            rotate_left
            · simp only [Act.put, List.setIfInBounds_toArray, List.set_cons_zero, List.set_cons_succ, i64_w, i32_w]
              rfl
            refine pure_ (i := 7) (N := some 67) (v := ?_) (a' := ?_) #[true, false, true, false, true, false, false, true, false, false, false] rfl rfl (any_of HT_.out (by kernel_rfl)) (fun _ _ _ h => h) (Or.inl ⟨by rfl, ?_⟩) ?_ ?_
            rotate_left
            · intro w'
              go_simp
              with_reducible rfl
            rotate_left
            · simp only [Act.put, List.setIfInBounds_toArray, List.set_cons_zero, List.set_cons_succ, i64_w, i32_w]
              rfl
            refine take_ (i := 1) (N := some 61) (v := ?_) (a' := ?_) #[true, true, true, false, true, false, false, true, false, false, false] rfl rfl (take_ofW HT_.out HW_.out (by kernel_rfl)) (fun _ _ _ h => h) (Or.inl ⟨by rfl, ?_⟩) hHeld ?_ ?_
            rotate_left
            · rintro w' ⟨s0, s1, s2, s3, s4, s5, s6, s7⟩
              go_simp
              with_reducible rfl
            rotate_left
            · simp only [Act.put, List.setIfInBounds_toArray, List.set_cons_zero, List.set_cons_succ, i64_w, i32_w]
              rfl
            refine take_ (i := 3) (N := some 63) (v := ?_) (a' := ?_) #[true, true, true, true, true, false, false, true, false, false, false] rfl rfl (take_ofW HT_.out HW_.out (by kernel_rfl)) (fun _ _ _ h => h) (Or.inl ⟨by rfl, ?_⟩) hHeld ?_ ?_
            rotate_left
            · rintro w' ⟨s0, s1, s2, s3, s4, s5, s6, s7⟩
              go_simp
              with_reducible rfl
            rotate_left
            · simp only [Act.put, List.setIfInBounds_toArray, List.set_cons_zero, List.set_cons_succ, i64_w, i32_w]
              rfl
            refine take_ (i := 5) (N := some 65) (v := ?_) (a' := ?_) #[true, true, true, true, true, true, false, true, false, false, false] rfl rfl (take_ofW HT_.out HW_.out (by kernel_rfl)) (fun _ _ _ h => h) (Or.inl ⟨by rfl, ?_⟩) hHeld ?_ ?_
            rotate_left
            · rintro w' ⟨s0, s1, s2, s3, s4, s5, s6, s7⟩
              go_simp
              with_reducible rfl
            rotate_left
            · simp only [Act.put, List.setIfInBounds_toArray, List.set_cons_zero, List.set_cons_succ, i64_w, i32_w]
              rfl
            refine take_ (i := 8) (N := some 68) (v := ?_) (a' := ?_) #[true, true, true, true, true, true, false, true, true, false, false] rfl rfl (take_ofW HT_.out HW_.out (by kernel_rfl)) (fun _ _ _ h => h) (Or.inl ⟨by rfl, ?_⟩) hHeld ?_ ?_
            rotate_left
            · rintro w' ⟨s0, s1, s2, s3, s4, s5, s6, s7⟩
              go_simp
              with_reducible rfl
            rotate_left
            · simp only [Act.put, List.setIfInBounds_toArray, List.set_cons_zero, List.set_cons_succ, i64_w, i32_w]
              rfl
            refine one_ (i := 6) (N := some 66) #[true, true, true, true, true, true, true, true, true, false, false] rfl rfl (one_of HT_.out (by kernel_rfl)) (by decide) (fun K hK => ?_)
            refine goes_ Try.func61 (by kernel_rfl) rfl #[.int .u8 240, .int .i64 a0_1, .slice A0_2 l0_2.length c0_2, .slice A0_3 l0_3.length c0_3] (by rfl) rfl rfl (by (try simp only [List.map_toArray, List.map_cons, List.map_nil]); first | done | rfl | (simp only [List.length_drop, List.length_take]; rfl)) ?_
            with_reducible refine (impl_longBegin.calls kj2 240 a0_1 _ _ l0_2 _ _ l0_3 t299 _ ?side1 ?side2 ?side3 ?side4 A26.out).mono ?_
            (case side1 => repeat (first | exact (Kd.C_below HR0_2.out HB.out) | (with_reducible refine Kd.C_alloc ?_ _) | (with_reducible refine Kd.C_drewN ?_ _) | (with_reducible refine Kd.C_drew ?_)))
            (case side2 => exact HC0_2.out)
            (case side3 => repeat (first | exact (Kd.C_below HR0_3.out HB.out) | (with_reducible refine Kd.C_alloc ?_ _) | (with_reducible refine Kd.C_drewN ?_ _) | (with_reducible refine Kd.C_drew ?_)))
            (case side4 => exact HC0_3.out)
            rintro e w31 ⟨v300, rfl, ho0, hb⟩
            refine ⟨_, rfl, ?_⟩
            have n0_ := Aside0.mk (Kd.R_lower ho0 (below_size (by repeat (first | (with_reducible first | exact HB.out | apply below_alloc | apply pw_below_drewN | apply below_drew1 | refine below_set ?_ GE297.out) | exact HB.out))))
            have n1_ := Aside0.mk (blk_below (g := gb297) (o := .cells #[.int .i64 a0_0, .int .i64 a0_1, .slice A0_2 l0_2.length c0_2, .slice A0_3 l0_3.length c0_3, .slice A0_4 l0_4.length c0_4, .int .i64 a0_5, .int .i64 a0_6, .int .i64 a0_7] 45 (0, 0)) (by (with_reducible repeat (first | refine blk_drewN ?_ _ | refine blk_drew ?_ | refine blk_alloc ?_ _)); exact BK297.out) hb)
            have n2_ := Aside0.mk (below_step (by repeat (first | (with_reducible first | exact HB.out | apply below_alloc | apply pw_below_drewN | apply below_drew1 | refine below_set ?_ GE297.out) | exact HB.out)) hb)
            clear BK297
            clear HB
            have HO301 := n0_
            have BK297 := n1_
            have HB := n2_
            clear n0_ n1_ n2_
            (try clear hb)
            (try clear hb2)
            (try clear hk)
            (try clear hi)
            (try clear ho0)
            refine hK.out _ _ ⟨(blk_cell BK297.out 0).trans rfl, (blk_cell BK297.out 1).trans rfl, (blk_cell BK297.out 2).trans rfl, (blk_cell BK297.out 3).trans rfl, (blk_cell BK297.out 4).trans rfl, (blk_cell BK297.out 5).trans rfl, (blk_cell BK297.out 6).trans rfl, (blk_cell BK297.out 7).trans rfl⟩ (fun hHeld => ?_)
            clear hK K
            refine norm_ (a' := ?_) ?_ ?_
            rotate_left
            · show Act.put _ (some 66) _ = _
              simp only [Act.put, List.setIfInBounds_toArray, List.set_cons_zero, List.set_cons_succ, i64_w, i32_w]
              rfl
            refine one_ (i := 9) (N := some 69) #[true, true, true, true, true, true, true, true, true, true, false] rfl rfl (one_of HT_.out (by kernel_rfl)) (by decide) (fun K hK => ?_)
            refine Kd.R_append_rows_step (Kd.int .u8) (w0 := w) w.heap.size (by rfl) (.tmp 66) (.tmp 68) 22 5 (.int .u8 0) 1 rfl Try.underlying22 info5 rfl (by decide) (by omega) v300 t299 l0_4 _ _ _ (fun _ => True) (fun _ => False) rfl rfl ?aO ?aR (fun _ _ h => h) (fun _ h => h.elim) ?aF ?aB ?aS ?aL ?_
            (case aR => repeat (first | exact (Kd.C_below HR0_4.out HB.out) | (with_reducible refine Kd.C_alloc ?_ _) | (with_reducible refine Kd.C_drewN ?_ _) | (with_reducible refine Kd.C_drew ?_)))
            (case aB => exact (by repeat (first | (with_reducible first | exact HB.out | apply below_alloc | apply pw_below_drewN | apply below_drew1 | refine below_set ?_ GE297.out) | exact HB.out)))
            (case aF => exact (fun _ _ => trivial))
            (case aO => exact (by (with_reducible repeat (first | apply Kd.R_alloc | apply Kd.R_drewN | apply Kd.R_drew)); exact HO301.out))
            (case aS => exact (below_size (by repeat (first | (with_reducible first | exact HB.out | apply below_alloc | apply pw_below_drewN | apply below_drew1 | refine below_set ?_ GE297.out) | exact HB.out))))
            (case aL => have := LMc27.out; omega)
            intro v303 w32 ho hb hg hat
            rw [← Ny302.out] at ho
            have n0_ := Aside0.mk (blk_grown (g := gb297) (o := .cells #[.int .i64 a0_0, .int .i64 a0_1, .slice A0_2 l0_2.length c0_2, .slice A0_3 l0_3.length c0_3, .slice A0_4 l0_4.length c0_4, .int .i64 a0_5, .int .i64 a0_6, .int .i64 a0_7] 45 (0, 0)) (by (with_reducible repeat (first | refine blk_drewN ?_ _ | refine blk_drew ?_ | refine blk_alloc ?_ _)); exact BK297.out) hg (Kd.R_ne HO301.out BK297.out (by decide)))
            have n1_ := Aside0.mk (hb)
            have n2_ := Aside0.mk (ho)
            clear BK297
            clear HB
            clear HO301
            have BK297 := n0_
            have HB := n1_
            have HO304 := n2_
            clear n0_ n1_ n2_
            clear ho hb hg hat
            refine hK.out _ _ ⟨(blk_cell BK297.out 0).trans rfl, (blk_cell BK297.out 1).trans rfl, (blk_cell BK297.out 2).trans rfl, (blk_cell BK297.out 3).trans rfl, (blk_cell BK297.out 4).trans rfl, (blk_cell BK297.out 5).trans rfl, (blk_cell BK297.out 6).trans rfl, (blk_cell BK297.out 7).trans rfl⟩ (fun hHeld => ?_)
            clear hK K
            refine norm_ (a' := ?_) ?_ ?_
            rotate_left
            · show Act.put _ (some 69) _ = _
              simp only [Act.put, List.setIfInBounds_toArray, List.set_cons_zero, List.set_cons_succ, i64_w, i32_w]
              rfl
            refine pure_ (i := 10) (N := some 6) (v := ?_) (a' := ?_) #[true, true, true, true, true, true, true, true, true, true, true] rfl rfl (any_of HT_.out (by kernel_rfl)) (fun _ _ _ h => h) (Or.inl ⟨by rfl, ?_⟩) ?_ ?_
            rotate_left
            · intro w'
              go_simp
              with_reducible rfl
            rotate_left
            · simp only [Act.put, List.setIfInBounds_toArray, List.set_cons_zero, List.set_cons_succ, i64_w, i32_w]
              rfl
            refine done_ (done_of HT_.out (by kernel_rfl)) ?_
            obtain ⟨Ao33, co33, eo33⟩ := Kd.R_slice HO304.out
            subst eo33
            try go_wp2_with (first | ((with_reducible refine gate_callee (f := 62) rfl ?_); refine goesL_ (some 73) rfl rfl Try.func62 (by kernel_rfl) rfl #[.slice A1 l1.length c1, .slice Ao33 y302.length co33] rfl (by (try simp only [List.map_toArray, List.map_cons, List.map_nil]); first | done | rfl | (simp only [List.length_drop, List.length_take]; rfl)) ?_; (with_reducible refine (impl_retryTag.calls kj2 _ _ l1 _ _ y302 t305 _ ?side1 ?side2 ?side3 ?side4 A28.out).mono ?_); (case side1 => repeat (first | exact (Kd.C_below HR1.out HB.out) | (with_reducible refine Kd.C_alloc ?_ _) | (with_reducible refine Kd.C_drewN ?_ _) | (with_reducible refine Kd.C_drew ?_))); (case side2 => exact HC1.out); (case side3 => repeat (first | exact (Kd.R_reads' HO304.out).2.2 | (with_reducible refine Kd.C_alloc ?_ _) | (with_reducible refine Kd.C_drewN ?_ _) | (with_reducible refine Kd.C_drew ?_))); (case side4 => exact (Kd.R_reads' HO304.out).2.1); rintro e w34 ⟨v306, rfl, ho0, hb⟩; refine ⟨_, rfl, ?_⟩; have n0_ := Aside0.mk (Kd.R_elder' (by (with_reducible repeat (first | apply Kd.R_alloc | apply Kd.R_drewN | apply Kd.R_drew)); exact HO304.out) (Kd.R_base ho0) hb); have n1_ := Aside0.mk (Kd.R_lower (Kd.R_new' ho0 (Kd.R_lt (by (with_reducible repeat (first | apply Kd.R_alloc | apply Kd.R_drewN | apply Kd.R_drew)); exact HO304.out))) (below_size (by repeat (first | (with_reducible first | exact HB.out | apply below_alloc | apply pw_below_drewN | apply below_drew1 | refine below_set ?_ GE297.out) | exact HB.out)))); have n2_ := Aside0.mk (blk_below (g := gb297) (o := .cells #[.int .i64 a0_0, .int .i64 a0_1, .slice A0_2 l0_2.length c0_2, .slice A0_3 l0_3.length c0_3, .slice A0_4 l0_4.length c0_4, .int .i64 a0_5, .int .i64 a0_6, .int .i64 a0_7] 45 (0, 0)) (by (with_reducible repeat (first | refine blk_drewN ?_ _ | refine blk_drew ?_ | refine blk_alloc ?_ _)); exact BK297.out) hb); have n3_ := Aside0.mk (below_step (by repeat (first | (with_reducible first | exact HB.out | apply below_alloc | apply pw_below_drewN | apply below_drew1 | refine below_set ?_ GE297.out) | exact HB.out)) hb); clear HO304; clear BK297; clear HB; have HO304 := n0_; have HO307 := n1_; have BK297 := n2_; have HB := n3_; clear n0_ n1_ n2_ n3_; (try clear hb); (try clear hb2); (try clear hk); (try clear hi); (try clear ho0); obtain ⟨Ao36, co36, eo36⟩ := Kd.R_slice HO307.out; subst eo36) | ((with_reducible refine gate_builtin (b := .append) (xs := #[.tmp 70, .tmp 73]) rfl ?_); (try (refine gate_guard (by rfl) ?_; dsimp only)); at_builtin; refine Kd.R_append_rows (Kd.int .u8) (w0 := w) w.heap.size rfl (.tmp 70) (.tmp 73) 22 5 (.int .u8 0) 1 rfl Try.underlying22 info5 rfl (by decide) (by omega) (.slice Ao33 y302.length co33) y302 t305 _ _ _ (fun k_ => some k_ ≠ (.slice Ao36 t305.length co36 : Value).ownBlock) (fun _ => False) rfl rfl ?aO ?aR (fun _ _ h => h) (fun _ h => h.elim) ?aF ?aB ?aS ?aL ?_; (case aR => repeat (first | exact (Kd.R_reads' HO307.out).2.2 | (with_reducible refine Kd.C_alloc ?_ _) | (with_reducible refine Kd.C_drewN ?_ _) | (with_reducible refine Kd.C_drew ?_))); (case aB => exact (by repeat (first | (with_reducible first | exact HB.out | apply below_alloc | apply pw_below_drewN | apply below_drew1 | refine below_set ?_ GE297.out) | exact HB.out))); (case aF => exact (fun k_ hk => Kd.fresh' (Kd.R_lt (by (with_reducible repeat (first | apply Kd.R_alloc | apply Kd.R_drewN | apply Kd.R_drew)); exact HO307.out)) k_ hk)); (case aO => exact (by (with_reducible repeat (first | apply Kd.R_alloc | apply Kd.R_drewN | apply Kd.R_drew)); exact Kd.R_mono HO304.out (fun _ hk => hk.2))); (case aS => exact (below_size (by repeat (first | (with_reducible first | exact HB.out | apply below_alloc | apply pw_below_drewN | apply below_drew1 | refine below_set ?_ GE297.out) | exact HB.out)))); (case aL => have := LMc29.out; omega); intro v309 w35 ho hb hg hat; rw [← Ny308.out] at ho; have n0_ := Aside0.mk (blk_grown (g := gb297) (o := .cells #[.int .i64 a0_0, .int .i64 a0_1, .slice A0_2 l0_2.length c0_2, .slice A0_3 l0_3.length c0_3, .slice A0_4 l0_4.length c0_4, .int .i64 a0_5, .int .i64 a0_6, .int .i64 a0_7] 45 (0, 0)) (by (with_reducible repeat (first | refine blk_drewN ?_ _ | refine blk_drew ?_ | refine blk_alloc ?_ _)); exact BK297.out) hg (Kd.R_ne HO304.out BK297.out (by decide))); have n1_ := Aside0.mk (Kd.R_after (ok := (fun _ => True)) (by (with_reducible repeat (first | apply Kd.R_alloc | apply Kd.R_drewN | apply Kd.R_drew)); exact HO307.out) hg hat); have n2_ := Aside0.mk (hb); have n3_ := Aside0.mk (ho); clear BK297; clear HO307; clear HB; clear HO304; have BK297 := n0_; have HO307 := n1_; have HB := n2_; have HO310 := n3_; clear n0_ n1_ n2_ n3_; clear ho hb hg hat))
            go_ret2
            exact ⟨_, by first | rfl | (simp [errW_none, errW_some] <;> rfl) | (simp [*, errW_none, errW_some] <;> rfl), by (with_reducible repeat (first | apply Kd.R_alloc | apply Kd.R_drewN | apply Kd.R_drew)); exact Kd.R_mono HO310.out (fun _ hk => trivial), by repeat (first | (with_reducible first | exact HB.out | apply below_alloc | apply pw_below_drewN | apply below_drew1 | refine below_set ?_ GE297.out) | exact HB.out)⟩
          · rw [if_neg c29] at H
            exact absurd H (by simp)
        · rw [if_neg c27] at H
          exact absurd H (by simp)

end Go.Proofs.Ytcdkbdkanjifeaa.SFnExactRetryPacket
