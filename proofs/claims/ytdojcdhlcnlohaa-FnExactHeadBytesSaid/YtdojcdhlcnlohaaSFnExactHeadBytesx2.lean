/- The walk of functions that the law FnExactHeadBytes uses, written by program. -/
import Derived.Test.YtdojcdhlcnlohaaSFnExactHeadBytesx0
import Derived.Test.YtdojcdhlcnlohaaSFnExactHeadBytesx1
namespace Go.Proofs.Ytdojcdhlcnlohaa.SFnExactHeadBytes
open Go.RowKit Go.Proofs.YtdojcdhlcnlohaaW.PrintWords Go.Proofs.YtdojcdhlcnlohaaW.PrintLast Go.Proofs.YtdojcdhlcnlohaaW.PrintMore
attribute [local go_sem] max2_int min2_int max_two min_two max_three min_three max_four min_four   -- for this text's walks alone
set_option linter.unusedVariables false
set_option linter.unusedSimpArgs false

/-! ### spec_l04HeaderOK: function 66 -/
def spec_l04HeaderOK.j0 : Nat → Bool → Int → Int → List Int → List Int → List Int → Int → Int → Int → Option (Bool)
 | 0, _, _, _, _, _, _, _, _, _ => none
 | k + 1, x26, x128000, x128001, x128002, x128003, x128004, x128005, x128006, x128007 => if x26 = true then (some false) else (if x128000 = 1 then ((spec_l04VersionOK.f x128001).bind fun t128 => (if t128 = true then (if (x128003.length : Int) ≤ 8 then (if (x128004.length : Int) ≤ 64 then (some (x128007 == 0)) else (some false)) else (some false)) else (some false))) else (if x128000 = 2 then ((spec_l04VersionOK.f x128001).bind fun t129 => (if t129 = true then (if (x128003.length : Int) ≤ 8 then (if (x128004.length : Int) = 0 then (some (x128007 == 0)) else (some false)) else (some false)) else (some false))) else (if x128000 = 4 then (if x128001 = 0 then (if (x128003.length : Int) = 0 then (if (x128004.length : Int) = 0 then (if x128007 = 0 then (some true) else (some (x128007 == 1))) else (some false)) else (some false)) else (some false)) else (some false))))
def spec_l04HeaderOK.f (k : Nat) (a0_0 : Int) (a0_1 : Int) (l0_2 : List Int) (l0_3 : List Int) (l0_4 : List Int) (a0_5 : Int) (a0_6 : Int) (a0_7 : Int) : Option (Bool) := if a0_5 < 0 then (spec_l04HeaderOK.j0 k true a0_0 a0_1 l0_2 l0_3 l0_4 a0_5 a0_6 a0_7) else (if a0_5 > 4611686018427387903 then (spec_l04HeaderOK.j0 k true a0_0 a0_1 l0_2 l0_3 l0_4 a0_5 a0_6 a0_7) else (if a0_6 < 1 then (spec_l04HeaderOK.j0 k true a0_0 a0_1 l0_2 l0_3 l0_4 a0_5 a0_6 a0_7) else (if a0_6 > 4 then (spec_l04HeaderOK.j0 k true a0_0 a0_1 l0_2 l0_3 l0_4 a0_5 a0_6 a0_7) else (spec_l04HeaderOK.j0 k (decide ((l0_2.length : Int) > 8)) a0_0 a0_1 l0_2 l0_3 l0_4 a0_5 a0_6 a0_7))))
theorem spec_l04HeaderOK.mono_l : ∀ k, (∀ y0 y1 y2 y3 y4 y5 y6 y7 y8, LeO (spec_l04HeaderOK.j0 k y0 y1 y2 y3 y4 y5 y6 y7 y8) (spec_l04HeaderOK.j0 (k + 1) y0 y1 y2 y3 y4 y5 y6 y7 y8))
 | 0 => fun _ _ _ _ _ _ _ _ _ r h => by simp [spec_l04HeaderOK.j0] at h
 | k + 1 => by
  have ih0 := spec_l04HeaderOK.mono_l k
  ·intro y0 y1 y2 y3 y4 y5 y6 y7 y8
   unfold spec_l04HeaderOK.j0
   repeat' first
   | (with_reducible exact ih0 _ _ _ _ _ _ _ _ _)
   | (with_reducible exact LeO.refl _)
   | (with_reducible exact LeO.none _)
   | (with_reducible refine LeO.ite ?_ ?_)
   | (with_reducible refine LeO.bind ?_ (fun _ => ?_))
   | exact ih0 _ _ _ _ _ _ _ _ _
   | exact LeO.none _
   | refine LeO.ite ?_ ?_
   | refine LeO.bind ?_ (fun _ => ?_)
theorem spec_l04HeaderOK.mono : ∀ a0 a1 a2 a3 a4 a5 a6 a7 k, LeO (spec_l04HeaderOK.f k a0 a1 a2 a3 a4 a5 a6 a7) (spec_l04HeaderOK.f (k + 1) a0 a1 a2 a3 a4 a5 a6 a7) := by
 intro a0 a1 a2 a3 a4 a5 a6 a7 k
 have ih0 := spec_l04HeaderOK.mono_l k
 unfold spec_l04HeaderOK.f
 repeat' first
   | (with_reducible exact ih0 _ _ _ _ _ _ _ _ _)
   | (with_reducible exact LeO.refl _)
   | (with_reducible exact LeO.none _)
   | (with_reducible refine LeO.ite ?_ ?_)
   | (with_reducible refine LeO.bind ?_ (fun _ => ?_))
   | exact ih0 _ _ _ _ _ _ _ _ _
   | exact LeO.none _
   | refine LeO.ite ?_ ?_
   | refine LeO.bind ?_ (fun _ => ?_)
set_option maxHeartbeats 8000000 in
set_option maxRecDepth 100000 in
theorem spec_l04HeaderOK.calls (k : Nat) (a0_0 : Int) (a0_1 : Int) (A0_2 : Option Addr) (c0_2 : Nat) (l0_2 : List Int) (A0_3 : Option Addr) (c0_3 : Nat) (l0_3 : List Int) (A0_4 : Option Addr) (c0_4 : Nat) (l0_4 : List Int) (a0_5 : Int) (a0_6 : Int) (a0_7 : Int) (r : Bool) (w : World) (hr0_2 : Kd.C (Kd.int .u8) w A0_2 l0_2.length l0_2) (hc0_2 : l0_2.length ≤ c0_2) (hr0_3 : Kd.C (Kd.int .u8) w A0_3 l0_3.length l0_3) (hc0_3 : l0_3.length ≤ c0_3) (hr0_4 : Kd.C (Kd.int .u8) w A0_4 l0_4.length l0_4) (hc0_4 : l0_4.length ≤ c0_4) (h : spec_l04HeaderOK.f k a0_0 a0_1 l0_2 l0_3 l0_4 a0_5 a0_6 a0_7 = some r) :
  Calls Try.prog 66 #[.agg #[.int .i64 a0_0, .int .i64 a0_1, .slice A0_2 l0_2.length c0_2, .slice A0_3 l0_3.length c0_3, .slice A0_4 l0_4.length c0_4, .int .i64 a0_5, .int .i64 a0_6, .int .i64 a0_7]] w fun e w' => e = .returned (.bool r) ∧ Below w.heap.size w w' := by
 have hu42 := Try.underlying42
 have HR0_2 := Aside0.mk hr0_2
 have HC0_2 := Aside0.mk hc0_2
 clear hr0_2 hc0_2
 have HR0_3 := Aside0.mk hr0_3
 have HC0_3 := Aside0.mk hc0_3
 clear hr0_3 hc0_3
 have HR0_4 := Aside0.mk hr0_4
 have HC0_4 := Aside0.mk hc0_4
 clear hr0_4 hc0_4
 have HB := Aside0.mk (Below.refl w.heap.size w)
 have H : (if a0_5 < 0 then (spec_l04HeaderOK.j0 k true a0_0 a0_1 l0_2 l0_3 l0_4 a0_5 a0_6 a0_7) else (if a0_5 > 4611686018427387903 then (spec_l04HeaderOK.j0 k true a0_0 a0_1 l0_2 l0_3 l0_4 a0_5 a0_6 a0_7) else (if a0_6 < 1 then (spec_l04HeaderOK.j0 k true a0_0 a0_1 l0_2 l0_3 l0_4 a0_5 a0_6 a0_7) else (if a0_6 > 4 then (spec_l04HeaderOK.j0 k true a0_0 a0_1 l0_2 l0_3 l0_4 a0_5 a0_6 a0_7) else (spec_l04HeaderOK.j0 k (decide ((l0_2.length : Int) > 8)) a0_0 a0_1 l0_2 l0_3 l0_4 a0_5 a0_6 a0_7))))) = some r := h
 clear h
 have HC2 := Aside0.mk H
 clear H
 go_enter Try.func66, Try.ntmps66
 go_upto_region 1 with (first | ((with_reducible refine gate_dst (N := 1) rfl ?_); (try (refine gate_guard (by rfl) ?_; dsimp only)); refine box_event ?hg (N := 1) ?hd (cs := #[.int .i64 a0_0, .int .i64 a0_1, .slice A0_2 l0_2.length c0_2, .slice A0_3 l0_3.length c0_3, .slice A0_4 l0_4.length c0_4, .int .i64 a0_5, .int .i64 a0_6, .int .i64 a0_7]) (t := 42) ?hr ?_; (case hd => rfl); (case hg => rfl); (case hr => first | (go_simp; done) | (go_simp; rfl)); intro gb127 hg w3 hbox hb; have n0_ := Aside0.mk (below_step (by repeat (first | (with_reducible first | exact HB.out | apply below_alloc | apply pw_below_drewN | apply below_drew1) | exact HB.out)) hb); have n1_ := Aside0.mk (hbox); have n2_ := Aside0.mk ((by rw [hg]; exact (below_size (by repeat (first | (with_reducible first | exact HB.out | apply below_alloc | apply pw_below_drewN | apply below_drew1) | exact HB.out))) : w.heap.size ≤ gb127)); have n3_ := Aside0.mk ((by rw [hg]; exact (below_size (by repeat (first | (with_reducible first | exact HB.out | apply below_alloc | apply pw_below_drewN | apply below_drew1) | exact HB.out))) : w.heap.size ≤ gb127)); clear HB; have HB := n0_; have BK127 := n1_; have GW127 := n2_; have GE127 := n3_; clear n0_ n1_ n2_ n3_; clear hb hbox hg))
 (try simp only [Act.put, List.setIfInBounds_toArray, List.set_cons_zero, List.set_cons_succ])
 go_cut [26] (fun v26 wc => ∃ (kq : Nat) (x26_1 : Bool), v26 = .bool x26_1 ∧ Aside0 (spec_l04HeaderOK.j0 kq x26_1 a0_0 a0_1 l0_2 l0_3 l0_4 a0_5 a0_6 a0_7 = some r) ∧ Aside0 (kq ≤ k) ∧ Aside0 (wc.heap[gb127]? = some (.cells #[.int .i64 a0_0, .int .i64 a0_1, (.slice A0_2 l0_2.length c0_2), (.slice A0_3 l0_3.length c0_3), (.slice A0_4 l0_4.length c0_4), .int .i64 a0_5, .int .i64 a0_6, .int .i64 a0_7] 42 (0, 0))) ∧ Aside0 (Below w.heap.size w wc))
 case first =>
  have H := HC2.out
  clear HC2
  by_cases c4 : a0_5 < 0
  ·rw [if_pos c4] at H
   have c4b0 : decide (a0_5 < 0) = true := decide_eq_true c4
   clear c4
   (first | rw [c4b0] | (simp only [i64_w, i32_w]; rw [c4b0]) | skip)
   have H' := Aside0.mk H
   clear H
   have hcz5_0 : w3.cell? ⟨gb127, 0, none⟩ = some (.int .i64 a0_0) := (blk_cell BK127.out 0).trans rfl
   have hcz5_1 : w3.cell? ⟨gb127, 1, none⟩ = some (.int .i64 a0_1) := (blk_cell BK127.out 1).trans rfl
   have hcz5_2 : w3.cell? ⟨gb127, 2, none⟩ = some (.slice A0_2 l0_2.length c0_2) := (blk_cell BK127.out 2).trans rfl
   have hcz5_3 : w3.cell? ⟨gb127, 3, none⟩ = some (.slice A0_3 l0_3.length c0_3) := (blk_cell BK127.out 3).trans rfl
   have hcz5_4 : w3.cell? ⟨gb127, 4, none⟩ = some (.slice A0_4 l0_4.length c0_4) := (blk_cell BK127.out 4).trans rfl
   have hcz5_5 : w3.cell? ⟨gb127, 5, none⟩ = some (.int .i64 a0_5) := (blk_cell BK127.out 5).trans rfl
   have hcz5_6 : w3.cell? ⟨gb127, 6, none⟩ = some (.int .i64 a0_6) := (blk_cell BK127.out 6).trans rfl
   have hcz5_7 : w3.cell? ⟨gb127, 7, none⟩ = some (.int .i64 a0_7) := (blk_cell BK127.out 7).trans rfl
   have hfz5_0 := blk_frozen BK127.out 0
   have hfz5_1 := blk_frozen BK127.out 1
   have hfz5_2 := blk_frozen BK127.out 2
   have hfz5_3 := blk_frozen BK127.out 3
   have hfz5_4 := blk_frozen BK127.out 4
   have hfz5_5 := blk_frozen BK127.out 5
   have hfz5_6 := blk_frozen BK127.out 6
   have hfz5_7 := blk_frozen BK127.out 7
   go_wp2
   go_meet
   case rel => exact ⟨_, (true), (by first | rfl | (simp; done) | (simp [*]; done)), H', ⟨by first | omega | exact Nat.le_refl _⟩, ⟨by (with_reducible repeat (first | refine blk_drewN ?_ _ | refine blk_drew ?_ | refine blk_alloc ?_ _)); exact BK127.out⟩, ⟨by repeat (first | (with_reducible first | exact HB.out | apply below_alloc | apply pw_below_drewN | apply below_drew1 | refine below_set ?_ GE127.out) | exact HB.out)⟩⟩
  ·rw [if_neg c4] at H
   have c4b0 : decide (a0_5 < 0) = false := decide_eq_false c4
   clear c4
   (first | rw [c4b0] | (simp only [i64_w, i32_w]; rw [c4b0]) | skip)
   by_cases c6 : a0_5 > 4611686018427387903
   ·rw [if_pos c6] at H
    have c6b0 : decide (4611686018427387903 < a0_5) = true := decide_eq_true c6
    clear c6
    have H' := Aside0.mk H
    clear H
    have hcz7_0 : w3.cell? ⟨gb127, 0, none⟩ = some (.int .i64 a0_0) := (blk_cell BK127.out 0).trans rfl
    have hcz7_1 : w3.cell? ⟨gb127, 1, none⟩ = some (.int .i64 a0_1) := (blk_cell BK127.out 1).trans rfl
    have hcz7_2 : w3.cell? ⟨gb127, 2, none⟩ = some (.slice A0_2 l0_2.length c0_2) := (blk_cell BK127.out 2).trans rfl
    have hcz7_3 : w3.cell? ⟨gb127, 3, none⟩ = some (.slice A0_3 l0_3.length c0_3) := (blk_cell BK127.out 3).trans rfl
    have hcz7_4 : w3.cell? ⟨gb127, 4, none⟩ = some (.slice A0_4 l0_4.length c0_4) := (blk_cell BK127.out 4).trans rfl
    have hcz7_5 : w3.cell? ⟨gb127, 5, none⟩ = some (.int .i64 a0_5) := (blk_cell BK127.out 5).trans rfl
    have hcz7_6 : w3.cell? ⟨gb127, 6, none⟩ = some (.int .i64 a0_6) := (blk_cell BK127.out 6).trans rfl
    have hcz7_7 : w3.cell? ⟨gb127, 7, none⟩ = some (.int .i64 a0_7) := (blk_cell BK127.out 7).trans rfl
    have hfz7_0 := blk_frozen BK127.out 0
    have hfz7_1 := blk_frozen BK127.out 1
    have hfz7_2 := blk_frozen BK127.out 2
    have hfz7_3 := blk_frozen BK127.out 3
    have hfz7_4 := blk_frozen BK127.out 4
    have hfz7_5 := blk_frozen BK127.out 5
    have hfz7_6 := blk_frozen BK127.out 6
    have hfz7_7 := blk_frozen BK127.out 7
    go_wp2
    go_meet
    case rel => exact ⟨_, (true), (by first | rfl | (simp; done) | (simp [*]; done)), H', ⟨by first | omega | exact Nat.le_refl _⟩, ⟨by (with_reducible repeat (first | refine blk_drewN ?_ _ | refine blk_drew ?_ | refine blk_alloc ?_ _)); exact BK127.out⟩, ⟨by repeat (first | (with_reducible first | exact HB.out | apply below_alloc | apply pw_below_drewN | apply below_drew1 | refine below_set ?_ GE127.out) | exact HB.out)⟩⟩
   ·rw [if_neg c6] at H
    have c6b0 : decide (4611686018427387903 < a0_5) = false := decide_eq_false c6
    clear c6
    by_cases c8 : a0_6 < 1
    ·rw [if_pos c8] at H
     have c8b0 : decide (a0_6 < 1) = true := decide_eq_true c8
     clear c8
     have H' := Aside0.mk H
     clear H
     have hcz9_0 : w3.cell? ⟨gb127, 0, none⟩ = some (.int .i64 a0_0) := (blk_cell BK127.out 0).trans rfl
     have hcz9_1 : w3.cell? ⟨gb127, 1, none⟩ = some (.int .i64 a0_1) := (blk_cell BK127.out 1).trans rfl
     have hcz9_2 : w3.cell? ⟨gb127, 2, none⟩ = some (.slice A0_2 l0_2.length c0_2) := (blk_cell BK127.out 2).trans rfl
     have hcz9_3 : w3.cell? ⟨gb127, 3, none⟩ = some (.slice A0_3 l0_3.length c0_3) := (blk_cell BK127.out 3).trans rfl
     have hcz9_4 : w3.cell? ⟨gb127, 4, none⟩ = some (.slice A0_4 l0_4.length c0_4) := (blk_cell BK127.out 4).trans rfl
     have hcz9_5 : w3.cell? ⟨gb127, 5, none⟩ = some (.int .i64 a0_5) := (blk_cell BK127.out 5).trans rfl
     have hcz9_6 : w3.cell? ⟨gb127, 6, none⟩ = some (.int .i64 a0_6) := (blk_cell BK127.out 6).trans rfl
     have hcz9_7 : w3.cell? ⟨gb127, 7, none⟩ = some (.int .i64 a0_7) := (blk_cell BK127.out 7).trans rfl
     have hfz9_0 := blk_frozen BK127.out 0
     have hfz9_1 := blk_frozen BK127.out 1
     have hfz9_2 := blk_frozen BK127.out 2
     have hfz9_3 := blk_frozen BK127.out 3
     have hfz9_4 := blk_frozen BK127.out 4
     have hfz9_5 := blk_frozen BK127.out 5
     have hfz9_6 := blk_frozen BK127.out 6
     have hfz9_7 := blk_frozen BK127.out 7
     go_wp2
     go_meet
     case rel => exact ⟨_, (true), (by first | rfl | (simp; done) | (simp [*]; done)), H', ⟨by first | omega | exact Nat.le_refl _⟩, ⟨by (with_reducible repeat (first | refine blk_drewN ?_ _ | refine blk_drew ?_ | refine blk_alloc ?_ _)); exact BK127.out⟩, ⟨by repeat (first | (with_reducible first | exact HB.out | apply below_alloc | apply pw_below_drewN | apply below_drew1 | refine below_set ?_ GE127.out) | exact HB.out)⟩⟩
    ·rw [if_neg c8] at H
     have c8b0 : decide (a0_6 < 1) = false := decide_eq_false c8
     clear c8
     by_cases c10 : a0_6 > 4
     ·rw [if_pos c10] at H
      have c10b0 : decide (4 < a0_6) = true := decide_eq_true c10
      clear c10
      have H' := Aside0.mk H
      clear H
      have hcz11_0 : w3.cell? ⟨gb127, 0, none⟩ = some (.int .i64 a0_0) := (blk_cell BK127.out 0).trans rfl
      have hcz11_1 : w3.cell? ⟨gb127, 1, none⟩ = some (.int .i64 a0_1) := (blk_cell BK127.out 1).trans rfl
      have hcz11_2 : w3.cell? ⟨gb127, 2, none⟩ = some (.slice A0_2 l0_2.length c0_2) := (blk_cell BK127.out 2).trans rfl
      have hcz11_3 : w3.cell? ⟨gb127, 3, none⟩ = some (.slice A0_3 l0_3.length c0_3) := (blk_cell BK127.out 3).trans rfl
      have hcz11_4 : w3.cell? ⟨gb127, 4, none⟩ = some (.slice A0_4 l0_4.length c0_4) := (blk_cell BK127.out 4).trans rfl
      have hcz11_5 : w3.cell? ⟨gb127, 5, none⟩ = some (.int .i64 a0_5) := (blk_cell BK127.out 5).trans rfl
      have hcz11_6 : w3.cell? ⟨gb127, 6, none⟩ = some (.int .i64 a0_6) := (blk_cell BK127.out 6).trans rfl
      have hcz11_7 : w3.cell? ⟨gb127, 7, none⟩ = some (.int .i64 a0_7) := (blk_cell BK127.out 7).trans rfl
      have hfz11_0 := blk_frozen BK127.out 0
      have hfz11_1 := blk_frozen BK127.out 1
      have hfz11_2 := blk_frozen BK127.out 2
      have hfz11_3 := blk_frozen BK127.out 3
      have hfz11_4 := blk_frozen BK127.out 4
      have hfz11_5 := blk_frozen BK127.out 5
      have hfz11_6 := blk_frozen BK127.out 6
      have hfz11_7 := blk_frozen BK127.out 7
      go_wp2
      go_meet
      case rel => exact ⟨_, (true), (by first | rfl | (simp; done) | (simp [*]; done)), H', ⟨by first | omega | exact Nat.le_refl _⟩, ⟨by (with_reducible repeat (first | refine blk_drewN ?_ _ | refine blk_drew ?_ | refine blk_alloc ?_ _)); exact BK127.out⟩, ⟨by repeat (first | (with_reducible first | exact HB.out | apply below_alloc | apply pw_below_drewN | apply below_drew1 | refine below_set ?_ GE127.out) | exact HB.out)⟩⟩
     ·rw [if_neg c10] at H
      have c10b0 : decide (4 < a0_6) = false := decide_eq_false c10
      clear c10
      have H' := Aside0.mk H
      clear H
      have hcz12_0 : w3.cell? ⟨gb127, 0, none⟩ = some (.int .i64 a0_0) := (blk_cell BK127.out 0).trans rfl
      have hcz12_1 : w3.cell? ⟨gb127, 1, none⟩ = some (.int .i64 a0_1) := (blk_cell BK127.out 1).trans rfl
      have hcz12_2 : w3.cell? ⟨gb127, 2, none⟩ = some (.slice A0_2 l0_2.length c0_2) := (blk_cell BK127.out 2).trans rfl
      have hcz12_3 : w3.cell? ⟨gb127, 3, none⟩ = some (.slice A0_3 l0_3.length c0_3) := (blk_cell BK127.out 3).trans rfl
      have hcz12_4 : w3.cell? ⟨gb127, 4, none⟩ = some (.slice A0_4 l0_4.length c0_4) := (blk_cell BK127.out 4).trans rfl
      have hcz12_5 : w3.cell? ⟨gb127, 5, none⟩ = some (.int .i64 a0_5) := (blk_cell BK127.out 5).trans rfl
      have hcz12_6 : w3.cell? ⟨gb127, 6, none⟩ = some (.int .i64 a0_6) := (blk_cell BK127.out 6).trans rfl
      have hcz12_7 : w3.cell? ⟨gb127, 7, none⟩ = some (.int .i64 a0_7) := (blk_cell BK127.out 7).trans rfl
      have hfz12_0 := blk_frozen BK127.out 0
      have hfz12_1 := blk_frozen BK127.out 1
      have hfz12_2 := blk_frozen BK127.out 2
      have hfz12_3 := blk_frozen BK127.out 3
      have hfz12_4 := blk_frozen BK127.out 4
      have hfz12_5 := blk_frozen BK127.out 5
      have hfz12_6 := blk_frozen BK127.out 6
      have hfz12_7 := blk_frozen BK127.out 7
      go_wp2
      go_meet
      case rel => exact ⟨_, (decide ((l0_2.length : Int) > 8)), (by first | rfl | (simp; done) | (simp [*]; done)), H', ⟨by first | omega | exact Nat.le_refl _⟩, ⟨by (with_reducible repeat (first | refine blk_drewN ?_ _ | refine blk_drew ?_ | refine blk_alloc ?_ _)); exact BK127.out⟩, ⟨by repeat (first | (with_reducible first | exact HB.out | apply below_alloc | apply pw_below_drewN | apply below_drew1 | refine below_set ?_ GE127.out) | exact HB.out)⟩⟩
 case rest =>
  clear HC2
  try clear c1
  try clear p2
  try clear c4
  try clear c4b0
  try clear c6
  try clear c6b0
  try clear c8
  try clear c8b0
  try clear c10
  try clear c10b0
  try clear hcz11_0
  try clear hcz11_1
  try clear hcz11_2
  try clear hcz11_3
  try clear hcz11_4
  try clear hcz11_5
  try clear hcz11_6
  try clear hcz11_7
  try clear hcz12_0
  try clear hcz12_1
  try clear hcz12_2
  try clear hcz12_3
  try clear hcz12_4
  try clear hcz12_5
  try clear hcz12_6
  try clear hcz12_7
  try clear hcz5_0
  try clear hcz5_1
  try clear hcz5_2
  try clear hcz5_3
  try clear hcz5_4
  try clear hcz5_5
  try clear hcz5_6
  try clear hcz5_7
  try clear hcz7_0
  try clear hcz7_1
  try clear hcz7_2
  try clear hcz7_3
  try clear hcz7_4
  try clear hcz7_5
  try clear hcz7_6
  try clear hcz7_7
  try clear hcz9_0
  try clear hcz9_1
  try clear hcz9_2
  try clear hcz9_3
  try clear hcz9_4
  try clear hcz9_5
  try clear hcz9_6
  try clear hcz9_7
  try clear hfz11_0
  try clear hfz11_1
  try clear hfz11_2
  try clear hfz11_3
  try clear hfz11_4
  try clear hfz11_5
  try clear hfz11_6
  try clear hfz11_7
  try clear hfz12_0
  try clear hfz12_1
  try clear hfz12_2
  try clear hfz12_3
  try clear hfz12_4
  try clear hfz12_5
  try clear hfz12_6
  try clear hfz12_7
  try clear hfz5_0
  try clear hfz5_1
  try clear hfz5_2
  try clear hfz5_3
  try clear hfz5_4
  try clear hfz5_5
  try clear hfz5_6
  try clear hfz5_7
  try clear hfz7_0
  try clear hfz7_1
  try clear hfz7_2
  try clear hfz7_3
  try clear hfz7_4
  try clear hfz7_5
  try clear hfz7_6
  try clear hfz7_7
  try clear hfz9_0
  try clear hfz9_1
  try clear hfz9_2
  try clear hfz9_3
  try clear hfz9_4
  try clear hfz9_5
  try clear hfz9_6
  try clear hfz9_7
  obtain ⟨kq, x26_1, rfl, HA, HJ1, BK127, HB⟩ := hcut
  cases kq with
  | zero => exact absurd HA.out (by simp [spec_l04HeaderOK.j0])
  | succ kj1 =>
   have H := HA.out
   clear HA
   simp only [spec_l04HeaderOK.j0] at H
   by_cases c13 : x26_1 = true
   ·subst c13
    have H1 : (some false) = some r := by rw [if_pos rfl] at H; exact H
    clear H
    have H := H1
    clear H1
    obtain rfl := Option.some.inj H
    go_wp2
    go_ret
    exact ⟨by first | rfl | (simp [errW_none, errW_some] <;> rfl) | (simp [*, errW_none, errW_some] <;> rfl), by repeat (first | (with_reducible first | exact HB.out | apply below_alloc | apply pw_below_drewN | apply below_drew1 | refine below_set ?_ GE127.out) | exact HB.out)⟩
   ·replace c13 := Bool.eq_false_iff.mpr c13
    subst c13
    have H1 : (if a0_0 = 1 then ((spec_l04VersionOK.f a0_1).bind fun t128 => (if t128 = true then (if (l0_3.length : Int) ≤ 8 then (if (l0_4.length : Int) ≤ 64 then (some (a0_7 == 0)) else (some false)) else (some false)) else (some false))) else (if a0_0 = 2 then ((spec_l04VersionOK.f a0_1).bind fun t129 => (if t129 = true then (if (l0_3.length : Int) ≤ 8 then (if (l0_4.length : Int) = 0 then (some (a0_7 == 0)) else (some false)) else (some false)) else (some false))) else (if a0_0 = 4 then (if a0_1 = 0 then (if (l0_3.length : Int) = 0 then (if (l0_4.length : Int) = 0 then (if a0_7 = 0 then (some true) else (some (a0_7 == 1))) else (some false)) else (some false)) else (some false)) else (some false)))) = some r := by rw [if_neg (show ¬ (false = true) by decide)] at H; exact H
    clear H
    have H := H1
    clear H1
    by_cases c14 : a0_0 = 1
    ·rw [if_pos c14] at H
     have c14b0 : (a0_0 == 1) = true := beq_iff_eq.mpr c14
     have c14b1 : (a0_0 != 1) = false := bne_eq_false_iff_eq.mpr c14
     clear c14
     replace H := Option.bind_eq_some_iff.mp H
     obtain ⟨t128, A150, H⟩ := H
     replace H : (if t128 = true then (if (l0_3.length : Int) ≤ 8 then (if (l0_4.length : Int) ≤ 64 then (some (a0_7 == 0)) else (some false)) else (some false)) else (some false)) = some r := H
     have A15 := Aside0.mk A150
     clear A150
     by_cases c16 : t128 = true
     ·subst c16
      have H1 : (if (l0_3.length : Int) ≤ 8 then (if (l0_4.length : Int) ≤ 64 then (some (a0_7 == 0)) else (some false)) else (some false)) = some r := by rw [if_pos rfl] at H; exact H
      clear H
      have H := H1
      clear H1
      by_cases c17 : (l0_3.length : Int) ≤ 8
      ·rw [if_pos c17] at H
       have c17b0 : decide ((l0_3.length : Int) ≤ 8) = true := decide_eq_true c17
       have c17b1 : decide (l0_3.length ≤ 8) = true := decide_eq_true (by omega)
       clear c17
       by_cases c18 : (l0_4.length : Int) ≤ 64
       ·rw [if_pos c18] at H
        have c18b0 : decide ((l0_4.length : Int) ≤ 64) = true := decide_eq_true c18
        have c18b1 : decide (l0_4.length ≤ 64) = true := decide_eq_true (by omega)
        clear c18
        obtain rfl := Option.some.inj H
        have hcz19_0 : wc.cell? ⟨gb127, 0, none⟩ = some (.int .i64 a0_0) := (blk_cell BK127.out 0).trans rfl
        have hcz19_1 : wc.cell? ⟨gb127, 1, none⟩ = some (.int .i64 a0_1) := (blk_cell BK127.out 1).trans rfl
        have hcz19_2 : wc.cell? ⟨gb127, 2, none⟩ = some (.slice A0_2 l0_2.length c0_2) := (blk_cell BK127.out 2).trans rfl
        have hcz19_3 : wc.cell? ⟨gb127, 3, none⟩ = some (.slice A0_3 l0_3.length c0_3) := (blk_cell BK127.out 3).trans rfl
        have hcz19_4 : wc.cell? ⟨gb127, 4, none⟩ = some (.slice A0_4 l0_4.length c0_4) := (blk_cell BK127.out 4).trans rfl
        have hcz19_5 : wc.cell? ⟨gb127, 5, none⟩ = some (.int .i64 a0_5) := (blk_cell BK127.out 5).trans rfl
        have hcz19_6 : wc.cell? ⟨gb127, 6, none⟩ = some (.int .i64 a0_6) := (blk_cell BK127.out 6).trans rfl
        have hcz19_7 : wc.cell? ⟨gb127, 7, none⟩ = some (.int .i64 a0_7) := (blk_cell BK127.out 7).trans rfl
        have hfz19_0 := blk_frozen BK127.out 0
        have hfz19_1 := blk_frozen BK127.out 1
        have hfz19_2 := blk_frozen BK127.out 2
        have hfz19_3 := blk_frozen BK127.out 3
        have hfz19_4 := blk_frozen BK127.out 4
        have hfz19_5 := blk_frozen BK127.out 5
        have hfz19_6 := blk_frozen BK127.out 6
        have hfz19_7 := blk_frozen BK127.out 7
        go_wp2_with (first | ((with_reducible refine gate_callee (f := 86) rfl ?_); refine goesL_ (some 33) rfl rfl Try.func86 (by kernel_rfl) rfl #[.int .i64 a0_1] rfl (by (try simp only [List.map_toArray, List.map_cons, List.map_nil]); first | done | rfl | (simp only [List.length_drop, List.length_take]; rfl)) ?_; (with_reducible refine (spec_l04VersionOK.calls a0_1 true _ A15.out).mono ?_); rintro e w' ⟨rfl, ⟨nd, rfl⟩⟩; refine ⟨_, rfl, ?_⟩))
        go_ret
        exact ⟨by first | rfl | (simp [errW_none, errW_some] <;> rfl) | (simp [*, errW_none, errW_some] <;> rfl), by repeat (first | (with_reducible first | exact HB.out | apply below_alloc | apply pw_below_drewN | apply below_drew1 | refine below_set ?_ GE127.out) | exact HB.out)⟩
       ·rw [if_neg c18] at H
        have c18b0 : decide ((l0_4.length : Int) ≤ 64) = false := decide_eq_false c18
        have c18b1 : decide (l0_4.length ≤ 64) = false := decide_eq_false (by omega)
        clear c18
        obtain rfl := Option.some.inj H
        have hcz20_0 : wc.cell? ⟨gb127, 0, none⟩ = some (.int .i64 a0_0) := (blk_cell BK127.out 0).trans rfl
        have hcz20_1 : wc.cell? ⟨gb127, 1, none⟩ = some (.int .i64 a0_1) := (blk_cell BK127.out 1).trans rfl
        have hcz20_2 : wc.cell? ⟨gb127, 2, none⟩ = some (.slice A0_2 l0_2.length c0_2) := (blk_cell BK127.out 2).trans rfl
        have hcz20_3 : wc.cell? ⟨gb127, 3, none⟩ = some (.slice A0_3 l0_3.length c0_3) := (blk_cell BK127.out 3).trans rfl
        have hcz20_4 : wc.cell? ⟨gb127, 4, none⟩ = some (.slice A0_4 l0_4.length c0_4) := (blk_cell BK127.out 4).trans rfl
        have hcz20_5 : wc.cell? ⟨gb127, 5, none⟩ = some (.int .i64 a0_5) := (blk_cell BK127.out 5).trans rfl
        have hcz20_6 : wc.cell? ⟨gb127, 6, none⟩ = some (.int .i64 a0_6) := (blk_cell BK127.out 6).trans rfl
        have hcz20_7 : wc.cell? ⟨gb127, 7, none⟩ = some (.int .i64 a0_7) := (blk_cell BK127.out 7).trans rfl
        have hfz20_0 := blk_frozen BK127.out 0
        have hfz20_1 := blk_frozen BK127.out 1
        have hfz20_2 := blk_frozen BK127.out 2
        have hfz20_3 := blk_frozen BK127.out 3
        have hfz20_4 := blk_frozen BK127.out 4
        have hfz20_5 := blk_frozen BK127.out 5
        have hfz20_6 := blk_frozen BK127.out 6
        have hfz20_7 := blk_frozen BK127.out 7
        go_wp2_with (first | ((with_reducible refine gate_callee (f := 86) rfl ?_); refine goesL_ (some 33) rfl rfl Try.func86 (by kernel_rfl) rfl #[.int .i64 a0_1] rfl (by (try simp only [List.map_toArray, List.map_cons, List.map_nil]); first | done | rfl | (simp only [List.length_drop, List.length_take]; rfl)) ?_; (with_reducible refine (spec_l04VersionOK.calls a0_1 true _ A15.out).mono ?_); rintro e w' ⟨rfl, ⟨nd, rfl⟩⟩; refine ⟨_, rfl, ?_⟩))
        go_ret
        exact ⟨by first | rfl | (simp [errW_none, errW_some] <;> rfl) | (simp [*, errW_none, errW_some] <;> rfl), by repeat (first | (with_reducible first | exact HB.out | apply below_alloc | apply pw_below_drewN | apply below_drew1 | refine below_set ?_ GE127.out) | exact HB.out)⟩
      ·rw [if_neg c17] at H
       have c17b0 : decide ((l0_3.length : Int) ≤ 8) = false := decide_eq_false c17
       have c17b1 : decide (l0_3.length ≤ 8) = false := decide_eq_false (by omega)
       clear c17
       obtain rfl := Option.some.inj H
       have hcz21_0 : wc.cell? ⟨gb127, 0, none⟩ = some (.int .i64 a0_0) := (blk_cell BK127.out 0).trans rfl
       have hcz21_1 : wc.cell? ⟨gb127, 1, none⟩ = some (.int .i64 a0_1) := (blk_cell BK127.out 1).trans rfl
       have hcz21_2 : wc.cell? ⟨gb127, 2, none⟩ = some (.slice A0_2 l0_2.length c0_2) := (blk_cell BK127.out 2).trans rfl
       have hcz21_3 : wc.cell? ⟨gb127, 3, none⟩ = some (.slice A0_3 l0_3.length c0_3) := (blk_cell BK127.out 3).trans rfl
       have hcz21_4 : wc.cell? ⟨gb127, 4, none⟩ = some (.slice A0_4 l0_4.length c0_4) := (blk_cell BK127.out 4).trans rfl
       have hcz21_5 : wc.cell? ⟨gb127, 5, none⟩ = some (.int .i64 a0_5) := (blk_cell BK127.out 5).trans rfl
       have hcz21_6 : wc.cell? ⟨gb127, 6, none⟩ = some (.int .i64 a0_6) := (blk_cell BK127.out 6).trans rfl
       have hcz21_7 : wc.cell? ⟨gb127, 7, none⟩ = some (.int .i64 a0_7) := (blk_cell BK127.out 7).trans rfl
       have hfz21_0 := blk_frozen BK127.out 0
       have hfz21_1 := blk_frozen BK127.out 1
       have hfz21_2 := blk_frozen BK127.out 2
       have hfz21_3 := blk_frozen BK127.out 3
       have hfz21_4 := blk_frozen BK127.out 4
       have hfz21_5 := blk_frozen BK127.out 5
       have hfz21_6 := blk_frozen BK127.out 6
       have hfz21_7 := blk_frozen BK127.out 7
       go_wp2_with (first | ((with_reducible refine gate_callee (f := 86) rfl ?_); refine goesL_ (some 33) rfl rfl Try.func86 (by kernel_rfl) rfl #[.int .i64 a0_1] rfl (by (try simp only [List.map_toArray, List.map_cons, List.map_nil]); first | done | rfl | (simp only [List.length_drop, List.length_take]; rfl)) ?_; (with_reducible refine (spec_l04VersionOK.calls a0_1 true _ A15.out).mono ?_); rintro e w' ⟨rfl, ⟨nd, rfl⟩⟩; refine ⟨_, rfl, ?_⟩))
       go_ret
       exact ⟨by first | rfl | (simp [errW_none, errW_some] <;> rfl) | (simp [*, errW_none, errW_some] <;> rfl), by repeat (first | (with_reducible first | exact HB.out | apply below_alloc | apply pw_below_drewN | apply below_drew1 | refine below_set ?_ GE127.out) | exact HB.out)⟩
     ·replace c16 := Bool.eq_false_iff.mpr c16
      subst c16
      have H1 : (some false) = some r := by rw [if_neg (show ¬ (false = true) by decide)] at H; exact H
      clear H
      have H := H1
      clear H1
      obtain rfl := Option.some.inj H
      have hcz22_0 : wc.cell? ⟨gb127, 0, none⟩ = some (.int .i64 a0_0) := (blk_cell BK127.out 0).trans rfl
      have hcz22_1 : wc.cell? ⟨gb127, 1, none⟩ = some (.int .i64 a0_1) := (blk_cell BK127.out 1).trans rfl
      have hcz22_2 : wc.cell? ⟨gb127, 2, none⟩ = some (.slice A0_2 l0_2.length c0_2) := (blk_cell BK127.out 2).trans rfl
      have hcz22_3 : wc.cell? ⟨gb127, 3, none⟩ = some (.slice A0_3 l0_3.length c0_3) := (blk_cell BK127.out 3).trans rfl
      have hcz22_4 : wc.cell? ⟨gb127, 4, none⟩ = some (.slice A0_4 l0_4.length c0_4) := (blk_cell BK127.out 4).trans rfl
      have hcz22_5 : wc.cell? ⟨gb127, 5, none⟩ = some (.int .i64 a0_5) := (blk_cell BK127.out 5).trans rfl
      have hcz22_6 : wc.cell? ⟨gb127, 6, none⟩ = some (.int .i64 a0_6) := (blk_cell BK127.out 6).trans rfl
      have hcz22_7 : wc.cell? ⟨gb127, 7, none⟩ = some (.int .i64 a0_7) := (blk_cell BK127.out 7).trans rfl
      have hfz22_0 := blk_frozen BK127.out 0
      have hfz22_1 := blk_frozen BK127.out 1
      have hfz22_2 := blk_frozen BK127.out 2
      have hfz22_3 := blk_frozen BK127.out 3
      have hfz22_4 := blk_frozen BK127.out 4
      have hfz22_5 := blk_frozen BK127.out 5
      have hfz22_6 := blk_frozen BK127.out 6
      have hfz22_7 := blk_frozen BK127.out 7
      go_wp2_with (first | ((with_reducible refine gate_callee (f := 86) rfl ?_); refine goesL_ (some 33) rfl rfl Try.func86 (by kernel_rfl) rfl #[.int .i64 a0_1] rfl (by (try simp only [List.map_toArray, List.map_cons, List.map_nil]); first | done | rfl | (simp only [List.length_drop, List.length_take]; rfl)) ?_; (with_reducible refine (spec_l04VersionOK.calls a0_1 false _ A15.out).mono ?_); rintro e w' ⟨rfl, ⟨nd, rfl⟩⟩; refine ⟨_, rfl, ?_⟩))
      go_ret
      exact ⟨by first | rfl | (simp [errW_none, errW_some] <;> rfl) | (simp [*, errW_none, errW_some] <;> rfl), by repeat (first | (with_reducible first | exact HB.out | apply below_alloc | apply pw_below_drewN | apply below_drew1 | refine below_set ?_ GE127.out) | exact HB.out)⟩
    ·rw [if_neg c14] at H
     have c14b0 : (a0_0 == 1) = false := beq_eq_false_iff_ne.mpr c14
     have c14b1 : (a0_0 != 1) = true := bne_iff_ne.mpr c14
     by_cases c23 : a0_0 = 2
     ·rw [if_pos c23] at H
      have c23b0 : (a0_0 == 2) = true := beq_iff_eq.mpr c23
      have c23b1 : (a0_0 != 2) = false := bne_eq_false_iff_eq.mpr c23
      clear c23
      replace H := Option.bind_eq_some_iff.mp H
      obtain ⟨t129, A240, H⟩ := H
      replace H : (if t129 = true then (if (l0_3.length : Int) ≤ 8 then (if (l0_4.length : Int) = 0 then (some (a0_7 == 0)) else (some false)) else (some false)) else (some false)) = some r := H
      have A24 := Aside0.mk A240
      clear A240
      by_cases c25 : t129 = true
      ·subst c25
       have H1 : (if (l0_3.length : Int) ≤ 8 then (if (l0_4.length : Int) = 0 then (some (a0_7 == 0)) else (some false)) else (some false)) = some r := by rw [if_pos rfl] at H; exact H
       clear H
       have H := H1
       clear H1
       by_cases c26 : (l0_3.length : Int) ≤ 8
       ·rw [if_pos c26] at H
        have c26b0 : decide ((l0_3.length : Int) ≤ 8) = true := decide_eq_true c26
        have c26b1 : decide (l0_3.length ≤ 8) = true := decide_eq_true (by omega)
        clear c26
        by_cases c27 : (l0_4.length : Int) = 0
        ·rw [if_pos c27] at H
         have c27b0 : ((l0_4.length : Int) == 0) = true := beq_iff_eq.mpr c27
         have c27b1 : ((l0_4.length : Int) != 0) = false := bne_eq_false_iff_eq.mpr c27
         clear c27
         obtain rfl := Option.some.inj H
         have hcz28_0 : wc.cell? ⟨gb127, 0, none⟩ = some (.int .i64 a0_0) := (blk_cell BK127.out 0).trans rfl
         have hcz28_1 : wc.cell? ⟨gb127, 1, none⟩ = some (.int .i64 a0_1) := (blk_cell BK127.out 1).trans rfl
         have hcz28_2 : wc.cell? ⟨gb127, 2, none⟩ = some (.slice A0_2 l0_2.length c0_2) := (blk_cell BK127.out 2).trans rfl
         have hcz28_3 : wc.cell? ⟨gb127, 3, none⟩ = some (.slice A0_3 l0_3.length c0_3) := (blk_cell BK127.out 3).trans rfl
         have hcz28_4 : wc.cell? ⟨gb127, 4, none⟩ = some (.slice A0_4 l0_4.length c0_4) := (blk_cell BK127.out 4).trans rfl
         have hcz28_5 : wc.cell? ⟨gb127, 5, none⟩ = some (.int .i64 a0_5) := (blk_cell BK127.out 5).trans rfl
         have hcz28_6 : wc.cell? ⟨gb127, 6, none⟩ = some (.int .i64 a0_6) := (blk_cell BK127.out 6).trans rfl
         have hcz28_7 : wc.cell? ⟨gb127, 7, none⟩ = some (.int .i64 a0_7) := (blk_cell BK127.out 7).trans rfl
         have hfz28_0 := blk_frozen BK127.out 0
         have hfz28_1 := blk_frozen BK127.out 1
         have hfz28_2 := blk_frozen BK127.out 2
         have hfz28_3 := blk_frozen BK127.out 3
         have hfz28_4 := blk_frozen BK127.out 4
         have hfz28_5 := blk_frozen BK127.out 5
         have hfz28_6 := blk_frozen BK127.out 6
         have hfz28_7 := blk_frozen BK127.out 7
         go_wp2_with (first | ((with_reducible refine gate_callee (f := 86) rfl ?_); refine goesL_ (some 55) rfl rfl Try.func86 (by kernel_rfl) rfl #[.int .i64 a0_1] rfl (by (try simp only [List.map_toArray, List.map_cons, List.map_nil]); first | done | rfl | (simp only [List.length_drop, List.length_take]; rfl)) ?_; (with_reducible refine (spec_l04VersionOK.calls a0_1 true _ A24.out).mono ?_); rintro e w' ⟨rfl, ⟨nd, rfl⟩⟩; refine ⟨_, rfl, ?_⟩))
         go_ret
         exact ⟨by first | rfl | (simp [errW_none, errW_some] <;> rfl) | (simp [*, errW_none, errW_some] <;> rfl), by repeat (first | (with_reducible first | exact HB.out | apply below_alloc | apply pw_below_drewN | apply below_drew1 | refine below_set ?_ GE127.out) | exact HB.out)⟩
        ·rw [if_neg c27] at H
         have c27b0 : ((l0_4.length : Int) == 0) = false := beq_eq_false_iff_ne.mpr c27
         have c27b1 : ((l0_4.length : Int) != 0) = true := bne_iff_ne.mpr c27
         have c27b2 : ¬ (l0_4 = []) := fun h_ => c27 (by rw [h_]; rfl)
         obtain rfl := Option.some.inj H
         have hcz29_0 : wc.cell? ⟨gb127, 0, none⟩ = some (.int .i64 a0_0) := (blk_cell BK127.out 0).trans rfl
         have hcz29_1 : wc.cell? ⟨gb127, 1, none⟩ = some (.int .i64 a0_1) := (blk_cell BK127.out 1).trans rfl
         have hcz29_2 : wc.cell? ⟨gb127, 2, none⟩ = some (.slice A0_2 l0_2.length c0_2) := (blk_cell BK127.out 2).trans rfl
         have hcz29_3 : wc.cell? ⟨gb127, 3, none⟩ = some (.slice A0_3 l0_3.length c0_3) := (blk_cell BK127.out 3).trans rfl
         have hcz29_4 : wc.cell? ⟨gb127, 4, none⟩ = some (.slice A0_4 l0_4.length c0_4) := (blk_cell BK127.out 4).trans rfl
         have hcz29_5 : wc.cell? ⟨gb127, 5, none⟩ = some (.int .i64 a0_5) := (blk_cell BK127.out 5).trans rfl
         have hcz29_6 : wc.cell? ⟨gb127, 6, none⟩ = some (.int .i64 a0_6) := (blk_cell BK127.out 6).trans rfl
         have hcz29_7 : wc.cell? ⟨gb127, 7, none⟩ = some (.int .i64 a0_7) := (blk_cell BK127.out 7).trans rfl
         have hfz29_0 := blk_frozen BK127.out 0
         have hfz29_1 := blk_frozen BK127.out 1
         have hfz29_2 := blk_frozen BK127.out 2
         have hfz29_3 := blk_frozen BK127.out 3
         have hfz29_4 := blk_frozen BK127.out 4
         have hfz29_5 := blk_frozen BK127.out 5
         have hfz29_6 := blk_frozen BK127.out 6
         have hfz29_7 := blk_frozen BK127.out 7
         go_wp2_with (first | ((with_reducible refine gate_callee (f := 86) rfl ?_); refine goesL_ (some 55) rfl rfl Try.func86 (by kernel_rfl) rfl #[.int .i64 a0_1] rfl (by (try simp only [List.map_toArray, List.map_cons, List.map_nil]); first | done | rfl | (simp only [List.length_drop, List.length_take]; rfl)) ?_; (with_reducible refine (spec_l04VersionOK.calls a0_1 true _ A24.out).mono ?_); rintro e w' ⟨rfl, ⟨nd, rfl⟩⟩; refine ⟨_, rfl, ?_⟩))
         go_ret
         exact ⟨by first | rfl | (simp [errW_none, errW_some] <;> rfl) | (simp [*, errW_none, errW_some] <;> rfl), by repeat (first | (with_reducible first | exact HB.out | apply below_alloc | apply pw_below_drewN | apply below_drew1 | refine below_set ?_ GE127.out) | exact HB.out)⟩
       ·rw [if_neg c26] at H
        have c26b0 : decide ((l0_3.length : Int) ≤ 8) = false := decide_eq_false c26
        have c26b1 : decide (l0_3.length ≤ 8) = false := decide_eq_false (by omega)
        clear c26
        obtain rfl := Option.some.inj H
        have hcz30_0 : wc.cell? ⟨gb127, 0, none⟩ = some (.int .i64 a0_0) := (blk_cell BK127.out 0).trans rfl
        have hcz30_1 : wc.cell? ⟨gb127, 1, none⟩ = some (.int .i64 a0_1) := (blk_cell BK127.out 1).trans rfl
        have hcz30_2 : wc.cell? ⟨gb127, 2, none⟩ = some (.slice A0_2 l0_2.length c0_2) := (blk_cell BK127.out 2).trans rfl
        have hcz30_3 : wc.cell? ⟨gb127, 3, none⟩ = some (.slice A0_3 l0_3.length c0_3) := (blk_cell BK127.out 3).trans rfl
        have hcz30_4 : wc.cell? ⟨gb127, 4, none⟩ = some (.slice A0_4 l0_4.length c0_4) := (blk_cell BK127.out 4).trans rfl
        have hcz30_5 : wc.cell? ⟨gb127, 5, none⟩ = some (.int .i64 a0_5) := (blk_cell BK127.out 5).trans rfl
        have hcz30_6 : wc.cell? ⟨gb127, 6, none⟩ = some (.int .i64 a0_6) := (blk_cell BK127.out 6).trans rfl
        have hcz30_7 : wc.cell? ⟨gb127, 7, none⟩ = some (.int .i64 a0_7) := (blk_cell BK127.out 7).trans rfl
        have hfz30_0 := blk_frozen BK127.out 0
        have hfz30_1 := blk_frozen BK127.out 1
        have hfz30_2 := blk_frozen BK127.out 2
        have hfz30_3 := blk_frozen BK127.out 3
        have hfz30_4 := blk_frozen BK127.out 4
        have hfz30_5 := blk_frozen BK127.out 5
        have hfz30_6 := blk_frozen BK127.out 6
        have hfz30_7 := blk_frozen BK127.out 7
        go_wp2_with (first | ((with_reducible refine gate_callee (f := 86) rfl ?_); refine goesL_ (some 55) rfl rfl Try.func86 (by kernel_rfl) rfl #[.int .i64 a0_1] rfl (by (try simp only [List.map_toArray, List.map_cons, List.map_nil]); first | done | rfl | (simp only [List.length_drop, List.length_take]; rfl)) ?_; (with_reducible refine (spec_l04VersionOK.calls a0_1 true _ A24.out).mono ?_); rintro e w' ⟨rfl, ⟨nd, rfl⟩⟩; refine ⟨_, rfl, ?_⟩))
        go_ret
        exact ⟨by first | rfl | (simp [errW_none, errW_some] <;> rfl) | (simp [*, errW_none, errW_some] <;> rfl), by repeat (first | (with_reducible first | exact HB.out | apply below_alloc | apply pw_below_drewN | apply below_drew1 | refine below_set ?_ GE127.out) | exact HB.out)⟩
      ·replace c25 := Bool.eq_false_iff.mpr c25
       subst c25
       have H1 : (some false) = some r := by rw [if_neg (show ¬ (false = true) by decide)] at H; exact H
       clear H
       have H := H1
       clear H1
       obtain rfl := Option.some.inj H
       have hcz31_0 : wc.cell? ⟨gb127, 0, none⟩ = some (.int .i64 a0_0) := (blk_cell BK127.out 0).trans rfl
       have hcz31_1 : wc.cell? ⟨gb127, 1, none⟩ = some (.int .i64 a0_1) := (blk_cell BK127.out 1).trans rfl
       have hcz31_2 : wc.cell? ⟨gb127, 2, none⟩ = some (.slice A0_2 l0_2.length c0_2) := (blk_cell BK127.out 2).trans rfl
       have hcz31_3 : wc.cell? ⟨gb127, 3, none⟩ = some (.slice A0_3 l0_3.length c0_3) := (blk_cell BK127.out 3).trans rfl
       have hcz31_4 : wc.cell? ⟨gb127, 4, none⟩ = some (.slice A0_4 l0_4.length c0_4) := (blk_cell BK127.out 4).trans rfl
       have hcz31_5 : wc.cell? ⟨gb127, 5, none⟩ = some (.int .i64 a0_5) := (blk_cell BK127.out 5).trans rfl
       have hcz31_6 : wc.cell? ⟨gb127, 6, none⟩ = some (.int .i64 a0_6) := (blk_cell BK127.out 6).trans rfl
       have hcz31_7 : wc.cell? ⟨gb127, 7, none⟩ = some (.int .i64 a0_7) := (blk_cell BK127.out 7).trans rfl
       have hfz31_0 := blk_frozen BK127.out 0
       have hfz31_1 := blk_frozen BK127.out 1
       have hfz31_2 := blk_frozen BK127.out 2
       have hfz31_3 := blk_frozen BK127.out 3
       have hfz31_4 := blk_frozen BK127.out 4
       have hfz31_5 := blk_frozen BK127.out 5
       have hfz31_6 := blk_frozen BK127.out 6
       have hfz31_7 := blk_frozen BK127.out 7
       go_wp2_with (first | ((with_reducible refine gate_callee (f := 86) rfl ?_); refine goesL_ (some 55) rfl rfl Try.func86 (by kernel_rfl) rfl #[.int .i64 a0_1] rfl (by (try simp only [List.map_toArray, List.map_cons, List.map_nil]); first | done | rfl | (simp only [List.length_drop, List.length_take]; rfl)) ?_; (with_reducible refine (spec_l04VersionOK.calls a0_1 false _ A24.out).mono ?_); rintro e w' ⟨rfl, ⟨nd, rfl⟩⟩; refine ⟨_, rfl, ?_⟩))
       go_ret
       exact ⟨by first | rfl | (simp [errW_none, errW_some] <;> rfl) | (simp [*, errW_none, errW_some] <;> rfl), by repeat (first | (with_reducible first | exact HB.out | apply below_alloc | apply pw_below_drewN | apply below_drew1 | refine below_set ?_ GE127.out) | exact HB.out)⟩
     ·rw [if_neg c23] at H
      have c23b0 : (a0_0 == 2) = false := beq_eq_false_iff_ne.mpr c23
      have c23b1 : (a0_0 != 2) = true := bne_iff_ne.mpr c23
      by_cases c32 : a0_0 = 4
      ·rw [if_pos c32] at H
       have c32b0 : (a0_0 == 4) = true := beq_iff_eq.mpr c32
       have c32b1 : (a0_0 != 4) = false := bne_eq_false_iff_eq.mpr c32
       clear c32
       by_cases c33 : a0_1 = 0
       ·rw [if_pos c33] at H
        have c33b0 : (a0_1 == 0) = true := beq_iff_eq.mpr c33
        have c33b1 : (a0_1 != 0) = false := bne_eq_false_iff_eq.mpr c33
        clear c33
        by_cases c34 : (l0_3.length : Int) = 0
        ·rw [if_pos c34] at H
         have c34b0 : ((l0_3.length : Int) == 0) = true := beq_iff_eq.mpr c34
         have c34b1 : ((l0_3.length : Int) != 0) = false := bne_eq_false_iff_eq.mpr c34
         clear c34
         by_cases c35 : (l0_4.length : Int) = 0
         ·rw [if_pos c35] at H
          have c35b0 : ((l0_4.length : Int) == 0) = true := beq_iff_eq.mpr c35
          have c35b1 : ((l0_4.length : Int) != 0) = false := bne_eq_false_iff_eq.mpr c35
          clear c35
          by_cases c36 : a0_7 = 0
          ·rw [if_pos c36] at H
           have c36b0 : (a0_7 == 0) = true := beq_iff_eq.mpr c36
           have c36b1 : (a0_7 != 0) = false := bne_eq_false_iff_eq.mpr c36
           clear c36
           obtain rfl := Option.some.inj H
           have hcz37_0 : wc.cell? ⟨gb127, 0, none⟩ = some (.int .i64 a0_0) := (blk_cell BK127.out 0).trans rfl
           have hcz37_1 : wc.cell? ⟨gb127, 1, none⟩ = some (.int .i64 a0_1) := (blk_cell BK127.out 1).trans rfl
           have hcz37_2 : wc.cell? ⟨gb127, 2, none⟩ = some (.slice A0_2 l0_2.length c0_2) := (blk_cell BK127.out 2).trans rfl
           have hcz37_3 : wc.cell? ⟨gb127, 3, none⟩ = some (.slice A0_3 l0_3.length c0_3) := (blk_cell BK127.out 3).trans rfl
           have hcz37_4 : wc.cell? ⟨gb127, 4, none⟩ = some (.slice A0_4 l0_4.length c0_4) := (blk_cell BK127.out 4).trans rfl
           have hcz37_5 : wc.cell? ⟨gb127, 5, none⟩ = some (.int .i64 a0_5) := (blk_cell BK127.out 5).trans rfl
           have hcz37_6 : wc.cell? ⟨gb127, 6, none⟩ = some (.int .i64 a0_6) := (blk_cell BK127.out 6).trans rfl
           have hcz37_7 : wc.cell? ⟨gb127, 7, none⟩ = some (.int .i64 a0_7) := (blk_cell BK127.out 7).trans rfl
           have hfz37_0 := blk_frozen BK127.out 0
           have hfz37_1 := blk_frozen BK127.out 1
           have hfz37_2 := blk_frozen BK127.out 2
           have hfz37_3 := blk_frozen BK127.out 3
           have hfz37_4 := blk_frozen BK127.out 4
           have hfz37_5 := blk_frozen BK127.out 5
           have hfz37_6 := blk_frozen BK127.out 6
           have hfz37_7 := blk_frozen BK127.out 7
           go_wp2
           go_ret
           exact ⟨by first | rfl | (simp [errW_none, errW_some] <;> rfl) | (simp [*, errW_none, errW_some] <;> rfl), by repeat (first | (with_reducible first | exact HB.out | apply below_alloc | apply pw_below_drewN | apply below_drew1 | refine below_set ?_ GE127.out) | exact HB.out)⟩
          ·rw [if_neg c36] at H
           have c36b0 : (a0_7 == 0) = false := beq_eq_false_iff_ne.mpr c36
           have c36b1 : (a0_7 != 0) = true := bne_iff_ne.mpr c36
           obtain rfl := Option.some.inj H
           have hcz38_0 : wc.cell? ⟨gb127, 0, none⟩ = some (.int .i64 a0_0) := (blk_cell BK127.out 0).trans rfl
           have hcz38_1 : wc.cell? ⟨gb127, 1, none⟩ = some (.int .i64 a0_1) := (blk_cell BK127.out 1).trans rfl
           have hcz38_2 : wc.cell? ⟨gb127, 2, none⟩ = some (.slice A0_2 l0_2.length c0_2) := (blk_cell BK127.out 2).trans rfl
           have hcz38_3 : wc.cell? ⟨gb127, 3, none⟩ = some (.slice A0_3 l0_3.length c0_3) := (blk_cell BK127.out 3).trans rfl
           have hcz38_4 : wc.cell? ⟨gb127, 4, none⟩ = some (.slice A0_4 l0_4.length c0_4) := (blk_cell BK127.out 4).trans rfl
           have hcz38_5 : wc.cell? ⟨gb127, 5, none⟩ = some (.int .i64 a0_5) := (blk_cell BK127.out 5).trans rfl
           have hcz38_6 : wc.cell? ⟨gb127, 6, none⟩ = some (.int .i64 a0_6) := (blk_cell BK127.out 6).trans rfl
           have hcz38_7 : wc.cell? ⟨gb127, 7, none⟩ = some (.int .i64 a0_7) := (blk_cell BK127.out 7).trans rfl
           have hfz38_0 := blk_frozen BK127.out 0
           have hfz38_1 := blk_frozen BK127.out 1
           have hfz38_2 := blk_frozen BK127.out 2
           have hfz38_3 := blk_frozen BK127.out 3
           have hfz38_4 := blk_frozen BK127.out 4
           have hfz38_5 := blk_frozen BK127.out 5
           have hfz38_6 := blk_frozen BK127.out 6
           have hfz38_7 := blk_frozen BK127.out 7
           go_wp2
           go_ret
           exact ⟨by first | rfl | (simp [errW_none, errW_some] <;> rfl) | (simp [*, errW_none, errW_some] <;> rfl), by repeat (first | (with_reducible first | exact HB.out | apply below_alloc | apply pw_below_drewN | apply below_drew1 | refine below_set ?_ GE127.out) | exact HB.out)⟩
         ·rw [if_neg c35] at H
          have c35b0 : ((l0_4.length : Int) == 0) = false := beq_eq_false_iff_ne.mpr c35
          have c35b1 : ((l0_4.length : Int) != 0) = true := bne_iff_ne.mpr c35
          have c35b2 : ¬ (l0_4 = []) := fun h_ => c35 (by rw [h_]; rfl)
          obtain rfl := Option.some.inj H
          have hcz39_0 : wc.cell? ⟨gb127, 0, none⟩ = some (.int .i64 a0_0) := (blk_cell BK127.out 0).trans rfl
          have hcz39_1 : wc.cell? ⟨gb127, 1, none⟩ = some (.int .i64 a0_1) := (blk_cell BK127.out 1).trans rfl
          have hcz39_2 : wc.cell? ⟨gb127, 2, none⟩ = some (.slice A0_2 l0_2.length c0_2) := (blk_cell BK127.out 2).trans rfl
          have hcz39_3 : wc.cell? ⟨gb127, 3, none⟩ = some (.slice A0_3 l0_3.length c0_3) := (blk_cell BK127.out 3).trans rfl
          have hcz39_4 : wc.cell? ⟨gb127, 4, none⟩ = some (.slice A0_4 l0_4.length c0_4) := (blk_cell BK127.out 4).trans rfl
          have hcz39_5 : wc.cell? ⟨gb127, 5, none⟩ = some (.int .i64 a0_5) := (blk_cell BK127.out 5).trans rfl
          have hcz39_6 : wc.cell? ⟨gb127, 6, none⟩ = some (.int .i64 a0_6) := (blk_cell BK127.out 6).trans rfl
          have hcz39_7 : wc.cell? ⟨gb127, 7, none⟩ = some (.int .i64 a0_7) := (blk_cell BK127.out 7).trans rfl
          have hfz39_0 := blk_frozen BK127.out 0
          have hfz39_1 := blk_frozen BK127.out 1
          have hfz39_2 := blk_frozen BK127.out 2
          have hfz39_3 := blk_frozen BK127.out 3
          have hfz39_4 := blk_frozen BK127.out 4
          have hfz39_5 := blk_frozen BK127.out 5
          have hfz39_6 := blk_frozen BK127.out 6
          have hfz39_7 := blk_frozen BK127.out 7
          go_wp2
          go_ret
          exact ⟨by first | rfl | (simp [errW_none, errW_some] <;> rfl) | (simp [*, errW_none, errW_some] <;> rfl), by repeat (first | (with_reducible first | exact HB.out | apply below_alloc | apply pw_below_drewN | apply below_drew1 | refine below_set ?_ GE127.out) | exact HB.out)⟩
        ·rw [if_neg c34] at H
         have c34b0 : ((l0_3.length : Int) == 0) = false := beq_eq_false_iff_ne.mpr c34
         have c34b1 : ((l0_3.length : Int) != 0) = true := bne_iff_ne.mpr c34
         have c34b2 : ¬ (l0_3 = []) := fun h_ => c34 (by rw [h_]; rfl)
         obtain rfl := Option.some.inj H
         have hcz40_0 : wc.cell? ⟨gb127, 0, none⟩ = some (.int .i64 a0_0) := (blk_cell BK127.out 0).trans rfl
         have hcz40_1 : wc.cell? ⟨gb127, 1, none⟩ = some (.int .i64 a0_1) := (blk_cell BK127.out 1).trans rfl
         have hcz40_2 : wc.cell? ⟨gb127, 2, none⟩ = some (.slice A0_2 l0_2.length c0_2) := (blk_cell BK127.out 2).trans rfl
         have hcz40_3 : wc.cell? ⟨gb127, 3, none⟩ = some (.slice A0_3 l0_3.length c0_3) := (blk_cell BK127.out 3).trans rfl
         have hcz40_4 : wc.cell? ⟨gb127, 4, none⟩ = some (.slice A0_4 l0_4.length c0_4) := (blk_cell BK127.out 4).trans rfl
         have hcz40_5 : wc.cell? ⟨gb127, 5, none⟩ = some (.int .i64 a0_5) := (blk_cell BK127.out 5).trans rfl
         have hcz40_6 : wc.cell? ⟨gb127, 6, none⟩ = some (.int .i64 a0_6) := (blk_cell BK127.out 6).trans rfl
         have hcz40_7 : wc.cell? ⟨gb127, 7, none⟩ = some (.int .i64 a0_7) := (blk_cell BK127.out 7).trans rfl
         have hfz40_0 := blk_frozen BK127.out 0
         have hfz40_1 := blk_frozen BK127.out 1
         have hfz40_2 := blk_frozen BK127.out 2
         have hfz40_3 := blk_frozen BK127.out 3
         have hfz40_4 := blk_frozen BK127.out 4
         have hfz40_5 := blk_frozen BK127.out 5
         have hfz40_6 := blk_frozen BK127.out 6
         have hfz40_7 := blk_frozen BK127.out 7
         go_wp2
         go_ret
         exact ⟨by first | rfl | (simp [errW_none, errW_some] <;> rfl) | (simp [*, errW_none, errW_some] <;> rfl), by repeat (first | (with_reducible first | exact HB.out | apply below_alloc | apply pw_below_drewN | apply below_drew1 | refine below_set ?_ GE127.out) | exact HB.out)⟩
       ·rw [if_neg c33] at H
        have c33b0 : (a0_1 == 0) = false := beq_eq_false_iff_ne.mpr c33
        have c33b1 : (a0_1 != 0) = true := bne_iff_ne.mpr c33
        obtain rfl := Option.some.inj H
        have hcz41_0 : wc.cell? ⟨gb127, 0, none⟩ = some (.int .i64 a0_0) := (blk_cell BK127.out 0).trans rfl
        have hcz41_1 : wc.cell? ⟨gb127, 1, none⟩ = some (.int .i64 a0_1) := (blk_cell BK127.out 1).trans rfl
        have hcz41_2 : wc.cell? ⟨gb127, 2, none⟩ = some (.slice A0_2 l0_2.length c0_2) := (blk_cell BK127.out 2).trans rfl
        have hcz41_3 : wc.cell? ⟨gb127, 3, none⟩ = some (.slice A0_3 l0_3.length c0_3) := (blk_cell BK127.out 3).trans rfl
        have hcz41_4 : wc.cell? ⟨gb127, 4, none⟩ = some (.slice A0_4 l0_4.length c0_4) := (blk_cell BK127.out 4).trans rfl
        have hcz41_5 : wc.cell? ⟨gb127, 5, none⟩ = some (.int .i64 a0_5) := (blk_cell BK127.out 5).trans rfl
        have hcz41_6 : wc.cell? ⟨gb127, 6, none⟩ = some (.int .i64 a0_6) := (blk_cell BK127.out 6).trans rfl
        have hcz41_7 : wc.cell? ⟨gb127, 7, none⟩ = some (.int .i64 a0_7) := (blk_cell BK127.out 7).trans rfl
        have hfz41_0 := blk_frozen BK127.out 0
        have hfz41_1 := blk_frozen BK127.out 1
        have hfz41_2 := blk_frozen BK127.out 2
        have hfz41_3 := blk_frozen BK127.out 3
        have hfz41_4 := blk_frozen BK127.out 4
        have hfz41_5 := blk_frozen BK127.out 5
        have hfz41_6 := blk_frozen BK127.out 6
        have hfz41_7 := blk_frozen BK127.out 7
        go_wp2
        go_ret
        exact ⟨by first | rfl | (simp [errW_none, errW_some] <;> rfl) | (simp [*, errW_none, errW_some] <;> rfl), by repeat (first | (with_reducible first | exact HB.out | apply below_alloc | apply pw_below_drewN | apply below_drew1 | refine below_set ?_ GE127.out) | exact HB.out)⟩
      ·rw [if_neg c32] at H
       have c32b0 : (a0_0 == 4) = false := beq_eq_false_iff_ne.mpr c32
       have c32b1 : (a0_0 != 4) = true := bne_iff_ne.mpr c32
       obtain rfl := Option.some.inj H
       have hcz42_0 : wc.cell? ⟨gb127, 0, none⟩ = some (.int .i64 a0_0) := (blk_cell BK127.out 0).trans rfl
       have hcz42_1 : wc.cell? ⟨gb127, 1, none⟩ = some (.int .i64 a0_1) := (blk_cell BK127.out 1).trans rfl
       have hcz42_2 : wc.cell? ⟨gb127, 2, none⟩ = some (.slice A0_2 l0_2.length c0_2) := (blk_cell BK127.out 2).trans rfl
       have hcz42_3 : wc.cell? ⟨gb127, 3, none⟩ = some (.slice A0_3 l0_3.length c0_3) := (blk_cell BK127.out 3).trans rfl
       have hcz42_4 : wc.cell? ⟨gb127, 4, none⟩ = some (.slice A0_4 l0_4.length c0_4) := (blk_cell BK127.out 4).trans rfl
       have hcz42_5 : wc.cell? ⟨gb127, 5, none⟩ = some (.int .i64 a0_5) := (blk_cell BK127.out 5).trans rfl
       have hcz42_6 : wc.cell? ⟨gb127, 6, none⟩ = some (.int .i64 a0_6) := (blk_cell BK127.out 6).trans rfl
       have hcz42_7 : wc.cell? ⟨gb127, 7, none⟩ = some (.int .i64 a0_7) := (blk_cell BK127.out 7).trans rfl
       have hfz42_0 := blk_frozen BK127.out 0
       have hfz42_1 := blk_frozen BK127.out 1
       have hfz42_2 := blk_frozen BK127.out 2
       have hfz42_3 := blk_frozen BK127.out 3
       have hfz42_4 := blk_frozen BK127.out 4
       have hfz42_5 := blk_frozen BK127.out 5
       have hfz42_6 := blk_frozen BK127.out 6
       have hfz42_7 := blk_frozen BK127.out 7
       go_wp2
       go_ret
       exact ⟨by first | rfl | (simp [errW_none, errW_some] <;> rfl) | (simp [*, errW_none, errW_some] <;> rfl), by repeat (first | (with_reducible first | exact HB.out | apply below_alloc | apply pw_below_drewN | apply below_drew1 | refine below_set ?_ GE127.out) | exact HB.out)⟩

/-! ### spec_l04Ids: function 67 -/
def spec_l04Ids.f (k : Nat) (a0 : Int) (l1 : List Int) (l2 : List Int) : Option (List Int) := (spec_l01Digits.f k a0 4).bind fun t130 => (if t130.length < 140737488355328 then ((some (t130 ++ [((l1.length : Int)) % 256] : List Int)).bind fun y133 => (if y133.length + l1.length < 140737488355328 then ((some (y133 ++ l1 : List Int)).bind fun y136 => (if y136.length < 140737488355328 then ((some (y136 ++ [((l2.length : Int)) % 256] : List Int)).bind fun y139 => (if y139.length + l2.length < 140737488355328 then (some (y139 ++ l2)) else (none))) else (none))) else (none))) else (none))
theorem spec_l04Ids.mono : ∀ a0 a1 a2 k, LeO (spec_l04Ids.f k a0 a1 a2) (spec_l04Ids.f (k + 1) a0 a1 a2) := by
 intro a0 a1 a2 k
 unfold spec_l04Ids.f
 repeat' first
   | (with_reducible exact spec_l01Digits.mono _ _ _)
   | (with_reducible exact LeO.refl _)
   | (with_reducible exact LeO.none _)
   | (with_reducible refine LeO.ite ?_ ?_)
   | (with_reducible refine LeO.bind ?_ (fun _ => ?_))
   | exact spec_l01Digits.mono _ _ _
   | exact LeO.none _
   | refine LeO.ite ?_ ?_
   | refine LeO.bind ?_ (fun _ => ?_)
set_option maxHeartbeats 8000000 in
set_option maxRecDepth 100000 in
theorem spec_l04Ids.calls (k : Nat) (a0 : Int) (A1 : Option Addr) (c1 : Nat) (l1 : List Int) (A2 : Option Addr) (c2 : Nat) (l2 : List Int) (r : List Int) (w : World) (hr1 : Kd.C (Kd.int .u8) w A1 l1.length l1) (hc1 : l1.length ≤ c1) (hr2 : Kd.C (Kd.int .u8) w A2 l2.length l2) (hc2 : l2.length ≤ c2) (h : spec_l04Ids.f k a0 l1 l2 = some r) :
  Calls Try.prog 67 #[.int .i64 a0, .slice A1 l1.length c1, .slice A2 l2.length c2] w fun e w' => ∃ v0_ : Value, e = .returned (v0_) ∧ Kd.R (Kd.int .u8) 5 w' w.heap.size (fun _ => True) v0_ r ∧ Below w.heap.size w w' := by
 have HR1 := Aside0.mk hr1
 have HC1 := Aside0.mk hc1
 clear hr1 hc1
 have HR2 := Aside0.mk hr2
 have HC2 := Aside0.mk hc2
 clear hr2 hc2
 have HB := Aside0.mk (Below.refl w.heap.size w)
 have H : ((spec_l01Digits.f k a0 4).bind fun t130 => (if t130.length < 140737488355328 then ((some (t130 ++ [((l1.length : Int)) % 256] : List Int)).bind fun y133 => (if y133.length + l1.length < 140737488355328 then ((some (y133 ++ l1 : List Int)).bind fun y136 => (if y136.length < 140737488355328 then ((some (y136 ++ [((l2.length : Int)) % 256] : List Int)).bind fun y139 => (if y139.length + l2.length < 140737488355328 then (some (y139 ++ l2)) else (none))) else (none))) else (none))) else (none))) = some r := h
 clear h
 replace H := Option.bind_eq_some_iff.mp H
 obtain ⟨t130, A40, H⟩ := H
 replace H : (if t130.length < 140737488355328 then ((some (t130 ++ [((l1.length : Int)) % 256] : List Int)).bind fun y133 => (if y133.length + l1.length < 140737488355328 then ((some (y133 ++ l1 : List Int)).bind fun y136 => (if y136.length < 140737488355328 then ((some (y136 ++ [((l2.length : Int)) % 256] : List Int)).bind fun y139 => (if y139.length + l2.length < 140737488355328 then (some (y139 ++ l2)) else (none))) else (none))) else (none))) else (none)) = some r := H
 have A4 := Aside0.mk A40
 clear A40
 by_cases c5 : t130.length < 140737488355328
 ·rw [if_pos c5] at H
  have LMc5 := Aside0.mk c5
  clear c5
  obtain ⟨y133, hy133⟩ : ∃ y_ : List Int, y_ = (t130 ++ [((l1.length : Int)) % 256]) := ⟨_, rfl⟩
  replace H : (if y133.length + l1.length < 140737488355328 then ((some (y133 ++ l1 : List Int)).bind fun y136 => (if y136.length < 140737488355328 then ((some (y136 ++ [((l2.length : Int)) % 256] : List Int)).bind fun y139 => (if y139.length + l2.length < 140737488355328 then (some (y139 ++ l2)) else (none))) else (none))) else (none)) = some r := by first | (rw [hy133]; with_reducible exact H) | (have H2_ := (Option.bind_some _ _).symm.trans H; rw [hy133]; with_reducible exact H2_) | (have H2_ := (Option.bind_some _ _).symm.trans H; with_reducible exact H2_) | with_reducible exact H | (rw [hy133]; exact H) | exact H
  have Ny133 := Aside0.mk hy133
  clear hy133
  by_cases c6 : y133.length + l1.length < 140737488355328
  ·rw [if_pos c6] at H
   have LMc6 := Aside0.mk c6
   clear c6
   obtain ⟨y136, hy136⟩ : ∃ y_ : List Int, y_ = (y133 ++ l1) := ⟨_, rfl⟩
   replace H : (if y136.length < 140737488355328 then ((some (y136 ++ [((l2.length : Int)) % 256] : List Int)).bind fun y139 => (if y139.length + l2.length < 140737488355328 then (some (y139 ++ l2)) else (none))) else (none)) = some r := by first | (rw [hy136]; with_reducible exact H) | (have H2_ := (Option.bind_some _ _).symm.trans H; rw [hy136]; with_reducible exact H2_) | (have H2_ := (Option.bind_some _ _).symm.trans H; with_reducible exact H2_) | with_reducible exact H | (rw [hy136]; exact H) | exact H
   have Ny136 := Aside0.mk hy136
   clear hy136
   by_cases c7 : y136.length < 140737488355328
   ·rw [if_pos c7] at H
    have LMc7 := Aside0.mk c7
    clear c7
    obtain ⟨y139, hy139⟩ : ∃ y_ : List Int, y_ = (y136 ++ [((l2.length : Int)) % 256]) := ⟨_, rfl⟩
    replace H : (if y139.length + l2.length < 140737488355328 then (some (y139 ++ l2)) else (none)) = some r := by first | (rw [hy139]; with_reducible exact H) | (have H2_ := (Option.bind_some _ _).symm.trans H; rw [hy139]; with_reducible exact H2_) | (have H2_ := (Option.bind_some _ _).symm.trans H; with_reducible exact H2_) | with_reducible exact H | (rw [hy139]; exact H) | exact H
    have Ny139 := Aside0.mk hy139
    clear hy139
    by_cases c8 : y139.length + l2.length < 140737488355328
    ·rw [if_pos c8] at H
     have LMc8 := Aside0.mk c8
     clear c8
     obtain ⟨y142, hy142⟩ : ∃ y_ : List Int, y_ = (y139 ++ l2) := ⟨_, rfl⟩
     replace H : (some y142) = some r := by first | (rw [hy142]; with_reducible exact H) | (have H2_ := (Option.bind_some _ _).symm.trans H; rw [hy142]; with_reducible exact H2_) | (have H2_ := (Option.bind_some _ _).symm.trans H; with_reducible exact H2_) | with_reducible exact H | (rw [hy142]; exact H) | exact H
     have Ny142 := Aside0.mk hy142
     clear hy142
     obtain rfl := Option.some.inj H
     go_enter Try.func67, Try.ntmps67
     go_wp2_with (first | ((with_reducible refine gate_callee (f := 57) rfl ?_); refine goesL_ (some 9) rfl rfl Try.func57 (by kernel_rfl) rfl #[.int .i64 a0, .int .i64 4] rfl (by (try simp only [List.map_toArray, List.map_cons, List.map_nil]); first | done | rfl | (simp only [List.length_drop, List.length_take]; rfl)) ?_; (with_reducible refine (spec_l01Digits.calls k a0 4 t130 _ A4.out).mono ?_); rintro e w9 ⟨v131, rfl, ho0, hb⟩; refine ⟨_, rfl, ?_⟩; have n0_ := Aside0.mk (Kd.R_lower ho0 (below_size (by repeat (first | (with_reducible first | exact HB.out | apply below_alloc | apply pw_below_drewN | apply below_drew1) | exact HB.out)))); have n1_ := Aside0.mk (below_step (by repeat (first | (with_reducible first | exact HB.out | apply below_alloc | apply pw_below_drewN | apply below_drew1) | exact HB.out)) hb); clear HB; have HO132 := n0_; have HB := n1_; clear n0_ n1_; (try clear hb); (try clear hb2); (try clear hk); (try clear hi); (try clear ho0)) | ((with_reducible refine gate_builtin (b := .append) (xs := #[.tmp 10, .tmp 14]) rfl ?_); at_builtin; refine Kd.R_append (Kd.int .u8) (w0 := w) w.heap.size rfl (.tmp 10) (.tmp 14) 22 5 (.int .u8 0) 1 rfl Try.underlying22 info5 rfl (by decide) (by omega) v131 t130 (((l1.length : Int)) % 256) [.int .u8 (((l1.length : Int)) % 256)] (fun _ => True) (fun _ => False) rfl rfl ?aP (fun _ hk => hk.elim) ?aF ?aO ?aB ?aS ?aL ?_; (case aP => exact rfl); (case aB => exact (by repeat (first | (with_reducible first | exact HB.out | apply below_alloc | apply pw_below_drewN | apply below_drew1) | exact HB.out))); (case aF => exact (fun _ _ => trivial)); (case aO => exact (by (with_reducible repeat (first | apply Kd.R_alloc | apply Kd.R_drewN | apply Kd.R_drew)); exact HO132.out)); (case aS => exact (below_size (by repeat (first | (with_reducible first | exact HB.out | apply below_alloc | apply pw_below_drewN | apply below_drew1) | exact HB.out)))); (case aL => have := LMc5.out; omega); intro v134 w10 ho hb hg hat; rw [← Ny133.out] at ho; have n0_ := Aside0.mk (hb); have n1_ := Aside0.mk (ho); clear HB; clear HO132; have HB := n0_; have HO135 := n1_; clear n0_ n1_; clear ho hb hg hat) | ((with_reducible refine gate_builtin (b := .append) (xs := #[.tmp 16, .tmp 17]) rfl ?_); at_builtin; refine Kd.R_append_rows (Kd.int .u8) (w0 := w) w.heap.size rfl (.tmp 16) (.tmp 17) 22 5 (.int .u8 0) 1 rfl Try.underlying22 info5 rfl (by decide) (by omega) v134 y133 l1 _ _ _ (fun _ => True) (fun _ => False) rfl rfl ?aO ?aR (fun _ _ h => h) (fun _ h => h.elim) ?aF ?aB ?aS ?aL ?_; (case aR => repeat (first | exact (Kd.C_below HR1.out HB.out) | (with_reducible refine Kd.C_alloc ?_ _) | (with_reducible refine Kd.C_drewN ?_ _) | (with_reducible refine Kd.C_drew ?_))); (case aB => exact (by repeat (first | (with_reducible first | exact HB.out | apply below_alloc | apply pw_below_drewN | apply below_drew1) | exact HB.out))); (case aF => exact (fun _ _ => trivial)); (case aO => exact (by (with_reducible repeat (first | apply Kd.R_alloc | apply Kd.R_drewN | apply Kd.R_drew)); exact HO135.out)); (case aS => exact (below_size (by repeat (first | (with_reducible first | exact HB.out | apply below_alloc | apply pw_below_drewN | apply below_drew1) | exact HB.out)))); (case aL => have := LMc6.out; omega); intro v137 w11 ho hb hg hat; rw [← Ny136.out] at ho; have n0_ := Aside0.mk (hb); have n1_ := Aside0.mk (ho); clear HB; clear HO135; have HB := n0_; have HO138 := n1_; clear n0_ n1_; clear ho hb hg hat) | ((with_reducible refine gate_builtin (b := .append) (xs := #[.tmp 19, .tmp 23]) rfl ?_); at_builtin; refine Kd.R_append (Kd.int .u8) (w0 := w) w.heap.size rfl (.tmp 19) (.tmp 23) 22 5 (.int .u8 0) 1 rfl Try.underlying22 info5 rfl (by decide) (by omega) v137 y136 (((l2.length : Int)) % 256) [.int .u8 (((l2.length : Int)) % 256)] (fun _ => True) (fun _ => False) rfl rfl ?aP (fun _ hk => hk.elim) ?aF ?aO ?aB ?aS ?aL ?_; (case aP => exact rfl); (case aB => exact (by repeat (first | (with_reducible first | exact HB.out | apply below_alloc | apply pw_below_drewN | apply below_drew1) | exact HB.out))); (case aF => exact (fun _ _ => trivial)); (case aO => exact (by (with_reducible repeat (first | apply Kd.R_alloc | apply Kd.R_drewN | apply Kd.R_drew)); exact HO138.out)); (case aS => exact (below_size (by repeat (first | (with_reducible first | exact HB.out | apply below_alloc | apply pw_below_drewN | apply below_drew1) | exact HB.out)))); (case aL => have := LMc7.out; omega); intro v140 w12 ho hb hg hat; rw [← Ny139.out] at ho; have n0_ := Aside0.mk (hb); have n1_ := Aside0.mk (ho); clear HB; clear HO138; have HB := n0_; have HO141 := n1_; clear n0_ n1_; clear ho hb hg hat) | ((with_reducible refine gate_builtin (b := .append) (xs := #[.tmp 25, .tmp 26]) rfl ?_); at_builtin; refine Kd.R_append_rows (Kd.int .u8) (w0 := w) w.heap.size rfl (.tmp 25) (.tmp 26) 22 5 (.int .u8 0) 1 rfl Try.underlying22 info5 rfl (by decide) (by omega) v140 y139 l2 _ _ _ (fun _ => True) (fun _ => False) rfl rfl ?aO ?aR (fun _ _ h => h) (fun _ h => h.elim) ?aF ?aB ?aS ?aL ?_; (case aR => repeat (first | exact (Kd.C_below HR2.out HB.out) | (with_reducible refine Kd.C_alloc ?_ _) | (with_reducible refine Kd.C_drewN ?_ _) | (with_reducible refine Kd.C_drew ?_))); (case aB => exact (by repeat (first | (with_reducible first | exact HB.out | apply below_alloc | apply pw_below_drewN | apply below_drew1) | exact HB.out))); (case aF => exact (fun _ _ => trivial)); (case aO => exact (by (with_reducible repeat (first | apply Kd.R_alloc | apply Kd.R_drewN | apply Kd.R_drew)); exact HO141.out)); (case aS => exact (below_size (by repeat (first | (with_reducible first | exact HB.out | apply below_alloc | apply pw_below_drewN | apply below_drew1) | exact HB.out)))); (case aL => have := LMc8.out; omega); intro v143 w13 ho hb hg hat; rw [← Ny142.out] at ho; have n0_ := Aside0.mk (hb); have n1_ := Aside0.mk (ho); clear HB; clear HO141; have HB := n0_; have HO144 := n1_; clear n0_ n1_; clear ho hb hg hat))
     go_ret
     exact ⟨_, by first | rfl | (simp [errW_none, errW_some] <;> rfl) | (simp [*, errW_none, errW_some] <;> rfl), by (with_reducible repeat (first | apply Kd.R_alloc | apply Kd.R_drewN | apply Kd.R_drew)); exact HO144.out, by repeat (first | (with_reducible first | exact HB.out | apply below_alloc | apply pw_below_drewN | apply below_drew1) | exact HB.out)⟩
    ·rw [if_neg c8] at H
     exact absurd H (by simp)
   ·rw [if_neg c7] at H
    exact absurd H (by simp)
  ·rw [if_neg c6] at H
   exact absurd H (by simp)
 ·rw [if_neg c5] at H
  exact absurd H (by simp)

/-! ### spec_l01Power: function 94 -/
def spec_l01Power.l0 : Nat → Int → Int → Int → Option (Int)
 | 0, _, _, _ => none
 | k + 1, x0, x3, x4 => if x4 < x0 then (spec_l01Power.l0 k x0 (wrap64 (x3 * 256)) (wrap64 (x4 + 1))) else (some x3)
def spec_l01Power.f (k : Nat) (a0 : Int) : Option (Int) := spec_l01Power.l0 k a0 1 0
theorem spec_l01Power.mono_l : ∀ k, (∀ y0 y1 y2, LeO (spec_l01Power.l0 k y0 y1 y2) (spec_l01Power.l0 (k + 1) y0 y1 y2))
 | 0 => fun _ _ _ r h => by simp [spec_l01Power.l0] at h
 | k + 1 => by
  have ih0 := spec_l01Power.mono_l k
  ·intro y0 y1 y2
   unfold spec_l01Power.l0
   repeat' first
   | (with_reducible exact ih0 _ _ _)
   | (with_reducible exact LeO.refl _)
   | (with_reducible exact LeO.none _)
   | (with_reducible refine LeO.ite ?_ ?_)
   | (with_reducible refine LeO.bind ?_ (fun _ => ?_))
   | exact ih0 _ _ _
   | exact LeO.none _
   | refine LeO.ite ?_ ?_
   | refine LeO.bind ?_ (fun _ => ?_)
theorem spec_l01Power.mono : ∀ a0 k, LeO (spec_l01Power.f k a0) (spec_l01Power.f (k + 1) a0) := by
 intro a0 k
 have ih0 := spec_l01Power.mono_l k
 unfold spec_l01Power.f
 repeat' first
   | (with_reducible exact ih0 _ _ _)
   | (with_reducible exact LeO.refl _)
   | (with_reducible exact LeO.none _)
   | (with_reducible refine LeO.ite ?_ ?_)
   | (with_reducible refine LeO.bind ?_ (fun _ => ?_))
   | exact ih0 _ _ _
   | exact LeO.none _
   | refine LeO.ite ?_ ?_
   | refine LeO.bind ?_ (fun _ => ?_)
set_option maxHeartbeats 8000000 in
set_option maxRecDepth 100000 in
theorem spec_l01Power.calls (k : Nat) (a0 : Int) (r : Int) (w : World) (h : spec_l01Power.f k a0 = some r) :
  Calls Try.prog 94 #[.int .i64 a0] w fun e w' => e = .returned (.int .i64 r) ∧ Drawn0 w w' := by
 have H : (spec_l01Power.l0 k a0 1 0) = some r := h
 clear h
 have H' := Aside0.mk H
 clear H
 go_enter Try.func94, Try.ntmps94
 go_wp2
 go_loopg [3, 4] k (fun kq v3 v4 w' => ∃ (x3_1 : Int) (x4_1 : Int), v3 = .int .i64 x3_1 ∧ v4 = .int .i64 x4_1 ∧ Aside0 (spec_l01Power.l0 kq a0 x3_1 x4_1 = some r) ∧ Aside0 (kq ≤ k) ∧ Drawn0 w w')
 case atStart => exact ⟨(1), (0), (by first | rfl | (simp; done) | (simp [*]; done)), (by first | rfl | (simp; done) | (simp [*]; done)), H', ⟨Nat.le_refl _⟩, by repeat (first | exact Drawn0.refl _ | apply Drawn0.step)⟩
 case round =>
  clear H'
  obtain ⟨x3_1, x4_1, rfl, rfl, HA, HK1, ⟨m1, rfl⟩⟩ := hrel
  cases gk with
  | zero => exact absurd HA.out (by simp [spec_l01Power.l0])
  | succ k1 =>
   have H := HA.out
   clear HA
   simp only [spec_l01Power.l0] at H
   by_cases c2 : x4_1 < a0
   ·rw [if_pos c2] at H
    have c2b0 : decide (x4_1 < a0) = true := decide_eq_true c2
    clear c2
    have H' := Aside0.mk H
    clear H
    go_wp2
    go_roundg k1
    case measure => have := HK1.out; omega
    case rel => exact ⟨(wrap64 (x3_1 * 256)), (wrap64 (x4_1 + 1)), (by first | rfl | (simp; done) | (simp [*]; done)), (by first | rfl | (simp; done) | (simp [*]; done)), H', ⟨by have := HK1.out; omega⟩, by repeat (first | exact Drawn0.refl _ | apply Drawn0.step)⟩
   ·rw [if_neg c2] at H
    have c2b0 : decide (x4_1 < a0) = false := decide_eq_false c2
    clear c2
    obtain rfl := Option.some.inj H
    go_wp2
    go_ret
    exact ⟨by first | rfl | (simp; done) | (simp [*]; done), by repeat (first | exact Drawn0.refl _ | apply Drawn0.step)⟩

end Go.Proofs.Ytdojcdhlcnlohaa.SFnExactHeadBytes
