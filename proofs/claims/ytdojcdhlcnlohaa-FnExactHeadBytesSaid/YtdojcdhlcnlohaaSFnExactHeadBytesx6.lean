/- The walk of functions that the law FnExactHeadBytes uses, written by program. -/
import Derived.Test.YtdojcdhlcnlohaaSFnExactHeadBytesx0
import Derived.Test.YtdojcdhlcnlohaaSFnExactHeadBytesx5
namespace Go.Proofs.Ytdojcdhlcnlohaa.SFnExactHeadBytes
open Go.RowKit Go.Proofs.YtdojcdhlcnlohaaW.PrintWords Go.Proofs.YtdojcdhlcnlohaaW.PrintLast Go.Proofs.YtdojcdhlcnlohaaW.PrintMore
attribute [local go_sem] max2_int min2_int max_two min_two max_three min_three max_four min_four   -- for this text's walks alone
set_option linter.unusedVariables false
set_option linter.unusedSimpArgs false

/-! ### impl_headerOK: function 69 -/
def impl_headerOK.j0 : Nat → Bool → Int → Int → List Int → List Int → List Int → Int → Int → Int → Option (Bool)
  | 0, _, _, _, _, _, _, _, _, _ => none
  | k + 1, x22, x230000, x230001, x230002, x230003, x230004, x230005, x230006, x230007 => if x22 = true then (some false) else (if x230000 = 1 then ((impl_versionOK.f x230001).bind fun t231 => (if t231 = true then (if (x230003.length : Int) ≤ 8 then (if (x230004.length : Int) ≤ 64 then (some (x230007 == 0)) else (some false)) else (some false)) else (some false))) else (if x230000 = 2 then ((impl_versionOK.f x230001).bind fun t232 => (if t232 = true then (if (x230003.length : Int) ≤ 8 then (if (x230004.length : Int) = 0 then (some (x230007 == 0)) else (some false)) else (some false)) else (some false))) else (if x230000 = 4 then (if x230001 = 0 then (if (x230003.length : Int) = 0 then (if (x230004.length : Int) = 0 then (if x230007 = 0 then (some true) else (some (x230007 == 1))) else (some false)) else (some false)) else (some false)) else (some false))))
def impl_headerOK.f (k : Nat) (a0_0 : Int) (a0_1 : Int) (l0_2 : List Int) (l0_3 : List Int) (l0_4 : List Int) (a0_5 : Int) (a0_6 : Int) (a0_7 : Int) : Option (Bool) := (impl_inVar.f a0_5).bind fun t230 => (if t230 = true then (if a0_6 < 1 then (impl_headerOK.j0 k true a0_0 a0_1 l0_2 l0_3 l0_4 a0_5 a0_6 a0_7) else (if a0_6 > 4 then (impl_headerOK.j0 k true a0_0 a0_1 l0_2 l0_3 l0_4 a0_5 a0_6 a0_7) else (impl_headerOK.j0 k (decide ((l0_2.length : Int) > 8)) a0_0 a0_1 l0_2 l0_3 l0_4 a0_5 a0_6 a0_7))) else (impl_headerOK.j0 k true a0_0 a0_1 l0_2 l0_3 l0_4 a0_5 a0_6 a0_7))
theorem impl_headerOK.mono_l : ∀ k, (∀ y0 y1 y2 y3 y4 y5 y6 y7 y8, LeO (impl_headerOK.j0 k y0 y1 y2 y3 y4 y5 y6 y7 y8) (impl_headerOK.j0 (k + 1) y0 y1 y2 y3 y4 y5 y6 y7 y8))
  | 0 => fun _ _ _ _ _ _ _ _ _ r h => by simp [impl_headerOK.j0] at h
  | k + 1 => by
    have ih0 := impl_headerOK.mono_l k
    · intro y0 y1 y2 y3 y4 y5 y6 y7 y8
      unfold impl_headerOK.j0
      repeat' first
      | (with_reducible exact ih0 _ _ _ _ _ _ _ _ _)
      | (with_reducible exact LeO.refl _)
      | (with_reducible exact LeO.none _)
      | (with_reducible refine LeO.ite ?_ ?_)
      | (with_reducible refine LeO.bind ?_ (fun _ => ?_))
      | exact ih0 _ _ _ _ _ _ _ _ _
      | exact LeO.none _
      | refine LeO.ite ?_ ?_
      | refine LeO.bind ?_ (fun _ => ?_)
theorem impl_headerOK.mono : ∀ a0 a1 a2 a3 a4 a5 a6 a7 k, LeO (impl_headerOK.f k a0 a1 a2 a3 a4 a5 a6 a7) (impl_headerOK.f (k + 1) a0 a1 a2 a3 a4 a5 a6 a7) := by
  intro a0 a1 a2 a3 a4 a5 a6 a7 k
  have ih0 := impl_headerOK.mono_l k
  unfold impl_headerOK.f
  repeat' first
      | (with_reducible exact ih0 _ _ _ _ _ _ _ _ _)
      | (with_reducible exact LeO.refl _)
      | (with_reducible exact LeO.none _)
      | (with_reducible refine LeO.ite ?_ ?_)
      | (with_reducible refine LeO.bind ?_ (fun _ => ?_))
      | exact ih0 _ _ _ _ _ _ _ _ _
      | exact LeO.none _
      | refine LeO.ite ?_ ?_
      | refine LeO.bind ?_ (fun _ => ?_)
set_option maxHeartbeats 8000000 in
set_option maxRecDepth 100000 in
theorem impl_headerOK.calls (k : Nat) (a0_0 : Int) (a0_1 : Int) (A0_2 : Option Addr) (c0_2 : Nat) (l0_2 : List Int) (A0_3 : Option Addr) (c0_3 : Nat) (l0_3 : List Int) (A0_4 : Option Addr) (c0_4 : Nat) (l0_4 : List Int) (a0_5 : Int) (a0_6 : Int) (a0_7 : Int) (r : Bool) (w : World) (hr0_2 : Kd.C (Kd.int .u8) w A0_2 l0_2.length l0_2) (hc0_2 : l0_2.length ≤ c0_2) (hr0_3 : Kd.C (Kd.int .u8) w A0_3 l0_3.length l0_3) (hc0_3 : l0_3.length ≤ c0_3) (hr0_4 : Kd.C (Kd.int .u8) w A0_4 l0_4.length l0_4) (hc0_4 : l0_4.length ≤ c0_4) (h : impl_headerOK.f k a0_0 a0_1 l0_2 l0_3 l0_4 a0_5 a0_6 a0_7 = some r) :
    Calls Try.prog 69 #[.agg #[.int .i64 a0_0, .int .i64 a0_1, .slice A0_2 l0_2.length c0_2, .slice A0_3 l0_3.length c0_3, .slice A0_4 l0_4.length c0_4, .int .i64 a0_5, .int .i64 a0_6, .int .i64 a0_7]] w fun e w' => e = .returned (.bool r) ∧ Below w.heap.size w w' := by
  have hu42 := Try.underlying42
  have HR0_2 := Aside0.mk hr0_2
  have HC0_2 := Aside0.mk hc0_2
  clear hr0_2 hc0_2
  have HR0_3 := Aside0.mk hr0_3
  have HC0_3 := Aside0.mk hc0_3
  clear hr0_3 hc0_3
  have HR0_4 := Aside0.mk hr0_4
  have HC0_4 := Aside0.mk hc0_4
  clear hr0_4 hc0_4
  have HB := Aside0.mk (Below.refl w.heap.size w)
  have H : ((impl_inVar.f a0_5).bind fun t230 => (if t230 = true then (if a0_6 < 1 then (impl_headerOK.j0 k true a0_0 a0_1 l0_2 l0_3 l0_4 a0_5 a0_6 a0_7) else (if a0_6 > 4 then (impl_headerOK.j0 k true a0_0 a0_1 l0_2 l0_3 l0_4 a0_5 a0_6 a0_7) else (impl_headerOK.j0 k (decide ((l0_2.length : Int) > 8)) a0_0 a0_1 l0_2 l0_3 l0_4 a0_5 a0_6 a0_7))) else (impl_headerOK.j0 k true a0_0 a0_1 l0_2 l0_3 l0_4 a0_5 a0_6 a0_7))) = some r := h
  clear h
  have HC2 := Aside0.mk H
  clear H
  go_enter Try.func69, Try.ntmps69
  go_upto_region 1 with (first | ((with_reducible refine gate_dst (N := 1) rfl ?_); (try (refine gate_guard (by rfl) ?_; dsimp only)); refine box_event ?hg (N := 1) ?hd (cs := #[.int .i64 a0_0, .int .i64 a0_1, .slice A0_2 l0_2.length c0_2, .slice A0_3 l0_3.length c0_3, .slice A0_4 l0_4.length c0_4, .int .i64 a0_5, .int .i64 a0_6, .int .i64 a0_7]) (t := 42) ?hr ?_; (case hd => rfl); (case hg => rfl); (case hr => first | (go_simp; done) | (go_simp; rfl)); intro gb229 hg w3 hbox hb; have n0_ := Aside0.mk (below_step (by repeat (first | (with_reducible first | exact HB.out | apply below_alloc | apply pw_below_drewN | apply below_drew1) | exact HB.out)) hb); have n1_ := Aside0.mk (hbox); have n2_ := Aside0.mk ((by rw [hg]; exact (below_size (by repeat (first | (with_reducible first | exact HB.out | apply below_alloc | apply pw_below_drewN | apply below_drew1) | exact HB.out))) : w.heap.size ≤ gb229)); have n3_ := Aside0.mk ((by rw [hg]; exact (below_size (by repeat (first | (with_reducible first | exact HB.out | apply below_alloc | apply pw_below_drewN | apply below_drew1) | exact HB.out))) : w.heap.size ≤ gb229)); clear HB; have HB := n0_; have BK229 := n1_; have GW229 := n2_; have GE229 := n3_; clear n0_ n1_ n2_ n3_; clear hb hbox hg))
  (try simp only [Act.put, List.setIfInBounds_toArray, List.set_cons_zero, List.set_cons_succ])
  go_cut [22] (fun v22 wc => ∃ (kq : Nat) (x22_1 : Bool), v22 = .bool x22_1 ∧ Aside0 (impl_headerOK.j0 kq x22_1 a0_0 a0_1 l0_2 l0_3 l0_4 a0_5 a0_6 a0_7 = some r) ∧ Aside0 (kq ≤ k) ∧ Aside0 (wc.heap[gb229]? = some (.cells #[.int .i64 a0_0, .int .i64 a0_1, (.slice A0_2 l0_2.length c0_2), (.slice A0_3 l0_3.length c0_3), (.slice A0_4 l0_4.length c0_4), .int .i64 a0_5, .int .i64 a0_6, .int .i64 a0_7] 42 (0, 0))) ∧ Aside0 (Below w.heap.size w wc))
  case first =>
    have H := HC2.out
    clear HC2
    replace H := Option.bind_eq_some_iff.mp H
    obtain ⟨t230, A40, H⟩ := H
    replace H : (if t230 = true then (if a0_6 < 1 then (impl_headerOK.j0 k true a0_0 a0_1 l0_2 l0_3 l0_4 a0_5 a0_6 a0_7) else (if a0_6 > 4 then (impl_headerOK.j0 k true a0_0 a0_1 l0_2 l0_3 l0_4 a0_5 a0_6 a0_7) else (impl_headerOK.j0 k (decide ((l0_2.length : Int) > 8)) a0_0 a0_1 l0_2 l0_3 l0_4 a0_5 a0_6 a0_7))) else (impl_headerOK.j0 k true a0_0 a0_1 l0_2 l0_3 l0_4 a0_5 a0_6 a0_7)) = some r := H
    have A4 := Aside0.mk A40
    clear A40
    by_cases c5 : t230 = true
    · subst c5
      have H1 : (if a0_6 < 1 then (impl_headerOK.j0 k true a0_0 a0_1 l0_2 l0_3 l0_4 a0_5 a0_6 a0_7) else (if a0_6 > 4 then (impl_headerOK.j0 k true a0_0 a0_1 l0_2 l0_3 l0_4 a0_5 a0_6 a0_7) else (impl_headerOK.j0 k (decide ((l0_2.length : Int) > 8)) a0_0 a0_1 l0_2 l0_3 l0_4 a0_5 a0_6 a0_7))) = some r := by rw [if_pos rfl] at H; exact H
      clear H
      have H := H1
      clear H1
      by_cases c6 : a0_6 < 1
      · rw [if_pos c6] at H
        have c6b0 : decide (a0_6 < 1) = true := decide_eq_true c6
        clear c6
        (first | rw [c6b0] | (simp only [i64_w, i32_w]; rw [c6b0]) | skip)
        have H' := Aside0.mk H
        clear H
        have hcz7_0 : w3.cell? ⟨gb229, 0, none⟩ = some (.int .i64 a0_0) := (blk_cell BK229.out 0).trans rfl
        have hcz7_1 : w3.cell? ⟨gb229, 1, none⟩ = some (.int .i64 a0_1) := (blk_cell BK229.out 1).trans rfl
        have hcz7_2 : w3.cell? ⟨gb229, 2, none⟩ = some (.slice A0_2 l0_2.length c0_2) := (blk_cell BK229.out 2).trans rfl
        have hcz7_3 : w3.cell? ⟨gb229, 3, none⟩ = some (.slice A0_3 l0_3.length c0_3) := (blk_cell BK229.out 3).trans rfl
        have hcz7_4 : w3.cell? ⟨gb229, 4, none⟩ = some (.slice A0_4 l0_4.length c0_4) := (blk_cell BK229.out 4).trans rfl
        have hcz7_5 : w3.cell? ⟨gb229, 5, none⟩ = some (.int .i64 a0_5) := (blk_cell BK229.out 5).trans rfl
        have hcz7_6 : w3.cell? ⟨gb229, 6, none⟩ = some (.int .i64 a0_6) := (blk_cell BK229.out 6).trans rfl
        have hcz7_7 : w3.cell? ⟨gb229, 7, none⟩ = some (.int .i64 a0_7) := (blk_cell BK229.out 7).trans rfl
        have hfz7_0 := blk_frozen BK229.out 0
        have hfz7_1 := blk_frozen BK229.out 1
        have hfz7_2 := blk_frozen BK229.out 2
        have hfz7_3 := blk_frozen BK229.out 3
        have hfz7_4 := blk_frozen BK229.out 4
        have hfz7_5 := blk_frozen BK229.out 5
        have hfz7_6 := blk_frozen BK229.out 6
        have hfz7_7 := blk_frozen BK229.out 7
        go_wp2_with (first | ((with_reducible refine gate_callee (f := 58) rfl ?_); refine goesL_ (some 5) rfl rfl Try.func58 (by kernel_rfl) rfl #[.int .i64 a0_5] rfl (by (try simp only [List.map_toArray, List.map_cons, List.map_nil]); first | done | rfl | (simp only [List.length_drop, List.length_take]; rfl)) ?_; (with_reducible refine (impl_inVar.calls a0_5 true _ A4.out).mono ?_); rintro e w' ⟨rfl, ⟨nd, rfl⟩⟩; refine ⟨_, rfl, ?_⟩))
        go_meet
        case rel => exact ⟨_, (true), (by first | rfl | (simp; done) | (simp [*]; done)), H', ⟨by first | omega | exact Nat.le_refl _⟩, ⟨by (with_reducible repeat (first | refine blk_drewN ?_ _ | refine blk_drew ?_ | refine blk_alloc ?_ _)); exact BK229.out⟩, ⟨by repeat (first | (with_reducible first | exact HB.out | apply below_alloc | apply pw_below_drewN | apply below_drew1 | refine below_set ?_ GE229.out) | exact HB.out)⟩⟩
      · rw [if_neg c6] at H
        have c6b0 : decide (a0_6 < 1) = false := decide_eq_false c6
        clear c6
        (first | rw [c6b0] | (simp only [i64_w, i32_w]; rw [c6b0]) | skip)
        by_cases c8 : a0_6 > 4
        · rw [if_pos c8] at H
          have c8b0 : decide (4 < a0_6) = true := decide_eq_true c8
          clear c8
          have H' := Aside0.mk H
          clear H
          have hcz9_0 : w3.cell? ⟨gb229, 0, none⟩ = some (.int .i64 a0_0) := (blk_cell BK229.out 0).trans rfl
          have hcz9_1 : w3.cell? ⟨gb229, 1, none⟩ = some (.int .i64 a0_1) := (blk_cell BK229.out 1).trans rfl
          have hcz9_2 : w3.cell? ⟨gb229, 2, none⟩ = some (.slice A0_2 l0_2.length c0_2) := (blk_cell BK229.out 2).trans rfl
          have hcz9_3 : w3.cell? ⟨gb229, 3, none⟩ = some (.slice A0_3 l0_3.length c0_3) := (blk_cell BK229.out 3).trans rfl
          have hcz9_4 : w3.cell? ⟨gb229, 4, none⟩ = some (.slice A0_4 l0_4.length c0_4) := (blk_cell BK229.out 4).trans rfl
          have hcz9_5 : w3.cell? ⟨gb229, 5, none⟩ = some (.int .i64 a0_5) := (blk_cell BK229.out 5).trans rfl
          have hcz9_6 : w3.cell? ⟨gb229, 6, none⟩ = some (.int .i64 a0_6) := (blk_cell BK229.out 6).trans rfl
          have hcz9_7 : w3.cell? ⟨gb229, 7, none⟩ = some (.int .i64 a0_7) := (blk_cell BK229.out 7).trans rfl
          have hfz9_0 := blk_frozen BK229.out 0
          have hfz9_1 := blk_frozen BK229.out 1
          have hfz9_2 := blk_frozen BK229.out 2
          have hfz9_3 := blk_frozen BK229.out 3
          have hfz9_4 := blk_frozen BK229.out 4
          have hfz9_5 := blk_frozen BK229.out 5
          have hfz9_6 := blk_frozen BK229.out 6
          have hfz9_7 := blk_frozen BK229.out 7
          go_wp2_with (first | ((with_reducible refine gate_callee (f := 58) rfl ?_); refine goesL_ (some 5) rfl rfl Try.func58 (by kernel_rfl) rfl #[.int .i64 a0_5] rfl (by (try simp only [List.map_toArray, List.map_cons, List.map_nil]); first | done | rfl | (simp only [List.length_drop, List.length_take]; rfl)) ?_; (with_reducible refine (impl_inVar.calls a0_5 true _ A4.out).mono ?_); rintro e w' ⟨rfl, ⟨nd, rfl⟩⟩; refine ⟨_, rfl, ?_⟩))
          go_meet
          case rel => exact ⟨_, (true), (by first | rfl | (simp; done) | (simp [*]; done)), H', ⟨by first | omega | exact Nat.le_refl _⟩, ⟨by (with_reducible repeat (first | refine blk_drewN ?_ _ | refine blk_drew ?_ | refine blk_alloc ?_ _)); exact BK229.out⟩, ⟨by repeat (first | (with_reducible first | exact HB.out | apply below_alloc | apply pw_below_drewN | apply below_drew1 | refine below_set ?_ GE229.out) | exact HB.out)⟩⟩
        · rw [if_neg c8] at H
          have c8b0 : decide (4 < a0_6) = false := decide_eq_false c8
          clear c8
          have H' := Aside0.mk H
          clear H
          have hcz10_0 : w3.cell? ⟨gb229, 0, none⟩ = some (.int .i64 a0_0) := (blk_cell BK229.out 0).trans rfl
          have hcz10_1 : w3.cell? ⟨gb229, 1, none⟩ = some (.int .i64 a0_1) := (blk_cell BK229.out 1).trans rfl
          have hcz10_2 : w3.cell? ⟨gb229, 2, none⟩ = some (.slice A0_2 l0_2.length c0_2) := (blk_cell BK229.out 2).trans rfl
          have hcz10_3 : w3.cell? ⟨gb229, 3, none⟩ = some (.slice A0_3 l0_3.length c0_3) := (blk_cell BK229.out 3).trans rfl
          have hcz10_4 : w3.cell? ⟨gb229, 4, none⟩ = some (.slice A0_4 l0_4.length c0_4) := (blk_cell BK229.out 4).trans rfl
          have hcz10_5 : w3.cell? ⟨gb229, 5, none⟩ = some (.int .i64 a0_5) := (blk_cell BK229.out 5).trans rfl
          have hcz10_6 : w3.cell? ⟨gb229, 6, none⟩ = some (.int .i64 a0_6) := (blk_cell BK229.out 6).trans rfl
          have hcz10_7 : w3.cell? ⟨gb229, 7, none⟩ = some (.int .i64 a0_7) := (blk_cell BK229.out 7).trans rfl
          have hfz10_0 := blk_frozen BK229.out 0
          have hfz10_1 := blk_frozen BK229.out 1
          have hfz10_2 := blk_frozen BK229.out 2
          have hfz10_3 := blk_frozen BK229.out 3
          have hfz10_4 := blk_frozen BK229.out 4
          have hfz10_5 := blk_frozen BK229.out 5
          have hfz10_6 := blk_frozen BK229.out 6
          have hfz10_7 := blk_frozen BK229.out 7
          go_wp2_with (first | ((with_reducible refine gate_callee (f := 58) rfl ?_); refine goesL_ (some 5) rfl rfl Try.func58 (by kernel_rfl) rfl #[.int .i64 a0_5] rfl (by (try simp only [List.map_toArray, List.map_cons, List.map_nil]); first | done | rfl | (simp only [List.length_drop, List.length_take]; rfl)) ?_; (with_reducible refine (impl_inVar.calls a0_5 true _ A4.out).mono ?_); rintro e w' ⟨rfl, ⟨nd, rfl⟩⟩; refine ⟨_, rfl, ?_⟩))
          go_meet
          case rel => exact ⟨_, (decide ((l0_2.length : Int) > 8)), (by first | rfl | (simp; done) | (simp [*]; done)), H', ⟨by first | omega | exact Nat.le_refl _⟩, ⟨by (with_reducible repeat (first | refine blk_drewN ?_ _ | refine blk_drew ?_ | refine blk_alloc ?_ _)); exact BK229.out⟩, ⟨by repeat (first | (with_reducible first | exact HB.out | apply below_alloc | apply pw_below_drewN | apply below_drew1 | refine below_set ?_ GE229.out) | exact HB.out)⟩⟩
    · replace c5 := Bool.eq_false_iff.mpr c5
      subst c5
      have H1 : (impl_headerOK.j0 k true a0_0 a0_1 l0_2 l0_3 l0_4 a0_5 a0_6 a0_7) = some r := by rw [if_neg (show ¬ (false = true) by decide)] at H; exact H
      clear H
      have H := H1
      clear H1
      have H' := Aside0.mk H
      clear H
      have hcz11_0 : w3.cell? ⟨gb229, 0, none⟩ = some (.int .i64 a0_0) := (blk_cell BK229.out 0).trans rfl
      have hcz11_1 : w3.cell? ⟨gb229, 1, none⟩ = some (.int .i64 a0_1) := (blk_cell BK229.out 1).trans rfl
      have hcz11_2 : w3.cell? ⟨gb229, 2, none⟩ = some (.slice A0_2 l0_2.length c0_2) := (blk_cell BK229.out 2).trans rfl
      have hcz11_3 : w3.cell? ⟨gb229, 3, none⟩ = some (.slice A0_3 l0_3.length c0_3) := (blk_cell BK229.out 3).trans rfl
      have hcz11_4 : w3.cell? ⟨gb229, 4, none⟩ = some (.slice A0_4 l0_4.length c0_4) := (blk_cell BK229.out 4).trans rfl
      have hcz11_5 : w3.cell? ⟨gb229, 5, none⟩ = some (.int .i64 a0_5) := (blk_cell BK229.out 5).trans rfl
      have hcz11_6 : w3.cell? ⟨gb229, 6, none⟩ = some (.int .i64 a0_6) := (blk_cell BK229.out 6).trans rfl
      have hcz11_7 : w3.cell? ⟨gb229, 7, none⟩ = some (.int .i64 a0_7) := (blk_cell BK229.out 7).trans rfl
      have hfz11_0 := blk_frozen BK229.out 0
      have hfz11_1 := blk_frozen BK229.out 1
      have hfz11_2 := blk_frozen BK229.out 2
      have hfz11_3 := blk_frozen BK229.out 3
      have hfz11_4 := blk_frozen BK229.out 4
      have hfz11_5 := blk_frozen BK229.out 5
      have hfz11_6 := blk_frozen BK229.out 6
      have hfz11_7 := blk_frozen BK229.out 7
      go_wp2_with (first | ((with_reducible refine gate_callee (f := 58) rfl ?_); refine goesL_ (some 5) rfl rfl Try.func58 (by kernel_rfl) rfl #[.int .i64 a0_5] rfl (by (try simp only [List.map_toArray, List.map_cons, List.map_nil]); first | done | rfl | (simp only [List.length_drop, List.length_take]; rfl)) ?_; (with_reducible refine (impl_inVar.calls a0_5 false _ A4.out).mono ?_); rintro e w' ⟨rfl, ⟨nd, rfl⟩⟩; refine ⟨_, rfl, ?_⟩))
      go_meet
      case rel => exact ⟨_, (true), (by first | rfl | (simp; done) | (simp [*]; done)), H', ⟨by first | omega | exact Nat.le_refl _⟩, ⟨by (with_reducible repeat (first | refine blk_drewN ?_ _ | refine blk_drew ?_ | refine blk_alloc ?_ _)); exact BK229.out⟩, ⟨by repeat (first | (with_reducible first | exact HB.out | apply below_alloc | apply pw_below_drewN | apply below_drew1 | refine below_set ?_ GE229.out) | exact HB.out)⟩⟩
  case rest =>
    clear HC2
    try clear p2
    try clear c5
    try clear c6
    try clear c6b0
    try clear c8
    try clear c8b0
    try clear hcz10_0
    try clear hcz10_1
    try clear hcz10_2
    try clear hcz10_3
    try clear hcz10_4
    try clear hcz10_5
    try clear hcz10_6
    try clear hcz10_7
    try clear hcz11_0
    try clear hcz11_1
    try clear hcz11_2
    try clear hcz11_3
    try clear hcz11_4
    try clear hcz11_5
    try clear hcz11_6
    try clear hcz11_7
    try clear hcz7_0
    try clear hcz7_1
    try clear hcz7_2
    try clear hcz7_3
    try clear hcz7_4
    try clear hcz7_5
    try clear hcz7_6
    try clear hcz7_7
    try clear hcz9_0
    try clear hcz9_1
    try clear hcz9_2
    try clear hcz9_3
    try clear hcz9_4
    try clear hcz9_5
    try clear hcz9_6
    try clear hcz9_7
    try clear hfz10_0
    try clear hfz10_1
    try clear hfz10_2
    try clear hfz10_3
    try clear hfz10_4
    try clear hfz10_5
    try clear hfz10_6
    try clear hfz10_7
    try clear hfz11_0
    try clear hfz11_1
    try clear hfz11_2
    try clear hfz11_3
    try clear hfz11_4
    try clear hfz11_5
    try clear hfz11_6
    try clear hfz11_7
    try clear hfz7_0
    try clear hfz7_1
    try clear hfz7_2
    try clear hfz7_3
    try clear hfz7_4
    try clear hfz7_5
    try clear hfz7_6
    try clear hfz7_7
    try clear hfz9_0
    try clear hfz9_1
    try clear hfz9_2
    try clear hfz9_3
    try clear hfz9_4
    try clear hfz9_5
    try clear hfz9_6
    try clear hfz9_7
    obtain ⟨kq, x22_1, rfl, HA, HJ1, BK229, HB⟩ := hcut
    cases kq with
    | zero => exact absurd HA.out (by simp [impl_headerOK.j0])
    | succ kj1 =>
      have H := HA.out
      clear HA
      simp only [impl_headerOK.j0] at H
      by_cases c12 : x22_1 = true
      · subst c12
        have H1 : (some false) = some r := by rw [if_pos rfl] at H; exact H
        clear H
        have H := H1
        clear H1
        obtain rfl := Option.some.inj H
        go_wp2
        go_ret
        exact ⟨by first | rfl | (simp [errW_none, errW_some] <;> rfl) | (simp [*, errW_none, errW_some] <;> rfl), by repeat (first | (with_reducible first | exact HB.out | apply below_alloc | apply pw_below_drewN | apply below_drew1 | refine below_set ?_ GE229.out) | exact HB.out)⟩
      · replace c12 := Bool.eq_false_iff.mpr c12
        subst c12
        have H1 : (if a0_0 = 1 then ((impl_versionOK.f a0_1).bind fun t231 => (if t231 = true then (if (l0_3.length : Int) ≤ 8 then (if (l0_4.length : Int) ≤ 64 then (some (a0_7 == 0)) else (some false)) else (some false)) else (some false))) else (if a0_0 = 2 then ((impl_versionOK.f a0_1).bind fun t232 => (if t232 = true then (if (l0_3.length : Int) ≤ 8 then (if (l0_4.length : Int) = 0 then (some (a0_7 == 0)) else (some false)) else (some false)) else (some false))) else (if a0_0 = 4 then (if a0_1 = 0 then (if (l0_3.length : Int) = 0 then (if (l0_4.length : Int) = 0 then (if a0_7 = 0 then (some true) else (some (a0_7 == 1))) else (some false)) else (some false)) else (some false)) else (some false)))) = some r := by rw [if_neg (show ¬ (false = true) by decide)] at H; exact H
        clear H
        have H := H1
        clear H1
        by_cases c13 : a0_0 = 1
        · rw [if_pos c13] at H
          have c13b0 : (a0_0 == 1) = true := beq_iff_eq.mpr c13
          have c13b1 : (a0_0 != 1) = false := bne_eq_false_iff_eq.mpr c13
          clear c13
          replace H := Option.bind_eq_some_iff.mp H
          obtain ⟨t231, A140, H⟩ := H
          replace H : (if t231 = true then (if (l0_3.length : Int) ≤ 8 then (if (l0_4.length : Int) ≤ 64 then (some (a0_7 == 0)) else (some false)) else (some false)) else (some false)) = some r := H
          have A14 := Aside0.mk A140
          clear A140
          by_cases c15 : t231 = true
          · subst c15
            have H1 : (if (l0_3.length : Int) ≤ 8 then (if (l0_4.length : Int) ≤ 64 then (some (a0_7 == 0)) else (some false)) else (some false)) = some r := by rw [if_pos rfl] at H; exact H
            clear H
            have H := H1
            clear H1
            by_cases c16 : (l0_3.length : Int) ≤ 8
            · rw [if_pos c16] at H
              have c16b0 : decide ((l0_3.length : Int) ≤ 8) = true := decide_eq_true c16
              have c16b1 : decide (l0_3.length ≤ 8) = true := decide_eq_true (by omega)
              clear c16
              by_cases c17 : (l0_4.length : Int) ≤ 64
              · rw [if_pos c17] at H
                have c17b0 : decide ((l0_4.length : Int) ≤ 64) = true := decide_eq_true c17
                have c17b1 : decide (l0_4.length ≤ 64) = true := decide_eq_true (by omega)
                clear c17
                obtain rfl := Option.some.inj H
                have hcz18_0 : wc.cell? ⟨gb229, 0, none⟩ = some (.int .i64 a0_0) := (blk_cell BK229.out 0).trans rfl
                have hcz18_1 : wc.cell? ⟨gb229, 1, none⟩ = some (.int .i64 a0_1) := (blk_cell BK229.out 1).trans rfl
                have hcz18_2 : wc.cell? ⟨gb229, 2, none⟩ = some (.slice A0_2 l0_2.length c0_2) := (blk_cell BK229.out 2).trans rfl
                have hcz18_3 : wc.cell? ⟨gb229, 3, none⟩ = some (.slice A0_3 l0_3.length c0_3) := (blk_cell BK229.out 3).trans rfl
                have hcz18_4 : wc.cell? ⟨gb229, 4, none⟩ = some (.slice A0_4 l0_4.length c0_4) := (blk_cell BK229.out 4).trans rfl
                have hcz18_5 : wc.cell? ⟨gb229, 5, none⟩ = some (.int .i64 a0_5) := (blk_cell BK229.out 5).trans rfl
                have hcz18_6 : wc.cell? ⟨gb229, 6, none⟩ = some (.int .i64 a0_6) := (blk_cell BK229.out 6).trans rfl
                have hcz18_7 : wc.cell? ⟨gb229, 7, none⟩ = some (.int .i64 a0_7) := (blk_cell BK229.out 7).trans rfl
                have hfz18_0 := blk_frozen BK229.out 0
                have hfz18_1 := blk_frozen BK229.out 1
                have hfz18_2 := blk_frozen BK229.out 2
                have hfz18_3 := blk_frozen BK229.out 3
                have hfz18_4 := blk_frozen BK229.out 4
                have hfz18_5 := blk_frozen BK229.out 5
                have hfz18_6 := blk_frozen BK229.out 6
                have hfz18_7 := blk_frozen BK229.out 7
                go_wp2_with (first | ((with_reducible refine gate_callee (f := 88) rfl ?_); refine goesL_ (some 29) rfl rfl Try.func88 (by kernel_rfl) rfl #[.int .i64 a0_1] rfl (by (try simp only [List.map_toArray, List.map_cons, List.map_nil]); first | done | rfl | (simp only [List.length_drop, List.length_take]; rfl)) ?_; (with_reducible refine (impl_versionOK.calls a0_1 true _ A14.out).mono ?_); rintro e w' ⟨rfl, ⟨nd, rfl⟩⟩; refine ⟨_, rfl, ?_⟩))
                go_ret
                exact ⟨by first | rfl | (simp [errW_none, errW_some] <;> rfl) | (simp [*, errW_none, errW_some] <;> rfl), by repeat (first | (with_reducible first | exact HB.out | apply below_alloc | apply pw_below_drewN | apply below_drew1 | refine below_set ?_ GE229.out) | exact HB.out)⟩
              · rw [if_neg c17] at H
                have c17b0 : decide ((l0_4.length : Int) ≤ 64) = false := decide_eq_false c17
                have c17b1 : decide (l0_4.length ≤ 64) = false := decide_eq_false (by omega)
                clear c17
                obtain rfl := Option.some.inj H
                have hcz19_0 : wc.cell? ⟨gb229, 0, none⟩ = some (.int .i64 a0_0) := (blk_cell BK229.out 0).trans rfl
                have hcz19_1 : wc.cell? ⟨gb229, 1, none⟩ = some (.int .i64 a0_1) := (blk_cell BK229.out 1).trans rfl
                have hcz19_2 : wc.cell? ⟨gb229, 2, none⟩ = some (.slice A0_2 l0_2.length c0_2) := (blk_cell BK229.out 2).trans rfl
                have hcz19_3 : wc.cell? ⟨gb229, 3, none⟩ = some (.slice A0_3 l0_3.length c0_3) := (blk_cell BK229.out 3).trans rfl
                have hcz19_4 : wc.cell? ⟨gb229, 4, none⟩ = some (.slice A0_4 l0_4.length c0_4) := (blk_cell BK229.out 4).trans rfl
                have hcz19_5 : wc.cell? ⟨gb229, 5, none⟩ = some (.int .i64 a0_5) := (blk_cell BK229.out 5).trans rfl
                have hcz19_6 : wc.cell? ⟨gb229, 6, none⟩ = some (.int .i64 a0_6) := (blk_cell BK229.out 6).trans rfl
                have hcz19_7 : wc.cell? ⟨gb229, 7, none⟩ = some (.int .i64 a0_7) := (blk_cell BK229.out 7).trans rfl
                have hfz19_0 := blk_frozen BK229.out 0
                have hfz19_1 := blk_frozen BK229.out 1
                have hfz19_2 := blk_frozen BK229.out 2
                have hfz19_3 := blk_frozen BK229.out 3
                have hfz19_4 := blk_frozen BK229.out 4
                have hfz19_5 := blk_frozen BK229.out 5
                have hfz19_6 := blk_frozen BK229.out 6
                have hfz19_7 := blk_frozen BK229.out 7
                go_wp2_with (first | ((with_reducible refine gate_callee (f := 88) rfl ?_); refine goesL_ (some 29) rfl rfl Try.func88 (by kernel_rfl) rfl #[.int .i64 a0_1] rfl (by (try simp only [List.map_toArray, List.map_cons, List.map_nil]); first | done | rfl | (simp only [List.length_drop, List.length_take]; rfl)) ?_; (with_reducible refine (impl_versionOK.calls a0_1 true _ A14.out).mono ?_); rintro e w' ⟨rfl, ⟨nd, rfl⟩⟩; refine ⟨_, rfl, ?_⟩))
                go_ret
                exact ⟨by first | rfl | (simp [errW_none, errW_some] <;> rfl) | (simp [*, errW_none, errW_some] <;> rfl), by repeat (first | (with_reducible first | exact HB.out | apply below_alloc | apply pw_below_drewN | apply below_drew1 | refine below_set ?_ GE229.out) | exact HB.out)⟩
            · rw [if_neg c16] at H
              have c16b0 : decide ((l0_3.length : Int) ≤ 8) = false := decide_eq_false c16
              have c16b1 : decide (l0_3.length ≤ 8) = false := decide_eq_false (by omega)
              clear c16
              obtain rfl := Option.some.inj H
              have hcz20_0 : wc.cell? ⟨gb229, 0, none⟩ = some (.int .i64 a0_0) := (blk_cell BK229.out 0).trans rfl
              have hcz20_1 : wc.cell? ⟨gb229, 1, none⟩ = some (.int .i64 a0_1) := (blk_cell BK229.out 1).trans rfl
              have hcz20_2 : wc.cell? ⟨gb229, 2, none⟩ = some (.slice A0_2 l0_2.length c0_2) := (blk_cell BK229.out 2).trans rfl
              have hcz20_3 : wc.cell? ⟨gb229, 3, none⟩ = some (.slice A0_3 l0_3.length c0_3) := (blk_cell BK229.out 3).trans rfl
              have hcz20_4 : wc.cell? ⟨gb229, 4, none⟩ = some (.slice A0_4 l0_4.length c0_4) := (blk_cell BK229.out 4).trans rfl
              have hcz20_5 : wc.cell? ⟨gb229, 5, none⟩ = some (.int .i64 a0_5) := (blk_cell BK229.out 5).trans rfl
              have hcz20_6 : wc.cell? ⟨gb229, 6, none⟩ = some (.int .i64 a0_6) := (blk_cell BK229.out 6).trans rfl
              have hcz20_7 : wc.cell? ⟨gb229, 7, none⟩ = some (.int .i64 a0_7) := (blk_cell BK229.out 7).trans rfl
              have hfz20_0 := blk_frozen BK229.out 0
              have hfz20_1 := blk_frozen BK229.out 1
              have hfz20_2 := blk_frozen BK229.out 2
              have hfz20_3 := blk_frozen BK229.out 3
              have hfz20_4 := blk_frozen BK229.out 4
              have hfz20_5 := blk_frozen BK229.out 5
              have hfz20_6 := blk_frozen BK229.out 6
              have hfz20_7 := blk_frozen BK229.out 7
              go_wp2_with (first | ((with_reducible refine gate_callee (f := 88) rfl ?_); refine goesL_ (some 29) rfl rfl Try.func88 (by kernel_rfl) rfl #[.int .i64 a0_1] rfl (by (try simp only [List.map_toArray, List.map_cons, List.map_nil]); first | done | rfl | (simp only [List.length_drop, List.length_take]; rfl)) ?_; (with_reducible refine (impl_versionOK.calls a0_1 true _ A14.out).mono ?_); rintro e w' ⟨rfl, ⟨nd, rfl⟩⟩; refine ⟨_, rfl, ?_⟩))
              go_ret
              exact ⟨by first | rfl | (simp [errW_none, errW_some] <;> rfl) | (simp [*, errW_none, errW_some] <;> rfl), by repeat (first | (with_reducible first | exact HB.out | apply below_alloc | apply pw_below_drewN | apply below_drew1 | refine below_set ?_ GE229.out) | exact HB.out)⟩
          · replace c15 := Bool.eq_false_iff.mpr c15
            subst c15
            have H1 : (some false) = some r := by rw [if_neg (show ¬ (false = true) by decide)] at H; exact H
            clear H
            have H := H1
            clear H1
            obtain rfl := Option.some.inj H
            have hcz21_0 : wc.cell? ⟨gb229, 0, none⟩ = some (.int .i64 a0_0) := (blk_cell BK229.out 0).trans rfl
            have hcz21_1 : wc.cell? ⟨gb229, 1, none⟩ = some (.int .i64 a0_1) := (blk_cell BK229.out 1).trans rfl
            have hcz21_2 : wc.cell? ⟨gb229, 2, none⟩ = some (.slice A0_2 l0_2.length c0_2) := (blk_cell BK229.out 2).trans rfl
            have hcz21_3 : wc.cell? ⟨gb229, 3, none⟩ = some (.slice A0_3 l0_3.length c0_3) := (blk_cell BK229.out 3).trans rfl
            have hcz21_4 : wc.cell? ⟨gb229, 4, none⟩ = some (.slice A0_4 l0_4.length c0_4) := (blk_cell BK229.out 4).trans rfl
            have hcz21_5 : wc.cell? ⟨gb229, 5, none⟩ = some (.int .i64 a0_5) := (blk_cell BK229.out 5).trans rfl
            have hcz21_6 : wc.cell? ⟨gb229, 6, none⟩ = some (.int .i64 a0_6) := (blk_cell BK229.out 6).trans rfl
            have hcz21_7 : wc.cell? ⟨gb229, 7, none⟩ = some (.int .i64 a0_7) := (blk_cell BK229.out 7).trans rfl
            have hfz21_0 := blk_frozen BK229.out 0
            have hfz21_1 := blk_frozen BK229.out 1
            have hfz21_2 := blk_frozen BK229.out 2
            have hfz21_3 := blk_frozen BK229.out 3
            have hfz21_4 := blk_frozen BK229.out 4
            have hfz21_5 := blk_frozen BK229.out 5
            have hfz21_6 := blk_frozen BK229.out 6
            have hfz21_7 := blk_frozen BK229.out 7
            go_wp2_with (first | ((with_reducible refine gate_callee (f := 88) rfl ?_); refine goesL_ (some 29) rfl rfl Try.func88 (by kernel_rfl) rfl #[.int .i64 a0_1] rfl (by (try simp only [List.map_toArray, List.map_cons, List.map_nil]); first | done | rfl | (simp only [List.length_drop, List.length_take]; rfl)) ?_; (with_reducible refine (impl_versionOK.calls a0_1 false _ A14.out).mono ?_); rintro e w' ⟨rfl, ⟨nd, rfl⟩⟩; refine ⟨_, rfl, ?_⟩))
            go_ret
            exact ⟨by first | rfl | (simp [errW_none, errW_some] <;> rfl) | (simp [*, errW_none, errW_some] <;> rfl), by repeat (first | (with_reducible first | exact HB.out | apply below_alloc | apply pw_below_drewN | apply below_drew1 | refine below_set ?_ GE229.out) | exact HB.out)⟩
        · rw [if_neg c13] at H
          have c13b0 : (a0_0 == 1) = false := beq_eq_false_iff_ne.mpr c13
          have c13b1 : (a0_0 != 1) = true := bne_iff_ne.mpr c13
          by_cases c22 : a0_0 = 2
          · rw [if_pos c22] at H
            have c22b0 : (a0_0 == 2) = true := beq_iff_eq.mpr c22
            have c22b1 : (a0_0 != 2) = false := bne_eq_false_iff_eq.mpr c22
            clear c22
            replace H := Option.bind_eq_some_iff.mp H
            obtain ⟨t232, A230, H⟩ := H
            replace H : (if t232 = true then (if (l0_3.length : Int) ≤ 8 then (if (l0_4.length : Int) = 0 then (some (a0_7 == 0)) else (some false)) else (some false)) else (some false)) = some r := H
            have A23 := Aside0.mk A230
            clear A230
            by_cases c24 : t232 = true
            · subst c24
              have H1 : (if (l0_3.length : Int) ≤ 8 then (if (l0_4.length : Int) = 0 then (some (a0_7 == 0)) else (some false)) else (some false)) = some r := by rw [if_pos rfl] at H; exact H
              clear H
              have H := H1
              clear H1
              by_cases c25 : (l0_3.length : Int) ≤ 8
              · rw [if_pos c25] at H
                have c25b0 : decide ((l0_3.length : Int) ≤ 8) = true := decide_eq_true c25
                have c25b1 : decide (l0_3.length ≤ 8) = true := decide_eq_true (by omega)
                clear c25
                by_cases c26 : (l0_4.length : Int) = 0
                · rw [if_pos c26] at H
                  have c26b0 : ((l0_4.length : Int) == 0) = true := beq_iff_eq.mpr c26
                  have c26b1 : ((l0_4.length : Int) != 0) = false := bne_eq_false_iff_eq.mpr c26
                  clear c26
                  obtain rfl := Option.some.inj H
                  have hcz27_0 : wc.cell? ⟨gb229, 0, none⟩ = some (.int .i64 a0_0) := (blk_cell BK229.out 0).trans rfl
                  have hcz27_1 : wc.cell? ⟨gb229, 1, none⟩ = some (.int .i64 a0_1) := (blk_cell BK229.out 1).trans rfl
                  have hcz27_2 : wc.cell? ⟨gb229, 2, none⟩ = some (.slice A0_2 l0_2.length c0_2) := (blk_cell BK229.out 2).trans rfl
                  have hcz27_3 : wc.cell? ⟨gb229, 3, none⟩ = some (.slice A0_3 l0_3.length c0_3) := (blk_cell BK229.out 3).trans rfl
                  have hcz27_4 : wc.cell? ⟨gb229, 4, none⟩ = some (.slice A0_4 l0_4.length c0_4) := (blk_cell BK229.out 4).trans rfl
                  have hcz27_5 : wc.cell? ⟨gb229, 5, none⟩ = some (.int .i64 a0_5) := (blk_cell BK229.out 5).trans rfl
                  have hcz27_6 : wc.cell? ⟨gb229, 6, none⟩ = some (.int .i64 a0_6) := (blk_cell BK229.out 6).trans rfl
                  have hcz27_7 : wc.cell? ⟨gb229, 7, none⟩ = some (.int .i64 a0_7) := (blk_cell BK229.out 7).trans rfl
                  have hfz27_0 := blk_frozen BK229.out 0
                  have hfz27_1 := blk_frozen BK229.out 1
                  have hfz27_2 := blk_frozen BK229.out 2
                  have hfz27_3 := blk_frozen BK229.out 3
                  have hfz27_4 := blk_frozen BK229.out 4
                  have hfz27_5 := blk_frozen BK229.out 5
                  have hfz27_6 := blk_frozen BK229.out 6
                  have hfz27_7 := blk_frozen BK229.out 7
                  go_wp2_with (first | ((with_reducible refine gate_callee (f := 88) rfl ?_); refine goesL_ (some 51) rfl rfl Try.func88 (by kernel_rfl) rfl #[.int .i64 a0_1] rfl (by (try simp only [List.map_toArray, List.map_cons, List.map_nil]); first | done | rfl | (simp only [List.length_drop, List.length_take]; rfl)) ?_; (with_reducible refine (impl_versionOK.calls a0_1 true _ A23.out).mono ?_); rintro e w' ⟨rfl, ⟨nd, rfl⟩⟩; refine ⟨_, rfl, ?_⟩))
                  go_ret
                  exact ⟨by first | rfl | (simp [errW_none, errW_some] <;> rfl) | (simp [*, errW_none, errW_some] <;> rfl), by repeat (first | (with_reducible first | exact HB.out | apply below_alloc | apply pw_below_drewN | apply below_drew1 | refine below_set ?_ GE229.out) | exact HB.out)⟩
                · rw [if_neg c26] at H
                  have c26b0 : ((l0_4.length : Int) == 0) = false := beq_eq_false_iff_ne.mpr c26
                  have c26b1 : ((l0_4.length : Int) != 0) = true := bne_iff_ne.mpr c26
                  have c26b2 : ¬ (l0_4 = []) := fun h_ => c26 (by rw [h_]; rfl)
                  obtain rfl := Option.some.inj H
                  have hcz28_0 : wc.cell? ⟨gb229, 0, none⟩ = some (.int .i64 a0_0) := (blk_cell BK229.out 0).trans rfl
                  have hcz28_1 : wc.cell? ⟨gb229, 1, none⟩ = some (.int .i64 a0_1) := (blk_cell BK229.out 1).trans rfl
                  have hcz28_2 : wc.cell? ⟨gb229, 2, none⟩ = some (.slice A0_2 l0_2.length c0_2) := (blk_cell BK229.out 2).trans rfl
                  have hcz28_3 : wc.cell? ⟨gb229, 3, none⟩ = some (.slice A0_3 l0_3.length c0_3) := (blk_cell BK229.out 3).trans rfl
                  have hcz28_4 : wc.cell? ⟨gb229, 4, none⟩ = some (.slice A0_4 l0_4.length c0_4) := (blk_cell BK229.out 4).trans rfl
                  have hcz28_5 : wc.cell? ⟨gb229, 5, none⟩ = some (.int .i64 a0_5) := (blk_cell BK229.out 5).trans rfl
                  have hcz28_6 : wc.cell? ⟨gb229, 6, none⟩ = some (.int .i64 a0_6) := (blk_cell BK229.out 6).trans rfl
                  have hcz28_7 : wc.cell? ⟨gb229, 7, none⟩ = some (.int .i64 a0_7) := (blk_cell BK229.out 7).trans rfl
                  have hfz28_0 := blk_frozen BK229.out 0
                  have hfz28_1 := blk_frozen BK229.out 1
                  have hfz28_2 := blk_frozen BK229.out 2
                  have hfz28_3 := blk_frozen BK229.out 3
                  have hfz28_4 := blk_frozen BK229.out 4
                  have hfz28_5 := blk_frozen BK229.out 5
                  have hfz28_6 := blk_frozen BK229.out 6
                  have hfz28_7 := blk_frozen BK229.out 7
                  go_wp2_with (first | ((with_reducible refine gate_callee (f := 88) rfl ?_); refine goesL_ (some 51) rfl rfl Try.func88 (by kernel_rfl) rfl #[.int .i64 a0_1] rfl (by (try simp only [List.map_toArray, List.map_cons, List.map_nil]); first | done | rfl | (simp only [List.length_drop, List.length_take]; rfl)) ?_; (with_reducible refine (impl_versionOK.calls a0_1 true _ A23.out).mono ?_); rintro e w' ⟨rfl, ⟨nd, rfl⟩⟩; refine ⟨_, rfl, ?_⟩))
                  go_ret
                  exact ⟨by first | rfl | (simp [errW_none, errW_some] <;> rfl) | (simp [*, errW_none, errW_some] <;> rfl), by repeat (first | (with_reducible first | exact HB.out | apply below_alloc | apply pw_below_drewN | apply below_drew1 | refine below_set ?_ GE229.out) | exact HB.out)⟩
              · rw [if_neg c25] at H
                have c25b0 : decide ((l0_3.length : Int) ≤ 8) = false := decide_eq_false c25
                have c25b1 : decide (l0_3.length ≤ 8) = false := decide_eq_false (by omega)
                clear c25
                obtain rfl := Option.some.inj H
                have hcz29_0 : wc.cell? ⟨gb229, 0, none⟩ = some (.int .i64 a0_0) := (blk_cell BK229.out 0).trans rfl
                have hcz29_1 : wc.cell? ⟨gb229, 1, none⟩ = some (.int .i64 a0_1) := (blk_cell BK229.out 1).trans rfl
                have hcz29_2 : wc.cell? ⟨gb229, 2, none⟩ = some (.slice A0_2 l0_2.length c0_2) := (blk_cell BK229.out 2).trans rfl
                have hcz29_3 : wc.cell? ⟨gb229, 3, none⟩ = some (.slice A0_3 l0_3.length c0_3) := (blk_cell BK229.out 3).trans rfl
                have hcz29_4 : wc.cell? ⟨gb229, 4, none⟩ = some (.slice A0_4 l0_4.length c0_4) := (blk_cell BK229.out 4).trans rfl
                have hcz29_5 : wc.cell? ⟨gb229, 5, none⟩ = some (.int .i64 a0_5) := (blk_cell BK229.out 5).trans rfl
                have hcz29_6 : wc.cell? ⟨gb229, 6, none⟩ = some (.int .i64 a0_6) := (blk_cell BK229.out 6).trans rfl
                have hcz29_7 : wc.cell? ⟨gb229, 7, none⟩ = some (.int .i64 a0_7) := (blk_cell BK229.out 7).trans rfl
                have hfz29_0 := blk_frozen BK229.out 0
                have hfz29_1 := blk_frozen BK229.out 1
                have hfz29_2 := blk_frozen BK229.out 2
                have hfz29_3 := blk_frozen BK229.out 3
                have hfz29_4 := blk_frozen BK229.out 4
                have hfz29_5 := blk_frozen BK229.out 5
                have hfz29_6 := blk_frozen BK229.out 6
                have hfz29_7 := blk_frozen BK229.out 7
                go_wp2_with (first | ((with_reducible refine gate_callee (f := 88) rfl ?_); refine goesL_ (some 51) rfl rfl Try.func88 (by kernel_rfl) rfl #[.int .i64 a0_1] rfl (by (try simp only [List.map_toArray, List.map_cons, List.map_nil]); first | done | rfl | (simp only [List.length_drop, List.length_take]; rfl)) ?_; (with_reducible refine (impl_versionOK.calls a0_1 true _ A23.out).mono ?_); rintro e w' ⟨rfl, ⟨nd, rfl⟩⟩; refine ⟨_, rfl, ?_⟩))
                go_ret
                exact ⟨by first | rfl | (simp [errW_none, errW_some] <;> rfl) | (simp [*, errW_none, errW_some] <;> rfl), by repeat (first | (with_reducible first | exact HB.out | apply below_alloc | apply pw_below_drewN | apply below_drew1 | refine below_set ?_ GE229.out) | exact HB.out)⟩
            · replace c24 := Bool.eq_false_iff.mpr c24
              subst c24
              have H1 : (some false) = some r := by rw [if_neg (show ¬ (false = true) by decide)] at H; exact H
              clear H
              have H := H1
              clear H1
              obtain rfl := Option.some.inj H
              have hcz30_0 : wc.cell? ⟨gb229, 0, none⟩ = some (.int .i64 a0_0) := (blk_cell BK229.out 0).trans rfl
              have hcz30_1 : wc.cell? ⟨gb229, 1, none⟩ = some (.int .i64 a0_1) := (blk_cell BK229.out 1).trans rfl
              have hcz30_2 : wc.cell? ⟨gb229, 2, none⟩ = some (.slice A0_2 l0_2.length c0_2) := (blk_cell BK229.out 2).trans rfl
              have hcz30_3 : wc.cell? ⟨gb229, 3, none⟩ = some (.slice A0_3 l0_3.length c0_3) := (blk_cell BK229.out 3).trans rfl
              have hcz30_4 : wc.cell? ⟨gb229, 4, none⟩ = some (.slice A0_4 l0_4.length c0_4) := (blk_cell BK229.out 4).trans rfl
              have hcz30_5 : wc.cell? ⟨gb229, 5, none⟩ = some (.int .i64 a0_5) := (blk_cell BK229.out 5).trans rfl
              have hcz30_6 : wc.cell? ⟨gb229, 6, none⟩ = some (.int .i64 a0_6) := (blk_cell BK229.out 6).trans rfl
              have hcz30_7 : wc.cell? ⟨gb229, 7, none⟩ = some (.int .i64 a0_7) := (blk_cell BK229.out 7).trans rfl
              have hfz30_0 := blk_frozen BK229.out 0
              have hfz30_1 := blk_frozen BK229.out 1
              have hfz30_2 := blk_frozen BK229.out 2
              have hfz30_3 := blk_frozen BK229.out 3
              have hfz30_4 := blk_frozen BK229.out 4
              have hfz30_5 := blk_frozen BK229.out 5
              have hfz30_6 := blk_frozen BK229.out 6
              have hfz30_7 := blk_frozen BK229.out 7
              go_wp2_with (first | ((with_reducible refine gate_callee (f := 88) rfl ?_); refine goesL_ (some 51) rfl rfl Try.func88 (by kernel_rfl) rfl #[.int .i64 a0_1] rfl (by (try simp only [List.map_toArray, List.map_cons, List.map_nil]); first | done | rfl | (simp only [List.length_drop, List.length_take]; rfl)) ?_; (with_reducible refine (impl_versionOK.calls a0_1 false _ A23.out).mono ?_); rintro e w' ⟨rfl, ⟨nd, rfl⟩⟩; refine ⟨_, rfl, ?_⟩))
              go_ret
              exact ⟨by first | rfl | (simp [errW_none, errW_some] <;> rfl) | (simp [*, errW_none, errW_some] <;> rfl), by repeat (first | (with_reducible first | exact HB.out | apply below_alloc | apply pw_below_drewN | apply below_drew1 | refine below_set ?_ GE229.out) | exact HB.out)⟩
          · rw [if_neg c22] at H
            have c22b0 : (a0_0 == 2) = false := beq_eq_false_iff_ne.mpr c22
            have c22b1 : (a0_0 != 2) = true := bne_iff_ne.mpr c22
            by_cases c31 : a0_0 = 4
            · rw [if_pos c31] at H
              have c31b0 : (a0_0 == 4) = true := beq_iff_eq.mpr c31
              have c31b1 : (a0_0 != 4) = false := bne_eq_false_iff_eq.mpr c31
              clear c31
              by_cases c32 : a0_1 = 0
              · rw [if_pos c32] at H
                have c32b0 : (a0_1 == 0) = true := beq_iff_eq.mpr c32
                have c32b1 : (a0_1 != 0) = false := bne_eq_false_iff_eq.mpr c32
                clear c32
                by_cases c33 : (l0_3.length : Int) = 0
                · rw [if_pos c33] at H
                  have c33b0 : ((l0_3.length : Int) == 0) = true := beq_iff_eq.mpr c33
                  have c33b1 : ((l0_3.length : Int) != 0) = false := bne_eq_false_iff_eq.mpr c33
                  clear c33
                  by_cases c34 : (l0_4.length : Int) = 0
                  · rw [if_pos c34] at H
                    have c34b0 : ((l0_4.length : Int) == 0) = true := beq_iff_eq.mpr c34
                    have c34b1 : ((l0_4.length : Int) != 0) = false := bne_eq_false_iff_eq.mpr c34
                    clear c34
                    by_cases c35 : a0_7 = 0
                    · rw [if_pos c35] at H
                      have c35b0 : (a0_7 == 0) = true := beq_iff_eq.mpr c35
                      have c35b1 : (a0_7 != 0) = false := bne_eq_false_iff_eq.mpr c35
                      clear c35
                      obtain rfl := Option.some.inj H
                      have hcz36_0 : wc.cell? ⟨gb229, 0, none⟩ = some (.int .i64 a0_0) := (blk_cell BK229.out 0).trans rfl
                      have hcz36_1 : wc.cell? ⟨gb229, 1, none⟩ = some (.int .i64 a0_1) := (blk_cell BK229.out 1).trans rfl
                      have hcz36_2 : wc.cell? ⟨gb229, 2, none⟩ = some (.slice A0_2 l0_2.length c0_2) := (blk_cell BK229.out 2).trans rfl
                      have hcz36_3 : wc.cell? ⟨gb229, 3, none⟩ = some (.slice A0_3 l0_3.length c0_3) := (blk_cell BK229.out 3).trans rfl
                      have hcz36_4 : wc.cell? ⟨gb229, 4, none⟩ = some (.slice A0_4 l0_4.length c0_4) := (blk_cell BK229.out 4).trans rfl
                      have hcz36_5 : wc.cell? ⟨gb229, 5, none⟩ = some (.int .i64 a0_5) := (blk_cell BK229.out 5).trans rfl
                      have hcz36_6 : wc.cell? ⟨gb229, 6, none⟩ = some (.int .i64 a0_6) := (blk_cell BK229.out 6).trans rfl
                      have hcz36_7 : wc.cell? ⟨gb229, 7, none⟩ = some (.int .i64 a0_7) := (blk_cell BK229.out 7).trans rfl
                      have hfz36_0 := blk_frozen BK229.out 0
                      have hfz36_1 := blk_frozen BK229.out 1
                      have hfz36_2 := blk_frozen BK229.out 2
                      have hfz36_3 := blk_frozen BK229.out 3
                      have hfz36_4 := blk_frozen BK229.out 4
                      have hfz36_5 := blk_frozen BK229.out 5
                      have hfz36_6 := blk_frozen BK229.out 6
                      have hfz36_7 := blk_frozen BK229.out 7
                      go_wp2
                      go_ret
                      exact ⟨by first | rfl | (simp [errW_none, errW_some] <;> rfl) | (simp [*, errW_none, errW_some] <;> rfl), by repeat (first | (with_reducible first | exact HB.out | apply below_alloc | apply pw_below_drewN | apply below_drew1 | refine below_set ?_ GE229.out) | exact HB.out)⟩
                    · rw [if_neg c35] at H
                      have c35b0 : (a0_7 == 0) = false := beq_eq_false_iff_ne.mpr c35
                      have c35b1 : (a0_7 != 0) = true := bne_iff_ne.mpr c35
                      obtain rfl := Option.some.inj H
                      have hcz37_0 : wc.cell? ⟨gb229, 0, none⟩ = some (.int .i64 a0_0) := (blk_cell BK229.out 0).trans rfl
                      have hcz37_1 : wc.cell? ⟨gb229, 1, none⟩ = some (.int .i64 a0_1) := (blk_cell BK229.out 1).trans rfl
                      have hcz37_2 : wc.cell? ⟨gb229, 2, none⟩ = some (.slice A0_2 l0_2.length c0_2) := (blk_cell BK229.out 2).trans rfl
                      have hcz37_3 : wc.cell? ⟨gb229, 3, none⟩ = some (.slice A0_3 l0_3.length c0_3) := (blk_cell BK229.out 3).trans rfl
                      have hcz37_4 : wc.cell? ⟨gb229, 4, none⟩ = some (.slice A0_4 l0_4.length c0_4) := (blk_cell BK229.out 4).trans rfl
                      have hcz37_5 : wc.cell? ⟨gb229, 5, none⟩ = some (.int .i64 a0_5) := (blk_cell BK229.out 5).trans rfl
                      have hcz37_6 : wc.cell? ⟨gb229, 6, none⟩ = some (.int .i64 a0_6) := (blk_cell BK229.out 6).trans rfl
                      have hcz37_7 : wc.cell? ⟨gb229, 7, none⟩ = some (.int .i64 a0_7) := (blk_cell BK229.out 7).trans rfl
                      have hfz37_0 := blk_frozen BK229.out 0
                      have hfz37_1 := blk_frozen BK229.out 1
                      have hfz37_2 := blk_frozen BK229.out 2
                      have hfz37_3 := blk_frozen BK229.out 3
                      have hfz37_4 := blk_frozen BK229.out 4
                      have hfz37_5 := blk_frozen BK229.out 5
                      have hfz37_6 := blk_frozen BK229.out 6
                      have hfz37_7 := blk_frozen BK229.out 7
                      go_wp2
                      go_ret
                      exact ⟨by first | rfl | (simp [errW_none, errW_some] <;> rfl) | (simp [*, errW_none, errW_some] <;> rfl), by repeat (first | (with_reducible first | exact HB.out | apply below_alloc | apply pw_below_drewN | apply below_drew1 | refine below_set ?_ GE229.out) | exact HB.out)⟩
                  · rw [if_neg c34] at H
                    have c34b0 : ((l0_4.length : Int) == 0) = false := beq_eq_false_iff_ne.mpr c34
                    have c34b1 : ((l0_4.length : Int) != 0) = true := bne_iff_ne.mpr c34
                    have c34b2 : ¬ (l0_4 = []) := fun h_ => c34 (by rw [h_]; rfl)
                    obtain rfl := Option.some.inj H
                    have hcz38_0 : wc.cell? ⟨gb229, 0, none⟩ = some (.int .i64 a0_0) := (blk_cell BK229.out 0).trans rfl
                    have hcz38_1 : wc.cell? ⟨gb229, 1, none⟩ = some (.int .i64 a0_1) := (blk_cell BK229.out 1).trans rfl
                    have hcz38_2 : wc.cell? ⟨gb229, 2, none⟩ = some (.slice A0_2 l0_2.length c0_2) := (blk_cell BK229.out 2).trans rfl
                    have hcz38_3 : wc.cell? ⟨gb229, 3, none⟩ = some (.slice A0_3 l0_3.length c0_3) := (blk_cell BK229.out 3).trans rfl
                    have hcz38_4 : wc.cell? ⟨gb229, 4, none⟩ = some (.slice A0_4 l0_4.length c0_4) := (blk_cell BK229.out 4).trans rfl
                    have hcz38_5 : wc.cell? ⟨gb229, 5, none⟩ = some (.int .i64 a0_5) := (blk_cell BK229.out 5).trans rfl
                    have hcz38_6 : wc.cell? ⟨gb229, 6, none⟩ = some (.int .i64 a0_6) := (blk_cell BK229.out 6).trans rfl
                    have hcz38_7 : wc.cell? ⟨gb229, 7, none⟩ = some (.int .i64 a0_7) := (blk_cell BK229.out 7).trans rfl
                    have hfz38_0 := blk_frozen BK229.out 0
                    have hfz38_1 := blk_frozen BK229.out 1
                    have hfz38_2 := blk_frozen BK229.out 2
                    have hfz38_3 := blk_frozen BK229.out 3
                    have hfz38_4 := blk_frozen BK229.out 4
                    have hfz38_5 := blk_frozen BK229.out 5
                    have hfz38_6 := blk_frozen BK229.out 6
                    have hfz38_7 := blk_frozen BK229.out 7
                    go_wp2
                    go_ret
                    exact ⟨by first | rfl | (simp [errW_none, errW_some] <;> rfl) | (simp [*, errW_none, errW_some] <;> rfl), by repeat (first | (with_reducible first | exact HB.out | apply below_alloc | apply pw_below_drewN | apply below_drew1 | refine below_set ?_ GE229.out) | exact HB.out)⟩
                · rw [if_neg c33] at H
                  have c33b0 : ((l0_3.length : Int) == 0) = false := beq_eq_false_iff_ne.mpr c33
                  have c33b1 : ((l0_3.length : Int) != 0) = true := bne_iff_ne.mpr c33
                  have c33b2 : ¬ (l0_3 = []) := fun h_ => c33 (by rw [h_]; rfl)
                  obtain rfl := Option.some.inj H
                  have hcz39_0 : wc.cell? ⟨gb229, 0, none⟩ = some (.int .i64 a0_0) := (blk_cell BK229.out 0).trans rfl
                  have hcz39_1 : wc.cell? ⟨gb229, 1, none⟩ = some (.int .i64 a0_1) := (blk_cell BK229.out 1).trans rfl
                  have hcz39_2 : wc.cell? ⟨gb229, 2, none⟩ = some (.slice A0_2 l0_2.length c0_2) := (blk_cell BK229.out 2).trans rfl
                  have hcz39_3 : wc.cell? ⟨gb229, 3, none⟩ = some (.slice A0_3 l0_3.length c0_3) := (blk_cell BK229.out 3).trans rfl
                  have hcz39_4 : wc.cell? ⟨gb229, 4, none⟩ = some (.slice A0_4 l0_4.length c0_4) := (blk_cell BK229.out 4).trans rfl
                  have hcz39_5 : wc.cell? ⟨gb229, 5, none⟩ = some (.int .i64 a0_5) := (blk_cell BK229.out 5).trans rfl
                  have hcz39_6 : wc.cell? ⟨gb229, 6, none⟩ = some (.int .i64 a0_6) := (blk_cell BK229.out 6).trans rfl
                  have hcz39_7 : wc.cell? ⟨gb229, 7, none⟩ = some (.int .i64 a0_7) := (blk_cell BK229.out 7).trans rfl
                  have hfz39_0 := blk_frozen BK229.out 0
                  have hfz39_1 := blk_frozen BK229.out 1
                  have hfz39_2 := blk_frozen BK229.out 2
                  have hfz39_3 := blk_frozen BK229.out 3
                  have hfz39_4 := blk_frozen BK229.out 4
                  have hfz39_5 := blk_frozen BK229.out 5
                  have hfz39_6 := blk_frozen BK229.out 6
                  have hfz39_7 := blk_frozen BK229.out 7
                  go_wp2
                  go_ret
                  exact ⟨by first | rfl | (simp [errW_none, errW_some] <;> rfl) | (simp [*, errW_none, errW_some] <;> rfl), by repeat (first | (with_reducible first | exact HB.out | apply below_alloc | apply pw_below_drewN | apply below_drew1 | refine below_set ?_ GE229.out) | exact HB.out)⟩
              · rw [if_neg c32] at H
                have c32b0 : (a0_1 == 0) = false := beq_eq_false_iff_ne.mpr c32
                have c32b1 : (a0_1 != 0) = true := bne_iff_ne.mpr c32
                obtain rfl := Option.some.inj H
                have hcz40_0 : wc.cell? ⟨gb229, 0, none⟩ = some (.int .i64 a0_0) := (blk_cell BK229.out 0).trans rfl
                have hcz40_1 : wc.cell? ⟨gb229, 1, none⟩ = some (.int .i64 a0_1) := (blk_cell BK229.out 1).trans rfl
                have hcz40_2 : wc.cell? ⟨gb229, 2, none⟩ = some (.slice A0_2 l0_2.length c0_2) := (blk_cell BK229.out 2).trans rfl
                have hcz40_3 : wc.cell? ⟨gb229, 3, none⟩ = some (.slice A0_3 l0_3.length c0_3) := (blk_cell BK229.out 3).trans rfl
                have hcz40_4 : wc.cell? ⟨gb229, 4, none⟩ = some (.slice A0_4 l0_4.length c0_4) := (blk_cell BK229.out 4).trans rfl
                have hcz40_5 : wc.cell? ⟨gb229, 5, none⟩ = some (.int .i64 a0_5) := (blk_cell BK229.out 5).trans rfl
                have hcz40_6 : wc.cell? ⟨gb229, 6, none⟩ = some (.int .i64 a0_6) := (blk_cell BK229.out 6).trans rfl
                have hcz40_7 : wc.cell? ⟨gb229, 7, none⟩ = some (.int .i64 a0_7) := (blk_cell BK229.out 7).trans rfl
                have hfz40_0 := blk_frozen BK229.out 0
                have hfz40_1 := blk_frozen BK229.out 1
                have hfz40_2 := blk_frozen BK229.out 2
                have hfz40_3 := blk_frozen BK229.out 3
                have hfz40_4 := blk_frozen BK229.out 4
                have hfz40_5 := blk_frozen BK229.out 5
                have hfz40_6 := blk_frozen BK229.out 6
                have hfz40_7 := blk_frozen BK229.out 7
                go_wp2
                go_ret
                exact ⟨by first | rfl | (simp [errW_none, errW_some] <;> rfl) | (simp [*, errW_none, errW_some] <;> rfl), by repeat (first | (with_reducible first | exact HB.out | apply below_alloc | apply pw_below_drewN | apply below_drew1 | refine below_set ?_ GE229.out) | exact HB.out)⟩
            · rw [if_neg c31] at H
              have c31b0 : (a0_0 == 4) = false := beq_eq_false_iff_ne.mpr c31
              have c31b1 : (a0_0 != 4) = true := bne_iff_ne.mpr c31
              obtain rfl := Option.some.inj H
              have hcz41_0 : wc.cell? ⟨gb229, 0, none⟩ = some (.int .i64 a0_0) := (blk_cell BK229.out 0).trans rfl
              have hcz41_1 : wc.cell? ⟨gb229, 1, none⟩ = some (.int .i64 a0_1) := (blk_cell BK229.out 1).trans rfl
              have hcz41_2 : wc.cell? ⟨gb229, 2, none⟩ = some (.slice A0_2 l0_2.length c0_2) := (blk_cell BK229.out 2).trans rfl
              have hcz41_3 : wc.cell? ⟨gb229, 3, none⟩ = some (.slice A0_3 l0_3.length c0_3) := (blk_cell BK229.out 3).trans rfl
              have hcz41_4 : wc.cell? ⟨gb229, 4, none⟩ = some (.slice A0_4 l0_4.length c0_4) := (blk_cell BK229.out 4).trans rfl
              have hcz41_5 : wc.cell? ⟨gb229, 5, none⟩ = some (.int .i64 a0_5) := (blk_cell BK229.out 5).trans rfl
              have hcz41_6 : wc.cell? ⟨gb229, 6, none⟩ = some (.int .i64 a0_6) := (blk_cell BK229.out 6).trans rfl
              have hcz41_7 : wc.cell? ⟨gb229, 7, none⟩ = some (.int .i64 a0_7) := (blk_cell BK229.out 7).trans rfl
              have hfz41_0 := blk_frozen BK229.out 0
              have hfz41_1 := blk_frozen BK229.out 1
              have hfz41_2 := blk_frozen BK229.out 2
              have hfz41_3 := blk_frozen BK229.out 3
              have hfz41_4 := blk_frozen BK229.out 4
              have hfz41_5 := blk_frozen BK229.out 5
              have hfz41_6 := blk_frozen BK229.out 6
              have hfz41_7 := blk_frozen BK229.out 7
              go_wp2
              go_ret
              exact ⟨by first | rfl | (simp [errW_none, errW_some] <;> rfl) | (simp [*, errW_none, errW_some] <;> rfl), by repeat (first | (with_reducible first | exact HB.out | apply below_alloc | apply pw_below_drewN | apply below_drew1 | refine below_set ?_ GE229.out) | exact HB.out)⟩

/-! ### impl_CutNum: function 53 -/
def impl_CutNum.f (a0 : Int) (a1 : Int) : Option (Int) := (impl_inVar.f a0).bind fun t233 => (if t233 = true then (if a1 < 1 then (some (-1)) else (if a1 > 4 then (some (-1)) else (if 0 ≤ (wrap64 (8 * a1)) then (some (Go.bits .and .i64 a0 (wrap64 ((shl .i64 1 (wrap64 (8 * a1))) - 1)))) else (none)))) else (some (-1)))
set_option maxHeartbeats 8000000 in
set_option maxRecDepth 100000 in
theorem impl_CutNum.calls (a0 : Int) (a1 : Int) (r : Int) (w : World) (h : impl_CutNum.f a0 a1 = some r) :
    Calls Try.prog 53 #[.int .i64 a0, .int .i64 a1] w fun e w' => e = .returned (.int .i64 r) ∧ Drawn0 w w' := by
  have H : ((impl_inVar.f a0).bind fun t233 => (if t233 = true then (if a1 < 1 then (some (-1)) else (if a1 > 4 then (some (-1)) else (if 0 ≤ (wrap64 (8 * a1)) then (some (Go.bits .and .i64 a0 (wrap64 ((shl .i64 1 (wrap64 (8 * a1))) - 1)))) else (none)))) else (some (-1)))) = some r := h
  clear h
  replace H := Option.bind_eq_some_iff.mp H
  obtain ⟨t233, A30, H⟩ := H
  replace H : (if t233 = true then (if a1 < 1 then (some (-1)) else (if a1 > 4 then (some (-1)) else (if 0 ≤ (wrap64 (8 * a1)) then (some (Go.bits .and .i64 a0 (wrap64 ((shl .i64 1 (wrap64 (8 * a1))) - 1)))) else (none)))) else (some (-1))) = some r := H
  have A3 := Aside0.mk A30
  clear A30
  by_cases c4 : t233 = true
  · subst c4
    have H1 : (if a1 < 1 then (some (-1)) else (if a1 > 4 then (some (-1)) else (if 0 ≤ (wrap64 (8 * a1)) then (some (Go.bits .and .i64 a0 (wrap64 ((shl .i64 1 (wrap64 (8 * a1))) - 1)))) else (none)))) = some r := by rw [if_pos rfl] at H; exact H
    clear H
    have H := H1
    clear H1
    by_cases c5 : a1 < 1
    · rw [if_pos c5] at H
      have c5b0 : decide (a1 < 1) = true := decide_eq_true c5
      clear c5
      obtain rfl := Option.some.inj H
      go_enter Try.func53, Try.ntmps53
      go_wp2_with (first | ((with_reducible refine gate_callee (f := 58) rfl ?_); refine goesL_ (some 6) rfl rfl Try.func58 (by kernel_rfl) rfl #[.int .i64 a0] rfl (by (try simp only [List.map_toArray, List.map_cons, List.map_nil]); first | done | rfl | (simp only [List.length_drop, List.length_take]; rfl)) ?_; (with_reducible refine (impl_inVar.calls a0 true _ A3.out).mono ?_); rintro e w' ⟨rfl, ⟨nd, rfl⟩⟩; refine ⟨_, rfl, ?_⟩))
      go_ret
      exact ⟨by first | rfl | (simp; done) | (simp [*]; done), by repeat (first | exact Drawn0.refl _ | apply Drawn0.step)⟩
    · rw [if_neg c5] at H
      have c5b0 : decide (a1 < 1) = false := decide_eq_false c5
      clear c5
      by_cases c6 : a1 > 4
      · rw [if_pos c6] at H
        have c6b0 : decide (4 < a1) = true := decide_eq_true c6
        clear c6
        obtain rfl := Option.some.inj H
        go_enter Try.func53, Try.ntmps53
        go_wp2_with (first | ((with_reducible refine gate_callee (f := 58) rfl ?_); refine goesL_ (some 6) rfl rfl Try.func58 (by kernel_rfl) rfl #[.int .i64 a0] rfl (by (try simp only [List.map_toArray, List.map_cons, List.map_nil]); first | done | rfl | (simp only [List.length_drop, List.length_take]; rfl)) ?_; (with_reducible refine (impl_inVar.calls a0 true _ A3.out).mono ?_); rintro e w' ⟨rfl, ⟨nd, rfl⟩⟩; refine ⟨_, rfl, ?_⟩))
        go_ret
        exact ⟨by first | rfl | (simp; done) | (simp [*]; done), by repeat (first | exact Drawn0.refl _ | apply Drawn0.step)⟩
      · rw [if_neg c6] at H
        have c6b0 : decide (4 < a1) = false := decide_eq_false c6
        clear c6
        obtain ⟨ji7, hji7⟩ : ∃ j_ : Int, (wrap64 (8 * a1)) = j_ := ⟨_, rfl⟩
        replace H : (if 0 ≤ (ji7) then (some (Go.bits .and .i64 a0 (wrap64 ((shl .i64 1 (ji7)) - 1)))) else (none)) = some r := by first | (rw [hji7] at H; exact H) | (simp only [hji7] at H ⊢; exact H)
        (try rw [hji7] at A3)
        have hji7w : (IntKind.i64.wrap (8 * a1)) = ji7 := (i64_w _).trans hji7
        by_cases c8 : 0 ≤ (ji7)
        · rw [if_pos c8] at H
          have c8b0 := eq_true c8
          have c8b1 : decide (0 ≤ (ji7)) = true := decide_eq_true c8
          clear c8
          obtain ⟨ji9, hji9⟩ : ∃ j_ : Int, (shl .i64 1 (ji7)) = j_ := ⟨_, rfl⟩
          replace H : (some (Go.bits .and .i64 a0 (wrap64 ((ji9) - 1)))) = some r := by first | (rw [hji9] at H; exact H) | (simp only [hji9] at H ⊢; exact H)
          (try rw [hji9] at A3)
          have hji9_ : (IntKind.i64.wrap (1 * 2 ^ min (ji7).toNat 64)) = ji9 := hji9
          have hji9z : (ji7) ≤ 64 → (IntKind.i64.wrap (1 * 2 ^ (ji7).toNat)) = ji9 := shl_small hji9
          have hji9u : (IntKind.i64.wrap (2 ^ min (ji7).toNat 64)) = ji9 := by have h_ := hji9_; rw [Int.one_mul] at h_; exact h_
          have hji9v : (ji7) ≤ 64 → (IntKind.i64.wrap (2 ^ (ji7).toNat)) = ji9 := fun hle_ => by have h_ := hji9z hle_; rw [Int.one_mul] at h_; exact h_
          have hji9y : (wrap64 (1 * 2 ^ min (ji7).toNat 64)) = ji9 := (i64_w _).symm.trans hji9_
          have hji9x : (ji7) ≤ 64 → (wrap64 (1 * 2 ^ (ji7).toNat)) = ji9 := fun h_ => (i64_w _).symm.trans (hji9z h_)
          obtain rfl := Option.some.inj H
          go_enter Try.func53, Try.ntmps53
          go_wp2_with (first | ((with_reducible refine gate_callee (f := 58) rfl ?_); refine goesL_ (some 6) rfl rfl Try.func58 (by kernel_rfl) rfl #[.int .i64 a0] rfl (by (try simp only [List.map_toArray, List.map_cons, List.map_nil]); first | done | rfl | (simp only [List.length_drop, List.length_take]; rfl)) ?_; (with_reducible refine (impl_inVar.calls a0 true _ A3.out).mono ?_); rintro e w' ⟨rfl, ⟨nd, rfl⟩⟩; refine ⟨_, rfl, ?_⟩))
          go_ret
          exact ⟨by first | rfl | (simp; done) | (simp only [← hji7, ← hji9] <;> (first | rfl | simp)) | (simp [*]; done), by repeat (first | exact Drawn0.refl _ | apply Drawn0.step)⟩
        · rw [if_neg c8] at H
          exact absurd H (by simp)
  · replace c4 := Bool.eq_false_iff.mpr c4
    subst c4
    have H1 : (some (-1)) = some r := by rw [if_neg (show ¬ (false = true) by decide)] at H; exact H
    clear H
    have H := H1
    clear H1
    obtain rfl := Option.some.inj H
    go_enter Try.func53, Try.ntmps53
    go_wp2_with (first | ((with_reducible refine gate_callee (f := 58) rfl ?_); refine goesL_ (some 6) rfl rfl Try.func58 (by kernel_rfl) rfl #[.int .i64 a0] rfl (by (try simp only [List.map_toArray, List.map_cons, List.map_nil]); first | done | rfl | (simp only [List.length_drop, List.length_take]; rfl)) ?_; (with_reducible refine (impl_inVar.calls a0 false _ A3.out).mono ?_); rintro e w' ⟨rfl, ⟨nd, rfl⟩⟩; refine ⟨_, rfl, ?_⟩))
    go_ret
    exact ⟨by first | rfl | (simp; done) | (simp [*]; done), by repeat (first | exact Drawn0.refl _ | apply Drawn0.step)⟩

/-! ### impl_fixed: function 89 -/
def impl_fixed.l0 : Nat → List Int → Int → Int → Option (List Int)
  | 0, _, _, _ => none
  | k + 1, x0, x1, x7 => if x7 ≥ 0 then (if 0 ≤ (wrap64 (8 * x7)) then (if x0.length < 140737488355328 then (impl_fixed.l0 k (x0 ++ [(shr .u64 (IntKind.u64.wrap (x1)) (wrap64 (8 * x7))) % 256]) x1 (wrap64 (x7 - 1))) else (none)) else (none)) else (some x0)
def impl_fixed.f (k : Nat) (l0 : List Int) (a1 : Int) (a2 : Int) : Option (List Int) := impl_fixed.l0 k l0 a1 (wrap64 (a2 - 1))
theorem impl_fixed.mono_l : ∀ k, (∀ y0 y1 y2, LeO (impl_fixed.l0 k y0 y1 y2) (impl_fixed.l0 (k + 1) y0 y1 y2))
  | 0 => fun _ _ _ r h => by simp [impl_fixed.l0] at h
  | k + 1 => by
    have ih0 := impl_fixed.mono_l k
    · intro y0 y1 y2
      unfold impl_fixed.l0
      repeat' first
      | (with_reducible exact ih0 _ _ _)
      | (with_reducible exact LeO.refl _)
      | (with_reducible exact LeO.none _)
      | (with_reducible refine LeO.ite ?_ ?_)
      | (with_reducible refine LeO.bind ?_ (fun _ => ?_))
      | exact ih0 _ _ _
      | exact LeO.none _
      | refine LeO.ite ?_ ?_
      | refine LeO.bind ?_ (fun _ => ?_)
theorem impl_fixed.mono : ∀ a0 a1 a2 k, LeO (impl_fixed.f k a0 a1 a2) (impl_fixed.f (k + 1) a0 a1 a2) := by
  intro a0 a1 a2 k
  have ih0 := impl_fixed.mono_l k
  unfold impl_fixed.f
  repeat' first
      | (with_reducible exact ih0 _ _ _)
      | (with_reducible exact LeO.refl _)
      | (with_reducible exact LeO.none _)
      | (with_reducible refine LeO.ite ?_ ?_)
      | (with_reducible refine LeO.bind ?_ (fun _ => ?_))
      | exact ih0 _ _ _
      | exact LeO.none _
      | refine LeO.ite ?_ ?_
      | refine LeO.bind ?_ (fun _ => ?_)
set_option maxHeartbeats 8000000 in
set_option maxRecDepth 100000 in
theorem impl_fixed.calls (k : Nat) (P0_ : Nat → Prop) (u9000_ : Value) (l0 : List Int) (a1 : Int) (a2 : Int) (r : List Int) (w0 w : World) (hB : Below w0.heap.size w0 w) (ho0 : Kd.R (Kd.int .u8) 5 w w0.heap.size P0_ u9000_ l0) (h : impl_fixed.f k l0 a1 a2 = some r) :
    Calls Try.prog 89 #[u9000_, .int .i64 a1, .int .i64 a2] w fun e w' => ∃ v0_ : Value, e = .returned (v0_) ∧ Kd.R (Kd.int .u8) 5 w' w0.heap.size (fun k_ => (P0_ k_ ∨ w.heap.size ≤ k_)) v0_ r ∧ Below w0.heap.size w0 w' ∧ Kept w w' (fun k_ => P0_ k_) := by
  have HO0 := Aside0.mk (show Kd.R (Kd.int .u8) 5 w w0.heap.size (fun k_ => (P0_ k_ ∨ w.heap.size ≤ k_)) u9000_ l0 from Kd.R_mono ho0 (fun k_ hk => (.inl hk)))
  have HK := Aside0.mk (Kept.refl w (fun k_ => P0_ k_))
  have HW0 := Aside0.mk hB.size
  have HB := Aside0.mk hB
  clear hB
  have H : (impl_fixed.l0 k l0 a1 (wrap64 (a2 - 1))) = some r := h
  clear h
  have H' := Aside0.mk H
  clear H
  go_enter Try.func89, Try.ntmps89
  go_wp2
  go_loopg [0, 7] k (fun kq v0 v7 w' => ∃ (x0_1 : List Int) (x7_1 : Int), v7 = .int .i64 x7_1 ∧ Aside0 (impl_fixed.l0 kq x0_1 a1 x7_1 = some r) ∧ Aside0 (kq ≤ k) ∧ Aside0 (Kd.R (Kd.int .u8) 5 w' w0.heap.size (fun k_ => (P0_ k_ ∨ w.heap.size ≤ k_)) v0 x0_1) ∧ Aside0 (Kept w w' (fun k_ => P0_ k_)) ∧ Aside0 (Below w0.heap.size w0 w'))
  case atStart => exact ⟨(l0), (wrap64 (a2 - 1)), (by first | rfl | (simp; done) | (simp [*]; done)), H', ⟨Nat.le_refl _⟩, ⟨by (with_reducible repeat (first | apply Kd.R_alloc | apply Kd.R_drewN | apply Kd.R_drew)); exact HO0.out⟩, ⟨by repeat (first | (with_reducible first | exact HK.out | apply Kept.alloc | apply Kept.drewN | apply Kept.drew) | exact HK.out)⟩, ⟨by repeat (first | (with_reducible first | exact HB.out | apply below_alloc | apply pw_below_drewN | apply below_drew1) | exact HB.out)⟩⟩
  case round =>
    clear H'
    try clear p2
    obtain ⟨x0_1, x7_1, rfl, HA, HK1, HO_0, HK, HB⟩ := hrel
    cases gk with
    | zero => exact absurd HA.out (by simp [impl_fixed.l0])
    | succ k1 =>
      have H := HA.out
      clear HA
      simp only [impl_fixed.l0] at H
      by_cases c4 : x7_1 ≥ 0
      · rw [if_pos c4] at H
        have c4b0 : decide (0 ≤ x7_1) = true := decide_eq_true c4
        clear c4
        obtain ⟨ji5, hji5⟩ : ∃ j_ : Int, (wrap64 (8 * x7_1)) = j_ := ⟨_, rfl⟩
        replace H : (if 0 ≤ (ji5) then (if x0_1.length < 140737488355328 then (impl_fixed.l0 k1 (x0_1 ++ [(shr .u64 (IntKind.u64.wrap (a1)) (ji5)) % 256]) a1 (wrap64 (x7_1 - 1))) else (none)) else (none)) = some r := by first | (rw [hji5] at H; exact H) | (simp only [hji5] at H ⊢; exact H)
        have hji5w : (IntKind.i64.wrap (8 * x7_1)) = ji5 := (i64_w _).trans hji5
        by_cases c6 : 0 ≤ (ji5)
        · rw [if_pos c6] at H
          have c6b0 := eq_true c6
          have c6b1 : decide (0 ≤ (ji5)) = true := decide_eq_true c6
          clear c6
          obtain ⟨ji7, hji7⟩ : ∃ j_ : Int, (shr .u64 (IntKind.u64.wrap (a1)) (ji5)) = j_ := ⟨_, rfl⟩
          replace H : (if x0_1.length < 140737488355328 then (impl_fixed.l0 k1 (x0_1 ++ [(ji7) % 256]) a1 (wrap64 (x7_1 - 1))) else (none)) = some r := by first | (rw [hji7] at H; exact H) | (simp only [hji7] at H ⊢; exact H)
          have hji7_ : ((IntKind.u64.wrap (a1)) / 2 ^ min (ji5).toNat 64) = ji7 := hji7
          have hji7z : (ji5) ≤ 64 → ((IntKind.u64.wrap (a1)) / 2 ^ (ji5).toNat) = ji7 := shr_small hji7
          by_cases c8 : x0_1.length < 140737488355328
          · rw [if_pos c8] at H
            have LMc8 := Aside0.mk c8
            clear c8
            obtain ⟨y234, hy234⟩ : ∃ y_ : List Int, y_ = (x0_1 ++ [(ji7) % 256]) := ⟨_, rfl⟩
            replace H : (impl_fixed.l0 k1 y234 a1 (wrap64 (x7_1 - 1))) = some r := by first | (rw [hy234]; with_reducible exact H) | (have H2_ := (Option.bind_some _ _).symm.trans H; rw [hy234]; with_reducible exact H2_) | (have H2_ := (Option.bind_some _ _).symm.trans H; with_reducible exact H2_) | with_reducible exact H | (rw [hy234]; exact H) | exact H
            have Ny234 := Aside0.mk hy234
            clear hy234
            have H' := Aside0.mk H
            clear H
            go_wp2_with (first | ((with_reducible refine gate_builtin (b := .append) (xs := #[.tmp 14, .tmp 21]) rfl ?_); at_builtin; refine Kd.R_append (Kd.int .u8) (w0 := w0) w0.heap.size rfl (.tmp 14) (.tmp 21) 22 5 (.int .u8 0) 1 rfl Try.underlying22 info5 rfl (by decide) (by omega) u0 x0_1 ((ji7) % 256) [.int .u8 ((ji7) % 256)] (fun k_ => (P0_ k_ ∨ w.heap.size ≤ k_)) (fun _ => False) rfl rfl ?aP (fun _ hk => hk.elim) ?aF ?aO ?aB ?aS ?aL ?_; (case aP => exact rfl); (case aB => exact (by repeat (first | (with_reducible first | exact HB.out | apply below_alloc | apply pw_below_drewN | apply below_drew1) | exact HB.out))); (case aF => exact (fun k_ hk => (.inr (Nat.le_trans (by first | exact HK.out.1 | exact (show Kept w _ (fun k_ => P0_ k_) from by repeat (first | (with_reducible first | exact HK.out | apply Kept.alloc | apply Kept.drewN | apply Kept.drew) | exact HK.out)).1) hk)))); (case aO => exact (by (with_reducible repeat (first | apply Kd.R_alloc | apply Kd.R_drewN | apply Kd.R_drew)); exact HO_0.out)); (case aS => exact (below_size (by repeat (first | (with_reducible first | exact HB.out | apply below_alloc | apply pw_below_drewN | apply below_drew1) | exact HB.out)))); (case aL => have := LMc8.out; omega); intro v235 w9 ho hb hg hat; rw [← Ny234.out] at ho; have n0_ := Aside0.mk (hb); have n1_ := Aside0.mk (Kept.of_grown (S := (fun k_ => P0_ k_)) hg (by repeat (first | (with_reducible first | exact HK.out | apply Kept.alloc | apply Kept.drewN | apply Kept.drew) | exact HK.out)) (fun k_ e_ => (HO_0.out.1 k_ e_))); have n2_ := Aside0.mk (ho); clear HB; clear HK; clear HO_0; have HB := n0_; have HK := n1_; have HO236 := n2_; clear n0_ n1_ n2_; clear ho hb hg hat))
            go_roundg k1
            case measure => have := HK1.out; omega
            case rel => exact ⟨(y234), (wrap64 (x7_1 - 1)), (by first | rfl | (simp; done) | (simp [*]; done)), H', ⟨by have := HK1.out; omega⟩, ⟨by (with_reducible repeat (first | apply Kd.R_alloc | apply Kd.R_drewN | apply Kd.R_drew)); exact HO236.out⟩, ⟨by repeat (first | (with_reducible first | exact HK.out | apply Kept.alloc | apply Kept.drewN | apply Kept.drew) | exact HK.out)⟩, ⟨by repeat (first | (with_reducible first | exact HB.out | apply below_alloc | apply pw_below_drewN | apply below_drew1) | exact HB.out)⟩⟩
          · rw [if_neg c8] at H
            exact absurd H (by simp)
        · rw [if_neg c6] at H
          exact absurd H (by simp)
      · rw [if_neg c4] at H
        have c4b0 : decide (0 ≤ x7_1) = false := decide_eq_false c4
        clear c4
        obtain rfl := Option.some.inj H
        go_wp2
        go_ret
        exact ⟨_, by first | rfl | (simp [errW_none, errW_some] <;> rfl) | (simp [*, errW_none, errW_some] <;> rfl), by (with_reducible repeat (first | apply Kd.R_alloc | apply Kd.R_drewN | apply Kd.R_drew)); exact HO_0.out, by repeat (first | (with_reducible first | exact HB.out | apply below_alloc | apply pw_below_drewN | apply below_drew1) | exact HB.out), by repeat (first | (with_reducible first | exact HK.out | apply Kept.alloc | apply Kept.drewN | apply Kept.drew) | exact HK.out)⟩

end Go.Proofs.Ytdojcdhlcnlohaa.SFnExactHeadBytes
