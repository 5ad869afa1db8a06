/- The walk of some functions that the law FnExactRangesAdd uses: part 6. -/
import Derived.Test.YtkfoneckbnggoaaMFnExactRangesAddx0
import Derived.Test.YtkfoneckbnggoaaMFnExactRangesAddx4
import Derived.Test.YtkfoneckbnggoaaMFnExactRangesAddx5
namespace Go.Proofs.Ytkfoneckbnggoaa.MFnExactRangesAdd
open Go.RowKit Go.Proofs.YtkfoneckbnggoaaW.PrintWords Go.Proofs.YtkfoneckbnggoaaW.PrintLast Go.Proofs.YtkfoneckbnggoaaW.PrintMore
attribute [local go_sem] max2_int min2_int max_two min_two max_three min_three max_four min_four   -- for this text's walks alone
set_option linter.unusedVariables false
set_option linter.unusedSimpArgs false

/-! ### impl_rangesAdd: function 74 -/
def impl_rangesAdd.l0 : Nat → List (S73) → Bool → List (S73) → Int → Int → Int → Int → Option ((List (S73)))
  | 0, _, _, _, _, _, _, _ => none
  | k + 1, x5, x7, x14, x15, x16, x211000, x211001 => if x16 < x15 then (if 0 ≤ x16 then (if x16 < (x14.length : Int) then (if ((rd_T73 x14 x16).f1) < (wrap64 (x211000 - 1)) then (if x5.length < 8796093022208 then (impl_rangesAdd.l0 k (x5 ++ [(⟨(rd_T73 x14 x16).f0, (rd_T73 x14 x16).f1⟩ : S73)]) x7 x14 x15 (wrap64 (x16 + 1)) x211000 x211001) else (none)) else (if ((rd_T73 x14 x16).f0) > (wrap64 (x211001 + 1)) then (if x7 = true then (if x5.length < 8796093022208 then (impl_rangesAdd.l0 k (x5 ++ [(⟨(rd_T73 x14 x16).f0, (rd_T73 x14 x16).f1⟩ : S73)]) x7 x14 x15 (wrap64 (x16 + 1)) x211000 x211001) else (none)) else (if x5.length < 8796093022208 then ((some (x5 ++ [(⟨x211000, x211001⟩ : S73)] : List (S73))).bind fun y219 => (if y219.length < 8796093022208 then (impl_rangesAdd.l0 k (y219 ++ [(⟨(rd_T73 x14 x16).f0, (rd_T73 x14 x16).f1⟩ : S73)]) true x14 x15 (wrap64 (x16 + 1)) x211000 x211001) else (none))) else (none))) else (impl_rangesAdd.l0 k x5 x7 x14 x15 (wrap64 (x16 + 1)) (mn x211000 ((rd_T73 x14 x16).f0)) (mx x211001 ((rd_T73 x14 x16).f1))))) else (none)) else (none)) else (if x7 = true then (if (x5.length : Int) > 64 then (if 1 ≤ (x5.length : Int) then (some (x5.drop (1 : Int).toNat)) else (none)) else (some x5)) else (if x5.length < 8796093022208 then ((some (x5 ++ [(⟨x211000, x211001⟩ : S73)] : List (S73))).bind fun y228 => (if (y228.length : Int) > 64 then (if 1 ≤ (y228.length : Int) then (some (y228.drop (1 : Int).toNat)) else (none)) else (some y228))) else (none)))
def impl_rangesAdd.f (k : Nat) (l0 : List (S73)) (a1 : Int) : Option ((List (S73))) := impl_rangesAdd.l0 k (([] : List (S73))) false l0 (l0.length : Int) 0 a1 a1
theorem impl_rangesAdd.mono_l : ∀ k, (∀ y0 y1 y2 y3 y4 y5 y6, LeO (impl_rangesAdd.l0 k y0 y1 y2 y3 y4 y5 y6) (impl_rangesAdd.l0 (k + 1) y0 y1 y2 y3 y4 y5 y6))
  | 0 => fun _ _ _ _ _ _ _ r h => by simp [impl_rangesAdd.l0] at h
  | k + 1 => by
    have ih0 := impl_rangesAdd.mono_l k
    · intro y0 y1 y2 y3 y4 y5 y6
      unfold impl_rangesAdd.l0
      repeat' first
      | (with_reducible exact ih0 _ _ _ _ _ _ _)
      | (with_reducible exact LeO.refl _)
      | (with_reducible exact LeO.none _)
      | (with_reducible refine LeO.ite ?_ ?_)
      | (with_reducible refine LeO.bind ?_ (fun _ => ?_))
      | exact ih0 _ _ _ _ _ _ _
      | exact LeO.none _
      | refine LeO.ite ?_ ?_
      | refine LeO.bind ?_ (fun _ => ?_)
theorem impl_rangesAdd.mono : ∀ a0 a1 k, LeO (impl_rangesAdd.f k a0 a1) (impl_rangesAdd.f (k + 1) a0 a1) := by
  intro a0 a1 k
  have ih0 := impl_rangesAdd.mono_l k
  unfold impl_rangesAdd.f
  repeat' first
      | (with_reducible exact ih0 _ _ _ _ _ _ _)
      | (with_reducible exact LeO.refl _)
      | (with_reducible exact LeO.none _)
      | (with_reducible refine LeO.ite ?_ ?_)
      | (with_reducible refine LeO.bind ?_ (fun _ => ?_))
      | exact ih0 _ _ _ _ _ _ _
      | exact LeO.none _
      | refine LeO.ite ?_ ?_
      | refine LeO.bind ?_ (fun _ => ?_)
set_option maxHeartbeats 8000000 in
set_option maxRecDepth 100000 in
theorem impl_rangesAdd.calls (k : Nat) (A0 : Option Addr) (c0 : Nat) (l0 : List (S73)) (a1 : Int) (r : List (S73)) (w : World) (hr0 : Kd.C k73 w A0 l0.length l0) (hc0 : l0.length ≤ c0) (h : impl_rangesAdd.f k l0 a1 = some r) :
    Calls Try.prog 74 #[.slice A0 l0.length c0, .int .i64 a1] w fun e w' => ∃ v0_ : Value, e = .returned (v0_) ∧ Kd.Q k73 73 w' w.heap.size (fun _ => True) v0_ r ∧ Below w.heap.size w w' := by
  have hu73 := Try.underlying73
  have HR0 := Aside0.mk hr0
  have HC0 := Aside0.mk hc0
  clear hr0 hc0
  have HB := Aside0.mk (Below.refl w.heap.size w)
  have H : (impl_rangesAdd.l0 k (([] : List (S73))) false l0 (l0.length : Int) 0 a1 a1) = some r := h
  clear h
  obtain ⟨y207, hy207⟩ : ∃ y_ : List (S73), y_ = (([] : List (S73))) := ⟨_, rfl⟩
  replace H : (impl_rangesAdd.l0 k y207 false l0 (l0.length : Int) 0 a1 a1) = some r := by first | (rw [hy207]; with_reducible exact H) | (have H2_ := (Option.bind_some _ _).symm.trans H; rw [hy207]; with_reducible exact H2_) | (have H2_ := (Option.bind_some _ _).symm.trans H; with_reducible exact H2_) | with_reducible exact H | (rw [hy207]; exact H) | exact H
  have Ny207 := Aside0.mk hy207
  clear hy207
  have H' := Aside0.mk H
  clear H
  go_enter Try.func74, Try.ntmps74
  go_wp2_with (first | ((with_reducible refine gate_dst (N := 10) rfl ?_); refine Kd.R_lit k73 _ 73 ?hg (N := 10) ?hd (xs := ([] : List (S73))) (inner := []) (ok := fun _ => True) (okp := fun _ => True) ?hr ?hp (fun _ hk => hk) trivial (Below.refl _ _) (Nat.le_refl _) (by simp) ?_; (case hd => rfl); (case hg => rfl); (case hr => first | (go_simp; done) | (go_simp; rfl)); (case hp => exact (Reps.none _ _)); intro v208 w3 ho4 hb hg_ hnew_; clear hg_ hnew_; (first | rw [← Ny207.out] at ho4 | (simp only [Int.reduceToNat] at ho4; rw [← Ny207.out] at ho4)); have n0_ := Aside0.mk (Kd.R_lower ho4 (below_size (by repeat (first | (with_reducible first | exact HB.out | apply below_alloc | apply pw_below_drewN | apply below_drew1) | exact HB.out)))); have n1_ := Aside0.mk (below_step (by repeat (first | (with_reducible first | exact HB.out | apply below_alloc | apply pw_below_drewN | apply below_drew1) | exact HB.out)) hb); clear HB; have HO209 := n0_; have HB := n1_; clear n0_ n1_; clear hb ho4) | ((with_reducible refine gate_dst (N := 6) rfl ?_); refine box_event ?hg (N := 6) ?hd (cs := #[.int .i64 0, .int .i64 0]) (t := 73) ?hr ?_; (case hd => rfl); (case hg => rfl); (case hr => first | (go_simp; done) | (go_simp; rfl)); intro gb210 hg w5 hbox hb; have n0_ := Aside0.mk (Kd.R_below (Kd.R_elderB (by (with_reducible repeat (first | apply Kd.R_alloc | apply Kd.R_drewN | apply Kd.R_drew)); exact HO209.out) gb210 (Nat.le_of_eq hg.symm)) hb); have n1_ := Aside0.mk (below_step (by repeat (first | (with_reducible first | exact HB.out | apply below_alloc | apply pw_below_drewN | apply below_drew1) | exact HB.out)) hb); have n2_ := Aside0.mk (hbox); have n3_ := Aside0.mk ((by rw [hg]; exact (below_size (by repeat (first | (with_reducible first | exact HB.out | apply below_alloc | apply pw_below_drewN | apply below_drew1) | exact HB.out))) : w.heap.size ≤ gb210)); have n4_ := Aside0.mk ((by rw [hg]; exact (below_size (by repeat (first | (with_reducible first | exact HB.out | apply below_alloc | apply pw_below_drewN | apply below_drew1) | exact HB.out))) : w.heap.size ≤ gb210)); clear HO209; clear HB; have HO209 := n0_; have HB := n1_; have BK210 := n2_; have GW210 := n3_; have GE210 := n4_; clear n0_ n1_ n2_ n3_ n4_; clear hb hbox hg; have hcz6_0 : w5.cell? ⟨gb210, 0, none⟩ = some (.int .i64 0) := (blk_cell BK210.out 0).trans rfl; have hcz6_1 : w5.cell? ⟨gb210, 1, none⟩ = some (.int .i64 0) := (blk_cell BK210.out 1).trans rfl; have hfz6_0 := blk_frozen BK210.out 0; have hfz6_1 := blk_frozen BK210.out 1))
  go_loopg [5, 7, 16] k (fun kq v5 v7 v16 w' => ∃ (x5_1 : List (S73)) (x7_1 : Bool) (x16_1 : Int) (x211000_1 : Int) (x211001_1 : Int), v7 = .bool x7_1 ∧ v16 = .int .i64 x16_1 ∧ Aside0 (impl_rangesAdd.l0 kq x5_1 x7_1 l0 (l0.length : Int) x16_1 x211000_1 x211001_1 = some r) ∧ Aside0 (kq ≤ k) ∧ Aside0 (Kd.Q k73 73 w' w.heap.size (fun k_ => k_ ≠ gb210) v5 x5_1) ∧ Aside0 (w'.heap[gb210]? = some (.cells #[.int .i64 x211000_1, .int .i64 x211001_1] 73 (0, 0))) ∧ Aside0 (Below w.heap.size w w'))
  case atStart => exact ⟨(y207), (false), (0), (a1), (a1), (by first | rfl | (simp; done) | (simp [*]; done)), (by first | rfl | (simp; done) | (simp [*]; done)), H', ⟨Nat.le_refl _⟩, ⟨Kd.Q_of_R (by (with_reducible repeat (first | apply Kd.R_alloc | apply Kd.R_drewN | apply Kd.R_drew)); exact Kd.R_mono (Kd.R_far (p := ⟨gb210, 1, none⟩) (Kd.R_far (p := ⟨gb210, 0, none⟩) (Kd.R_mono HO209.out (fun k_ hk => (⟨hk, hk.2⟩ : _ ∧ k_ ≠ gb210))) (fun _ hk => hk.2) (.int .i64 a1)) (fun _ hk => hk.2) (.int .i64 a1)) (fun _ hk => hk.1.2))⟩, ⟨by (with_reducible repeat (first | refine blk_drewN ?_ _ | refine blk_drew ?_ | refine blk_alloc ?_ _)); refine blk_put (cs := #[.int .i64 a1, .int .i64 0]) ?_ 1 _ rfl; (with_reducible repeat (first | refine blk_drewN ?_ _ | refine blk_drew ?_ | refine blk_alloc ?_ _)); refine blk_put (cs := #[.int .i64 0, .int .i64 0]) ?_ 0 _ rfl; (with_reducible repeat (first | refine blk_drewN ?_ _ | refine blk_drew ?_ | refine blk_alloc ?_ _)); exact BK210.out⟩, ⟨by repeat (first | (with_reducible first | exact HB.out | apply below_alloc | apply pw_below_drewN | apply below_drew1 | refine below_set ?_ GE210.out) | exact HB.out)⟩⟩
  case round =>
    clear H'
    try clear p2
    try clear hcz6_0
    try clear hcz6_1
    try clear hfz6_0
    try clear hfz6_1
    obtain ⟨x5_1, x7_1, x16_1, x211000_1, x211001_1, rfl, rfl, HA, HK1, HO_5, BK210, HB⟩ := hrel
    cases gk with
    | zero => exact absurd HA.out (by simp [impl_rangesAdd.l0])
    | succ k1 =>
      have H := HA.out
      clear HA
      simp only [impl_rangesAdd.l0] at H
      by_cases c7 : x16_1 < (l0.length : Int)
      · rw [if_pos c7] at H
        have c7b0 : decide (x16_1 < (l0.length : Int)) = true := decide_eq_true c7
        clear c7
        by_cases c8 : 0 ≤ x16_1
        · rw [if_pos c8] at H
          have c8b0 : decide (0 ≤ x16_1) = true := decide_eq_true c8
          clear c8
          by_cases c9 : x16_1 < (l0.length : Int)
          · rw [if_pos c9] at H
            have c9b0 : decide (x16_1 < (l0.length : Int)) = true := decide_eq_true c9
            clear c9
            by_cases c10 : ((rd_T73 l0 x16_1).f1) < (wrap64 (x211000_1 - 1))
            · rw [if_pos c10] at H
              have c10b0 : decide (((rd_T73 l0 x16_1).f1) < (wrap64 (x211000_1 - 1))) = true := decide_eq_true c10
              clear c10
              by_cases c11 : x5_1.length < 8796093022208
              · rw [if_pos c11] at H
                have LMc11 := Aside0.mk c11
                clear c11
                obtain ⟨y213, hy213⟩ : ∃ y_ : List (S73), y_ = (x5_1 ++ [(⟨(rd_T73 l0 x16_1).f0, (rd_T73 l0 x16_1).f1⟩ : S73)]) := ⟨_, rfl⟩
                replace H : (impl_rangesAdd.l0 k1 y213 x7_1 l0 (l0.length : Int) (wrap64 (x16_1 + 1)) x211000_1 x211001_1) = some r := by first | (rw [hy213]; with_reducible exact H) | (have H2_ := (Option.bind_some _ _).symm.trans H; rw [hy213]; with_reducible exact H2_) | (have H2_ := (Option.bind_some _ _).symm.trans H; with_reducible exact H2_) | with_reducible exact H | (rw [hy213]; exact H) | exact H
                have Ny213 := Aside0.mk hy213
                clear hy213
                have H' := Aside0.mk H
                clear H
                have p211 : 0 ≤ (x16_1 : Int) := of_decide_eq_true (by first | (with_reducible assumption) | assumption)
                have q211 : x16_1 < (l0.length : Int) := of_decide_eq_true (by first | (with_reducible assumption) | assumption)
                obtain ⟨ad211, e211, hx211_0, hx211_1⟩ := at_T73 HR0.out x16_1 p211 q211
                cases e211
                replace hx211_0 := (HB.out.cell (World.block_lt_of_cell? w _ hx211_0)).trans hx211_0
                replace hx211_1 := (HB.out.cell (World.block_lt_of_cell? w _ hx211_1)).trans hx211_1
                replace p211 := eq_true p211
                replace q211 := eq_true q211
                go_wp2_with (first | ((with_reducible refine gate_dst (N := 9) rfl ?_); refine box_event ?hg (N := 9) ?hd (cs := #[.int .i64 0, .int .i64 0]) (t := 73) ?hr ?_; (case hd => rfl); (case hg => rfl); (case hr => first | (go_simp; done) | (go_simp; rfl)); intro gb212 hg w12 hbox hb; have n0_ := Aside0.mk (Kd.Q_below (Kd.Q_elderB (by (with_reducible repeat (first | apply Kd.Q_alloc | apply Kd.Q_drewN | apply Kd.Q_drew)); exact HO_5.out) gb212 (Nat.le_of_eq hg.symm)) hb); have n1_ := Aside0.mk (blk_below (g := gb210) (o := .cells #[.int .i64 x211000_1, .int .i64 x211001_1] 73 (0, 0)) (by (with_reducible repeat (first | refine blk_drewN ?_ _ | refine blk_drew ?_ | refine blk_alloc ?_ _)); exact BK210.out) hb); have n2_ := Aside0.mk (below_step (by repeat (first | (with_reducible first | exact HB.out | apply below_alloc | apply pw_below_drewN | apply below_drew1 | refine below_set ?_ GE210.out) | exact HB.out)) hb); have n3_ := Aside0.mk (hbox); have n4_ := Aside0.mk ((by rw [hg]; exact (below_size (by repeat (first | (with_reducible first | exact HB.out | apply below_alloc | apply pw_below_drewN | apply below_drew1 | refine below_set ?_ GE210.out) | exact HB.out))) : w.heap.size ≤ gb212)); have n5_ := Aside0.mk ((by rw [hg]; exact (below_size (by repeat (first | (with_reducible first | exact HB.out | apply below_alloc | apply pw_below_drewN | apply below_drew1 | refine below_set ?_ GE210.out) | exact HB.out))) : w.heap.size ≤ gb212)); have n6_ := Aside0.mk ((by rw [hg]; exact Nat.ne_of_lt (blk_lt (g := gb210) (o := .cells #[.int .i64 x211000_1, .int .i64 x211001_1] 73 (0, 0)) (by (with_reducible repeat (first | refine blk_drewN ?_ _ | refine blk_drew ?_ | refine blk_alloc ?_ _)); exact BK210.out)) : gb210 ≠ gb212)); have n7_ := Aside0.mk ((by rw [hg]; exact Nat.ne_of_gt (blk_lt (g := gb210) (o := .cells #[.int .i64 x211000_1, .int .i64 x211001_1] 73 (0, 0)) (by (with_reducible repeat (first | refine blk_drewN ?_ _ | refine blk_drew ?_ | refine blk_alloc ?_ _)); exact BK210.out)) : gb212 ≠ gb210)); clear HO_5; clear BK210; clear HB; have HO_5 := n0_; have BK210 := n1_; have HB := n2_; have BK212 := n3_; have GW212 := n4_; have GE212 := n5_; have NB210_212 := n6_; have NB212_210 := n7_; clear n0_ n1_ n2_ n3_ n4_ n5_ n6_ n7_; clear hb hbox hg; have hnb13 := NB212_210.out; have hnc13 := NB210_212.out; have hcz14_0 : w12.cell? ⟨gb212, 0, none⟩ = some (.int .i64 0) := (blk_cell BK212.out 0).trans rfl; have hcz14_1 : w12.cell? ⟨gb212, 1, none⟩ = some (.int .i64 0) := (blk_cell BK212.out 1).trans rfl; have hfz14_0 := blk_frozen BK212.out 0; have hfz14_1 := blk_frozen BK212.out 1; have hcz15_0 : w12.cell? ⟨gb210, 0, none⟩ = some (.int .i64 x211000_1) := (blk_cell BK210.out 0).trans rfl; have hcz15_1 : w12.cell? ⟨gb210, 1, none⟩ = some (.int .i64 x211001_1) := (blk_cell BK210.out 1).trans rfl; have hfz15_0 := blk_frozen BK210.out 0; have hfz15_1 := blk_frozen BK210.out 1) | ((with_reducible refine gate_builtin (b := .append) (xs := #[.tmp 38, .tmp 40]) rfl ?_); at_builtin; refine Kd.Q_append k73 (w0 := w) w.heap.size rfl (.tmp 38) (.tmp 40) 38 73 (.agg #[(.int .i64 0), (.int .i64 0)]) 16 rfl Try.underlying38 info73 rfl (by decide) (by omega) u5 x5_1 (⟨(rd_T73 l0 x16_1).f0, (rd_T73 l0 x16_1).f1⟩ : S73) [.int .i64 ((rd_T73 l0 x16_1).f0), .int .i64 ((rd_T73 l0 x16_1).f1)] (fun k_ => k_ ≠ gb210 ∧ k_ ≠ gb212) (fun _ => False) rfl (by first | (go_simp; done) | (go_simp; rfl)) ?aP (fun _ hk => hk.elim) ?aF ?aO ?aB ?aS ?aL ?_; (case aP => exact k73_mkM _ _ _ (⟨(rd_T73 l0 x16_1).f0, (rd_T73 l0 x16_1).f1⟩ : S73)); (case aB => exact (by repeat (first | (with_reducible first | exact HB.out | apply below_alloc | apply pw_below_drewN | apply below_drew1 | refine below_set ?_ GE210.out | refine below_set ?_ GE212.out) | exact HB.out))); (case aF => exact (fun k_ hk => ⟨Kd.freshB (g := gb210) (o := .cells #[.int .i64 x211000_1, .int .i64 x211001_1] 73 (0, 0)) (by (with_reducible repeat (first | refine blk_drewN ?_ _ | refine blk_drew ?_ | refine blk_alloc ?_ _)); refine blk_far ?_ NB210_212.out _; (with_reducible repeat (first | refine blk_drewN ?_ _ | refine blk_drew ?_ | refine blk_alloc ?_ _)); refine blk_far ?_ NB210_212.out _; (with_reducible repeat (first | refine blk_drewN ?_ _ | refine blk_drew ?_ | refine blk_alloc ?_ _)); exact BK210.out) k_ hk, Kd.freshB (g := gb212) (o := .cells #[.int .i64 ((rd_T73 l0 x16_1).f0), .int .i64 ((rd_T73 l0 x16_1).f1)] 73 (0, 0)) (by (with_reducible repeat (first | refine blk_drewN ?_ _ | refine blk_drew ?_ | refine blk_alloc ?_ _)); refine blk_put (cs := #[.int .i64 ((rd_T73 l0 x16_1).f0), .int .i64 0]) ?_ 1 _ rfl; (with_reducible repeat (first | refine blk_drewN ?_ _ | refine blk_drew ?_ | refine blk_alloc ?_ _)); refine blk_put (cs := #[.int .i64 0, .int .i64 0]) ?_ 0 _ rfl; (with_reducible repeat (first | refine blk_drewN ?_ _ | refine blk_drew ?_ | refine blk_alloc ?_ _)); exact BK212.out) k_ hk⟩)); (case aO => exact (by (with_reducible repeat (first | apply Kd.Q_alloc | apply Kd.Q_drewN | apply Kd.Q_drew)); exact Kd.Q_mono (Kd.Q_far (p := ⟨gb212, 1, none⟩) (Kd.Q_far (p := ⟨gb212, 0, none⟩) (Kd.Q_mono HO_5.out (fun k_ hk => (⟨hk, hk.2⟩ : _ ∧ k_ ≠ gb212))) (fun _ hk => hk.2) (.int .i64 ((rd_T73 l0 x16_1).f0))) (fun _ hk => hk.2) (.int .i64 ((rd_T73 l0 x16_1).f1))) (fun _ hk => ⟨hk.1.1, hk.1.2⟩))); (case aS => exact (below_size (by repeat (first | (with_reducible first | exact HB.out | apply below_alloc | apply pw_below_drewN | apply below_drew1 | refine below_set ?_ GE210.out | refine below_set ?_ GE212.out) | exact HB.out)))); (case aL => have := LMc11.out; omega); intro v214 w16 ho hb hg hat; rw [← Ny213.out] at ho; have n0_ := Aside0.mk (blk_grown (g := gb210) (o := .cells #[.int .i64 x211000_1, .int .i64 x211001_1] 73 (0, 0)) (by (with_reducible repeat (first | refine blk_drewN ?_ _ | refine blk_drew ?_ | refine blk_alloc ?_ _)); refine blk_far ?_ NB210_212.out _; (with_reducible repeat (first | refine blk_drewN ?_ _ | refine blk_drew ?_ | refine blk_alloc ?_ _)); refine blk_far ?_ NB210_212.out _; (with_reducible repeat (first | refine blk_drewN ?_ _ | refine blk_drew ?_ | refine blk_alloc ?_ _)); exact BK210.out) hg (Kd.Q_away HO_5.out (fun _ hk => hk.1))); have n1_ := Aside0.mk (blk_grown (g := gb212) (o := .cells #[.int .i64 ((rd_T73 l0 x16_1).f0), .int .i64 ((rd_T73 l0 x16_1).f1)] 73 (0, 0)) (by (with_reducible repeat (first | refine blk_drewN ?_ _ | refine blk_drew ?_ | refine blk_alloc ?_ _)); refine blk_put (cs := #[.int .i64 ((rd_T73 l0 x16_1).f0), .int .i64 0]) ?_ 1 _ rfl; (with_reducible repeat (first | refine blk_drewN ?_ _ | refine blk_drew ?_ | refine blk_alloc ?_ _)); refine blk_put (cs := #[.int .i64 0, .int .i64 0]) ?_ 0 _ rfl; (with_reducible repeat (first | refine blk_drewN ?_ _ | refine blk_drew ?_ | refine blk_alloc ?_ _)); exact BK212.out) hg (Kd.Q_away HO_5.out (fun _ hk => hk.2))); have n2_ := Aside0.mk (hb); have n3_ := Aside0.mk (ho); clear BK210; clear BK212; clear HB; clear HO_5; have BK210 := n0_; have BK212 := n1_; have HB := n2_; have HO215 := n3_; clear n0_ n1_ n2_ n3_; clear ho hb hg hat))
                go_roundg k1
                case measure => have := HK1.out; omega
                case rel => exact ⟨(y213), (x7_1), (wrap64 (x16_1 + 1)), (x211000_1), (x211001_1), (by first | rfl | (simp; done) | (simp [*]; done)), (by first | rfl | (simp; done) | (simp [*]; done)), H', ⟨by have := HK1.out; omega⟩, ⟨by (with_reducible repeat (first | apply Kd.Q_alloc | apply Kd.Q_drewN | apply Kd.Q_drew)); exact Kd.Q_mono HO215.out (fun _ hk => hk.1)⟩, ⟨by (with_reducible repeat (first | refine blk_drewN ?_ _ | refine blk_drew ?_ | refine blk_alloc ?_ _)); exact BK210.out⟩, ⟨by repeat (first | (with_reducible first | exact HB.out | apply below_alloc | apply pw_below_drewN | apply below_drew1 | refine below_set ?_ GE210.out | refine below_set ?_ GE212.out) | exact HB.out)⟩⟩
              · rw [if_neg c11] at H
                exact absurd H (by simp)
            · rw [if_neg c10] at H
              have c10b0 : decide (((rd_T73 l0 x16_1).f1) < (wrap64 (x211000_1 - 1))) = false := decide_eq_false c10
              clear c10
              by_cases c17 : ((rd_T73 l0 x16_1).f0) > (wrap64 (x211001_1 + 1))
              · rw [if_pos c17] at H
                have c17b0 : decide ((wrap64 (x211001_1 + 1)) < ((rd_T73 l0 x16_1).f0)) = true := decide_eq_true c17
                clear c17
                by_cases c18 : x7_1 = true
                · subst c18
                  have H1 : (if x5_1.length < 8796093022208 then (impl_rangesAdd.l0 k1 (x5_1 ++ [(⟨(rd_T73 l0 x16_1).f0, (rd_T73 l0 x16_1).f1⟩ : S73)]) true l0 (l0.length : Int) (wrap64 (x16_1 + 1)) x211000_1 x211001_1) else (none)) = some r := by rw [if_pos rfl] at H; exact H
                  clear H
                  have H := H1
                  clear H1
                  by_cases c19 : x5_1.length < 8796093022208
                  · rw [if_pos c19] at H
                    have LMc19 := Aside0.mk c19
                    clear c19
                    obtain ⟨y216, hy216⟩ : ∃ y_ : List (S73), y_ = (x5_1 ++ [(⟨(rd_T73 l0 x16_1).f0, (rd_T73 l0 x16_1).f1⟩ : S73)]) := ⟨_, rfl⟩
                    replace H : (impl_rangesAdd.l0 k1 y216 true l0 (l0.length : Int) (wrap64 (x16_1 + 1)) x211000_1 x211001_1) = some r := by first | (rw [hy216]; with_reducible exact H) | (have H2_ := (Option.bind_some _ _).symm.trans H; rw [hy216]; with_reducible exact H2_) | (have H2_ := (Option.bind_some _ _).symm.trans H; with_reducible exact H2_) | with_reducible exact H | (rw [hy216]; exact H) | exact H
                    have Ny216 := Aside0.mk hy216
                    clear hy216
                    have H' := Aside0.mk H
                    clear H
                    have p211 : 0 ≤ (x16_1 : Int) := of_decide_eq_true (by first | (with_reducible assumption) | assumption)
                    have q211 : x16_1 < (l0.length : Int) := of_decide_eq_true (by first | (with_reducible assumption) | assumption)
                    obtain ⟨ad211, e211, hx211_0, hx211_1⟩ := at_T73 HR0.out x16_1 p211 q211
                    cases e211
                    replace hx211_0 := (HB.out.cell (World.block_lt_of_cell? w _ hx211_0)).trans hx211_0
                    replace hx211_1 := (HB.out.cell (World.block_lt_of_cell? w _ hx211_1)).trans hx211_1
                    replace p211 := eq_true p211
                    replace q211 := eq_true q211
                    go_wp2_with (first | ((with_reducible refine gate_dst (N := 9) rfl ?_); refine box_event ?hg (N := 9) ?hd (cs := #[.int .i64 0, .int .i64 0]) (t := 73) ?hr ?_; (case hd => rfl); (case hg => rfl); (case hr => first | (go_simp; done) | (go_simp; rfl)); intro gb212 hg w20 hbox hb; have n0_ := Aside0.mk (Kd.Q_below (Kd.Q_elderB (by (with_reducible repeat (first | apply Kd.Q_alloc | apply Kd.Q_drewN | apply Kd.Q_drew)); exact HO_5.out) gb212 (Nat.le_of_eq hg.symm)) hb); have n1_ := Aside0.mk (blk_below (g := gb210) (o := .cells #[.int .i64 x211000_1, .int .i64 x211001_1] 73 (0, 0)) (by (with_reducible repeat (first | refine blk_drewN ?_ _ | refine blk_drew ?_ | refine blk_alloc ?_ _)); exact BK210.out) hb); have n2_ := Aside0.mk (below_step (by repeat (first | (with_reducible first | exact HB.out | apply below_alloc | apply pw_below_drewN | apply below_drew1 | refine below_set ?_ GE210.out) | exact HB.out)) hb); have n3_ := Aside0.mk (hbox); have n4_ := Aside0.mk ((by rw [hg]; exact (below_size (by repeat (first | (with_reducible first | exact HB.out | apply below_alloc | apply pw_below_drewN | apply below_drew1 | refine below_set ?_ GE210.out) | exact HB.out))) : w.heap.size ≤ gb212)); have n5_ := Aside0.mk ((by rw [hg]; exact (below_size (by repeat (first | (with_reducible first | exact HB.out | apply below_alloc | apply pw_below_drewN | apply below_drew1 | refine below_set ?_ GE210.out) | exact HB.out))) : w.heap.size ≤ gb212)); have n6_ := Aside0.mk ((by rw [hg]; exact Nat.ne_of_lt (blk_lt (g := gb210) (o := .cells #[.int .i64 x211000_1, .int .i64 x211001_1] 73 (0, 0)) (by (with_reducible repeat (first | refine blk_drewN ?_ _ | refine blk_drew ?_ | refine blk_alloc ?_ _)); exact BK210.out)) : gb210 ≠ gb212)); have n7_ := Aside0.mk ((by rw [hg]; exact Nat.ne_of_gt (blk_lt (g := gb210) (o := .cells #[.int .i64 x211000_1, .int .i64 x211001_1] 73 (0, 0)) (by (with_reducible repeat (first | refine blk_drewN ?_ _ | refine blk_drew ?_ | refine blk_alloc ?_ _)); exact BK210.out)) : gb212 ≠ gb210)); clear HO_5; clear BK210; clear HB; have HO_5 := n0_; have BK210 := n1_; have HB := n2_; have BK212 := n3_; have GW212 := n4_; have GE212 := n5_; have NB210_212 := n6_; have NB212_210 := n7_; clear n0_ n1_ n2_ n3_ n4_ n5_ n6_ n7_; clear hb hbox hg; have hnb21 := NB212_210.out; have hnc21 := NB210_212.out; have hcz22_0 : w20.cell? ⟨gb212, 0, none⟩ = some (.int .i64 0) := (blk_cell BK212.out 0).trans rfl; have hcz22_1 : w20.cell? ⟨gb212, 1, none⟩ = some (.int .i64 0) := (blk_cell BK212.out 1).trans rfl; have hfz22_0 := blk_frozen BK212.out 0; have hfz22_1 := blk_frozen BK212.out 1; have hcz23_0 : w20.cell? ⟨gb210, 0, none⟩ = some (.int .i64 x211000_1) := (blk_cell BK210.out 0).trans rfl; have hcz23_1 : w20.cell? ⟨gb210, 1, none⟩ = some (.int .i64 x211001_1) := (blk_cell BK210.out 1).trans rfl; have hfz23_0 := blk_frozen BK210.out 0; have hfz23_1 := blk_frozen BK210.out 1) | ((with_reducible refine gate_builtin (b := .append) (xs := #[.tmp 55, .tmp 57]) rfl ?_); at_builtin; refine Kd.Q_append k73 (w0 := w) w.heap.size rfl (.tmp 55) (.tmp 57) 38 73 (.agg #[(.int .i64 0), (.int .i64 0)]) 16 rfl Try.underlying38 info73 rfl (by decide) (by omega) u5 x5_1 (⟨(rd_T73 l0 x16_1).f0, (rd_T73 l0 x16_1).f1⟩ : S73) [.int .i64 ((rd_T73 l0 x16_1).f0), .int .i64 ((rd_T73 l0 x16_1).f1)] (fun k_ => k_ ≠ gb210 ∧ k_ ≠ gb212) (fun _ => False) rfl (by first | (go_simp; done) | (go_simp; rfl)) ?aP (fun _ hk => hk.elim) ?aF ?aO ?aB ?aS ?aL ?_; (case aP => exact k73_mkM _ _ _ (⟨(rd_T73 l0 x16_1).f0, (rd_T73 l0 x16_1).f1⟩ : S73)); (case aB => exact (by repeat (first | (with_reducible first | exact HB.out | apply below_alloc | apply pw_below_drewN | apply below_drew1 | refine below_set ?_ GE210.out | refine below_set ?_ GE212.out) | exact HB.out))); (case aF => exact (fun k_ hk => ⟨Kd.freshB (g := gb210) (o := .cells #[.int .i64 x211000_1, .int .i64 x211001_1] 73 (0, 0)) (by (with_reducible repeat (first | refine blk_drewN ?_ _ | refine blk_drew ?_ | refine blk_alloc ?_ _)); refine blk_far ?_ NB210_212.out _; (with_reducible repeat (first | refine blk_drewN ?_ _ | refine blk_drew ?_ | refine blk_alloc ?_ _)); refine blk_far ?_ NB210_212.out _; (with_reducible repeat (first | refine blk_drewN ?_ _ | refine blk_drew ?_ | refine blk_alloc ?_ _)); exact BK210.out) k_ hk, Kd.freshB (g := gb212) (o := .cells #[.int .i64 ((rd_T73 l0 x16_1).f0), .int .i64 ((rd_T73 l0 x16_1).f1)] 73 (0, 0)) (by (with_reducible repeat (first | refine blk_drewN ?_ _ | refine blk_drew ?_ | refine blk_alloc ?_ _)); refine blk_put (cs := #[.int .i64 ((rd_T73 l0 x16_1).f0), .int .i64 0]) ?_ 1 _ rfl; (with_reducible repeat (first | refine blk_drewN ?_ _ | refine blk_drew ?_ | refine blk_alloc ?_ _)); refine blk_put (cs := #[.int .i64 0, .int .i64 0]) ?_ 0 _ rfl; (with_reducible repeat (first | refine blk_drewN ?_ _ | refine blk_drew ?_ | refine blk_alloc ?_ _)); exact BK212.out) k_ hk⟩)); (case aO => exact (by (with_reducible repeat (first | apply Kd.Q_alloc | apply Kd.Q_drewN | apply Kd.Q_drew)); exact Kd.Q_mono (Kd.Q_far (p := ⟨gb212, 1, none⟩) (Kd.Q_far (p := ⟨gb212, 0, none⟩) (Kd.Q_mono HO_5.out (fun k_ hk => (⟨hk, hk.2⟩ : _ ∧ k_ ≠ gb212))) (fun _ hk => hk.2) (.int .i64 ((rd_T73 l0 x16_1).f0))) (fun _ hk => hk.2) (.int .i64 ((rd_T73 l0 x16_1).f1))) (fun _ hk => ⟨hk.1.1, hk.1.2⟩))); (case aS => exact (below_size (by repeat (first | (with_reducible first | exact HB.out | apply below_alloc | apply pw_below_drewN | apply below_drew1 | refine below_set ?_ GE210.out | refine below_set ?_ GE212.out) | exact HB.out)))); (case aL => have := LMc19.out; omega); intro v217 w24 ho hb hg hat; rw [← Ny216.out] at ho; have n0_ := Aside0.mk (blk_grown (g := gb210) (o := .cells #[.int .i64 x211000_1, .int .i64 x211001_1] 73 (0, 0)) (by (with_reducible repeat (first | refine blk_drewN ?_ _ | refine blk_drew ?_ | refine blk_alloc ?_ _)); refine blk_far ?_ NB210_212.out _; (with_reducible repeat (first | refine blk_drewN ?_ _ | refine blk_drew ?_ | refine blk_alloc ?_ _)); refine blk_far ?_ NB210_212.out _; (with_reducible repeat (first | refine blk_drewN ?_ _ | refine blk_drew ?_ | refine blk_alloc ?_ _)); exact BK210.out) hg (Kd.Q_away HO_5.out (fun _ hk => hk.1))); have n1_ := Aside0.mk (blk_grown (g := gb212) (o := .cells #[.int .i64 ((rd_T73 l0 x16_1).f0), .int .i64 ((rd_T73 l0 x16_1).f1)] 73 (0, 0)) (by (with_reducible repeat (first | refine blk_drewN ?_ _ | refine blk_drew ?_ | refine blk_alloc ?_ _)); refine blk_put (cs := #[.int .i64 ((rd_T73 l0 x16_1).f0), .int .i64 0]) ?_ 1 _ rfl; (with_reducible repeat (first | refine blk_drewN ?_ _ | refine blk_drew ?_ | refine blk_alloc ?_ _)); refine blk_put (cs := #[.int .i64 0, .int .i64 0]) ?_ 0 _ rfl; (with_reducible repeat (first | refine blk_drewN ?_ _ | refine blk_drew ?_ | refine blk_alloc ?_ _)); exact BK212.out) hg (Kd.Q_away HO_5.out (fun _ hk => hk.2))); have n2_ := Aside0.mk (hb); have n3_ := Aside0.mk (ho); clear BK210; clear BK212; clear HB; clear HO_5; have BK210 := n0_; have BK212 := n1_; have HB := n2_; have HO218 := n3_; clear n0_ n1_ n2_ n3_; clear ho hb hg hat))
                    go_roundg k1
                    case measure => have := HK1.out; omega
                    case rel => exact ⟨(y216), (true), (wrap64 (x16_1 + 1)), (x211000_1), (x211001_1), (by first | rfl | (simp; done) | (simp [*]; done)), (by first | rfl | (simp; done) | (simp [*]; done)), H', ⟨by have := HK1.out; omega⟩, ⟨by (with_reducible repeat (first | apply Kd.Q_alloc | apply Kd.Q_drewN | apply Kd.Q_drew)); exact Kd.Q_mono HO218.out (fun _ hk => hk.1)⟩, ⟨by (with_reducible repeat (first | refine blk_drewN ?_ _ | refine blk_drew ?_ | refine blk_alloc ?_ _)); exact BK210.out⟩, ⟨by repeat (first | (with_reducible first | exact HB.out | apply below_alloc | apply pw_below_drewN | apply below_drew1 | refine below_set ?_ GE210.out | refine below_set ?_ GE212.out) | exact HB.out)⟩⟩
                  · rw [if_neg c19] at H
                    exact absurd H (by simp)
                · replace c18 := Bool.eq_false_iff.mpr c18
                  subst c18
                  have H1 : (if x5_1.length < 8796093022208 then ((some (x5_1 ++ [(⟨x211000_1, x211001_1⟩ : S73)] : List (S73))).bind fun y219 => (if y219.length < 8796093022208 then (impl_rangesAdd.l0 k1 (y219 ++ [(⟨(rd_T73 l0 x16_1).f0, (rd_T73 l0 x16_1).f1⟩ : S73)]) true l0 (l0.length : Int) (wrap64 (x16_1 + 1)) x211000_1 x211001_1) else (none))) else (none)) = some r := by rw [if_neg (show ¬ (false = true) by decide)] at H; exact H
                  clear H
                  have H := H1
                  clear H1
                  by_cases c25 : x5_1.length < 8796093022208
                  · rw [if_pos c25] at H
                    have LMc25 := Aside0.mk c25
                    clear c25
                    obtain ⟨y219, hy219⟩ : ∃ y_ : List (S73), y_ = (x5_1 ++ [(⟨x211000_1, x211001_1⟩ : S73)]) := ⟨_, rfl⟩
                    replace H : (if y219.length < 8796093022208 then (impl_rangesAdd.l0 k1 (y219 ++ [(⟨(rd_T73 l0 x16_1).f0, (rd_T73 l0 x16_1).f1⟩ : S73)]) true l0 (l0.length : Int) (wrap64 (x16_1 + 1)) x211000_1 x211001_1) else (none)) = some r := by first | (rw [hy219]; with_reducible exact H) | (have H2_ := (Option.bind_some _ _).symm.trans H; rw [hy219]; with_reducible exact H2_) | (have H2_ := (Option.bind_some _ _).symm.trans H; with_reducible exact H2_) | with_reducible exact H | (rw [hy219]; exact H) | exact H
                    have Ny219 := Aside0.mk hy219
                    clear hy219
                    by_cases c26 : y219.length < 8796093022208
                    · rw [if_pos c26] at H
                      have LMc26 := Aside0.mk c26
                      clear c26
                      obtain ⟨y222, hy222⟩ : ∃ y_ : List (S73), y_ = (y219 ++ [(⟨(rd_T73 l0 x16_1).f0, (rd_T73 l0 x16_1).f1⟩ : S73)]) := ⟨_, rfl⟩
                      replace H : (impl_rangesAdd.l0 k1 y222 true l0 (l0.length : Int) (wrap64 (x16_1 + 1)) x211000_1 x211001_1) = some r := by first | (rw [hy222]; with_reducible exact H) | (have H2_ := (Option.bind_some _ _).symm.trans H; rw [hy222]; with_reducible exact H2_) | (have H2_ := (Option.bind_some _ _).symm.trans H; with_reducible exact H2_) | with_reducible exact H | (rw [hy222]; exact H) | exact H
                      have Ny222 := Aside0.mk hy222
                      clear hy222
                      have H' := Aside0.mk H
                      clear H
                      have p211 : 0 ≤ (x16_1 : Int) := of_decide_eq_true (by first | (with_reducible assumption) | assumption)
                      have q211 : x16_1 < (l0.length : Int) := of_decide_eq_true (by first | (with_reducible assumption) | assumption)
                      obtain ⟨ad211, e211, hx211_0, hx211_1⟩ := at_T73 HR0.out x16_1 p211 q211
                      cases e211
                      replace hx211_0 := (HB.out.cell (World.block_lt_of_cell? w _ hx211_0)).trans hx211_0
                      replace hx211_1 := (HB.out.cell (World.block_lt_of_cell? w _ hx211_1)).trans hx211_1
                      replace p211 := eq_true p211
                      replace q211 := eq_true q211
                      go_wp2_with (first | ((with_reducible refine gate_dst (N := 9) rfl ?_); refine box_event ?hg (N := 9) ?hd (cs := #[.int .i64 0, .int .i64 0]) (t := 73) ?hr ?_; (case hd => rfl); (case hg => rfl); (case hr => first | (go_simp; done) | (go_simp; rfl)); intro gb212 hg w27 hbox hb; have n0_ := Aside0.mk (Kd.Q_below (Kd.Q_elderB (by (with_reducible repeat (first | apply Kd.Q_alloc | apply Kd.Q_drewN | apply Kd.Q_drew)); exact HO_5.out) gb212 (Nat.le_of_eq hg.symm)) hb); have n1_ := Aside0.mk (blk_below (g := gb210) (o := .cells #[.int .i64 x211000_1, .int .i64 x211001_1] 73 (0, 0)) (by (with_reducible repeat (first | refine blk_drewN ?_ _ | refine blk_drew ?_ | refine blk_alloc ?_ _)); exact BK210.out) hb); have n2_ := Aside0.mk (below_step (by repeat (first | (with_reducible first | exact HB.out | apply below_alloc | apply pw_below_drewN | apply below_drew1 | refine below_set ?_ GE210.out) | exact HB.out)) hb); have n3_ := Aside0.mk (hbox); have n4_ := Aside0.mk ((by rw [hg]; exact (below_size (by repeat (first | (with_reducible first | exact HB.out | apply below_alloc | apply pw_below_drewN | apply below_drew1 | refine below_set ?_ GE210.out) | exact HB.out))) : w.heap.size ≤ gb212)); have n5_ := Aside0.mk ((by rw [hg]; exact (below_size (by repeat (first | (with_reducible first | exact HB.out | apply below_alloc | apply pw_below_drewN | apply below_drew1 | refine below_set ?_ GE210.out) | exact HB.out))) : w.heap.size ≤ gb212)); have n6_ := Aside0.mk ((by rw [hg]; exact Nat.ne_of_lt (blk_lt (g := gb210) (o := .cells #[.int .i64 x211000_1, .int .i64 x211001_1] 73 (0, 0)) (by (with_reducible repeat (first | refine blk_drewN ?_ _ | refine blk_drew ?_ | refine blk_alloc ?_ _)); exact BK210.out)) : gb210 ≠ gb212)); have n7_ := Aside0.mk ((by rw [hg]; exact Nat.ne_of_gt (blk_lt (g := gb210) (o := .cells #[.int .i64 x211000_1, .int .i64 x211001_1] 73 (0, 0)) (by (with_reducible repeat (first | refine blk_drewN ?_ _ | refine blk_drew ?_ | refine blk_alloc ?_ _)); exact BK210.out)) : gb212 ≠ gb210)); clear HO_5; clear BK210; clear HB; have HO_5 := n0_; have BK210 := n1_; have HB := n2_; have BK212 := n3_; have GW212 := n4_; have GE212 := n5_; have NB210_212 := n6_; have NB212_210 := n7_; clear n0_ n1_ n2_ n3_ n4_ n5_ n6_ n7_; clear hb hbox hg; have hnb28 := NB212_210.out; have hnc28 := NB210_212.out; have hcz29_0 : w27.cell? ⟨gb212, 0, none⟩ = some (.int .i64 0) := (blk_cell BK212.out 0).trans rfl; have hcz29_1 : w27.cell? ⟨gb212, 1, none⟩ = some (.int .i64 0) := (blk_cell BK212.out 1).trans rfl; have hfz29_0 := blk_frozen BK212.out 0; have hfz29_1 := blk_frozen BK212.out 1; have hcz30_0 : w27.cell? ⟨gb210, 0, none⟩ = some (.int .i64 x211000_1) := (blk_cell BK210.out 0).trans rfl; have hcz30_1 : w27.cell? ⟨gb210, 1, none⟩ = some (.int .i64 x211001_1) := (blk_cell BK210.out 1).trans rfl; have hfz30_0 := blk_frozen BK210.out 0; have hfz30_1 := blk_frozen BK210.out 1) | ((with_reducible refine gate_builtin (b := .append) (xs := #[.tmp 51, .tmp 53]) rfl ?_); at_builtin; refine Kd.Q_append k73 (w0 := w) w.heap.size rfl (.tmp 51) (.tmp 53) 38 73 (.agg #[(.int .i64 0), (.int .i64 0)]) 16 rfl Try.underlying38 info73 rfl (by decide) (by omega) u5 x5_1 (⟨x211000_1, x211001_1⟩ : S73) [.int .i64 x211000_1, .int .i64 x211001_1] (fun k_ => k_ ≠ gb210 ∧ k_ ≠ gb212) (fun _ => False) rfl (by first | (go_simp; done) | (go_simp; rfl)) ?aP (fun _ hk => hk.elim) ?aF ?aO ?aB ?aS ?aL ?_; (case aP => exact k73_mkM _ _ _ (⟨x211000_1, x211001_1⟩ : S73)); (case aB => exact (by repeat (first | (with_reducible first | exact HB.out | apply below_alloc | apply pw_below_drewN | apply below_drew1 | refine below_set ?_ GE210.out | refine below_set ?_ GE212.out) | exact HB.out))); (case aF => exact (fun k_ hk => ⟨Kd.freshB (g := gb210) (o := .cells #[.int .i64 x211000_1, .int .i64 x211001_1] 73 (0, 0)) (by (with_reducible repeat (first | refine blk_drewN ?_ _ | refine blk_drew ?_ | refine blk_alloc ?_ _)); refine blk_far ?_ NB210_212.out _; (with_reducible repeat (first | refine blk_drewN ?_ _ | refine blk_drew ?_ | refine blk_alloc ?_ _)); refine blk_far ?_ NB210_212.out _; (with_reducible repeat (first | refine blk_drewN ?_ _ | refine blk_drew ?_ | refine blk_alloc ?_ _)); exact BK210.out) k_ hk, Kd.freshB (g := gb212) (o := .cells #[.int .i64 ((rd_T73 l0 x16_1).f0), .int .i64 ((rd_T73 l0 x16_1).f1)] 73 (0, 0)) (by (with_reducible repeat (first | refine blk_drewN ?_ _ | refine blk_drew ?_ | refine blk_alloc ?_ _)); refine blk_put (cs := #[.int .i64 ((rd_T73 l0 x16_1).f0), .int .i64 0]) ?_ 1 _ rfl; (with_reducible repeat (first | refine blk_drewN ?_ _ | refine blk_drew ?_ | refine blk_alloc ?_ _)); refine blk_put (cs := #[.int .i64 0, .int .i64 0]) ?_ 0 _ rfl; (with_reducible repeat (first | refine blk_drewN ?_ _ | refine blk_drew ?_ | refine blk_alloc ?_ _)); exact BK212.out) k_ hk⟩)); (case aO => exact (by (with_reducible repeat (first | apply Kd.Q_alloc | apply Kd.Q_drewN | apply Kd.Q_drew)); exact Kd.Q_mono (Kd.Q_far (p := ⟨gb212, 1, none⟩) (Kd.Q_far (p := ⟨gb212, 0, none⟩) (Kd.Q_mono HO_5.out (fun k_ hk => (⟨hk, hk.2⟩ : _ ∧ k_ ≠ gb212))) (fun _ hk => hk.2) (.int .i64 ((rd_T73 l0 x16_1).f0))) (fun _ hk => hk.2) (.int .i64 ((rd_T73 l0 x16_1).f1))) (fun _ hk => ⟨hk.1.1, hk.1.2⟩))); (case aS => exact (below_size (by repeat (first | (with_reducible first | exact HB.out | apply below_alloc | apply pw_below_drewN | apply below_drew1 | refine below_set ?_ GE210.out | refine below_set ?_ GE212.out) | exact HB.out)))); (case aL => have := LMc25.out; omega); intro v220 w31 ho hb hg hat; rw [← Ny219.out] at ho; have n0_ := Aside0.mk (blk_grown (g := gb210) (o := .cells #[.int .i64 x211000_1, .int .i64 x211001_1] 73 (0, 0)) (by (with_reducible repeat (first | refine blk_drewN ?_ _ | refine blk_drew ?_ | refine blk_alloc ?_ _)); refine blk_far ?_ NB210_212.out _; (with_reducible repeat (first | refine blk_drewN ?_ _ | refine blk_drew ?_ | refine blk_alloc ?_ _)); refine blk_far ?_ NB210_212.out _; (with_reducible repeat (first | refine blk_drewN ?_ _ | refine blk_drew ?_ | refine blk_alloc ?_ _)); exact BK210.out) hg (Kd.Q_away HO_5.out (fun _ hk => hk.1))); have n1_ := Aside0.mk (blk_grown (g := gb212) (o := .cells #[.int .i64 ((rd_T73 l0 x16_1).f0), .int .i64 ((rd_T73 l0 x16_1).f1)] 73 (0, 0)) (by (with_reducible repeat (first | refine blk_drewN ?_ _ | refine blk_drew ?_ | refine blk_alloc ?_ _)); refine blk_put (cs := #[.int .i64 ((rd_T73 l0 x16_1).f0), .int .i64 0]) ?_ 1 _ rfl; (with_reducible repeat (first | refine blk_drewN ?_ _ | refine blk_drew ?_ | refine blk_alloc ?_ _)); refine blk_put (cs := #[.int .i64 0, .int .i64 0]) ?_ 0 _ rfl; (with_reducible repeat (first | refine blk_drewN ?_ _ | refine blk_drew ?_ | refine blk_alloc ?_ _)); exact BK212.out) hg (Kd.Q_away HO_5.out (fun _ hk => hk.2))); have n2_ := Aside0.mk (hb); have n3_ := Aside0.mk (ho); clear BK210; clear BK212; clear HB; clear HO_5; have BK210 := n0_; have BK212 := n1_; have HB := n2_; have HO221 := n3_; clear n0_ n1_ n2_ n3_; clear ho hb hg hat; have hcz32_0 : w31.cell? ⟨gb212, 0, none⟩ = some (.int .i64 ((rd_T73 l0 x16_1).f0)) := (blk_cell BK212.out 0).trans rfl; have hcz32_1 : w31.cell? ⟨gb212, 1, none⟩ = some (.int .i64 ((rd_T73 l0 x16_1).f1)) := (blk_cell BK212.out 1).trans rfl; have hfz32_0 := blk_frozen BK212.out 0; have hfz32_1 := blk_frozen BK212.out 1) | ((with_reducible refine gate_builtin (b := .append) (xs := #[.tmp 55, .tmp 57]) rfl ?_); at_builtin; refine Kd.Q_append k73 (w0 := w) w.heap.size rfl (.tmp 55) (.tmp 57) 38 73 (.agg #[(.int .i64 0), (.int .i64 0)]) 16 rfl Try.underlying38 info73 rfl (by decide) (by omega) v220 y219 (⟨(rd_T73 l0 x16_1).f0, (rd_T73 l0 x16_1).f1⟩ : S73) [.int .i64 ((rd_T73 l0 x16_1).f0), .int .i64 ((rd_T73 l0 x16_1).f1)] (fun k_ => k_ ≠ gb210 ∧ k_ ≠ gb212) (fun _ => False) rfl rfl ?aP (fun _ hk => hk.elim) ?aF ?aO ?aB ?aS ?aL ?_; (case aP => exact k73_mkM _ _ _ (⟨(rd_T73 l0 x16_1).f0, (rd_T73 l0 x16_1).f1⟩ : S73)); (case aB => exact (by repeat (first | (with_reducible first | exact HB.out | apply below_alloc | apply pw_below_drewN | apply below_drew1 | refine below_set ?_ GE210.out | refine below_set ?_ GE212.out) | exact HB.out))); (case aF => exact (fun k_ hk => ⟨Kd.freshB (g := gb210) (o := .cells #[.int .i64 x211000_1, .int .i64 x211001_1] 73 (0, 0)) (by (with_reducible repeat (first | refine blk_drewN ?_ _ | refine blk_drew ?_ | refine blk_alloc ?_ _)); exact BK210.out) k_ hk, Kd.freshB (g := gb212) (o := .cells #[.int .i64 ((rd_T73 l0 x16_1).f0), .int .i64 ((rd_T73 l0 x16_1).f1)] 73 (0, 0)) (by (with_reducible repeat (first | refine blk_drewN ?_ _ | refine blk_drew ?_ | refine blk_alloc ?_ _)); exact BK212.out) k_ hk⟩)); (case aO => exact (by (with_reducible repeat (first | apply Kd.Q_alloc | apply Kd.Q_drewN | apply Kd.Q_drew)); exact HO221.out)); (case aS => exact (below_size (by repeat (first | (with_reducible first | exact HB.out | apply below_alloc | apply pw_below_drewN | apply below_drew1 | refine below_set ?_ GE210.out | refine below_set ?_ GE212.out) | exact HB.out)))); (case aL => have := LMc26.out; omega); intro v223 w33 ho hb hg hat; rw [← Ny222.out] at ho; have n0_ := Aside0.mk (blk_grown (g := gb210) (o := .cells #[.int .i64 x211000_1, .int .i64 x211001_1] 73 (0, 0)) (by (with_reducible repeat (first | refine blk_drewN ?_ _ | refine blk_drew ?_ | refine blk_alloc ?_ _)); exact BK210.out) hg (Kd.Q_away HO221.out (fun _ hk => hk.1))); have n1_ := Aside0.mk (blk_grown (g := gb212) (o := .cells #[.int .i64 ((rd_T73 l0 x16_1).f0), .int .i64 ((rd_T73 l0 x16_1).f1)] 73 (0, 0)) (by (with_reducible repeat (first | refine blk_drewN ?_ _ | refine blk_drew ?_ | refine blk_alloc ?_ _)); exact BK212.out) hg (Kd.Q_away HO221.out (fun _ hk => hk.2))); have n2_ := Aside0.mk (hb); have n3_ := Aside0.mk (ho); clear BK210; clear BK212; clear HB; clear HO221; have BK210 := n0_; have BK212 := n1_; have HB := n2_; have HO224 := n3_; clear n0_ n1_ n2_ n3_; clear ho hb hg hat))
                      go_roundg k1
                      case measure => have := HK1.out; omega
                      case rel => exact ⟨(y222), (true), (wrap64 (x16_1 + 1)), (x211000_1), (x211001_1), (by first | rfl | (simp; done) | (simp [*]; done)), (by first | rfl | (simp; done) | (simp [*]; done)), H', ⟨by have := HK1.out; omega⟩, ⟨by (with_reducible repeat (first | apply Kd.Q_alloc | apply Kd.Q_drewN | apply Kd.Q_drew)); exact Kd.Q_mono HO224.out (fun _ hk => hk.1)⟩, ⟨by (with_reducible repeat (first | refine blk_drewN ?_ _ | refine blk_drew ?_ | refine blk_alloc ?_ _)); exact BK210.out⟩, ⟨by repeat (first | (with_reducible first | exact HB.out | apply below_alloc | apply pw_below_drewN | apply below_drew1 | refine below_set ?_ GE210.out | refine below_set ?_ GE212.out) | exact HB.out)⟩⟩
                    · rw [if_neg c26] at H
                      exact absurd H (by simp)
                  · rw [if_neg c25] at H
                    exact absurd H (by simp)
              · rw [if_neg c17] at H
                have c17b0 : decide ((wrap64 (x211001_1 + 1)) < ((rd_T73 l0 x16_1).f0)) = false := decide_eq_false c17
                clear c17
                obtain ⟨ji34, hji34⟩ : ∃ j_ : Int, (mn x211000_1 ((rd_T73 l0 x16_1).f0)) = j_ := ⟨_, rfl⟩
                replace H : (impl_rangesAdd.l0 k1 x5_1 x7_1 l0 (l0.length : Int) (wrap64 (x16_1 + 1)) ji34 (mx x211001_1 ((rd_T73 l0 x16_1).f1))) = some r := by first | (rw [hji34] at H; exact H) | (simp only [hji34] at H ⊢; exact H)
                have hji34_ : (if ((rd_T73 l0 x16_1).f0) < x211000_1 then ((rd_T73 l0 x16_1).f0) else x211000_1) = ji34 := hji34
                obtain ⟨ji35, hji35⟩ : ∃ j_ : Int, (mx x211001_1 ((rd_T73 l0 x16_1).f1)) = j_ := ⟨_, rfl⟩
                replace H : (impl_rangesAdd.l0 k1 x5_1 x7_1 l0 (l0.length : Int) (wrap64 (x16_1 + 1)) ji34 ji35) = some r := by first | (rw [hji35] at H; exact H) | (simp only [hji35] at H ⊢; exact H)
                have hji35_ : (if x211001_1 < ((rd_T73 l0 x16_1).f1) then ((rd_T73 l0 x16_1).f1) else x211001_1) = ji35 := hji35
                have H' := Aside0.mk H
                clear H
                have p211 : 0 ≤ (x16_1 : Int) := of_decide_eq_true (by first | (with_reducible assumption) | assumption)
                have q211 : x16_1 < (l0.length : Int) := of_decide_eq_true (by first | (with_reducible assumption) | assumption)
                obtain ⟨ad211, e211, hx211_0, hx211_1⟩ := at_T73 HR0.out x16_1 p211 q211
                cases e211
                replace hx211_0 := (HB.out.cell (World.block_lt_of_cell? w _ hx211_0)).trans hx211_0
                replace hx211_1 := (HB.out.cell (World.block_lt_of_cell? w _ hx211_1)).trans hx211_1
                replace p211 := eq_true p211
                replace q211 := eq_true q211
                go_wp2_with (first | ((with_reducible refine gate_dst (N := 9) rfl ?_); refine box_event ?hg (N := 9) ?hd (cs := #[.int .i64 0, .int .i64 0]) (t := 73) ?hr ?_; (case hd => rfl); (case hg => rfl); (case hr => first | (go_simp; done) | (go_simp; rfl)); intro gb212 hg w36 hbox hb; have n0_ := Aside0.mk (Kd.Q_below (Kd.Q_elderB (by (with_reducible repeat (first | apply Kd.Q_alloc | apply Kd.Q_drewN | apply Kd.Q_drew)); exact HO_5.out) gb212 (Nat.le_of_eq hg.symm)) hb); have n1_ := Aside0.mk (blk_below (g := gb210) (o := .cells #[.int .i64 x211000_1, .int .i64 x211001_1] 73 (0, 0)) (by (with_reducible repeat (first | refine blk_drewN ?_ _ | refine blk_drew ?_ | refine blk_alloc ?_ _)); exact BK210.out) hb); have n2_ := Aside0.mk (below_step (by repeat (first | (with_reducible first | exact HB.out | apply below_alloc | apply pw_below_drewN | apply below_drew1 | refine below_set ?_ GE210.out) | exact HB.out)) hb); have n3_ := Aside0.mk (hbox); have n4_ := Aside0.mk ((by rw [hg]; exact (below_size (by repeat (first | (with_reducible first | exact HB.out | apply below_alloc | apply pw_below_drewN | apply below_drew1 | refine below_set ?_ GE210.out) | exact HB.out))) : w.heap.size ≤ gb212)); have n5_ := Aside0.mk ((by rw [hg]; exact (below_size (by repeat (first | (with_reducible first | exact HB.out | apply below_alloc | apply pw_below_drewN | apply below_drew1 | refine below_set ?_ GE210.out) | exact HB.out))) : w.heap.size ≤ gb212)); have n6_ := Aside0.mk ((by rw [hg]; exact Nat.ne_of_lt (blk_lt (g := gb210) (o := .cells #[.int .i64 x211000_1, .int .i64 x211001_1] 73 (0, 0)) (by (with_reducible repeat (first | refine blk_drewN ?_ _ | refine blk_drew ?_ | refine blk_alloc ?_ _)); exact BK210.out)) : gb210 ≠ gb212)); have n7_ := Aside0.mk ((by rw [hg]; exact Nat.ne_of_gt (blk_lt (g := gb210) (o := .cells #[.int .i64 x211000_1, .int .i64 x211001_1] 73 (0, 0)) (by (with_reducible repeat (first | refine blk_drewN ?_ _ | refine blk_drew ?_ | refine blk_alloc ?_ _)); exact BK210.out)) : gb212 ≠ gb210)); clear HO_5; clear BK210; clear HB; have HO_5 := n0_; have BK210 := n1_; have HB := n2_; have BK212 := n3_; have GW212 := n4_; have GE212 := n5_; have NB210_212 := n6_; have NB212_210 := n7_; clear n0_ n1_ n2_ n3_ n4_ n5_ n6_ n7_; clear hb hbox hg; have hnb37 := NB212_210.out; have hnc37 := NB210_212.out; have hcz38_0 : w36.cell? ⟨gb212, 0, none⟩ = some (.int .i64 0) := (blk_cell BK212.out 0).trans rfl; have hcz38_1 : w36.cell? ⟨gb212, 1, none⟩ = some (.int .i64 0) := (blk_cell BK212.out 1).trans rfl; have hfz38_0 := blk_frozen BK212.out 0; have hfz38_1 := blk_frozen BK212.out 1; have hcz39_0 : w36.cell? ⟨gb210, 0, none⟩ = some (.int .i64 x211000_1) := (blk_cell BK210.out 0).trans rfl; have hcz39_1 : w36.cell? ⟨gb210, 1, none⟩ = some (.int .i64 x211001_1) := (blk_cell BK210.out 1).trans rfl; have hfz39_0 := blk_frozen BK210.out 0; have hfz39_1 := blk_frozen BK210.out 1))
                go_roundg k1
                case measure => have := HK1.out; omega
                case rel => exact ⟨(x5_1), (x7_1), (wrap64 (x16_1 + 1)), (ji34), (ji35), (by first | rfl | (simp; done) | (simp [*]; done)), (by first | rfl | (simp; done) | (simp [*]; done)), H', ⟨by have := HK1.out; omega⟩, ⟨by (with_reducible repeat (first | apply Kd.Q_alloc | apply Kd.Q_drewN | apply Kd.Q_drew)); exact Kd.Q_mono (Kd.Q_far (p := ⟨gb210, 1, none⟩) (Kd.Q_far (p := ⟨gb210, 0, none⟩) (Kd.Q_far (p := ⟨gb212, 1, none⟩) (Kd.Q_far (p := ⟨gb212, 0, none⟩) (Kd.Q_mono (Kd.Q_mono HO_5.out (fun k_ hk => (⟨hk, hk.2⟩ : _ ∧ k_ ≠ gb212))) (fun k_ hk => (⟨hk, hk.1.1⟩ : _ ∧ k_ ≠ gb210))) (fun _ hk => hk.1.2) (.int .i64 ((rd_T73 l0 x16_1).f0))) (fun _ hk => hk.1.2) (.int .i64 ((rd_T73 l0 x16_1).f1))) (fun _ hk => hk.2) (.int .i64 ji34)) (fun _ hk => hk.2) (.int .i64 ji35)) (fun _ hk => hk.1.1.1)⟩, ⟨by (with_reducible repeat (first | refine blk_drewN ?_ _ | refine blk_drew ?_ | refine blk_alloc ?_ _)); refine blk_put (cs := #[.int .i64 ji34, .int .i64 x211001_1]) ?_ 1 _ rfl; (with_reducible repeat (first | refine blk_drewN ?_ _ | refine blk_drew ?_ | refine blk_alloc ?_ _)); refine blk_put (cs := #[.int .i64 x211000_1, .int .i64 x211001_1]) ?_ 0 _ rfl; (with_reducible repeat (first | refine blk_drewN ?_ _ | refine blk_drew ?_ | refine blk_alloc ?_ _)); refine blk_far ?_ NB210_212.out _; (with_reducible repeat (first | refine blk_drewN ?_ _ | refine blk_drew ?_ | refine blk_alloc ?_ _)); refine blk_far ?_ NB210_212.out _; (with_reducible repeat (first | refine blk_drewN ?_ _ | refine blk_drew ?_ | refine blk_alloc ?_ _)); exact BK210.out⟩, ⟨by repeat (first | (with_reducible first | exact HB.out | apply below_alloc | apply pw_below_drewN | apply below_drew1 | refine below_set ?_ GE210.out | refine below_set ?_ GE212.out) | exact HB.out)⟩⟩
          · rw [if_neg c9] at H
            exact absurd H (by simp)
        · rw [if_neg c8] at H
          exact absurd H (by simp)
      · rw [if_neg c7] at H
        have c7b0 : decide (x16_1 < (l0.length : Int)) = false := decide_eq_false c7
        clear c7
        by_cases c40 : x7_1 = true
        · subst c40
          have H1 : (if (x5_1.length : Int) > 64 then (if 1 ≤ (x5_1.length : Int) then (some (x5_1.drop (1 : Int).toNat)) else (none)) else (some x5_1)) = some r := by rw [if_pos rfl] at H; exact H
          clear H
          have H := H1
          clear H1
          by_cases c41 : (x5_1.length : Int) > 64
          · rw [if_pos c41] at H
            have c41b0 : decide (64 < (x5_1.length : Int)) = true := decide_eq_true c41
            have c41b1 : decide (64 < x5_1.length) = true := decide_eq_true (by omega)
            clear c41
            by_cases c42 : 1 ≤ (x5_1.length : Int)
            · rw [if_pos c42] at H
              have c42b0 := eq_true c42
              have c42b1 : decide (1 ≤ (x5_1.length : Int)) = true := decide_eq_true c42
              clear c42
              obtain ⟨y225, hy225⟩ : ∃ y_ : List (S73), y_ = (x5_1.drop (1 : Int).toNat) := ⟨_, rfl⟩
              replace H : (some y225) = some r := by first | (rw [hy225]; with_reducible exact H) | (have H2_ := (Option.bind_some _ _).symm.trans H; rw [hy225]; with_reducible exact H2_) | (have H2_ := (Option.bind_some _ _).symm.trans H; with_reducible exact H2_) | with_reducible exact H | (rw [hy225]; exact H) | exact H
              have Ny225 := Aside0.mk hy225
              clear hy225
              obtain rfl := Option.some.inj H
              obtain ⟨Ao43, co43, eo43, _⟩ := Kd.Q_slice HO_5.out
              subst eo43
              have q44 : (1 : Int) ≤ ((x5_1.length : Int) : Int) := of_decide_eq_true (by first | (with_reducible assumption) | assumption)
              obtain ⟨i044, hi044, _, hsz44, _⟩ := info_parts info73
              have hcut44 := cut_from (P := Try.prog) 38 73 .i64 Try.underlying38 hi044 2 hsz44 Ao43 x5_1.length co43 1 (by omega) q44
              have hr44 := Kd.Q_drop (k := (1 : Int).toNat) HO_5.out (by omega)
              obtain ⟨A44, hA44⟩ : ∃ A1, A1 = (if co43 = (1 : Int).toNat then Ao43 else (Ao43 : Option Addr).map (·.add ((1 : Int).toNat * 2))) := ⟨_, rfl⟩
              obtain ⟨c44, hc44⟩ : ∃ c1, c1 = co43 - (1 : Int).toNat := ⟨_, rfl⟩
              have hy44 : y225.length = x5_1.length - (1 : Int).toNat := (by rw [Ny225.out, List.length_drop])
              rw [← Ny225.out] at hr44
              rw [← hy44, ← hA44, ← hc44] at hcut44
              replace hr44 : Kd.Q k73 73 wr w.heap.size (fun k_ => k_ ≠ gb210) (.slice A44 y225.length c44) y225 := (by rw [hA44, hc44, hy44]; exact hr44)
              have HE44 : Aside0 ((Value.slice A44 y225.length c44).ownBlock = (.slice Ao43 x5_1.length co43 : Value).ownBlock) := ⟨by rw [hA44]; split <;> (cases (Ao43 : Option Addr) <;> rfl)⟩
              clear hy44 hi044 hsz44 HO_5 hA44 hc44
              have HO227 := Aside0.mk hr44
              clear hr44
              replace q44 := eq_true q44
              go_wp2
              go_ret
              exact ⟨_, by first | rfl | (simp [errW_none, errW_some] <;> rfl) | (simp [*, errW_none, errW_some] <;> rfl), by (with_reducible repeat (first | apply Kd.Q_alloc | apply Kd.Q_drewN | apply Kd.Q_drew)); exact Kd.Q_mono HO227.out (fun _ hk => trivial), by repeat (first | (with_reducible first | exact HB.out | apply below_alloc | apply pw_below_drewN | apply below_drew1 | refine below_set ?_ GE210.out) | exact HB.out)⟩
            · rw [if_neg c42] at H
              exact absurd H (by simp)
          · rw [if_neg c41] at H
            have c41b0 : decide (64 < (x5_1.length : Int)) = false := decide_eq_false c41
            have c41b1 : decide (64 < x5_1.length) = false := decide_eq_false (by omega)
            clear c41
            obtain rfl := Option.some.inj H
            obtain ⟨Ao45, co45, eo45, _⟩ := Kd.Q_slice HO_5.out
            subst eo45
            go_wp2
            go_ret
            exact ⟨_, by first | rfl | (simp [errW_none, errW_some] <;> rfl) | (simp [*, errW_none, errW_some] <;> rfl), by (with_reducible repeat (first | apply Kd.Q_alloc | apply Kd.Q_drewN | apply Kd.Q_drew)); exact Kd.Q_mono HO_5.out (fun _ hk => trivial), by repeat (first | (with_reducible first | exact HB.out | apply below_alloc | apply pw_below_drewN | apply below_drew1 | refine below_set ?_ GE210.out) | exact HB.out)⟩
        · replace c40 := Bool.eq_false_iff.mpr c40
          subst c40
          have H1 : (if x5_1.length < 8796093022208 then ((some (x5_1 ++ [(⟨x211000_1, x211001_1⟩ : S73)] : List (S73))).bind fun y228 => (if (y228.length : Int) > 64 then (if 1 ≤ (y228.length : Int) then (some (y228.drop (1 : Int).toNat)) else (none)) else (some y228))) else (none)) = some r := by rw [if_neg (show ¬ (false = true) by decide)] at H; exact H
          clear H
          have H := H1
          clear H1
          by_cases c46 : x5_1.length < 8796093022208
          · rw [if_pos c46] at H
            have LMc46 := Aside0.mk c46
            clear c46
            obtain ⟨y228, hy228⟩ : ∃ y_ : List (S73), y_ = (x5_1 ++ [(⟨x211000_1, x211001_1⟩ : S73)]) := ⟨_, rfl⟩
            replace H : (if (y228.length : Int) > 64 then (if 1 ≤ (y228.length : Int) then (some (y228.drop (1 : Int).toNat)) else (none)) else (some y228)) = some r := by first | (rw [hy228]; with_reducible exact H) | (have H2_ := (Option.bind_some _ _).symm.trans H; rw [hy228]; with_reducible exact H2_) | (have H2_ := (Option.bind_some _ _).symm.trans H; with_reducible exact H2_) | with_reducible exact H | (rw [hy228]; exact H) | exact H
            have Ny228 := Aside0.mk hy228
            clear hy228
            by_cases c47 : (y228.length : Int) > 64
            · rw [if_pos c47] at H
              have c47b0 : decide (64 < (y228.length : Int)) = true := decide_eq_true c47
              have c47b1 : decide (64 < y228.length) = true := decide_eq_true (by omega)
              clear c47
              by_cases c48 : 1 ≤ (y228.length : Int)
              · rw [if_pos c48] at H
                have c48b0 := eq_true c48
                have c48b1 : decide (1 ≤ (y228.length : Int)) = true := decide_eq_true c48
                clear c48
                obtain ⟨y231, hy231⟩ : ∃ y_ : List (S73), y_ = (y228.drop (1 : Int).toNat) := ⟨_, rfl⟩
                replace H : (some y231) = some r := by first | (rw [hy231]; with_reducible exact H) | (have H2_ := (Option.bind_some _ _).symm.trans H; rw [hy231]; with_reducible exact H2_) | (have H2_ := (Option.bind_some _ _).symm.trans H; with_reducible exact H2_) | with_reducible exact H | (rw [hy231]; exact H) | exact H
                have Ny231 := Aside0.mk hy231
                clear hy231
                obtain rfl := Option.some.inj H
                have hcz49_0 : wr.cell? ⟨gb210, 0, none⟩ = some (.int .i64 x211000_1) := (blk_cell BK210.out 0).trans rfl
                have hcz49_1 : wr.cell? ⟨gb210, 1, none⟩ = some (.int .i64 x211001_1) := (blk_cell BK210.out 1).trans rfl
                have hfz49_0 := blk_frozen BK210.out 0
                have hfz49_1 := blk_frozen BK210.out 1
                go_wp2_with (first | ((with_reducible refine gate_builtin (b := .append) (xs := #[.tmp 62, .tmp 64]) rfl ?_); at_builtin; refine Kd.Q_append k73 (w0 := w) w.heap.size rfl (.tmp 62) (.tmp 64) 38 73 (.agg #[(.int .i64 0), (.int .i64 0)]) 16 rfl Try.underlying38 info73 rfl (by decide) (by omega) u5 x5_1 (⟨x211000_1, x211001_1⟩ : S73) [.int .i64 x211000_1, .int .i64 x211001_1] (fun k_ => k_ ≠ gb210) (fun _ => False) rfl rfl ?aP (fun _ hk => hk.elim) ?aF ?aO ?aB ?aS ?aL ?_; (case aP => exact k73_mkM _ _ _ (⟨x211000_1, x211001_1⟩ : S73)); (case aB => exact (by repeat (first | (with_reducible first | exact HB.out | apply below_alloc | apply pw_below_drewN | apply below_drew1 | refine below_set ?_ GE210.out) | exact HB.out))); (case aF => exact (fun k_ hk => Kd.freshB (g := gb210) (o := .cells #[.int .i64 x211000_1, .int .i64 x211001_1] 73 (0, 0)) (by (with_reducible repeat (first | refine blk_drewN ?_ _ | refine blk_drew ?_ | refine blk_alloc ?_ _)); exact BK210.out) k_ hk)); (case aO => exact (by (with_reducible repeat (first | apply Kd.Q_alloc | apply Kd.Q_drewN | apply Kd.Q_drew)); exact HO_5.out)); (case aS => exact (below_size (by repeat (first | (with_reducible first | exact HB.out | apply below_alloc | apply pw_below_drewN | apply below_drew1 | refine below_set ?_ GE210.out) | exact HB.out)))); (case aL => have := LMc46.out; omega); intro v229 w50 ho hb hg hat; rw [← Ny228.out] at ho; have n0_ := Aside0.mk (blk_grown (g := gb210) (o := .cells #[.int .i64 x211000_1, .int .i64 x211001_1] 73 (0, 0)) (by (with_reducible repeat (first | refine blk_drewN ?_ _ | refine blk_drew ?_ | refine blk_alloc ?_ _)); exact BK210.out) hg (Kd.Q_away HO_5.out (fun _ hk => hk))); have n1_ := Aside0.mk (hb); have n2_ := Aside0.mk (ho); clear BK210; clear HB; clear HO_5; have BK210 := n0_; have HB := n1_; have HO230 := n2_; clear n0_ n1_ n2_; clear ho hb hg hat; obtain ⟨Ao51, co51, eo51, _⟩ := Kd.Q_slice HO230.out; subst eo51; have q52 : (1 : Int) ≤ ((y228.length : Int) : Int) := of_decide_eq_true (by first | (with_reducible assumption) | assumption); obtain ⟨i052, hi052, _, hsz52, _⟩ := info_parts info73; have hcut52 := cut_from (P := Try.prog) 38 73 .i64 Try.underlying38 hi052 2 hsz52 Ao51 y228.length co51 1 (by omega) q52; have hr52 := Kd.Q_drop (k := (1 : Int).toNat) HO230.out (by omega); obtain ⟨A52, hA52⟩ : ∃ A1, A1 = (if co51 = (1 : Int).toNat then Ao51 else (Ao51 : Option Addr).map (·.add ((1 : Int).toNat * 2))) := ⟨_, rfl⟩; obtain ⟨c52, hc52⟩ : ∃ c1, c1 = co51 - (1 : Int).toNat := ⟨_, rfl⟩; have hy52 : y231.length = y228.length - (1 : Int).toNat := (by rw [Ny231.out, List.length_drop]); rw [← Ny231.out] at hr52; rw [← hy52, ← hA52, ← hc52] at hcut52; replace hr52 : Kd.Q k73 73 w50 w.heap.size (fun k_ => k_ ≠ gb210) (.slice A52 y231.length c52) y231 := (by rw [hA52, hc52, hy52]; exact hr52); have HE52 : Aside0 ((Value.slice A52 y231.length c52).ownBlock = (.slice Ao51 y228.length co51 : Value).ownBlock) := ⟨by rw [hA52]; split <;> (cases (Ao51 : Option Addr) <;> rfl)⟩; clear hy52 hi052 hsz52 HO230 hA52 hc52; have HO233 := Aside0.mk hr52; clear hr52; replace q52 := eq_true q52))
                go_ret
                exact ⟨_, by first | rfl | (simp [errW_none, errW_some] <;> rfl) | (simp [*, errW_none, errW_some] <;> rfl), by (with_reducible repeat (first | apply Kd.Q_alloc | apply Kd.Q_drewN | apply Kd.Q_drew)); exact Kd.Q_mono HO233.out (fun _ hk => trivial), by repeat (first | (with_reducible first | exact HB.out | apply below_alloc | apply pw_below_drewN | apply below_drew1 | refine below_set ?_ GE210.out) | exact HB.out)⟩
              · rw [if_neg c48] at H
                exact absurd H (by simp)
            · rw [if_neg c47] at H
              have c47b0 : decide (64 < (y228.length : Int)) = false := decide_eq_false c47
              have c47b1 : decide (64 < y228.length) = false := decide_eq_false (by omega)
              clear c47
              obtain rfl := Option.some.inj H
              have hcz53_0 : wr.cell? ⟨gb210, 0, none⟩ = some (.int .i64 x211000_1) := (blk_cell BK210.out 0).trans rfl
              have hcz53_1 : wr.cell? ⟨gb210, 1, none⟩ = some (.int .i64 x211001_1) := (blk_cell BK210.out 1).trans rfl
              have hfz53_0 := blk_frozen BK210.out 0
              have hfz53_1 := blk_frozen BK210.out 1
              go_wp2_with (first | ((with_reducible refine gate_builtin (b := .append) (xs := #[.tmp 62, .tmp 64]) rfl ?_); at_builtin; refine Kd.Q_append k73 (w0 := w) w.heap.size rfl (.tmp 62) (.tmp 64) 38 73 (.agg #[(.int .i64 0), (.int .i64 0)]) 16 rfl Try.underlying38 info73 rfl (by decide) (by omega) u5 x5_1 (⟨x211000_1, x211001_1⟩ : S73) [.int .i64 x211000_1, .int .i64 x211001_1] (fun k_ => k_ ≠ gb210) (fun _ => False) rfl rfl ?aP (fun _ hk => hk.elim) ?aF ?aO ?aB ?aS ?aL ?_; (case aP => exact k73_mkM _ _ _ (⟨x211000_1, x211001_1⟩ : S73)); (case aB => exact (by repeat (first | (with_reducible first | exact HB.out | apply below_alloc | apply pw_below_drewN | apply below_drew1 | refine below_set ?_ GE210.out) | exact HB.out))); (case aF => exact (fun k_ hk => Kd.freshB (g := gb210) (o := .cells #[.int .i64 x211000_1, .int .i64 x211001_1] 73 (0, 0)) (by (with_reducible repeat (first | refine blk_drewN ?_ _ | refine blk_drew ?_ | refine blk_alloc ?_ _)); exact BK210.out) k_ hk)); (case aO => exact (by (with_reducible repeat (first | apply Kd.Q_alloc | apply Kd.Q_drewN | apply Kd.Q_drew)); exact HO_5.out)); (case aS => exact (below_size (by repeat (first | (with_reducible first | exact HB.out | apply below_alloc | apply pw_below_drewN | apply below_drew1 | refine below_set ?_ GE210.out) | exact HB.out)))); (case aL => have := LMc46.out; omega); intro v229 w54 ho hb hg hat; rw [← Ny228.out] at ho; have n0_ := Aside0.mk (blk_grown (g := gb210) (o := .cells #[.int .i64 x211000_1, .int .i64 x211001_1] 73 (0, 0)) (by (with_reducible repeat (first | refine blk_drewN ?_ _ | refine blk_drew ?_ | refine blk_alloc ?_ _)); exact BK210.out) hg (Kd.Q_away HO_5.out (fun _ hk => hk))); have n1_ := Aside0.mk (hb); have n2_ := Aside0.mk (ho); clear BK210; clear HB; clear HO_5; have BK210 := n0_; have HB := n1_; have HO230 := n2_; clear n0_ n1_ n2_; clear ho hb hg hat; obtain ⟨Ao55, co55, eo55, _⟩ := Kd.Q_slice HO230.out; subst eo55))
              go_ret
              exact ⟨_, by first | rfl | (simp [errW_none, errW_some] <;> rfl) | (simp [*, errW_none, errW_some] <;> rfl), by (with_reducible repeat (first | apply Kd.Q_alloc | apply Kd.Q_drewN | apply Kd.Q_drew)); exact Kd.Q_mono HO230.out (fun _ hk => trivial), by repeat (first | (with_reducible first | exact HB.out | apply below_alloc | apply pw_below_drewN | apply below_drew1 | refine below_set ?_ GE210.out) | exact HB.out)⟩
          · rw [if_neg c46] at H
            exact absurd H (by simp)

/-! ### impl_RangesAdd: function 46 -/
def impl_RangesAdd.f (k : Nat) (l0 : List (S73)) (a1 : Int) : Option ((List (S73)) × Int) := (impl_rangesOK.f k l0).bind fun t234 => (if t234 = true then ((impl_inVar.f a1).bind fun t235 => (if t235 = true then ((some (([] : List (S73)) : List (S73))).bind fun y236 => ((impl_rangesAdd.f k l0 a1).bind fun t239 => (if y236.length + t239.length < 8796093022208 then (some ((y236 ++ t239), 0)) else (none)))) else (some (([] : List (S73)), 1)))) else (some (([] : List (S73)), 1)))
theorem impl_RangesAdd.mono : ∀ a0 a1 k, LeO (impl_RangesAdd.f k a0 a1) (impl_RangesAdd.f (k + 1) a0 a1) := by
  intro a0 a1 k
  unfold impl_RangesAdd.f
  repeat' first
      | (with_reducible exact impl_rangesAdd.mono _ _ _)
      | (with_reducible exact impl_rangesOK.mono _ _)
      | (with_reducible exact LeO.refl _)
      | (with_reducible exact LeO.none _)
      | (with_reducible refine LeO.ite ?_ ?_)
      | (with_reducible refine LeO.bind ?_ (fun _ => ?_))
      | exact impl_rangesAdd.mono _ _ _
      | exact impl_rangesOK.mono _ _
      | exact LeO.none _
      | refine LeO.ite ?_ ?_
      | refine LeO.bind ?_ (fun _ => ?_)
set_option maxHeartbeats 8000000 in
set_option maxRecDepth 100000 in
theorem impl_RangesAdd.calls (k : Nat) (A0 : Option Addr) (c0 : Nat) (l0 : List (S73)) (a1 : Int) (r1 : List (S73)) (r2 : Int) (w : World) (hr0 : Kd.C k73 w A0 l0.length l0) (hc0 : l0.length ≤ c0) (h : impl_RangesAdd.f k l0 a1 = some (r1, r2)) :
    Calls Try.prog 46 #[.slice A0 l0.length c0, .int .i64 a1] w fun e w' => ∃ v0_ : Value, e = .returned (.tuple #[v0_, .int .i64 r2]) ∧ Kd.R k73 73 w' w.heap.size (fun _ => True) v0_ r1 ∧ Below w.heap.size w w' := by
  have HR0 := Aside0.mk hr0
  have HC0 := Aside0.mk hc0
  clear hr0 hc0
  have HB := Aside0.mk (Below.refl w.heap.size w)
  have H : ((impl_rangesOK.f k l0).bind fun t234 => (if t234 = true then ((impl_inVar.f a1).bind fun t235 => (if t235 = true then ((some (([] : List (S73)) : List (S73))).bind fun y236 => ((impl_rangesAdd.f k l0 a1).bind fun t239 => (if y236.length + t239.length < 8796093022208 then (some ((y236 ++ t239), 0)) else (none)))) else (some (([] : List (S73)), 1)))) else (some (([] : List (S73)), 1)))) = some (r1, r2) := h
  clear h
  replace H := Option.bind_eq_some_iff.mp H
  obtain ⟨t234, A30, H⟩ := H
  replace H : (if t234 = true then ((impl_inVar.f a1).bind fun t235 => (if t235 = true then ((some (([] : List (S73)) : List (S73))).bind fun y236 => ((impl_rangesAdd.f k l0 a1).bind fun t239 => (if y236.length + t239.length < 8796093022208 then (some ((y236 ++ t239), 0)) else (none)))) else (some (([] : List (S73)), 1)))) else (some (([] : List (S73)), 1))) = some (r1, r2) := H
  have A3 := Aside0.mk A30
  clear A30
  by_cases c4 : t234 = true
  · subst c4
    have H1 : ((impl_inVar.f a1).bind fun t235 => (if t235 = true then ((some (([] : List (S73)) : List (S73))).bind fun y236 => ((impl_rangesAdd.f k l0 a1).bind fun t239 => (if y236.length + t239.length < 8796093022208 then (some ((y236 ++ t239), 0)) else (none)))) else (some (([] : List (S73)), 1)))) = some (r1, r2) := by rw [if_pos rfl] at H; exact H
    clear H
    have H := H1
    clear H1
    replace H := Option.bind_eq_some_iff.mp H
    obtain ⟨t235, A50, H⟩ := H
    replace H : (if t235 = true then ((some (([] : List (S73)) : List (S73))).bind fun y236 => ((impl_rangesAdd.f k l0 a1).bind fun t239 => (if y236.length + t239.length < 8796093022208 then (some ((y236 ++ t239), 0)) else (none)))) else (some (([] : List (S73)), 1))) = some (r1, r2) := H
    have A5 := Aside0.mk A50
    clear A50
    by_cases c6 : t235 = true
    · subst c6
      have H1 : ((some (([] : List (S73)) : List (S73))).bind fun y236 => ((impl_rangesAdd.f k l0 a1).bind fun t239 => (if y236.length + t239.length < 8796093022208 then (some ((y236 ++ t239), 0)) else (none)))) = some (r1, r2) := by rw [if_pos rfl] at H; exact H
      clear H
      have H := H1
      clear H1
      obtain ⟨y236, hy236⟩ : ∃ y_ : List (S73), y_ = (([] : List (S73))) := ⟨_, rfl⟩
      replace H : ((impl_rangesAdd.f k l0 a1).bind fun t239 => (if y236.length + t239.length < 8796093022208 then (some ((y236 ++ t239), 0)) else (none))) = some (r1, r2) := by first | (rw [hy236]; with_reducible exact H) | (have H2_ := (Option.bind_some _ _).symm.trans H; rw [hy236]; with_reducible exact H2_) | (have H2_ := (Option.bind_some _ _).symm.trans H; with_reducible exact H2_) | with_reducible exact H | (rw [hy236]; exact H) | exact H
      have Ny236 := Aside0.mk hy236
      clear hy236
      replace H := Option.bind_eq_some_iff.mp H
      obtain ⟨t239, A70, H⟩ := H
      replace H : (if y236.length + t239.length < 8796093022208 then (some ((y236 ++ t239), 0)) else (none)) = some (r1, r2) := H
      have A7 := Aside0.mk A70
      clear A70
      by_cases c8 : y236.length + t239.length < 8796093022208
      · rw [if_pos c8] at H
        have LMc8 := Aside0.mk c8
        clear c8
        obtain ⟨y242, hy242⟩ : ∃ y_ : List (S73), y_ = (y236 ++ t239) := ⟨_, rfl⟩
        replace H : (some (y242, 0)) = some (r1, r2) := by first | (rw [hy242]; with_reducible exact H) | (have H2_ := (Option.bind_some _ _).symm.trans H; rw [hy242]; with_reducible exact H2_) | (have H2_ := (Option.bind_some _ _).symm.trans H; with_reducible exact H2_) | with_reducible exact H | (rw [hy242]; exact H) | exact H
        have Ny242 := Aside0.mk hy242
        clear hy242
        simp only [Option.some.injEq, Prod.mk.injEq] at H
        obtain ⟨rfl, rfl⟩ := H
        go_enter Try.func46, Try.ntmps46
        go_wp2_with (first | ((with_reducible refine gate_callee (f := 67) rfl ?_); refine goesL_ (some 7) rfl rfl Try.func67 (by kernel_rfl) rfl #[.slice A0 l0.length c0] rfl (by (try simp only [List.map_toArray, List.map_cons, List.map_nil]); first | done | rfl | (simp only [List.length_drop, List.length_take]; rfl)) ?_; (with_reducible refine (impl_rangesOK.calls k _ _ l0 true _ ?side1 ?side2 A3.out).mono ?_); (case side1 => repeat (first | exact HR0.out | (with_reducible refine Kd.C_alloc ?_ _) | (with_reducible refine Kd.C_drewN ?_ _) | (with_reducible refine Kd.C_drew ?_))); (case side2 => exact HC0.out); rintro e w9 ⟨rfl, hb⟩; refine ⟨_, rfl, ?_⟩; have n0_ := Aside0.mk (below_step (by repeat (first | (with_reducible first | exact HB.out | apply below_alloc | apply pw_below_drewN | apply below_drew1) | exact HB.out)) hb); clear HB; have HB := n0_; clear n0_; (try clear hb); (try clear hb2); (try clear hk); (try clear hi)) | (go_at_call 72; (with_reducible refine (impl_inVar.calls a1 true _ A5.out).mono ?_); rintro e w' ⟨rfl, ⟨nd, rfl⟩⟩) | ((with_reducible refine gate_dst (N := 14) rfl ?_); refine Kd.R_lit k73 _ 73 ?hg (N := 14) ?hd (xs := ([] : List (S73))) (inner := []) (ok := fun _ => True) (okp := fun _ => True) ?hr ?hp (fun _ hk => hk) trivial (Below.refl _ _) (Nat.le_refl _) (by simp) ?_; (case hd => rfl); (case hg => rfl); (case hr => first | (go_simp; done) | (go_simp; rfl)); (case hp => exact (Reps.none _ _)); intro v237 w10 ho11 hb hg_ hnew_; clear hg_ hnew_; (first | rw [← Ny236.out] at ho11 | (simp only [Int.reduceToNat] at ho11; rw [← Ny236.out] at ho11)); have n0_ := Aside0.mk (Kd.R_lower ho11 (below_size (by repeat (first | (with_reducible first | exact HB.out | apply below_alloc | apply pw_below_drewN | apply below_drew1) | exact HB.out)))); have n1_ := Aside0.mk (below_step (by repeat (first | (with_reducible first | exact HB.out | apply below_alloc | apply pw_below_drewN | apply below_drew1) | exact HB.out)) hb); clear HB; have HO238 := n0_; have HB := n1_; clear n0_ n1_; clear hb ho11) | ((with_reducible refine gate_callee (f := 74) rfl ?_); refine goesL_ (some 17) rfl rfl Try.func74 (by kernel_rfl) rfl #[.slice A0 l0.length c0, .int .i64 a1] rfl (by (try simp only [List.map_toArray, List.map_cons, List.map_nil]); first | done | rfl | (simp only [List.length_drop, List.length_take]; rfl)) ?_; (with_reducible refine (impl_rangesAdd.calls k _ _ l0 a1 t239 _ ?side1 ?side2 A7.out).mono ?_); (case side1 => repeat (first | exact (Kd.C_below HR0.out HB.out) | (with_reducible refine Kd.C_alloc ?_ _) | (with_reducible refine Kd.C_drewN ?_ _) | (with_reducible refine Kd.C_drew ?_))); (case side2 => exact HC0.out); rintro e w12 ⟨v240, rfl, ho0, hb⟩; refine ⟨_, rfl, ?_⟩; have n0_ := Aside0.mk (Kd.R_elder' (by (with_reducible repeat (first | apply Kd.R_alloc | apply Kd.R_drewN | apply Kd.R_drew)); exact HO238.out) (Kd.Q_base ho0) hb); have n1_ := Aside0.mk (Kd.Q_lower (Kd.Q_new' ho0 (Kd.R_lt (by (with_reducible repeat (first | apply Kd.R_alloc | apply Kd.R_drewN | apply Kd.R_drew)); exact HO238.out))) (below_size (by repeat (first | (with_reducible first | exact HB.out | apply below_alloc | apply pw_below_drewN | apply below_drew1) | exact HB.out)))); have n2_ := Aside0.mk (below_step (by repeat (first | (with_reducible first | exact HB.out | apply below_alloc | apply pw_below_drewN | apply below_drew1) | exact HB.out)) hb); clear HO238; clear HB; have HO238 := n0_; have HO241 := n1_; have HB := n2_; clear n0_ n1_ n2_; (try clear hb); (try clear hb2); (try clear hk); (try clear hi); (try clear ho0); obtain ⟨Ao14, co14, eo14, _⟩ := Kd.Q_slice HO241.out; subst eo14) | ((with_reducible refine gate_builtin (b := .append) (xs := #[.tmp 14, .tmp 17]) rfl ?_); at_builtin; refine Kd.R_append_rows k73 (w0 := w) w.heap.size rfl (.tmp 14) (.tmp 17) 38 73 (.agg #[(.int .i64 0), (.int .i64 0)]) 16 rfl Try.underlying38 info73 rfl (by decide) (by omega) v237 y236 t239 _ _ _ (fun k_ => some k_ ≠ (.slice Ao14 t239.length co14 : Value).ownBlock) (fun _ => False) rfl rfl ?aO ?aR (fun _ _ h => h) (fun _ h => h.elim) ?aF ?aB ?aS ?aL ?_; (case aR => repeat (first | exact (Kd.Q_reads' HO241.out).2.2 | (with_reducible refine Kd.C_alloc ?_ _) | (with_reducible refine Kd.C_drewN ?_ _) | (with_reducible refine Kd.C_drew ?_))); (case aB => exact (by repeat (first | (with_reducible first | exact HB.out | apply below_alloc | apply pw_below_drewN | apply below_drew1) | exact HB.out))); (case aF => exact (fun k_ hk => Kd.fresh' (Kd.Q_lt (by (with_reducible repeat (first | apply Kd.Q_alloc | apply Kd.Q_drewN | apply Kd.Q_drew)); exact HO241.out)) k_ hk)); (case aO => exact (by (with_reducible repeat (first | apply Kd.R_alloc | apply Kd.R_drewN | apply Kd.R_drew)); exact Kd.R_mono HO238.out (fun _ hk => hk.2))); (case aS => exact (below_size (by repeat (first | (with_reducible first | exact HB.out | apply below_alloc | apply pw_below_drewN | apply below_drew1) | exact HB.out)))); (case aL => have := LMc8.out; omega); intro v243 w13 ho hb hg hat; rw [← Ny242.out] at ho; have n0_ := Aside0.mk (Kd.Q_after (ok := (fun _ => True)) (by (with_reducible repeat (first | apply Kd.Q_alloc | apply Kd.Q_drewN | apply Kd.Q_drew)); exact HO241.out) hg hat); have n1_ := Aside0.mk (hb); have n2_ := Aside0.mk (ho); clear HO241; clear HB; clear HO238; have HO241 := n0_; have HB := n1_; have HO244 := n2_; clear n0_ n1_ n2_; clear ho hb hg hat))
        go_ret2
        exact ⟨_, by first | rfl | (simp [errW_none, errW_some] <;> rfl) | (simp [*, errW_none, errW_some] <;> rfl), by (with_reducible repeat (first | apply Kd.R_alloc | apply Kd.R_drewN | apply Kd.R_drew)); exact Kd.R_mono HO244.out (fun _ hk => trivial), by repeat (first | (with_reducible first | exact HB.out | apply below_alloc | apply pw_below_drewN | apply below_drew1) | exact HB.out)⟩
      · rw [if_neg c8] at H
        exact absurd H (by simp)
    · replace c6 := Bool.eq_false_iff.mpr c6
      subst c6
      have H1 : (some (([] : List (S73)), 1)) = some (r1, r2) := by rw [if_neg (show ¬ (false = true) by decide)] at H; exact H
      clear H
      have H := H1
      clear H1
      simp only [Option.some.injEq, Prod.mk.injEq] at H
      obtain ⟨rfl, rfl⟩ := H
      go_enter Try.func46, Try.ntmps46
      go_wp2_with (first | ((with_reducible refine gate_callee (f := 67) rfl ?_); refine goesL_ (some 7) rfl rfl Try.func67 (by kernel_rfl) rfl #[.slice A0 l0.length c0] rfl (by (try simp only [List.map_toArray, List.map_cons, List.map_nil]); first | done | rfl | (simp only [List.length_drop, List.length_take]; rfl)) ?_; (with_reducible refine (impl_rangesOK.calls k _ _ l0 true _ ?side1 ?side2 A3.out).mono ?_); (case side1 => repeat (first | exact HR0.out | (with_reducible refine Kd.C_alloc ?_ _) | (with_reducible refine Kd.C_drewN ?_ _) | (with_reducible refine Kd.C_drew ?_))); (case side2 => exact HC0.out); rintro e w15 ⟨rfl, hb⟩; refine ⟨_, rfl, ?_⟩; have n0_ := Aside0.mk (below_step (by repeat (first | (with_reducible first | exact HB.out | apply below_alloc | apply pw_below_drewN | apply below_drew1) | exact HB.out)) hb); clear HB; have HB := n0_; clear n0_; (try clear hb); (try clear hb2); (try clear hk); (try clear hi)) | (go_at_call 72; (with_reducible refine (impl_inVar.calls a1 false _ A5.out).mono ?_); rintro e w' ⟨rfl, ⟨nd, rfl⟩⟩))
      go_ret2
      exact ⟨_, by first | rfl | (simp [errW_none, errW_some] <;> rfl) | (simp [*, errW_none, errW_some] <;> rfl), by first | exact Kd.R_nil _ _ _ _ _ | exact Kd.N_nil _ _ _ _ _ | exact Kd.V_nil _ _ _ _ _ | exact Kd.Q_nil _ _ _ _ _ | exact Kd.S_nil _ _ _ _ _, by repeat (first | (with_reducible first | exact HB.out | apply below_alloc | apply pw_below_drewN | apply below_drew1) | exact HB.out)⟩
  · replace c4 := Bool.eq_false_iff.mpr c4
    subst c4
    have H1 : (some (([] : List (S73)), 1)) = some (r1, r2) := by rw [if_neg (show ¬ (false = true) by decide)] at H; exact H
    clear H
    have H := H1
    clear H1
    simp only [Option.some.injEq, Prod.mk.injEq] at H
    obtain ⟨rfl, rfl⟩ := H
    go_enter Try.func46, Try.ntmps46
    go_wp2_with (first | ((with_reducible refine gate_callee (f := 67) rfl ?_); refine goesL_ (some 7) rfl rfl Try.func67 (by kernel_rfl) rfl #[.slice A0 l0.length c0] rfl (by (try simp only [List.map_toArray, List.map_cons, List.map_nil]); first | done | rfl | (simp only [List.length_drop, List.length_take]; rfl)) ?_; (with_reducible refine (impl_rangesOK.calls k _ _ l0 false _ ?side1 ?side2 A3.out).mono ?_); (case side1 => repeat (first | exact HR0.out | (with_reducible refine Kd.C_alloc ?_ _) | (with_reducible refine Kd.C_drewN ?_ _) | (with_reducible refine Kd.C_drew ?_))); (case side2 => exact HC0.out); rintro e w16 ⟨rfl, hb⟩; refine ⟨_, rfl, ?_⟩; have n0_ := Aside0.mk (below_step (by repeat (first | (with_reducible first | exact HB.out | apply below_alloc | apply pw_below_drewN | apply below_drew1) | exact HB.out)) hb); clear HB; have HB := n0_; clear n0_; (try clear hb); (try clear hb2); (try clear hk); (try clear hi)))
    go_ret2
    exact ⟨_, by first | rfl | (simp [errW_none, errW_some] <;> rfl) | (simp [*, errW_none, errW_some] <;> rfl), by first | exact Kd.R_nil _ _ _ _ _ | exact Kd.N_nil _ _ _ _ _ | exact Kd.V_nil _ _ _ _ _ | exact Kd.Q_nil _ _ _ _ _ | exact Kd.S_nil _ _ _ _ _, by repeat (first | (with_reducible first | exact HB.out | apply below_alloc | apply pw_below_drewN | apply below_drew1) | exact HB.out)⟩

end Go.Proofs.Ytkfoneckbnggoaa.MFnExactRangesAdd
