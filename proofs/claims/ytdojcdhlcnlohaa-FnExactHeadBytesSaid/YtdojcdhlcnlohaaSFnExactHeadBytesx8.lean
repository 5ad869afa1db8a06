/- The walk of functions that the law FnExactHeadBytes uses, written by program. -/
import Derived.Test.YtdojcdhlcnlohaaSFnExactHeadBytesx0
import Derived.Test.YtdojcdhlcnlohaaSFnExactHeadBytesx6
import Derived.Test.YtdojcdhlcnlohaaSFnExactHeadBytesx7
namespace Go.Proofs.Ytdojcdhlcnlohaa.SFnExactHeadBytes
open Go.RowKit Go.Proofs.YtdojcdhlcnlohaaW.PrintWords Go.Proofs.YtdojcdhlcnlohaaW.PrintLast Go.Proofs.YtdojcdhlcnlohaaW.PrintMore
attribute [local go_sem] max2_int min2_int max_two min_two max_three min_three max_four min_four   -- for this text's walks alone
set_option linter.unusedVariables false
set_option linter.unusedSimpArgs false

/-! ### impl_headBytes: function 70 -/
def impl_headBytes.j0 : Nat → Int → Int → Int → Int → List Int → List Int → List Int → Int → Int → Int → Option (List Int)
 | 0, _, _, _, _, _, _, _, _, _, _ => none
 | k + 1, x1, x6, x269000, x269001, x269002, x269003, x269004, x269005, x269006, x269007 => (impl_longBegin.f k ((wrap64 ((wrap64 ((wrap64 (192 + (wrap64 (16 * x6)))) + x269006)) - 1)) % 256) x269001 x269002 x269003).bind fun t279 => (if x269000 = 1 then ((impl_addCounted.f k t279 x269004).bind fun t282 => ((some (([(Go.bits .or .i64 64 ((wrap64 (x269006 + x1)) / 256)) % 256, (wrap64 (x269006 + x1)) % 256] : List Int) : List Int)).bind fun y285 => (if t282.length + y285.length < 140737488355328 then ((impl_CutNum.f x269005 x269006).bind fun t291 => ((impl_fixed.f k (t282 ++ y285) t291 x269006).bind fun t292 => (some t292))) else (none)))) else ((some (([(Go.bits .or .i64 64 ((wrap64 (x269006 + x1)) / 256)) % 256, (wrap64 (x269006 + x1)) % 256] : List Int) : List Int)).bind fun y295 => (if t279.length + y295.length < 140737488355328 then ((impl_CutNum.f x269005 x269006).bind fun t301 => ((impl_fixed.f k (t279 ++ y295) t301 x269006).bind fun t302 => (some t302))) else (none))))
def impl_headBytes.f (k : Nat) (a0_0 : Int) (a0_1 : Int) (l0_2 : List Int) (l0_3 : List Int) (l0_4 : List Int) (a0_5 : Int) (a0_6 : Int) (a0_7 : Int) (a1 : Int) : Option (List Int) := if a0_0 = 4 then ((some (([(wrap64 ((wrap64 ((wrap64 (64 + (wrap64 (4 * a0_7)))) + a0_6)) - 1)) % 256] : List Int) : List Int)).bind fun y269 => (if y269.length + l0_2.length < 140737488355328 then ((impl_CutNum.f a0_5 a0_6).bind fun t275 => ((impl_fixed.f k (y269 ++ l0_2) t275 a0_6).bind fun t276 => (some t276))) else (none))) else (if a0_0 = 2 then (impl_headBytes.j0 k a1 2 a0_0 a0_1 l0_2 l0_3 l0_4 a0_5 a0_6 a0_7) else (impl_headBytes.j0 k a1 0 a0_0 a0_1 l0_2 l0_3 l0_4 a0_5 a0_6 a0_7))
theorem impl_headBytes.mono_l : ∀ k, (∀ y0 y1 y2 y3 y4 y5 y6 y7 y8 y9, LeO (impl_headBytes.j0 k y0 y1 y2 y3 y4 y5 y6 y7 y8 y9) (impl_headBytes.j0 (k + 1) y0 y1 y2 y3 y4 y5 y6 y7 y8 y9))
 | 0 => fun _ _ _ _ _ _ _ _ _ _ r h => by simp [impl_headBytes.j0] at h
 | k + 1 => by
  have ih0 := impl_headBytes.mono_l k
  ·intro y0 y1 y2 y3 y4 y5 y6 y7 y8 y9
   unfold impl_headBytes.j0
   repeat' first
   | (with_reducible exact ih0 _ _ _ _ _ _ _ _ _ _)
   | (with_reducible exact impl_addCounted.mono _ _ _)
   | (with_reducible exact impl_fixed.mono _ _ _ _)
   | (with_reducible exact impl_longBegin.mono _ _ _ _ _)
   | (with_reducible exact LeO.refl _)
   | (with_reducible exact LeO.none _)
   | (with_reducible refine LeO.ite ?_ ?_)
   | (with_reducible refine LeO.bind ?_ (fun _ => ?_))
   | exact ih0 _ _ _ _ _ _ _ _ _ _
   | exact impl_addCounted.mono _ _ _
   | exact impl_fixed.mono _ _ _ _
   | exact impl_longBegin.mono _ _ _ _ _
   | exact LeO.none _
   | refine LeO.ite ?_ ?_
   | refine LeO.bind ?_ (fun _ => ?_)
theorem impl_headBytes.mono : ∀ a0 a1 a2 a3 a4 a5 a6 a7 a8 k, LeO (impl_headBytes.f k a0 a1 a2 a3 a4 a5 a6 a7 a8) (impl_headBytes.f (k + 1) a0 a1 a2 a3 a4 a5 a6 a7 a8) := by
 intro a0 a1 a2 a3 a4 a5 a6 a7 a8 k
 have ih0 := impl_headBytes.mono_l k
 unfold impl_headBytes.f
 repeat' first
   | (with_reducible exact ih0 _ _ _ _ _ _ _ _ _ _)
   | (with_reducible exact impl_addCounted.mono _ _ _)
   | (with_reducible exact impl_fixed.mono _ _ _ _)
   | (with_reducible exact impl_longBegin.mono _ _ _ _ _)
   | (with_reducible exact LeO.refl _)
   | (with_reducible exact LeO.none _)
   | (with_reducible refine LeO.ite ?_ ?_)
   | (with_reducible refine LeO.bind ?_ (fun _ => ?_))
   | exact ih0 _ _ _ _ _ _ _ _ _ _
   | exact impl_addCounted.mono _ _ _
   | exact impl_fixed.mono _ _ _ _
   | exact impl_longBegin.mono _ _ _ _ _
   | exact LeO.none _
   | refine LeO.ite ?_ ?_
   | refine LeO.bind ?_ (fun _ => ?_)
def impl_headBytes.T13 : Bool × List (List Nat × List Nat) := (true, [([], []), ([], []), ([1], [1]), ([], []), ([3], [3]), ([2, 4], [2, 4]), ([], []), ([6], [6]), ([0, 5, 7, 5], [0, 5, 7]), ([8, 8, 0, 1, 2, 3, 4, 5, 6, 7, 8], [8])])
def impl_headBytes.B13 : List Nat := [0, 0, 2, 0, 8, 30, 0, 64, 255, 511]
theorem impl_headBytes.tab13 : rtab .any (opsOf Try.f70 13) = impl_headBytes.T13 := by kernel_rfl
theorem impl_headBytes.bits13 : waitsOk impl_headBytes.T13.2 impl_headBytes.B13 = true := by kernel_rfl
set_option maxHeartbeats 8000000 in
set_option maxRecDepth 100000 in
theorem impl_headBytes.calls (k : Nat) (a0_0 : Int) (a0_1 : Int) (A0_2 : Option Addr) (c0_2 : Nat) (l0_2 : List Int) (A0_3 : Option Addr) (c0_3 : Nat) (l0_3 : List Int) (A0_4 : Option Addr) (c0_4 : Nat) (l0_4 : List Int) (a0_5 : Int) (a0_6 : Int) (a0_7 : Int) (a1 : Int) (r : List Int) (w : World) (hr0_2 : Kd.C (Kd.int .u8) w A0_2 l0_2.length l0_2) (hc0_2 : l0_2.length ≤ c0_2) (hr0_3 : Kd.C (Kd.int .u8) w A0_3 l0_3.length l0_3) (hc0_3 : l0_3.length ≤ c0_3) (hr0_4 : Kd.C (Kd.int .u8) w A0_4 l0_4.length l0_4) (hc0_4 : l0_4.length ≤ c0_4) (h : impl_headBytes.f k a0_0 a0_1 l0_2 l0_3 l0_4 a0_5 a0_6 a0_7 a1 = some r) :
  Calls Try.prog 70 #[.agg #[.int .i64 a0_0, .int .i64 a0_1, .slice A0_2 l0_2.length c0_2, .slice A0_3 l0_3.length c0_3, .slice A0_4 l0_4.length c0_4, .int .i64 a0_5, .int .i64 a0_6, .int .i64 a0_7], .int .i64 a1] w fun e w' => ∃ v0_ : Value, e = .returned (v0_) ∧ Kd.R (Kd.int .u8) 5 w' w.heap.size (fun _ => True) v0_ r ∧ Below w.heap.size w w' := by
 have hu42 := Try.underlying42
 have HR0_2 := Aside0.mk hr0_2
 have HC0_2 := Aside0.mk hc0_2
 clear hr0_2 hc0_2
 have HR0_3 := Aside0.mk hr0_3
 have HC0_3 := Aside0.mk hc0_3
 clear hr0_3 hc0_3
 have HR0_4 := Aside0.mk hr0_4
 have HC0_4 := Aside0.mk hc0_4
 clear hr0_4 hc0_4
 have HB := Aside0.mk (Below.refl w.heap.size w)
 have H : (if a0_0 = 4 then ((some (([(wrap64 ((wrap64 ((wrap64 (64 + (wrap64 (4 * a0_7)))) + a0_6)) - 1)) % 256] : List Int) : List Int)).bind fun y269 => (if y269.length + l0_2.length < 140737488355328 then ((impl_CutNum.f a0_5 a0_6).bind fun t275 => ((impl_fixed.f k (y269 ++ l0_2) t275 a0_6).bind fun t276 => (some t276))) else (none))) else (if a0_0 = 2 then (impl_headBytes.j0 k a1 2 a0_0 a0_1 l0_2 l0_3 l0_4 a0_5 a0_6 a0_7) else (impl_headBytes.j0 k a1 0 a0_0 a0_1 l0_2 l0_3 l0_4 a0_5 a0_6 a0_7))) = some r := h
 clear h
 by_cases c3 : a0_0 = 4
 ·rw [if_pos c3] at H
  have c3b0 : (a0_0 == 4) = true := beq_iff_eq.mpr c3
  have c3b1 : (a0_0 != 4) = false := bne_eq_false_iff_eq.mpr c3
  clear c3
  obtain ⟨y269, hy269⟩ : ∃ y_ : List Int, y_ = (([(wrap64 ((wrap64 ((wrap64 (64 + (wrap64 (4 * a0_7)))) + a0_6)) - 1)) % 256] : List Int)) := ⟨_, rfl⟩
  replace H : (if y269.length + l0_2.length < 140737488355328 then ((impl_CutNum.f a0_5 a0_6).bind fun t275 => ((impl_fixed.f k (y269 ++ l0_2) t275 a0_6).bind fun t276 => (some t276))) else (none)) = some r := by first | (rw [hy269]; with_reducible exact H) | (have H2_ := (Option.bind_some _ _).symm.trans H; rw [hy269]; with_reducible exact H2_) | (have H2_ := (Option.bind_some _ _).symm.trans H; with_reducible exact H2_) | with_reducible exact H | (rw [hy269]; exact H) | exact H
  have Ny269 := Aside0.mk hy269
  clear hy269
  by_cases c4 : y269.length + l0_2.length < 140737488355328
  ·rw [if_pos c4] at H
   have LMc4 := Aside0.mk c4
   clear c4
   obtain ⟨y272, hy272⟩ : ∃ y_ : List Int, y_ = (y269 ++ l0_2) := ⟨_, rfl⟩
   replace H : ((impl_CutNum.f a0_5 a0_6).bind fun t275 => ((impl_fixed.f k y272 t275 a0_6).bind fun t276 => (some t276))) = some r := by first | (rw [hy272]; with_reducible exact H) | (have H2_ := (Option.bind_some _ _).symm.trans H; rw [hy272]; with_reducible exact H2_) | (have H2_ := (Option.bind_some _ _).symm.trans H; with_reducible exact H2_) | with_reducible exact H | (rw [hy272]; exact H) | exact H
   have Ny272 := Aside0.mk hy272
   clear hy272
   replace H := Option.bind_eq_some_iff.mp H
   obtain ⟨t275, A50, H⟩ := H
   replace H : ((impl_fixed.f k y272 t275 a0_6).bind fun t276 => (some t276)) = some r := H
   have A5 := Aside0.mk A50
   clear A50
   replace H := Option.bind_eq_some_iff.mp H
   obtain ⟨t276, A60, H⟩ := H
   replace H : (some t276) = some r := H
   have A6 := Aside0.mk A60
   clear A60
   obtain rfl := Option.some.inj H
   go_enter Try.func70, Try.ntmps70
   try go_wp2_with (first | ((with_reducible refine gate_dst (N := 2) rfl ?_); refine box_event ?hg (N := 2) ?hd (cs := #[.int .i64 a0_0, .int .i64 a0_1, .slice A0_2 l0_2.length c0_2, .slice A0_3 l0_3.length c0_3, .slice A0_4 l0_4.length c0_4, .int .i64 a0_5, .int .i64 a0_6, .int .i64 a0_7]) (t := 42) ?hr ?_; (case hd => rfl); (case hg => rfl); (case hr => first | (go_simp; done) | (go_simp; rfl)); intro gb268 hg w7 hbox hb; have n0_ := Aside0.mk (below_step (by repeat (first | (with_reducible first | exact HB.out | apply below_alloc | apply pw_below_drewN | apply below_drew1) | exact HB.out)) hb); have n1_ := Aside0.mk (hbox); have n2_ := Aside0.mk ((by rw [hg]; exact (below_size (by repeat (first | (with_reducible first | exact HB.out | apply below_alloc | apply pw_below_drewN | apply below_drew1) | exact HB.out))) : w.heap.size ≤ gb268)); have n3_ := Aside0.mk ((by rw [hg]; exact (below_size (by repeat (first | (with_reducible first | exact HB.out | apply below_alloc | apply pw_below_drewN | apply below_drew1) | exact HB.out))) : w.heap.size ≤ gb268)); clear HB; have HB := n0_; have BK268 := n1_; have GW268 := n2_; have GE268 := n3_; clear n0_ n1_ n2_ n3_; clear hb hbox hg; have hcz8_0 : w7.cell? ⟨gb268, 0, none⟩ = some (.int .i64 a0_0) := (blk_cell BK268.out 0).trans rfl; have hcz8_1 : w7.cell? ⟨gb268, 1, none⟩ = some (.int .i64 a0_1) := (blk_cell BK268.out 1).trans rfl; have hcz8_2 : w7.cell? ⟨gb268, 2, none⟩ = some (.slice A0_2 l0_2.length c0_2) := (blk_cell BK268.out 2).trans rfl; have hcz8_3 : w7.cell? ⟨gb268, 3, none⟩ = some (.slice A0_3 l0_3.length c0_3) := (blk_cell BK268.out 3).trans rfl; have hcz8_4 : w7.cell? ⟨gb268, 4, none⟩ = some (.slice A0_4 l0_4.length c0_4) := (blk_cell BK268.out 4).trans rfl; have hcz8_5 : w7.cell? ⟨gb268, 5, none⟩ = some (.int .i64 a0_5) := (blk_cell BK268.out 5).trans rfl; have hcz8_6 : w7.cell? ⟨gb268, 6, none⟩ = some (.int .i64 a0_6) := (blk_cell BK268.out 6).trans rfl; have hcz8_7 : w7.cell? ⟨gb268, 7, none⟩ = some (.int .i64 a0_7) := (blk_cell BK268.out 7).trans rfl; have hfz8_0 := blk_frozen BK268.out 0; have hfz8_1 := blk_frozen BK268.out 1; have hfz8_2 := blk_frozen BK268.out 2; have hfz8_3 := blk_frozen BK268.out 3; have hfz8_4 := blk_frozen BK268.out 4; have hfz8_5 := blk_frozen BK268.out 5; have hfz8_6 := blk_frozen BK268.out 6; have hfz8_7 := blk_frozen BK268.out 7) | ((with_reducible refine gate_dst (N := 59) rfl ?_); refine Kd.R_lit (Kd.int .u8) _ 5 ?hg (N := 59) ?hd (xs := ([(wrap64 ((wrap64 ((wrap64 (64 + (wrap64 (4 * a0_7)))) + a0_6)) - 1)) % 256] : List Int)) (inner := [.int .u8 ((wrap64 ((wrap64 ((wrap64 (64 + (wrap64 (4 * a0_7)))) + a0_6)) - 1)) % 256)]) (ok := fun _ => True) (okp := fun _ => True) ?hr ?hp (fun _ hk => hk) trivial (Below.refl _ _) (Nat.le_refl _) (by simp) ?_; (case hd => rfl); (case hg => rfl); (case hr => first | (go_simp; done) | (go_simp; rfl)); (case hp => exact (Reps.one (show Kd.M (Kd.int .u8) _ _ _ ((wrap64 ((wrap64 ((wrap64 (64 + (wrap64 (4 * a0_7)))) + a0_6)) - 1)) % 256) [.int .u8 ((wrap64 ((wrap64 ((wrap64 (64 + (wrap64 (4 * a0_7)))) + a0_6)) - 1)) % 256)] from rfl) (Reps.none _ _))); intro v270 w9 ho10 hb hg_ hnew_; clear hg_ hnew_; (first | rw [← Ny269.out] at ho10 | (simp only [Int.reduceToNat] at ho10; rw [← Ny269.out] at ho10)); have n0_ := Aside0.mk (Kd.R_lower ho10 (below_size (by repeat (first | (with_reducible first | exact HB.out | apply below_alloc | apply pw_below_drewN | apply below_drew1 | refine below_set ?_ GE268.out) | exact HB.out)))); have n1_ := Aside0.mk (blk_below (g := gb268) (o := .cells #[.int .i64 a0_0, .int .i64 a0_1, .slice A0_2 l0_2.length c0_2, .slice A0_3 l0_3.length c0_3, .slice A0_4 l0_4.length c0_4, .int .i64 a0_5, .int .i64 a0_6, .int .i64 a0_7] 42 (0, 0)) (by (with_reducible repeat (first | refine blk_drewN ?_ _ | refine blk_drew ?_ | refine blk_alloc ?_ _)); exact BK268.out) hb); have n2_ := Aside0.mk (below_step (by repeat (first | (with_reducible first | exact HB.out | apply below_alloc | apply pw_below_drewN | apply below_drew1 | refine below_set ?_ GE268.out) | exact HB.out)) hb); clear BK268; clear HB; have HO271 := n0_; have BK268 := n1_; have HB := n2_; clear n0_ n1_ n2_; clear hb ho10; have hcz11_0 : w9.cell? ⟨gb268, 0, none⟩ = some (.int .i64 a0_0) := (blk_cell BK268.out 0).trans rfl; have hcz11_1 : w9.cell? ⟨gb268, 1, none⟩ = some (.int .i64 a0_1) := (blk_cell BK268.out 1).trans rfl; have hcz11_2 : w9.cell? ⟨gb268, 2, none⟩ = some (.slice A0_2 l0_2.length c0_2) := (blk_cell BK268.out 2).trans rfl; have hcz11_3 : w9.cell? ⟨gb268, 3, none⟩ = some (.slice A0_3 l0_3.length c0_3) := (blk_cell BK268.out 3).trans rfl; have hcz11_4 : w9.cell? ⟨gb268, 4, none⟩ = some (.slice A0_4 l0_4.length c0_4) := (blk_cell BK268.out 4).trans rfl; have hcz11_5 : w9.cell? ⟨gb268, 5, none⟩ = some (.int .i64 a0_5) := (blk_cell BK268.out 5).trans rfl; have hcz11_6 : w9.cell? ⟨gb268, 6, none⟩ = some (.int .i64 a0_6) := (blk_cell BK268.out 6).trans rfl; have hcz11_7 : w9.cell? ⟨gb268, 7, none⟩ = some (.int .i64 a0_7) := (blk_cell BK268.out 7).trans rfl; have hfz11_0 := blk_frozen BK268.out 0; have hfz11_1 := blk_frozen BK268.out 1; have hfz11_2 := blk_frozen BK268.out 2; have hfz11_3 := blk_frozen BK268.out 3; have hfz11_4 := blk_frozen BK268.out 4; have hfz11_5 := blk_frozen BK268.out 5; have hfz11_6 := blk_frozen BK268.out 6; have hfz11_7 := blk_frozen BK268.out 7) | ((with_reducible refine gate_builtin (b := .append) (xs := #[.tmp 59, .tmp 61]) rfl ?_); at_builtin; refine Kd.R_append_rows (Kd.int .u8) (w0 := w) w.heap.size rfl (.tmp 59) (.tmp 61) 22 5 (.int .u8 0) 1 rfl Try.underlying22 info5 rfl (by decide) (by omega) v270 y269 l0_2 _ _ _ (fun _ => True) (fun _ => False) rfl rfl ?aO ?aR (fun _ _ h => h) (fun _ h => h.elim) ?aF ?aB ?aS ?aL ?_; (case aR => repeat (first | exact (Kd.C_below HR0_2.out HB.out) | (with_reducible refine Kd.C_alloc ?_ _) | (with_reducible refine Kd.C_drewN ?_ _) | (with_reducible refine Kd.C_drew ?_))); (case aB => exact (by repeat (first | (with_reducible first | exact HB.out | apply below_alloc | apply pw_below_drewN | apply below_drew1 | refine below_set ?_ GE268.out) | exact HB.out))); (case aF => exact (fun _ _ => trivial)); (case aO => exact (by (with_reducible repeat (first | apply Kd.R_alloc | apply Kd.R_drewN | apply Kd.R_drew)); exact HO271.out)); (case aS => exact (below_size (by repeat (first | (with_reducible first | exact HB.out | apply below_alloc | apply pw_below_drewN | apply below_drew1 | refine below_set ?_ GE268.out) | exact HB.out)))); (case aL => have := LMc4.out; omega); intro v273 w12 ho hb hg hat; rw [← Ny272.out] at ho; have n0_ := Aside0.mk (blk_grown (g := gb268) (o := .cells #[.int .i64 a0_0, .int .i64 a0_1, .slice A0_2 l0_2.length c0_2, .slice A0_3 l0_3.length c0_3, .slice A0_4 l0_4.length c0_4, .int .i64 a0_5, .int .i64 a0_6, .int .i64 a0_7] 42 (0, 0)) (by (with_reducible repeat (first | refine blk_drewN ?_ _ | refine blk_drew ?_ | refine blk_alloc ?_ _)); exact BK268.out) hg (Kd.R_ne HO271.out BK268.out (by decide))); have n1_ := Aside0.mk (hb); have n2_ := Aside0.mk (ho); clear BK268; clear HB; clear HO271; have BK268 := n0_; have HB := n1_; have HO274 := n2_; clear n0_ n1_ n2_; clear ho hb hg hat))
   have n0_ := Aside0.mk (Kd.R_drew HO274.out)
   have n1_ := Aside0.mk (blk_drew BK268.out)
   have n2_ := Aside0.mk (below_drew1 HB.out)
   clear HO274
   clear BK268
   clear HB
   have HO274 := n0_
   have BK268 := n1_
   have HB := n2_
   clear n0_ n1_ n2_
   refine start_ (n := 10) (S := fun w' => w'.cell? ⟨gb268, 0, none⟩ = some (.int .i64 a0_0) ∧ w'.cell? ⟨gb268, 1, none⟩ = some (.int .i64 a0_1) ∧ w'.cell? ⟨gb268, 2, none⟩ = some (.slice A0_2 l0_2.length c0_2) ∧ w'.cell? ⟨gb268, 3, none⟩ = some (.slice A0_3 l0_3.length c0_3) ∧ w'.cell? ⟨gb268, 4, none⟩ = some (.slice A0_4 l0_4.length c0_4) ∧ w'.cell? ⟨gb268, 5, none⟩ = some (.int .i64 a0_5) ∧ w'.cell? ⟨gb268, 6, none⟩ = some (.int .i64 a0_6) ∧ w'.cell? ⟨gb268, 7, none⟩ = some (.int .i64 a0_7)) (ds := []) #[false, false, false, false, false, false, false, false, false, false] (by kernel_rfl) rfl rfl ⟨(blk_cell BK268.out 0).trans rfl, (blk_cell BK268.out 1).trans rfl, (blk_cell BK268.out 2).trans rfl, (blk_cell BK268.out 3).trans rfl, (blk_cell BK268.out 4).trans rfl, (blk_cell BK268.out 5).trans rfl, (blk_cell BK268.out 6).trans rfl, (blk_cell BK268.out 7).trans rfl⟩ (fun hHeld => ?_); refine with_tabW impl_headBytes.tab13 impl_headBytes.bits13 (fun HT_ HW_ => ?_)
   generalize w12.drew = w13 at HO274 BK268 HB hHeld ⊢
   refine pure_ (i := 0) (N := some 63) (v := ?_) (a' := ?_) #[true, false, false, false, false, false, false, false, false, false] rfl rfl (any_of HT_.out (by kernel_rfl)) (fun _ _ _ h => h) (Or.inl ⟨by rfl, ?_⟩) ?_ ?_
   rotate_left
   ·intro w'
    go_simp
    with_reducible rfl
   rotate_left
   ·simp only [Act.put, List.setIfInBounds_toArray, List.set_cons_zero, List.set_cons_succ, i64_w, i32_w]
    rfl
   refine pure_ (i := 1) (N := some 64) (v := ?_) (a' := ?_) #[true, true, false, false, false, false, false, false, false, false] rfl rfl (any_of HT_.out (by kernel_rfl)) (fun _ _ _ h => h) (Or.inl ⟨by rfl, ?_⟩) ?_ ?_
   rotate_left
   ·intro w'
    go_simp
    with_reducible rfl
   rotate_left
   ·simp only [Act.put, List.setIfInBounds_toArray, List.set_cons_zero, List.set_cons_succ, i64_w, i32_w]
    rfl
   refine pure_ (i := 3) (N := some 66) (v := ?_) (a' := ?_) #[true, true, false, true, false, false, false, false, false, false] rfl rfl (any_of HT_.out (by kernel_rfl)) (fun _ _ _ h => h) (Or.inl ⟨by rfl, ?_⟩) ?_ ?_
   rotate_left
   ·intro w'
    go_simp
    with_reducible rfl
   rotate_left
   ·simp only [Act.put, List.setIfInBounds_toArray, List.set_cons_zero, List.set_cons_succ, i64_w, i32_w]
    rfl
   refine pure_ (i := 6) (N := some 69) (v := ?_) (a' := ?_) #[true, true, false, true, false, false, true, false, false, false] rfl rfl (any_of HT_.out (by kernel_rfl)) (fun _ _ _ h => h) (Or.inl ⟨by rfl, ?_⟩) ?_ ?_
   rotate_left
   ·intro w'
    go_simp
    with_reducible rfl
   rotate_left
   ·simp only [Act.put, List.setIfInBounds_toArray, List.set_cons_zero, List.set_cons_succ, i64_w, i32_w]
    rfl
   refine take_ (i := 2) (N := some 65) (v := ?_) (a' := ?_) #[true, true, true, true, false, false, true, false, false, false] rfl rfl (take_ofW HT_.out HW_.out (by kernel_rfl)) (fun _ _ _ h => h) (Or.inl ⟨by rfl, ?_⟩) hHeld ?_ ?_
   rotate_left
   ·rintro w' ⟨s0, s1, s2, s3, s4, s5, s6, s7⟩
    go_simp
    with_reducible rfl
   rotate_left
   ·simp only [Act.put, List.setIfInBounds_toArray, List.set_cons_zero, List.set_cons_succ, i64_w, i32_w]
    rfl
   refine take_ (i := 4) (N := some 67) (v := ?_) (a' := ?_) #[true, true, true, true, true, false, true, false, false, false] rfl rfl (take_ofW HT_.out HW_.out (by kernel_rfl)) (fun _ _ _ h => h) (Or.inl ⟨by rfl, ?_⟩) hHeld ?_ ?_
   rotate_left
   ·rintro w' ⟨s0, s1, s2, s3, s4, s5, s6, s7⟩
    go_simp
    with_reducible rfl
   rotate_left
   ·simp only [Act.put, List.setIfInBounds_toArray, List.set_cons_zero, List.set_cons_succ, i64_w, i32_w]
    rfl
   refine take_ (i := 7) (N := some 70) (v := ?_) (a' := ?_) #[true, true, true, true, true, false, true, true, false, false] rfl rfl (take_ofW HT_.out HW_.out (by kernel_rfl)) (fun _ _ _ h => h) (Or.inl ⟨by rfl, ?_⟩) hHeld ?_ ?_
   rotate_left
   ·rintro w' ⟨s0, s1, s2, s3, s4, s5, s6, s7⟩
    go_simp
    with_reducible rfl
   rotate_left
   ·simp only [Act.put, List.setIfInBounds_toArray, List.set_cons_zero, List.set_cons_succ, i64_w, i32_w]
    rfl
   refine one_ (i := 5) (N := some 68) #[true, true, true, true, true, true, true, true, false, false] rfl rfl (one_of HT_.out (by kernel_rfl)) (by decide) (fun K hK => ?_)
   refine goes_ Try.func53 (by kernel_rfl) rfl #[.int .i64 a0_5, .int .i64 a0_6] (by rfl) rfl rfl (by (try simp only [List.map_toArray, List.map_cons, List.map_nil]); first | done | rfl | (simp only [List.length_drop, List.length_take]; rfl)) ?_
   with_reducible refine (impl_CutNum.calls a0_5 a0_6 t275 _ A5.out).mono ?_
   rintro e w' ⟨rfl, ⟨nd, rfl⟩⟩
   refine ⟨_, rfl, ?_⟩
   obtain ⟨Ao14, co14, eo14⟩ := Kd.R_slice HO274.out
   (first | subst eo14 | (injection eo14 with f1_ f2_ f3_; have f4_ := f1_.symm; have f5_ := f3_.symm; clear f1_ f2_ f3_; subst f4_; subst f5_))
   refine hK.out _ _ ⟨(blk_cell BK268.out 0).trans rfl, (blk_cell BK268.out 1).trans rfl, (blk_cell BK268.out 2).trans rfl, (blk_cell BK268.out 3).trans rfl, (blk_cell BK268.out 4).trans rfl, (blk_cell BK268.out 5).trans rfl, (blk_cell BK268.out 6).trans rfl, (blk_cell BK268.out 7).trans rfl⟩ (fun hHeld => ?_)
   clear hK K
   refine norm_ (a' := ?_) ?_ ?_
   rotate_left
   ·show Act.put _ (some 68) _ = _
    simp only [Act.put, List.setIfInBounds_toArray, List.set_cons_zero, List.set_cons_succ, i64_w, i32_w]
    rfl
   refine one_ (i := 8) (N := some 71) #[true, true, true, true, true, true, true, true, true, false] rfl rfl (one_of HT_.out (by kernel_rfl)) (by decide) (fun K hK => ?_)
   refine goes_ Try.func89 (by kernel_rfl) rfl #[.slice Ao14 y272.length co14, .int .i64 t275, .int .i64 a0_6] (by rfl) rfl rfl (by (try simp only [List.map_toArray, List.map_cons, List.map_nil]); first | done | rfl | (simp only [List.length_drop, List.length_take]; rfl)) ?_
   with_reducible refine (impl_fixed.calls k (fun k_ => some k_ = (.slice Ao14 y272.length co14 : Value).ownBlock) (.slice Ao14 y272.length co14) y272 t275 a0_6 t276 w _ ?side1 ?side2 A6.out).mono ?_
   (case side1 => repeat (first | (with_reducible first | exact HB.out | apply below_alloc | apply pw_below_drewN | apply below_drew1 | refine below_set ?_ GE268.out) | exact HB.out))
   (case side2 => exact Kd.R_tight rfl HO274.out)
   rintro e w15 ⟨v277, rfl, ho0, hb, hkp⟩
   refine ⟨_, rfl, ?_⟩
   have n0_ := Aside0.mk (blk_kept (by (with_reducible repeat (first | refine blk_drewN ?_ _ | refine blk_drew ?_ | refine blk_alloc ?_ _)); exact BK268.out) hkp (fun hs_ => (fun e_ => (Kd.R_ne HO274.out BK268.out (by decide)) e_) hs_))
   have n1_ := Aside0.mk (Kd.R_mono (ok' := fun k_ => True) ho0 (fun k_ hk_ => trivial))
   have n2_ := Aside0.mk (hb)
   clear BK268
   clear HB
   clear HO274
   have BK268 := n0_
   have HO278 := n1_
   have HB := n2_
   clear n0_ n1_ n2_
   (try clear hb)
   (try clear hkp)
   (try clear ho0)
   refine hK.out _ _ ⟨(blk_cell BK268.out 0).trans rfl, (blk_cell BK268.out 1).trans rfl, (blk_cell BK268.out 2).trans rfl, (blk_cell BK268.out 3).trans rfl, (blk_cell BK268.out 4).trans rfl, (blk_cell BK268.out 5).trans rfl, (blk_cell BK268.out 6).trans rfl, (blk_cell BK268.out 7).trans rfl⟩ (fun hHeld => ?_)
   clear hK K
   refine norm_ (a' := ?_) ?_ ?_
   rotate_left
   ·show Act.put _ (some 71) _ = _
    simp only [Act.put, List.setIfInBounds_toArray, List.set_cons_zero, List.set_cons_succ, i64_w, i32_w]
    rfl
   refine pure_ (i := 9) (N := some 4) (v := ?_) (a' := ?_) #[true, true, true, true, true, true, true, true, true, true] rfl rfl (any_of HT_.out (by kernel_rfl)) (fun _ _ _ h => h) (Or.inl ⟨by rfl, ?_⟩) ?_ ?_
   rotate_left
   ·intro w'
    go_simp
    with_reducible rfl
   rotate_left
   ·simp only [Act.put, List.setIfInBounds_toArray, List.set_cons_zero, List.set_cons_succ, i64_w, i32_w]
    rfl
   refine done_ (done_of HT_.out (by kernel_rfl)) ?_
   try go_wp2
   go_ret
   exact ⟨_, by first | rfl | (simp [errW_none, errW_some] <;> rfl) | (simp [*, errW_none, errW_some] <;> rfl), by (with_reducible repeat (first | apply Kd.R_alloc | apply Kd.R_drewN | apply Kd.R_drew)); exact HO278.out, by repeat (first | (with_reducible first | exact HB.out | apply below_alloc | apply pw_below_drewN | apply below_drew1 | refine below_set ?_ GE268.out) | exact HB.out)⟩
  ·rw [if_neg c4] at H
   exact absurd H (by simp)
 ·rw [if_neg c3] at H
  have c3b0 : (a0_0 == 4) = false := beq_eq_false_iff_ne.mpr c3
  have c3b1 : (a0_0 != 4) = true := bne_iff_ne.mpr c3
  have HC16 := Aside0.mk H
  clear H
  go_enter Try.func70, Try.ntmps70
  go_upto_if 12 with (first | ((with_reducible refine gate_dst (N := 2) rfl ?_); refine box_event ?hg (N := 2) ?hd (cs := #[.int .i64 a0_0, .int .i64 a0_1, .slice A0_2 l0_2.length c0_2, .slice A0_3 l0_3.length c0_3, .slice A0_4 l0_4.length c0_4, .int .i64 a0_5, .int .i64 a0_6, .int .i64 a0_7]) (t := 42) ?hr ?_; (case hd => rfl); (case hg => rfl); (case hr => first | (go_simp; done) | (go_simp; rfl)); intro gb268 hg w17 hbox hb; have n0_ := Aside0.mk (below_step (by repeat (first | (with_reducible first | exact HB.out | apply below_alloc | apply pw_below_drewN | apply below_drew1) | exact HB.out)) hb); have n1_ := Aside0.mk (hbox); have n2_ := Aside0.mk ((by rw [hg]; exact (below_size (by repeat (first | (with_reducible first | exact HB.out | apply below_alloc | apply pw_below_drewN | apply below_drew1) | exact HB.out))) : w.heap.size ≤ gb268)); have n3_ := Aside0.mk ((by rw [hg]; exact (below_size (by repeat (first | (with_reducible first | exact HB.out | apply below_alloc | apply pw_below_drewN | apply below_drew1) | exact HB.out))) : w.heap.size ≤ gb268)); clear HB; have HB := n0_; have BK268 := n1_; have GW268 := n2_; have GE268 := n3_; clear n0_ n1_ n2_ n3_; clear hb hbox hg; have hcz18_0 : w17.cell? ⟨gb268, 0, none⟩ = some (.int .i64 a0_0) := (blk_cell BK268.out 0).trans rfl; have hcz18_1 : w17.cell? ⟨gb268, 1, none⟩ = some (.int .i64 a0_1) := (blk_cell BK268.out 1).trans rfl; have hcz18_2 : w17.cell? ⟨gb268, 2, none⟩ = some (.slice A0_2 l0_2.length c0_2) := (blk_cell BK268.out 2).trans rfl; have hcz18_3 : w17.cell? ⟨gb268, 3, none⟩ = some (.slice A0_3 l0_3.length c0_3) := (blk_cell BK268.out 3).trans rfl; have hcz18_4 : w17.cell? ⟨gb268, 4, none⟩ = some (.slice A0_4 l0_4.length c0_4) := (blk_cell BK268.out 4).trans rfl; have hcz18_5 : w17.cell? ⟨gb268, 5, none⟩ = some (.int .i64 a0_5) := (blk_cell BK268.out 5).trans rfl; have hcz18_6 : w17.cell? ⟨gb268, 6, none⟩ = some (.int .i64 a0_6) := (blk_cell BK268.out 6).trans rfl; have hcz18_7 : w17.cell? ⟨gb268, 7, none⟩ = some (.int .i64 a0_7) := (blk_cell BK268.out 7).trans rfl; have hfz18_0 := blk_frozen BK268.out 0; have hfz18_1 := blk_frozen BK268.out 1; have hfz18_2 := blk_frozen BK268.out 2; have hfz18_3 := blk_frozen BK268.out 3; have hfz18_4 := blk_frozen BK268.out 4; have hfz18_5 := blk_frozen BK268.out 5; have hfz18_6 := blk_frozen BK268.out 6; have hfz18_7 := blk_frozen BK268.out 7))
  (try simp only [Act.put, List.setIfInBounds_toArray, List.set_cons_zero, List.set_cons_succ])
  go_cut [6] (fun v6 wc => ∃ (kq : Nat) (x6_15 : Int), v6 = .int .i64 x6_15 ∧ Aside0 (impl_headBytes.j0 kq a1 x6_15 a0_0 a0_1 l0_2 l0_3 l0_4 a0_5 a0_6 a0_7 = some r) ∧ Aside0 (kq ≤ k) ∧ Aside0 (wc.heap[gb268]? = some (.cells #[.int .i64 a0_0, .int .i64 a0_1, (.slice A0_2 l0_2.length c0_2), (.slice A0_3 l0_3.length c0_3), (.slice A0_4 l0_4.length c0_4), .int .i64 a0_5, .int .i64 a0_6, .int .i64 a0_7] 42 (0, 0))) ∧ Aside0 (Below w.heap.size w wc))
  case first =>
   have H := HC16.out
   clear HC16
   by_cases c19 : a0_0 = 2
   ·rw [if_pos c19] at H
    have c19b0 : (a0_0 == 2) = true := beq_iff_eq.mpr c19
    have c19b1 : (a0_0 != 2) = false := bne_eq_false_iff_eq.mpr c19
    clear c19
    (first | rw [c19b0] | (simp only [i64_w, i32_w]; rw [c19b0]) | skip)
    have H' := Aside0.mk H
    clear H
    go_wp2
    go_meet
    case rel => exact ⟨_, (2), (by first | rfl | (simp; done) | (simp [*]; done)), H', ⟨by first | omega | exact Nat.le_refl _⟩, ⟨by (with_reducible repeat (first | refine blk_drewN ?_ _ | refine blk_drew ?_ | refine blk_alloc ?_ _)); exact BK268.out⟩, ⟨by repeat (first | (with_reducible first | exact HB.out | apply below_alloc | apply pw_below_drewN | apply below_drew1 | refine below_set ?_ GE268.out) | exact HB.out)⟩⟩
   ·rw [if_neg c19] at H
    have c19b0 : (a0_0 == 2) = false := beq_eq_false_iff_ne.mpr c19
    have c19b1 : (a0_0 != 2) = true := bne_iff_ne.mpr c19
    (first | rw [c19b0] | (simp only [i64_w, i32_w]; rw [c19b0]) | skip)
    have H' := Aside0.mk H
    clear H
    go_wp2
    go_meet
    case rel => exact ⟨_, (0), (by first | rfl | (simp; done) | (simp [*]; done)), H', ⟨by first | omega | exact Nat.le_refl _⟩, ⟨by (with_reducible repeat (first | refine blk_drewN ?_ _ | refine blk_drew ?_ | refine blk_alloc ?_ _)); exact BK268.out⟩, ⟨by repeat (first | (with_reducible first | exact HB.out | apply below_alloc | apply pw_below_drewN | apply below_drew1 | refine below_set ?_ GE268.out) | exact HB.out)⟩⟩
  case rest =>
   clear HC16
   try clear c1
   try clear p2
   try clear c3
   try clear c3b0
   try clear c3b1
   try clear c4
   try clear c5
   try clear p6
   try clear c7
   try clear c8
   try clear c19
   try clear c19b0
   try clear c19b1
   try clear hcz11_0
   try clear hcz11_1
   try clear hcz11_2
   try clear hcz11_3
   try clear hcz11_4
   try clear hcz11_5
   try clear hcz11_6
   try clear hcz11_7
   try clear hcz18_0
   try clear hcz18_1
   try clear hcz18_2
   try clear hcz18_3
   try clear hcz18_4
   try clear hcz18_5
   try clear hcz18_6
   try clear hcz18_7
   try clear hcz8_0
   try clear hcz8_1
   try clear hcz8_2
   try clear hcz8_3
   try clear hcz8_4
   try clear hcz8_5
   try clear hcz8_6
   try clear hcz8_7
   try clear hfz11_0
   try clear hfz11_1
   try clear hfz11_2
   try clear hfz11_3
   try clear hfz11_4
   try clear hfz11_5
   try clear hfz11_6
   try clear hfz11_7
   try clear hfz18_0
   try clear hfz18_1
   try clear hfz18_2
   try clear hfz18_3
   try clear hfz18_4
   try clear hfz18_5
   try clear hfz18_6
   try clear hfz18_7
   try clear hfz8_0
   try clear hfz8_1
   try clear hfz8_2
   try clear hfz8_3
   try clear hfz8_4
   try clear hfz8_5
   try clear hfz8_6
   try clear hfz8_7
   obtain ⟨kq, x6_15, rfl, HA, HJ15, BK268, HB⟩ := hcut
   cases kq with
   | zero => exact absurd HA.out (by simp [impl_headBytes.j0])
   | succ kj15 =>
    have H := HA.out
    clear HA
    simp only [impl_headBytes.j0] at H
    replace H := Option.bind_eq_some_iff.mp H
    obtain ⟨t279, A200, H⟩ := H
    replace H : (if a0_0 = 1 then ((impl_addCounted.f kj15 t279 l0_4).bind fun t282 => ((some (([(Go.bits .or .i64 64 ((wrap64 (a0_6 + a1)) / 256)) % 256, (wrap64 (a0_6 + a1)) % 256] : List Int) : List Int)).bind fun y285 => (if t282.length + y285.length < 140737488355328 then ((impl_CutNum.f a0_5 a0_6).bind fun t291 => ((impl_fixed.f kj15 (t282 ++ y285) t291 a0_6).bind fun t292 => (some t292))) else (none)))) else ((some (([(Go.bits .or .i64 64 ((wrap64 (a0_6 + a1)) / 256)) % 256, (wrap64 (a0_6 + a1)) % 256] : List Int) : List Int)).bind fun y295 => (if t279.length + y295.length < 140737488355328 then ((impl_CutNum.f a0_5 a0_6).bind fun t301 => ((impl_fixed.f kj15 (t279 ++ y295) t301 a0_6).bind fun t302 => (some t302))) else (none)))) = some r := H
    have A20 := Aside0.mk A200
    clear A200
    by_cases c21 : a0_0 = 1
    ·rw [if_pos c21] at H
     have c21b0 : (a0_0 == 1) = true := beq_iff_eq.mpr c21
     have c21b1 : (a0_0 != 1) = false := bne_eq_false_iff_eq.mpr c21
     clear c21
     replace H := Option.bind_eq_some_iff.mp H
     obtain ⟨t282, A220, H⟩ := H
     replace H : ((some (([(Go.bits .or .i64 64 ((wrap64 (a0_6 + a1)) / 256)) % 256, (wrap64 (a0_6 + a1)) % 256] : List Int) : List Int)).bind fun y285 => (if t282.length + y285.length < 140737488355328 then ((impl_CutNum.f a0_5 a0_6).bind fun t291 => ((impl_fixed.f kj15 (t282 ++ y285) t291 a0_6).bind fun t292 => (some t292))) else (none))) = some r := H
     have A22 := Aside0.mk A220
     clear A220
     obtain ⟨y285, hy285⟩ : ∃ y_ : List Int, y_ = (([(Go.bits .or .i64 64 ((wrap64 (a0_6 + a1)) / 256)) % 256, (wrap64 (a0_6 + a1)) % 256] : List Int)) := ⟨_, rfl⟩
     replace H : (if t282.length + y285.length < 140737488355328 then ((impl_CutNum.f a0_5 a0_6).bind fun t291 => ((impl_fixed.f kj15 (t282 ++ y285) t291 a0_6).bind fun t292 => (some t292))) else (none)) = some r := by first | (rw [hy285]; with_reducible exact H) | (have H2_ := (Option.bind_some _ _).symm.trans H; rw [hy285]; with_reducible exact H2_) | (have H2_ := (Option.bind_some _ _).symm.trans H; with_reducible exact H2_) | with_reducible exact H | (rw [hy285]; exact H) | exact H
     have Ny285 := Aside0.mk hy285
     clear hy285
     by_cases c23 : t282.length + y285.length < 140737488355328
     ·rw [if_pos c23] at H
      have LMc23 := Aside0.mk c23
      clear c23
      obtain ⟨y288, hy288⟩ : ∃ y_ : List Int, y_ = (t282 ++ y285) := ⟨_, rfl⟩
      replace H : ((impl_CutNum.f a0_5 a0_6).bind fun t291 => ((impl_fixed.f kj15 y288 t291 a0_6).bind fun t292 => (some t292))) = some r := by first | (rw [hy288]; with_reducible exact H) | (have H2_ := (Option.bind_some _ _).symm.trans H; rw [hy288]; with_reducible exact H2_) | (have H2_ := (Option.bind_some _ _).symm.trans H; with_reducible exact H2_) | with_reducible exact H | (rw [hy288]; exact H) | exact H
      have Ny288 := Aside0.mk hy288
      clear hy288
      replace H := Option.bind_eq_some_iff.mp H
      obtain ⟨t291, A240, H⟩ := H
      replace H : ((impl_fixed.f kj15 y288 t291 a0_6).bind fun t292 => (some t292)) = some r := H
      have A24 := Aside0.mk A240
      clear A240
      replace H := Option.bind_eq_some_iff.mp H
      obtain ⟨t292, A250, H⟩ := H
      replace H : (some t292) = some r := H
      have A25 := Aside0.mk A250
      clear A250
      obtain rfl := Option.some.inj H
      have hcz26_0 : wc.cell? ⟨gb268, 0, none⟩ = some (.int .i64 a0_0) := (blk_cell BK268.out 0).trans rfl
      have hcz26_1 : wc.cell? ⟨gb268, 1, none⟩ = some (.int .i64 a0_1) := (blk_cell BK268.out 1).trans rfl
      have hcz26_2 : wc.cell? ⟨gb268, 2, none⟩ = some (.slice A0_2 l0_2.length c0_2) := (blk_cell BK268.out 2).trans rfl
      have hcz26_3 : wc.cell? ⟨gb268, 3, none⟩ = some (.slice A0_3 l0_3.length c0_3) := (blk_cell BK268.out 3).trans rfl
      have hcz26_4 : wc.cell? ⟨gb268, 4, none⟩ = some (.slice A0_4 l0_4.length c0_4) := (blk_cell BK268.out 4).trans rfl
      have hcz26_5 : wc.cell? ⟨gb268, 5, none⟩ = some (.int .i64 a0_5) := (blk_cell BK268.out 5).trans rfl
      have hcz26_6 : wc.cell? ⟨gb268, 6, none⟩ = some (.int .i64 a0_6) := (blk_cell BK268.out 6).trans rfl
      have hcz26_7 : wc.cell? ⟨gb268, 7, none⟩ = some (.int .i64 a0_7) := (blk_cell BK268.out 7).trans rfl
      have hfz26_0 := blk_frozen BK268.out 0
      have hfz26_1 := blk_frozen BK268.out 1
      have hfz26_2 := blk_frozen BK268.out 2
      have hfz26_3 := blk_frozen BK268.out 3
      have hfz26_4 := blk_frozen BK268.out 4
      have hfz26_5 := blk_frozen BK268.out 5
      have hfz26_6 := blk_frozen BK268.out 6
      have hfz26_7 := blk_frozen BK268.out 7
      try go_wp2_with (first | ((with_reducible refine gate_callee (f := 87) rfl ?_); refine goesL_ (some 27) rfl rfl Try.func87 (by kernel_rfl) rfl #[.int .u8 ((wrap64 ((wrap64 ((wrap64 (192 + (wrap64 (16 * x6_15)))) + a0_6)) - 1)) % 256), .int .i64 a0_1, .slice A0_2 l0_2.length c0_2, .slice A0_3 l0_3.length c0_3] rfl (by (try simp only [List.map_toArray, List.map_cons, List.map_nil]); first | done | rfl | (simp only [List.length_drop, List.length_take]; rfl)) ?_; (with_reducible refine (impl_longBegin.calls kj15 ((wrap64 ((wrap64 ((wrap64 (192 + (wrap64 (16 * x6_15)))) + a0_6)) - 1)) % 256) a0_1 _ _ l0_2 _ _ l0_3 t279 _ ?side1 ?side2 ?side3 ?side4 A20.out).mono ?_); (case side1 => repeat (first | exact (Kd.C_below HR0_2.out HB.out) | (with_reducible refine Kd.C_alloc ?_ _) | (with_reducible refine Kd.C_drewN ?_ _) | (with_reducible refine Kd.C_drew ?_))); (case side2 => exact HC0_2.out); (case side3 => repeat (first | exact (Kd.C_below HR0_3.out HB.out) | (with_reducible refine Kd.C_alloc ?_ _) | (with_reducible refine Kd.C_drewN ?_ _) | (with_reducible refine Kd.C_drew ?_))); (case side4 => exact HC0_3.out); rintro e w27 ⟨v280, rfl, ho0, hb⟩; refine ⟨_, rfl, ?_⟩; have n0_ := Aside0.mk (Kd.R_lower ho0 (below_size (by repeat (first | (with_reducible first | exact HB.out | apply below_alloc | apply pw_below_drewN | apply below_drew1 | refine below_set ?_ GE268.out) | exact HB.out)))); have n1_ := Aside0.mk (blk_below (g := gb268) (o := .cells #[.int .i64 a0_0, .int .i64 a0_1, .slice A0_2 l0_2.length c0_2, .slice A0_3 l0_3.length c0_3, .slice A0_4 l0_4.length c0_4, .int .i64 a0_5, .int .i64 a0_6, .int .i64 a0_7] 42 (0, 0)) (by (with_reducible repeat (first | refine blk_drewN ?_ _ | refine blk_drew ?_ | refine blk_alloc ?_ _)); exact BK268.out) hb); have n2_ := Aside0.mk (below_step (by repeat (first | (with_reducible first | exact HB.out | apply below_alloc | apply pw_below_drewN | apply below_drew1 | refine below_set ?_ GE268.out) | exact HB.out)) hb); clear BK268; clear HB; have HO281 := n0_; have BK268 := n1_; have HB := n2_; clear n0_ n1_ n2_; (try clear hb); (try clear hb2); (try clear hk); (try clear hi); (try clear ho0); have hcz28_0 : w27.cell? ⟨gb268, 0, none⟩ = some (.int .i64 a0_0) := (blk_cell BK268.out 0).trans rfl; have hcz28_1 : w27.cell? ⟨gb268, 1, none⟩ = some (.int .i64 a0_1) := (blk_cell BK268.out 1).trans rfl; have hcz28_2 : w27.cell? ⟨gb268, 2, none⟩ = some (.slice A0_2 l0_2.length c0_2) := (blk_cell BK268.out 2).trans rfl; have hcz28_3 : w27.cell? ⟨gb268, 3, none⟩ = some (.slice A0_3 l0_3.length c0_3) := (blk_cell BK268.out 3).trans rfl; have hcz28_4 : w27.cell? ⟨gb268, 4, none⟩ = some (.slice A0_4 l0_4.length c0_4) := (blk_cell BK268.out 4).trans rfl; have hcz28_5 : w27.cell? ⟨gb268, 5, none⟩ = some (.int .i64 a0_5) := (blk_cell BK268.out 5).trans rfl; have hcz28_6 : w27.cell? ⟨gb268, 6, none⟩ = some (.int .i64 a0_6) := (blk_cell BK268.out 6).trans rfl; have hcz28_7 : w27.cell? ⟨gb268, 7, none⟩ = some (.int .i64 a0_7) := (blk_cell BK268.out 7).trans rfl; have hfz28_0 := blk_frozen BK268.out 0; have hfz28_1 := blk_frozen BK268.out 1; have hfz28_2 := blk_frozen BK268.out 2; have hfz28_3 := blk_frozen BK268.out 3; have hfz28_4 := blk_frozen BK268.out 4; have hfz28_5 := blk_frozen BK268.out 5; have hfz28_6 := blk_frozen BK268.out 6; have hfz28_7 := blk_frozen BK268.out 7; obtain ⟨Ao29, co29, eo29⟩ := Kd.R_slice HO281.out; subst eo29) | ((with_reducible refine gate_callee (f := 96) rfl ?_); refine goesL_ (some 34) rfl rfl Try.func96 (by kernel_rfl) rfl #[.slice Ao29 t279.length co29, .slice A0_4 l0_4.length c0_4] rfl (by (try simp only [List.map_toArray, List.map_cons, List.map_nil]); first | done | rfl | (simp only [List.length_drop, List.length_take]; rfl)) ?_; (with_reducible refine (impl_addCounted.calls kj15 (fun k_ => some k_ = (.slice Ao29 t279.length co29 : Value).ownBlock) (.slice Ao29 t279.length co29) t279 _ _ l0_4 t282 w _ ?side1 ?side2 ?side3 ?side4 A22.out).mono ?_); (case side1 => repeat (first | (with_reducible first | exact HB.out | apply below_alloc | apply pw_below_drewN | apply below_drew1 | refine below_set ?_ GE268.out) | exact HB.out)); (case side2 => exact Kd.R_tight rfl HO281.out); (case side3 => exact Kd.C_kept_came (Kd.heap_int .u8) HR0_4.out (by repeat (first | (with_reducible first | exact HB.out | apply below_alloc | apply pw_below_drewN | apply below_drew1 | refine below_set ?_ GE268.out) | exact HB.out)) (fun k_ hs_ => (fun e_ => Kd.R_base HO281.out k_ e_.symm) hs_)); (case side4 => exact HC0_4.out); rintro e w30 ⟨v283, rfl, ho0, hb, hkp⟩; refine ⟨_, rfl, ?_⟩; have n0_ := Aside0.mk (blk_kept (by (with_reducible repeat (first | refine blk_drewN ?_ _ | refine blk_drew ?_ | refine blk_alloc ?_ _)); exact BK268.out) hkp (fun hs_ => (fun e_ => (Kd.R_ne HO281.out BK268.out (by decide)) e_) hs_)); have n1_ := Aside0.mk (Kd.R_mono (ok' := fun k_ => True) ho0 (fun k_ hk_ => trivial)); have n2_ := Aside0.mk (hb); clear BK268; clear HB; clear HO281; have BK268 := n0_; have HO284 := n1_; have HB := n2_; clear n0_ n1_ n2_; (try clear hb); (try clear hkp); (try clear ho0); have hcz31_0 : w30.cell? ⟨gb268, 0, none⟩ = some (.int .i64 a0_0) := (blk_cell BK268.out 0).trans rfl; have hcz31_1 : w30.cell? ⟨gb268, 1, none⟩ = some (.int .i64 a0_1) := (blk_cell BK268.out 1).trans rfl; have hcz31_2 : w30.cell? ⟨gb268, 2, none⟩ = some (.slice A0_2 l0_2.length c0_2) := (blk_cell BK268.out 2).trans rfl; have hcz31_3 : w30.cell? ⟨gb268, 3, none⟩ = some (.slice A0_3 l0_3.length c0_3) := (blk_cell BK268.out 3).trans rfl; have hcz31_4 : w30.cell? ⟨gb268, 4, none⟩ = some (.slice A0_4 l0_4.length c0_4) := (blk_cell BK268.out 4).trans rfl; have hcz31_5 : w30.cell? ⟨gb268, 5, none⟩ = some (.int .i64 a0_5) := (blk_cell BK268.out 5).trans rfl; have hcz31_6 : w30.cell? ⟨gb268, 6, none⟩ = some (.int .i64 a0_6) := (blk_cell BK268.out 6).trans rfl; have hcz31_7 : w30.cell? ⟨gb268, 7, none⟩ = some (.int .i64 a0_7) := (blk_cell BK268.out 7).trans rfl; have hfz31_0 := blk_frozen BK268.out 0; have hfz31_1 := blk_frozen BK268.out 1; have hfz31_2 := blk_frozen BK268.out 2; have hfz31_3 := blk_frozen BK268.out 3; have hfz31_4 := blk_frozen BK268.out 4; have hfz31_5 := blk_frozen BK268.out 5; have hfz31_6 := blk_frozen BK268.out 6; have hfz31_7 := blk_frozen BK268.out 7) | ((with_reducible refine gate_dst (N := 46) rfl ?_); refine Kd.R_lit (Kd.int .u8) _ 5 ?hg (N := 46) ?hd (xs := ([(Go.bits .or .i64 64 ((wrap64 (a0_6 + a1)) / 256)) % 256, (wrap64 (a0_6 + a1)) % 256] : List Int)) (inner := [.int .u8 ((Go.bits .or .i64 64 ((wrap64 (a0_6 + a1)) / 256)) % 256), .int .u8 ((wrap64 (a0_6 + a1)) % 256)]) (ok := fun _ => True) (okp := fun _ => True) ?hr ?hp (fun _ hk => hk) trivial (Below.refl _ _) (Nat.le_refl _) (by simp) ?_; (case hd => rfl); (case hg => rfl); (case hr => first | (go_simp; done) | (go_simp; rfl)); (case hp => exact (Reps.one (show Kd.M (Kd.int .u8) _ _ _ ((Go.bits .or .i64 64 ((wrap64 (a0_6 + a1)) / 256)) % 256) [.int .u8 ((Go.bits .or .i64 64 ((wrap64 (a0_6 + a1)) / 256)) % 256)] from rfl) (Reps.one (show Kd.M (Kd.int .u8) _ _ _ ((wrap64 (a0_6 + a1)) % 256) [.int .u8 ((wrap64 (a0_6 + a1)) % 256)] from rfl) (Reps.none _ _)))); intro v286 w32 ho33 hb hg_ hnew_; clear hg_ hnew_; (first | rw [← Ny285.out] at ho33 | (simp only [Int.reduceToNat] at ho33; rw [← Ny285.out] at ho33)); have n0_ := Aside0.mk (Kd.R_elder' (by (with_reducible repeat (first | apply Kd.R_alloc | apply Kd.R_drewN | apply Kd.R_drew)); exact HO284.out) (Kd.R_base ho33) hb); have n1_ := Aside0.mk (Kd.R_lower (Kd.R_new' ho33 (Kd.R_lt (by (with_reducible repeat (first | apply Kd.R_alloc | apply Kd.R_drewN | apply Kd.R_drew)); exact HO284.out))) (below_size (by repeat (first | (with_reducible first | exact HB.out | apply below_alloc | apply pw_below_drewN | apply below_drew1 | refine below_set ?_ GE268.out) | exact HB.out)))); have n2_ := Aside0.mk (blk_below (g := gb268) (o := .cells #[.int .i64 a0_0, .int .i64 a0_1, .slice A0_2 l0_2.length c0_2, .slice A0_3 l0_3.length c0_3, .slice A0_4 l0_4.length c0_4, .int .i64 a0_5, .int .i64 a0_6, .int .i64 a0_7] 42 (0, 0)) (by (with_reducible repeat (first | refine blk_drewN ?_ _ | refine blk_drew ?_ | refine blk_alloc ?_ _)); exact BK268.out) hb); have n3_ := Aside0.mk (below_step (by repeat (first | (with_reducible first | exact HB.out | apply below_alloc | apply pw_below_drewN | apply below_drew1 | refine below_set ?_ GE268.out) | exact HB.out)) hb); clear HO284; clear BK268; clear HB; have HO284 := n0_; have HO287 := n1_; have BK268 := n2_; have HB := n3_; clear n0_ n1_ n2_ n3_; clear hb ho33; obtain ⟨Ao35, co35, eo35⟩ := Kd.R_slice HO287.out; subst eo35) | ((with_reducible refine gate_builtin (b := .append) (xs := #[.tmp 39, .tmp 46]) rfl ?_); at_builtin; refine Kd.R_append_rows (Kd.int .u8) (w0 := w) w.heap.size rfl (.tmp 39) (.tmp 46) 22 5 (.int .u8 0) 1 rfl Try.underlying22 info5 rfl (by decide) (by omega) v283 t282 y285 _ _ _ (fun k_ => some k_ ≠ (.slice Ao35 y285.length co35 : Value).ownBlock) (fun _ => False) rfl rfl ?aO ?aR (fun _ _ h => h) (fun _ h => h.elim) ?aF ?aB ?aS ?aL ?_; (case aR => repeat (first | exact (Kd.R_reads' HO287.out).2.2 | (with_reducible refine Kd.C_alloc ?_ _) | (with_reducible refine Kd.C_drewN ?_ _) | (with_reducible refine Kd.C_drew ?_))); (case aB => exact (by repeat (first | (with_reducible first | exact HB.out | apply below_alloc | apply pw_below_drewN | apply below_drew1 | refine below_set ?_ GE268.out) | exact HB.out))); (case aF => exact (fun k_ hk => Kd.fresh' (Kd.R_lt (by (with_reducible repeat (first | apply Kd.R_alloc | apply Kd.R_drewN | apply Kd.R_drew)); exact HO287.out)) k_ hk)); (case aO => exact (by (with_reducible repeat (first | apply Kd.R_alloc | apply Kd.R_drewN | apply Kd.R_drew)); exact Kd.R_mono HO284.out (fun _ hk => hk.2))); (case aS => exact (below_size (by repeat (first | (with_reducible first | exact HB.out | apply below_alloc | apply pw_below_drewN | apply below_drew1 | refine below_set ?_ GE268.out) | exact HB.out)))); (case aL => have := LMc23.out; omega); intro v289 w34 ho hb hg hat; rw [← Ny288.out] at ho; have n0_ := Aside0.mk (blk_grown (g := gb268) (o := .cells #[.int .i64 a0_0, .int .i64 a0_1, .slice A0_2 l0_2.length c0_2, .slice A0_3 l0_3.length c0_3, .slice A0_4 l0_4.length c0_4, .int .i64 a0_5, .int .i64 a0_6, .int .i64 a0_7] 42 (0, 0)) (by (with_reducible repeat (first | refine blk_drewN ?_ _ | refine blk_drew ?_ | refine blk_alloc ?_ _)); exact BK268.out) hg (Kd.R_ne HO284.out BK268.out (by decide))); have n1_ := Aside0.mk (Kd.R_after (ok := (fun _ => True)) (by (with_reducible repeat (first | apply Kd.R_alloc | apply Kd.R_drewN | apply Kd.R_drew)); exact HO287.out) hg hat); have n2_ := Aside0.mk (hb); have n3_ := Aside0.mk (ho); clear BK268; clear HO287; clear HB; clear HO284; have BK268 := n0_; have HO287 := n1_; have HB := n2_; have HO290 := n3_; clear n0_ n1_ n2_ n3_; clear ho hb hg hat))
      have n0_ := Aside0.mk (Kd.R_drew HO287.out)
      have n1_ := Aside0.mk (Kd.R_drew HO290.out)
      have n2_ := Aside0.mk (blk_drew BK268.out)
      have n3_ := Aside0.mk (below_drew1 HB.out)
      clear HO287
      clear HO290
      clear BK268
      clear HB
      have HO287 := n0_
      have HO290 := n1_
      have BK268 := n2_
      have HB := n3_
      clear n0_ n1_ n2_ n3_
      refine start_ (n := 10) (S := fun w' => w'.cell? ⟨gb268, 0, none⟩ = some (.int .i64 a0_0) ∧ w'.cell? ⟨gb268, 1, none⟩ = some (.int .i64 a0_1) ∧ w'.cell? ⟨gb268, 2, none⟩ = some (.slice A0_2 l0_2.length c0_2) ∧ w'.cell? ⟨gb268, 3, none⟩ = some (.slice A0_3 l0_3.length c0_3) ∧ w'.cell? ⟨gb268, 4, none⟩ = some (.slice A0_4 l0_4.length c0_4) ∧ w'.cell? ⟨gb268, 5, none⟩ = some (.int .i64 a0_5) ∧ w'.cell? ⟨gb268, 6, none⟩ = some (.int .i64 a0_6) ∧ w'.cell? ⟨gb268, 7, none⟩ = some (.int .i64 a0_7)) (ds := []) #[false, false, false, false, false, false, false, false, false, false] (by kernel_rfl) rfl rfl ⟨(blk_cell BK268.out 0).trans rfl, (blk_cell BK268.out 1).trans rfl, (blk_cell BK268.out 2).trans rfl, (blk_cell BK268.out 3).trans rfl, (blk_cell BK268.out 4).trans rfl, (blk_cell BK268.out 5).trans rfl, (blk_cell BK268.out 6).trans rfl, (blk_cell BK268.out 7).trans rfl⟩ (fun hHeld => ?_); refine with_tabW impl_headBytes.tab13 impl_headBytes.bits13 (fun HT_ HW_ => ?_)
      generalize w34.drew = w36 at HO287 HO290 BK268 HB hHeld ⊢
      refine pure_ (i := 0) (N := some 63) (v := ?_) (a' := ?_) #[true, false, false, false, false, false, false, false, false, false] rfl rfl (any_of HT_.out (by kernel_rfl)) (fun _ _ _ h => h) (Or.inl ⟨by rfl, ?_⟩) ?_ ?_
      rotate_left
      ·intro w'
       go_simp
       with_reducible rfl
      rotate_left
      ·simp only [Act.put, List.setIfInBounds_toArray, List.set_cons_zero, List.set_cons_succ, i64_w, i32_w]
       rfl
      refine pure_ (i := 1) (N := some 64) (v := ?_) (a' := ?_) #[true, true, false, false, false, false, false, false, false, false] rfl rfl (any_of HT_.out (by kernel_rfl)) (fun _ _ _ h => h) (Or.inl ⟨by rfl, ?_⟩) ?_ ?_
      rotate_left
      ·intro w'
       go_simp
       with_reducible rfl
      rotate_left
      ·simp only [Act.put, List.setIfInBounds_toArray, List.set_cons_zero, List.set_cons_succ, i64_w, i32_w]
       rfl
      refine pure_ (i := 3) (N := some 66) (v := ?_) (a' := ?_) #[true, true, false, true, false, false, false, false, false, false] rfl rfl (any_of HT_.out (by kernel_rfl)) (fun _ _ _ h => h) (Or.inl ⟨by rfl, ?_⟩) ?_ ?_
      rotate_left
      ·intro w'
       go_simp
       with_reducible rfl
      rotate_left
      ·simp only [Act.put, List.setIfInBounds_toArray, List.set_cons_zero, List.set_cons_succ, i64_w, i32_w]
       rfl
      refine pure_ (i := 6) (N := some 69) (v := ?_) (a' := ?_) #[true, true, false, true, false, false, true, false, false, false] rfl rfl (any_of HT_.out (by kernel_rfl)) (fun _ _ _ h => h) (Or.inl ⟨by rfl, ?_⟩) ?_ ?_
      rotate_left
      ·intro w'
       go_simp
       with_reducible rfl
      rotate_left
      ·simp only [Act.put, List.setIfInBounds_toArray, List.set_cons_zero, List.set_cons_succ, i64_w, i32_w]
       rfl
      refine take_ (i := 2) (N := some 65) (v := ?_) (a' := ?_) #[true, true, true, true, false, false, true, false, false, false] rfl rfl (take_ofW HT_.out HW_.out (by kernel_rfl)) (fun _ _ _ h => h) (Or.inl ⟨by rfl, ?_⟩) hHeld ?_ ?_
      rotate_left
      ·rintro w' ⟨s0, s1, s2, s3, s4, s5, s6, s7⟩
       go_simp
       with_reducible rfl
      rotate_left
      ·simp only [Act.put, List.setIfInBounds_toArray, List.set_cons_zero, List.set_cons_succ, i64_w, i32_w]
       rfl
      refine take_ (i := 4) (N := some 67) (v := ?_) (a' := ?_) #[true, true, true, true, true, false, true, false, false, false] rfl rfl (take_ofW HT_.out HW_.out (by kernel_rfl)) (fun _ _ _ h => h) (Or.inl ⟨by rfl, ?_⟩) hHeld ?_ ?_
      rotate_left
      ·rintro w' ⟨s0, s1, s2, s3, s4, s5, s6, s7⟩
       go_simp
       with_reducible rfl
      rotate_left
      ·simp only [Act.put, List.setIfInBounds_toArray, List.set_cons_zero, List.set_cons_succ, i64_w, i32_w]
       rfl
      refine take_ (i := 7) (N := some 70) (v := ?_) (a' := ?_) #[true, true, true, true, true, false, true, true, false, false] rfl rfl (take_ofW HT_.out HW_.out (by kernel_rfl)) (fun _ _ _ h => h) (Or.inl ⟨by rfl, ?_⟩) hHeld ?_ ?_
      rotate_left
      ·rintro w' ⟨s0, s1, s2, s3, s4, s5, s6, s7⟩
       go_simp
       with_reducible rfl
      rotate_left
      ·simp only [Act.put, List.setIfInBounds_toArray, List.set_cons_zero, List.set_cons_succ, i64_w, i32_w]
       rfl
      refine one_ (i := 5) (N := some 68) #[true, true, true, true, true, true, true, true, false, false] rfl rfl (one_of HT_.out (by kernel_rfl)) (by decide) (fun K hK => ?_)
      refine goes_ Try.func53 (by kernel_rfl) rfl #[.int .i64 a0_5, .int .i64 a0_6] (by rfl) rfl rfl (by (try simp only [List.map_toArray, List.map_cons, List.map_nil]); first | done | rfl | (simp only [List.length_drop, List.length_take]; rfl)) ?_
      with_reducible refine (impl_CutNum.calls a0_5 a0_6 t291 _ A24.out).mono ?_
      rintro e w' ⟨rfl, ⟨nd, rfl⟩⟩
      refine ⟨_, rfl, ?_⟩
      obtain ⟨Ao37, co37, eo37⟩ := Kd.R_slice HO290.out
      (first | subst eo37 | (injection eo37 with f1_ f2_ f3_; have f4_ := f1_.symm; have f5_ := f3_.symm; clear f1_ f2_ f3_; subst f4_; subst f5_))
      refine hK.out _ _ ⟨(blk_cell BK268.out 0).trans rfl, (blk_cell BK268.out 1).trans rfl, (blk_cell BK268.out 2).trans rfl, (blk_cell BK268.out 3).trans rfl, (blk_cell BK268.out 4).trans rfl, (blk_cell BK268.out 5).trans rfl, (blk_cell BK268.out 6).trans rfl, (blk_cell BK268.out 7).trans rfl⟩ (fun hHeld => ?_)
      clear hK K
      refine norm_ (a' := ?_) ?_ ?_
      rotate_left
      ·show Act.put _ (some 68) _ = _
       simp only [Act.put, List.setIfInBounds_toArray, List.set_cons_zero, List.set_cons_succ, i64_w, i32_w]
       rfl
      refine one_ (i := 8) (N := some 71) #[true, true, true, true, true, true, true, true, true, false] rfl rfl (one_of HT_.out (by kernel_rfl)) (by decide) (fun K hK => ?_)
      refine goes_ Try.func89 (by kernel_rfl) rfl #[.slice Ao37 y288.length co37, .int .i64 t291, .int .i64 a0_6] (by rfl) rfl rfl (by (try simp only [List.map_toArray, List.map_cons, List.map_nil]); first | done | rfl | (simp only [List.length_drop, List.length_take]; rfl)) ?_
      with_reducible refine (impl_fixed.calls kj15 (fun k_ => some k_ = (.slice Ao37 y288.length co37 : Value).ownBlock) (.slice Ao37 y288.length co37) y288 t291 a0_6 t292 w _ ?side1 ?side2 A25.out).mono ?_
      (case side1 => repeat (first | (with_reducible first | exact HB.out | apply below_alloc | apply pw_below_drewN | apply below_drew1 | refine below_set ?_ GE268.out) | exact HB.out))
      (case side2 => exact Kd.R_tight rfl HO290.out)
      rintro e w38 ⟨v293, rfl, ho0, hb, hkp⟩
      refine ⟨_, rfl, ?_⟩
      have n0_ := Aside0.mk (blk_kept (by (with_reducible repeat (first | refine blk_drewN ?_ _ | refine blk_drew ?_ | refine blk_alloc ?_ _)); exact BK268.out) hkp (fun hs_ => (fun e_ => (Kd.R_ne HO290.out BK268.out (by decide)) e_) hs_))
      have n1_ := Aside0.mk (Kd.R_mono (ok' := fun k_ => some k_ ≠ (v293 : Value).ownBlock) (Kd.R_keptB (HO287.out) hkp (fun k_ hk_ hs_ => (hk_.2) hs_)) (fun k_ hk_ => fun e_ => Or.elim (ho0.1 k_ e_.symm) (fun hs_ => hk_.2.1 hs_) (fun hn_ => Nat.not_le.2 hk_.2.2 hn_)))
      have n2_ := Aside0.mk (Kd.R_mono (ok' := fun k_ => some k_ ≠ (.slice Ao35 y285.length co35 : Value).ownBlock) ho0 (fun k_ hk_ => Or.elim hk_ (fun hs_ => fun e_ => (((HO287.out).1 k_ e_.symm).2) hs_) (fun hn_ => (Kd.fresh' (Kd.R_lt (by (with_reducible repeat (first | apply Kd.R_alloc | apply Kd.R_drewN | apply Kd.R_drew)); exact HO287.out)) k_ hn_))))
      have n3_ := Aside0.mk (hb)
      clear BK268
      clear HO287
      clear HB
      clear HO290
      have BK268 := n0_
      have HO287 := n1_
      have HO294 := n2_
      have HB := n3_
      clear n0_ n1_ n2_ n3_
      (try clear hb)
      (try clear hkp)
      (try clear ho0)
      refine hK.out _ _ ⟨(blk_cell BK268.out 0).trans rfl, (blk_cell BK268.out 1).trans rfl, (blk_cell BK268.out 2).trans rfl, (blk_cell BK268.out 3).trans rfl, (blk_cell BK268.out 4).trans rfl, (blk_cell BK268.out 5).trans rfl, (blk_cell BK268.out 6).trans rfl, (blk_cell BK268.out 7).trans rfl⟩ (fun hHeld => ?_)
      clear hK K
      refine norm_ (a' := ?_) ?_ ?_
      rotate_left
      ·show Act.put _ (some 71) _ = _
       simp only [Act.put, List.setIfInBounds_toArray, List.set_cons_zero, List.set_cons_succ, i64_w, i32_w]
       rfl
      refine pure_ (i := 9) (N := some 4) (v := ?_) (a' := ?_) #[true, true, true, true, true, true, true, true, true, true] rfl rfl (any_of HT_.out (by kernel_rfl)) (fun _ _ _ h => h) (Or.inl ⟨by rfl, ?_⟩) ?_ ?_
      rotate_left
      ·intro w'
       go_simp
       with_reducible rfl
      rotate_left
      ·simp only [Act.put, List.setIfInBounds_toArray, List.set_cons_zero, List.set_cons_succ, i64_w, i32_w]
       rfl
      refine done_ (done_of HT_.out (by kernel_rfl)) ?_
      try go_wp2
      go_ret
      exact ⟨_, by first | rfl | (simp [errW_none, errW_some] <;> rfl) | (simp [*, errW_none, errW_some] <;> rfl), by (with_reducible repeat (first | apply Kd.R_alloc | apply Kd.R_drewN | apply Kd.R_drew)); exact Kd.R_mono HO294.out (fun _ hk => trivial), by repeat (first | (with_reducible first | exact HB.out | apply below_alloc | apply pw_below_drewN | apply below_drew1 | refine below_set ?_ GE268.out) | exact HB.out)⟩
     ·rw [if_neg c23] at H
      exact absurd H (by simp)
    ·rw [if_neg c21] at H
     have c21b0 : (a0_0 == 1) = false := beq_eq_false_iff_ne.mpr c21
     have c21b1 : (a0_0 != 1) = true := bne_iff_ne.mpr c21
     obtain ⟨y295, hy295⟩ : ∃ y_ : List Int, y_ = (([(Go.bits .or .i64 64 ((wrap64 (a0_6 + a1)) / 256)) % 256, (wrap64 (a0_6 + a1)) % 256] : List Int)) := ⟨_, rfl⟩
     replace H : (if t279.length + y295.length < 140737488355328 then ((impl_CutNum.f a0_5 a0_6).bind fun t301 => ((impl_fixed.f kj15 (t279 ++ y295) t301 a0_6).bind fun t302 => (some t302))) else (none)) = some r := by first | (rw [hy295]; with_reducible exact H) | (have H2_ := (Option.bind_some _ _).symm.trans H; rw [hy295]; with_reducible exact H2_) | (have H2_ := (Option.bind_some _ _).symm.trans H; with_reducible exact H2_) | with_reducible exact H | (rw [hy295]; exact H) | exact H
     have Ny295 := Aside0.mk hy295
     clear hy295
     by_cases c39 : t279.length + y295.length < 140737488355328
     ·rw [if_pos c39] at H
      have LMc39 := Aside0.mk c39
      clear c39
      obtain ⟨y298, hy298⟩ : ∃ y_ : List Int, y_ = (t279 ++ y295) := ⟨_, rfl⟩
      replace H : ((impl_CutNum.f a0_5 a0_6).bind fun t301 => ((impl_fixed.f kj15 y298 t301 a0_6).bind fun t302 => (some t302))) = some r := by first | (rw [hy298]; with_reducible exact H) | (have H2_ := (Option.bind_some _ _).symm.trans H; rw [hy298]; with_reducible exact H2_) | (have H2_ := (Option.bind_some _ _).symm.trans H; with_reducible exact H2_) | with_reducible exact H | (rw [hy298]; exact H) | exact H
      have Ny298 := Aside0.mk hy298
      clear hy298
      replace H := Option.bind_eq_some_iff.mp H
      obtain ⟨t301, A400, H⟩ := H
      replace H : ((impl_fixed.f kj15 y298 t301 a0_6).bind fun t302 => (some t302)) = some r := H
      have A40 := Aside0.mk A400
      clear A400
      replace H := Option.bind_eq_some_iff.mp H
      obtain ⟨t302, A410, H⟩ := H
      replace H : (some t302) = some r := H
      have A41 := Aside0.mk A410
      clear A410
      obtain rfl := Option.some.inj H
      have hcz42_0 : wc.cell? ⟨gb268, 0, none⟩ = some (.int .i64 a0_0) := (blk_cell BK268.out 0).trans rfl
      have hcz42_1 : wc.cell? ⟨gb268, 1, none⟩ = some (.int .i64 a0_1) := (blk_cell BK268.out 1).trans rfl
      have hcz42_2 : wc.cell? ⟨gb268, 2, none⟩ = some (.slice A0_2 l0_2.length c0_2) := (blk_cell BK268.out 2).trans rfl
      have hcz42_3 : wc.cell? ⟨gb268, 3, none⟩ = some (.slice A0_3 l0_3.length c0_3) := (blk_cell BK268.out 3).trans rfl
      have hcz42_4 : wc.cell? ⟨gb268, 4, none⟩ = some (.slice A0_4 l0_4.length c0_4) := (blk_cell BK268.out 4).trans rfl
      have hcz42_5 : wc.cell? ⟨gb268, 5, none⟩ = some (.int .i64 a0_5) := (blk_cell BK268.out 5).trans rfl
      have hcz42_6 : wc.cell? ⟨gb268, 6, none⟩ = some (.int .i64 a0_6) := (blk_cell BK268.out 6).trans rfl
      have hcz42_7 : wc.cell? ⟨gb268, 7, none⟩ = some (.int .i64 a0_7) := (blk_cell BK268.out 7).trans rfl
      have hfz42_0 := blk_frozen BK268.out 0
      have hfz42_1 := blk_frozen BK268.out 1
      have hfz42_2 := blk_frozen BK268.out 2
      have hfz42_3 := blk_frozen BK268.out 3
      have hfz42_4 := blk_frozen BK268.out 4
      have hfz42_5 := blk_frozen BK268.out 5
      have hfz42_6 := blk_frozen BK268.out 6
      have hfz42_7 := blk_frozen BK268.out 7
      try go_wp2_with (first | ((with_reducible refine gate_callee (f := 87) rfl ?_); refine goesL_ (some 27) rfl rfl Try.func87 (by kernel_rfl) rfl #[.int .u8 ((wrap64 ((wrap64 ((wrap64 (192 + (wrap64 (16 * x6_15)))) + a0_6)) - 1)) % 256), .int .i64 a0_1, .slice A0_2 l0_2.length c0_2, .slice A0_3 l0_3.length c0_3] rfl (by (try simp only [List.map_toArray, List.map_cons, List.map_nil]); first | done | rfl | (simp only [List.length_drop, List.length_take]; rfl)) ?_; (with_reducible refine (impl_longBegin.calls kj15 ((wrap64 ((wrap64 ((wrap64 (192 + (wrap64 (16 * x6_15)))) + a0_6)) - 1)) % 256) a0_1 _ _ l0_2 _ _ l0_3 t279 _ ?side1 ?side2 ?side3 ?side4 A20.out).mono ?_); (case side1 => repeat (first | exact (Kd.C_below HR0_2.out HB.out) | (with_reducible refine Kd.C_alloc ?_ _) | (with_reducible refine Kd.C_drewN ?_ _) | (with_reducible refine Kd.C_drew ?_))); (case side2 => exact HC0_2.out); (case side3 => repeat (first | exact (Kd.C_below HR0_3.out HB.out) | (with_reducible refine Kd.C_alloc ?_ _) | (with_reducible refine Kd.C_drewN ?_ _) | (with_reducible refine Kd.C_drew ?_))); (case side4 => exact HC0_3.out); rintro e w43 ⟨v280, rfl, ho0, hb⟩; refine ⟨_, rfl, ?_⟩; have n0_ := Aside0.mk (Kd.R_lower ho0 (below_size (by repeat (first | (with_reducible first | exact HB.out | apply below_alloc | apply pw_below_drewN | apply below_drew1 | refine below_set ?_ GE268.out) | exact HB.out)))); have n1_ := Aside0.mk (blk_below (g := gb268) (o := .cells #[.int .i64 a0_0, .int .i64 a0_1, .slice A0_2 l0_2.length c0_2, .slice A0_3 l0_3.length c0_3, .slice A0_4 l0_4.length c0_4, .int .i64 a0_5, .int .i64 a0_6, .int .i64 a0_7] 42 (0, 0)) (by (with_reducible repeat (first | refine blk_drewN ?_ _ | refine blk_drew ?_ | refine blk_alloc ?_ _)); exact BK268.out) hb); have n2_ := Aside0.mk (below_step (by repeat (first | (with_reducible first | exact HB.out | apply below_alloc | apply pw_below_drewN | apply below_drew1 | refine below_set ?_ GE268.out) | exact HB.out)) hb); clear BK268; clear HB; have HO281 := n0_; have BK268 := n1_; have HB := n2_; clear n0_ n1_ n2_; (try clear hb); (try clear hb2); (try clear hk); (try clear hi); (try clear ho0); have hcz44_0 : w43.cell? ⟨gb268, 0, none⟩ = some (.int .i64 a0_0) := (blk_cell BK268.out 0).trans rfl; have hcz44_1 : w43.cell? ⟨gb268, 1, none⟩ = some (.int .i64 a0_1) := (blk_cell BK268.out 1).trans rfl; have hcz44_2 : w43.cell? ⟨gb268, 2, none⟩ = some (.slice A0_2 l0_2.length c0_2) := (blk_cell BK268.out 2).trans rfl; have hcz44_3 : w43.cell? ⟨gb268, 3, none⟩ = some (.slice A0_3 l0_3.length c0_3) := (blk_cell BK268.out 3).trans rfl; have hcz44_4 : w43.cell? ⟨gb268, 4, none⟩ = some (.slice A0_4 l0_4.length c0_4) := (blk_cell BK268.out 4).trans rfl; have hcz44_5 : w43.cell? ⟨gb268, 5, none⟩ = some (.int .i64 a0_5) := (blk_cell BK268.out 5).trans rfl; have hcz44_6 : w43.cell? ⟨gb268, 6, none⟩ = some (.int .i64 a0_6) := (blk_cell BK268.out 6).trans rfl; have hcz44_7 : w43.cell? ⟨gb268, 7, none⟩ = some (.int .i64 a0_7) := (blk_cell BK268.out 7).trans rfl; have hfz44_0 := blk_frozen BK268.out 0; have hfz44_1 := blk_frozen BK268.out 1; have hfz44_2 := blk_frozen BK268.out 2; have hfz44_3 := blk_frozen BK268.out 3; have hfz44_4 := blk_frozen BK268.out 4; have hfz44_5 := blk_frozen BK268.out 5; have hfz44_6 := blk_frozen BK268.out 6; have hfz44_7 := blk_frozen BK268.out 7) | ((with_reducible refine gate_dst (N := 46) rfl ?_); refine Kd.R_lit (Kd.int .u8) _ 5 ?hg (N := 46) ?hd (xs := ([(Go.bits .or .i64 64 ((wrap64 (a0_6 + a1)) / 256)) % 256, (wrap64 (a0_6 + a1)) % 256] : List Int)) (inner := [.int .u8 ((Go.bits .or .i64 64 ((wrap64 (a0_6 + a1)) / 256)) % 256), .int .u8 ((wrap64 (a0_6 + a1)) % 256)]) (ok := fun _ => True) (okp := fun _ => True) ?hr ?hp (fun _ hk => hk) trivial (Below.refl _ _) (Nat.le_refl _) (by simp) ?_; (case hd => rfl); (case hg => rfl); (case hr => first | (go_simp; done) | (go_simp; rfl)); (case hp => exact (Reps.one (show Kd.M (Kd.int .u8) _ _ _ ((Go.bits .or .i64 64 ((wrap64 (a0_6 + a1)) / 256)) % 256) [.int .u8 ((Go.bits .or .i64 64 ((wrap64 (a0_6 + a1)) / 256)) % 256)] from rfl) (Reps.one (show Kd.M (Kd.int .u8) _ _ _ ((wrap64 (a0_6 + a1)) % 256) [.int .u8 ((wrap64 (a0_6 + a1)) % 256)] from rfl) (Reps.none _ _)))); intro v296 w45 ho46 hb hg_ hnew_; clear hg_ hnew_; (first | rw [← Ny295.out] at ho46 | (simp only [Int.reduceToNat] at ho46; rw [← Ny295.out] at ho46)); have n0_ := Aside0.mk (Kd.R_elder' (by (with_reducible repeat (first | apply Kd.R_alloc | apply Kd.R_drewN | apply Kd.R_drew)); exact HO281.out) (Kd.R_base ho46) hb); have n1_ := Aside0.mk (Kd.R_lower (Kd.R_new' ho46 (Kd.R_lt (by (with_reducible repeat (first | apply Kd.R_alloc | apply Kd.R_drewN | apply Kd.R_drew)); exact HO281.out))) (below_size (by repeat (first | (with_reducible first | exact HB.out | apply below_alloc | apply pw_below_drewN | apply below_drew1 | refine below_set ?_ GE268.out) | exact HB.out)))); have n2_ := Aside0.mk (blk_below (g := gb268) (o := .cells #[.int .i64 a0_0, .int .i64 a0_1, .slice A0_2 l0_2.length c0_2, .slice A0_3 l0_3.length c0_3, .slice A0_4 l0_4.length c0_4, .int .i64 a0_5, .int .i64 a0_6, .int .i64 a0_7] 42 (0, 0)) (by (with_reducible repeat (first | refine blk_drewN ?_ _ | refine blk_drew ?_ | refine blk_alloc ?_ _)); exact BK268.out) hb); have n3_ := Aside0.mk (below_step (by repeat (first | (with_reducible first | exact HB.out | apply below_alloc | apply pw_below_drewN | apply below_drew1 | refine below_set ?_ GE268.out) | exact HB.out)) hb); clear HO281; clear BK268; clear HB; have HO281 := n0_; have HO297 := n1_; have BK268 := n2_; have HB := n3_; clear n0_ n1_ n2_ n3_; clear hb ho46; obtain ⟨Ao48, co48, eo48⟩ := Kd.R_slice HO297.out; subst eo48) | ((with_reducible refine gate_builtin (b := .append) (xs := #[.tmp 39, .tmp 46]) rfl ?_); at_builtin; refine Kd.R_append_rows (Kd.int .u8) (w0 := w) w.heap.size rfl (.tmp 39) (.tmp 46) 22 5 (.int .u8 0) 1 rfl Try.underlying22 info5 rfl (by decide) (by omega) v280 t279 y295 _ _ _ (fun k_ => some k_ ≠ (.slice Ao48 y295.length co48 : Value).ownBlock) (fun _ => False) rfl rfl ?aO ?aR (fun _ _ h => h) (fun _ h => h.elim) ?aF ?aB ?aS ?aL ?_; (case aR => repeat (first | exact (Kd.R_reads' HO297.out).2.2 | (with_reducible refine Kd.C_alloc ?_ _) | (with_reducible refine Kd.C_drewN ?_ _) | (with_reducible refine Kd.C_drew ?_))); (case aB => exact (by repeat (first | (with_reducible first | exact HB.out | apply below_alloc | apply pw_below_drewN | apply below_drew1 | refine below_set ?_ GE268.out) | exact HB.out))); (case aF => exact (fun k_ hk => Kd.fresh' (Kd.R_lt (by (with_reducible repeat (first | apply Kd.R_alloc | apply Kd.R_drewN | apply Kd.R_drew)); exact HO297.out)) k_ hk)); (case aO => exact (by (with_reducible repeat (first | apply Kd.R_alloc | apply Kd.R_drewN | apply Kd.R_drew)); exact Kd.R_mono HO281.out (fun _ hk => hk.2))); (case aS => exact (below_size (by repeat (first | (with_reducible first | exact HB.out | apply below_alloc | apply pw_below_drewN | apply below_drew1 | refine below_set ?_ GE268.out) | exact HB.out)))); (case aL => have := LMc39.out; omega); intro v299 w47 ho hb hg hat; rw [← Ny298.out] at ho; have n0_ := Aside0.mk (blk_grown (g := gb268) (o := .cells #[.int .i64 a0_0, .int .i64 a0_1, .slice A0_2 l0_2.length c0_2, .slice A0_3 l0_3.length c0_3, .slice A0_4 l0_4.length c0_4, .int .i64 a0_5, .int .i64 a0_6, .int .i64 a0_7] 42 (0, 0)) (by (with_reducible repeat (first | refine blk_drewN ?_ _ | refine blk_drew ?_ | refine blk_alloc ?_ _)); exact BK268.out) hg (Kd.R_ne HO281.out BK268.out (by decide))); have n1_ := Aside0.mk (Kd.R_after (ok := (fun _ => True)) (by (with_reducible repeat (first | apply Kd.R_alloc | apply Kd.R_drewN | apply Kd.R_drew)); exact HO297.out) hg hat); have n2_ := Aside0.mk (hb); have n3_ := Aside0.mk (ho); clear BK268; clear HO297; clear HB; clear HO281; have BK268 := n0_; have HO297 := n1_; have HB := n2_; have HO300 := n3_; clear n0_ n1_ n2_ n3_; clear ho hb hg hat))
      have n0_ := Aside0.mk (Kd.R_drew HO297.out)
      have n1_ := Aside0.mk (Kd.R_drew HO300.out)
      have n2_ := Aside0.mk (blk_drew BK268.out)
      have n3_ := Aside0.mk (below_drew1 HB.out)
      clear HO297
      clear HO300
      clear BK268
      clear HB
      have HO297 := n0_
      have HO300 := n1_
      have BK268 := n2_
      have HB := n3_
      clear n0_ n1_ n2_ n3_
      refine start_ (n := 10) (S := fun w' => w'.cell? ⟨gb268, 0, none⟩ = some (.int .i64 a0_0) ∧ w'.cell? ⟨gb268, 1, none⟩ = some (.int .i64 a0_1) ∧ w'.cell? ⟨gb268, 2, none⟩ = some (.slice A0_2 l0_2.length c0_2) ∧ w'.cell? ⟨gb268, 3, none⟩ = some (.slice A0_3 l0_3.length c0_3) ∧ w'.cell? ⟨gb268, 4, none⟩ = some (.slice A0_4 l0_4.length c0_4) ∧ w'.cell? ⟨gb268, 5, none⟩ = some (.int .i64 a0_5) ∧ w'.cell? ⟨gb268, 6, none⟩ = some (.int .i64 a0_6) ∧ w'.cell? ⟨gb268, 7, none⟩ = some (.int .i64 a0_7)) (ds := []) #[false, false, false, false, false, false, false, false, false, false] (by kernel_rfl) rfl rfl ⟨(blk_cell BK268.out 0).trans rfl, (blk_cell BK268.out 1).trans rfl, (blk_cell BK268.out 2).trans rfl, (blk_cell BK268.out 3).trans rfl, (blk_cell BK268.out 4).trans rfl, (blk_cell BK268.out 5).trans rfl, (blk_cell BK268.out 6).trans rfl, (blk_cell BK268.out 7).trans rfl⟩ (fun hHeld => ?_); refine with_tabW impl_headBytes.tab13 impl_headBytes.bits13 (fun HT_ HW_ => ?_)
      generalize w47.drew = w49 at HO297 HO300 BK268 HB hHeld ⊢
      refine pure_ (i := 0) (N := some 63) (v := ?_) (a' := ?_) #[true, false, false, false, false, false, false, false, false, false] rfl rfl (any_of HT_.out (by kernel_rfl)) (fun _ _ _ h => h) (Or.inl ⟨by rfl, ?_⟩) ?_ ?_
      rotate_left
      ·intro w'
       go_simp
       with_reducible rfl
      rotate_left
      ·simp only [Act.put, List.setIfInBounds_toArray, List.set_cons_zero, List.set_cons_succ, i64_w, i32_w]
       rfl
      refine pure_ (i := 1) (N := some 64) (v := ?_) (a' := ?_) #[true, true, false, false, false, false, false, false, false, false] rfl rfl (any_of HT_.out (by kernel_rfl)) (fun _ _ _ h => h) (Or.inl ⟨by rfl, ?_⟩) ?_ ?_
      rotate_left
      ·intro w'
       go_simp
       with_reducible rfl
      rotate_left
      ·simp only [Act.put, List.setIfInBounds_toArray, List.set_cons_zero, List.set_cons_succ, i64_w, i32_w]
       rfl
      refine pure_ (i := 3) (N := some 66) (v := ?_) (a' := ?_) #[true, true, false, true, false, false, false, false, false, false] rfl rfl (any_of HT_.out (by kernel_rfl)) (fun _ _ _ h => h) (Or.inl ⟨by rfl, ?_⟩) ?_ ?_
      rotate_left
      ·intro w'
       go_simp
       with_reducible rfl
      rotate_left
      ·simp only [Act.put, List.setIfInBounds_toArray, List.set_cons_zero, List.set_cons_succ, i64_w, i32_w]
       rfl
      refine pure_ (i := 6) (N := some 69) (v := ?_) (a' := ?_) #[true, true, false, true, false, false, true, false, false, false] rfl rfl (any_of HT_.out (by kernel_rfl)) (fun _ _ _ h => h) (Or.inl ⟨by rfl, ?_⟩) ?_ ?_
      rotate_left
      ·intro w'
       go_simp
       with_reducible rfl
      rotate_left
      ·simp only [Act.put, List.setIfInBounds_toArray, List.set_cons_zero, List.set_cons_succ, i64_w, i32_w]
       rfl
      refine take_ (i := 2) (N := some 65) (v := ?_) (a' := ?_) #[true, true, true, true, false, false, true, false, false, false] rfl rfl (take_ofW HT_.out HW_.out (by kernel_rfl)) (fun _ _ _ h => h) (Or.inl ⟨by rfl, ?_⟩) hHeld ?_ ?_
      rotate_left
      ·rintro w' ⟨s0, s1, s2, s3, s4, s5, s6, s7⟩
       go_simp
       with_reducible rfl
      rotate_left
      ·simp only [Act.put, List.setIfInBounds_toArray, List.set_cons_zero, List.set_cons_succ, i64_w, i32_w]
       rfl
      refine take_ (i := 4) (N := some 67) (v := ?_) (a' := ?_) #[true, true, true, true, true, false, true, false, false, false] rfl rfl (take_ofW HT_.out HW_.out (by kernel_rfl)) (fun _ _ _ h => h) (Or.inl ⟨by rfl, ?_⟩) hHeld ?_ ?_
      rotate_left
      ·rintro w' ⟨s0, s1, s2, s3, s4, s5, s6, s7⟩
       go_simp
       with_reducible rfl
      rotate_left
      ·simp only [Act.put, List.setIfInBounds_toArray, List.set_cons_zero, List.set_cons_succ, i64_w, i32_w]
       rfl
      refine take_ (i := 7) (N := some 70) (v := ?_) (a' := ?_) #[true, true, true, true, true, false, true, true, false, false] rfl rfl (take_ofW HT_.out HW_.out (by kernel_rfl)) (fun _ _ _ h => h) (Or.inl ⟨by rfl, ?_⟩) hHeld ?_ ?_
      rotate_left
      ·rintro w' ⟨s0, s1, s2, s3, s4, s5, s6, s7⟩
       go_simp
       with_reducible rfl
      rotate_left
      ·simp only [Act.put, List.setIfInBounds_toArray, List.set_cons_zero, List.set_cons_succ, i64_w, i32_w]
       rfl
      refine one_ (i := 5) (N := some 68) #[true, true, true, true, true, true, true, true, false, false] rfl rfl (one_of HT_.out (by kernel_rfl)) (by decide) (fun K hK => ?_)
      refine goes_ Try.func53 (by kernel_rfl) rfl #[.int .i64 a0_5, .int .i64 a0_6] (by rfl) rfl rfl (by (try simp only [List.map_toArray, List.map_cons, List.map_nil]); first | done | rfl | (simp only [List.length_drop, List.length_take]; rfl)) ?_
      with_reducible refine (impl_CutNum.calls a0_5 a0_6 t301 _ A40.out).mono ?_
      rintro e w' ⟨rfl, ⟨nd, rfl⟩⟩
      refine ⟨_, rfl, ?_⟩
      obtain ⟨Ao50, co50, eo50⟩ := Kd.R_slice HO300.out
      (first | subst eo50 | (injection eo50 with f1_ f2_ f3_; have f4_ := f1_.symm; have f5_ := f3_.symm; clear f1_ f2_ f3_; subst f4_; subst f5_))
      refine hK.out _ _ ⟨(blk_cell BK268.out 0).trans rfl, (blk_cell BK268.out 1).trans rfl, (blk_cell BK268.out 2).trans rfl, (blk_cell BK268.out 3).trans rfl, (blk_cell BK268.out 4).trans rfl, (blk_cell BK268.out 5).trans rfl, (blk_cell BK268.out 6).trans rfl, (blk_cell BK268.out 7).trans rfl⟩ (fun hHeld => ?_)
      clear hK K
      refine norm_ (a' := ?_) ?_ ?_
      rotate_left
      ·show Act.put _ (some 68) _ = _
       simp only [Act.put, List.setIfInBounds_toArray, List.set_cons_zero, List.set_cons_succ, i64_w, i32_w]
       rfl
      refine one_ (i := 8) (N := some 71) #[true, true, true, true, true, true, true, true, true, false] rfl rfl (one_of HT_.out (by kernel_rfl)) (by decide) (fun K hK => ?_)
      refine goes_ Try.func89 (by kernel_rfl) rfl #[.slice Ao50 y298.length co50, .int .i64 t301, .int .i64 a0_6] (by rfl) rfl rfl (by (try simp only [List.map_toArray, List.map_cons, List.map_nil]); first | done | rfl | (simp only [List.length_drop, List.length_take]; rfl)) ?_
      with_reducible refine (impl_fixed.calls kj15 (fun k_ => some k_ = (.slice Ao50 y298.length co50 : Value).ownBlock) (.slice Ao50 y298.length co50) y298 t301 a0_6 t302 w _ ?side1 ?side2 A41.out).mono ?_
      (case side1 => repeat (first | (with_reducible first | exact HB.out | apply below_alloc | apply pw_below_drewN | apply below_drew1 | refine below_set ?_ GE268.out) | exact HB.out))
      (case side2 => exact Kd.R_tight rfl HO300.out)
      rintro e w51 ⟨v303, rfl, ho0, hb, hkp⟩
      refine ⟨_, rfl, ?_⟩
      have n0_ := Aside0.mk (blk_kept (by (with_reducible repeat (first | refine blk_drewN ?_ _ | refine blk_drew ?_ | refine blk_alloc ?_ _)); exact BK268.out) hkp (fun hs_ => (fun e_ => (Kd.R_ne HO300.out BK268.out (by decide)) e_) hs_))
      have n1_ := Aside0.mk (Kd.R_mono (ok' := fun k_ => some k_ ≠ (v303 : Value).ownBlock) (Kd.R_keptB (HO297.out) hkp (fun k_ hk_ hs_ => (hk_.2) hs_)) (fun k_ hk_ => fun e_ => Or.elim (ho0.1 k_ e_.symm) (fun hs_ => hk_.2.1 hs_) (fun hn_ => Nat.not_le.2 hk_.2.2 hn_)))
      have n2_ := Aside0.mk (Kd.R_mono (ok' := fun k_ => some k_ ≠ (.slice Ao48 y295.length co48 : Value).ownBlock) ho0 (fun k_ hk_ => Or.elim hk_ (fun hs_ => fun e_ => (((HO297.out).1 k_ e_.symm).2) hs_) (fun hn_ => (Kd.fresh' (Kd.R_lt (by (with_reducible repeat (first | apply Kd.R_alloc | apply Kd.R_drewN | apply Kd.R_drew)); exact HO297.out)) k_ hn_))))
      have n3_ := Aside0.mk (hb)
      clear BK268
      clear HO297
      clear HB
      clear HO300
      have BK268 := n0_
      have HO297 := n1_
      have HO304 := n2_
      have HB := n3_
      clear n0_ n1_ n2_ n3_
      (try clear hb)
      (try clear hkp)
      (try clear ho0)
      refine hK.out _ _ ⟨(blk_cell BK268.out 0).trans rfl, (blk_cell BK268.out 1).trans rfl, (blk_cell BK268.out 2).trans rfl, (blk_cell BK268.out 3).trans rfl, (blk_cell BK268.out 4).trans rfl, (blk_cell BK268.out 5).trans rfl, (blk_cell BK268.out 6).trans rfl, (blk_cell BK268.out 7).trans rfl⟩ (fun hHeld => ?_)
      clear hK K
      refine norm_ (a' := ?_) ?_ ?_
      rotate_left
      ·show Act.put _ (some 71) _ = _
       simp only [Act.put, List.setIfInBounds_toArray, List.set_cons_zero, List.set_cons_succ, i64_w, i32_w]
       rfl
      refine pure_ (i := 9) (N := some 4) (v := ?_) (a' := ?_) #[true, true, true, true, true, true, true, true, true, true] rfl rfl (any_of HT_.out (by kernel_rfl)) (fun _ _ _ h => h) (Or.inl ⟨by rfl, ?_⟩) ?_ ?_
      rotate_left
      ·intro w'
       go_simp
       with_reducible rfl
      rotate_left
      ·simp only [Act.put, List.setIfInBounds_toArray, List.set_cons_zero, List.set_cons_succ, i64_w, i32_w]
       rfl
      refine done_ (done_of HT_.out (by kernel_rfl)) ?_
      try go_wp2
      go_ret
      exact ⟨_, by first | rfl | (simp [errW_none, errW_some] <;> rfl) | (simp [*, errW_none, errW_some] <;> rfl), by (with_reducible repeat (first | apply Kd.R_alloc | apply Kd.R_drewN | apply Kd.R_drew)); exact Kd.R_mono HO304.out (fun _ hk => trivial), by repeat (first | (with_reducible first | exact HB.out | apply below_alloc | apply pw_below_drewN | apply below_drew1 | refine below_set ?_ GE268.out) | exact HB.out)⟩
     ·rw [if_neg c39] at H
      exact absurd H (by simp)

/-! ### impl_HeadBytes: function 31 -/
def impl_HeadBytes.f (k : Nat) (a0_0 : Int) (a0_1 : Int) (l0_2 : List Int) (l0_3 : List Int) (l0_4 : List Int) (a0_5 : Int) (a0_6 : Int) (a0_7 : Int) (a1 : Int) : Option (List Int × Int) := (impl_headerOK.f k a0_0 a0_1 l0_2 l0_3 l0_4 a0_5 a0_6 a0_7).bind fun t306 => (if t306 = true then (if a1 < 8 then (some (([] : List Int), 1)) else (if a1 > 1508 then (some (([] : List Int), 1)) else ((impl_headBytes.f k a0_0 a0_1 l0_2 l0_3 l0_4 a0_5 a0_6 a0_7 a1).bind fun t307 => (some (t307, 0))))) else (some (([] : List Int), 1)))
theorem impl_HeadBytes.mono : ∀ a0 a1 a2 a3 a4 a5 a6 a7 a8 k, LeO (impl_HeadBytes.f k a0 a1 a2 a3 a4 a5 a6 a7 a8) (impl_HeadBytes.f (k + 1) a0 a1 a2 a3 a4 a5 a6 a7 a8) := by
 intro a0 a1 a2 a3 a4 a5 a6 a7 a8 k
 unfold impl_HeadBytes.f
 repeat' first
   | (with_reducible exact impl_headBytes.mono _ _ _ _ _ _ _ _ _ _)
   | (with_reducible exact impl_headerOK.mono _ _ _ _ _ _ _ _ _)
   | (with_reducible exact LeO.refl _)
   | (with_reducible exact LeO.none _)
   | (with_reducible refine LeO.ite ?_ ?_)
   | (with_reducible refine LeO.bind ?_ (fun _ => ?_))
   | exact impl_headBytes.mono _ _ _ _ _ _ _ _ _ _
   | exact impl_headerOK.mono _ _ _ _ _ _ _ _ _
   | exact LeO.none _
   | refine LeO.ite ?_ ?_
   | refine LeO.bind ?_ (fun _ => ?_)
set_option maxHeartbeats 8000000 in
set_option maxRecDepth 100000 in
theorem impl_HeadBytes.calls (k : Nat) (a0_0 : Int) (a0_1 : Int) (A0_2 : Option Addr) (c0_2 : Nat) (l0_2 : List Int) (A0_3 : Option Addr) (c0_3 : Nat) (l0_3 : List Int) (A0_4 : Option Addr) (c0_4 : Nat) (l0_4 : List Int) (a0_5 : Int) (a0_6 : Int) (a0_7 : Int) (a1 : Int) (r1 : List Int) (r2 : Int) (w : World) (hr0_2 : Kd.C (Kd.int .u8) w A0_2 l0_2.length l0_2) (hc0_2 : l0_2.length ≤ c0_2) (hr0_3 : Kd.C (Kd.int .u8) w A0_3 l0_3.length l0_3) (hc0_3 : l0_3.length ≤ c0_3) (hr0_4 : Kd.C (Kd.int .u8) w A0_4 l0_4.length l0_4) (hc0_4 : l0_4.length ≤ c0_4) (h : impl_HeadBytes.f k a0_0 a0_1 l0_2 l0_3 l0_4 a0_5 a0_6 a0_7 a1 = some (r1, r2)) :
  Calls Try.prog 31 #[.agg #[.int .i64 a0_0, .int .i64 a0_1, .slice A0_2 l0_2.length c0_2, .slice A0_3 l0_3.length c0_3, .slice A0_4 l0_4.length c0_4, .int .i64 a0_5, .int .i64 a0_6, .int .i64 a0_7], .int .i64 a1] w fun e w' => ∃ v0_ : Value, e = .returned (.tuple #[v0_, .int .i64 r2]) ∧ Kd.R (Kd.int .u8) 5 w' w.heap.size (fun _ => True) v0_ r1 ∧ Below w.heap.size w w' := by
 have hu42 := Try.underlying42
 have HR0_2 := Aside0.mk hr0_2
 have HC0_2 := Aside0.mk hc0_2
 clear hr0_2 hc0_2
 have HR0_3 := Aside0.mk hr0_3
 have HC0_3 := Aside0.mk hc0_3
 clear hr0_3 hc0_3
 have HR0_4 := Aside0.mk hr0_4
 have HC0_4 := Aside0.mk hc0_4
 clear hr0_4 hc0_4
 have HB := Aside0.mk (Below.refl w.heap.size w)
 have H : ((impl_headerOK.f k a0_0 a0_1 l0_2 l0_3 l0_4 a0_5 a0_6 a0_7).bind fun t306 => (if t306 = true then (if a1 < 8 then (some (([] : List Int), 1)) else (if a1 > 1508 then (some (([] : List Int), 1)) else ((impl_headBytes.f k a0_0 a0_1 l0_2 l0_3 l0_4 a0_5 a0_6 a0_7 a1).bind fun t307 => (some (t307, 0))))) else (some (([] : List Int), 1)))) = some (r1, r2) := h
 clear h
 replace H := Option.bind_eq_some_iff.mp H
 obtain ⟨t306, A30, H⟩ := H
 replace H : (if t306 = true then (if a1 < 8 then (some (([] : List Int), 1)) else (if a1 > 1508 then (some (([] : List Int), 1)) else ((impl_headBytes.f k a0_0 a0_1 l0_2 l0_3 l0_4 a0_5 a0_6 a0_7 a1).bind fun t307 => (some (t307, 0))))) else (some (([] : List Int), 1))) = some (r1, r2) := H
 have A3 := Aside0.mk A30
 clear A30
 by_cases c4 : t306 = true
 ·subst c4
  have H1 : (if a1 < 8 then (some (([] : List Int), 1)) else (if a1 > 1508 then (some (([] : List Int), 1)) else ((impl_headBytes.f k a0_0 a0_1 l0_2 l0_3 l0_4 a0_5 a0_6 a0_7 a1).bind fun t307 => (some (t307, 0))))) = some (r1, r2) := by rw [if_pos rfl] at H; exact H
  clear H
  have H := H1
  clear H1
  by_cases c5 : a1 < 8
  ·rw [if_pos c5] at H
   have c5b0 : decide (a1 < 8) = true := decide_eq_true c5
   clear c5
   simp only [Option.some.injEq, Prod.mk.injEq] at H
   obtain ⟨rfl, rfl⟩ := H
   go_enter Try.func31, Try.ntmps31
   go_wp2_with (first | ((with_reducible refine gate_dst (N := 2) rfl ?_); refine box_event ?hg (N := 2) ?hd (cs := #[.int .i64 a0_0, .int .i64 a0_1, .slice A0_2 l0_2.length c0_2, .slice A0_3 l0_3.length c0_3, .slice A0_4 l0_4.length c0_4, .int .i64 a0_5, .int .i64 a0_6, .int .i64 a0_7]) (t := 42) ?hr ?_; (case hd => rfl); (case hg => rfl); (case hr => first | (go_simp; done) | (go_simp; rfl)); intro gb305 hg w6 hbox hb; have n0_ := Aside0.mk (below_step (by repeat (first | (with_reducible first | exact HB.out | apply below_alloc | apply pw_below_drewN | apply below_drew1) | exact HB.out)) hb); have n1_ := Aside0.mk (hbox); have n2_ := Aside0.mk ((by rw [hg]; exact (below_size (by repeat (first | (with_reducible first | exact HB.out | apply below_alloc | apply pw_below_drewN | apply below_drew1) | exact HB.out))) : w.heap.size ≤ gb305)); have n3_ := Aside0.mk ((by rw [hg]; exact (below_size (by repeat (first | (with_reducible first | exact HB.out | apply below_alloc | apply pw_below_drewN | apply below_drew1) | exact HB.out))) : w.heap.size ≤ gb305)); clear HB; have HB := n0_; have BK305 := n1_; have GW305 := n2_; have GE305 := n3_; clear n0_ n1_ n2_ n3_; clear hb hbox hg; have hcz7_0 : w6.cell? ⟨gb305, 0, none⟩ = some (.int .i64 a0_0) := (blk_cell BK305.out 0).trans rfl; have hcz7_1 : w6.cell? ⟨gb305, 1, none⟩ = some (.int .i64 a0_1) := (blk_cell BK305.out 1).trans rfl; have hcz7_2 : w6.cell? ⟨gb305, 2, none⟩ = some (.slice A0_2 l0_2.length c0_2) := (blk_cell BK305.out 2).trans rfl; have hcz7_3 : w6.cell? ⟨gb305, 3, none⟩ = some (.slice A0_3 l0_3.length c0_3) := (blk_cell BK305.out 3).trans rfl; have hcz7_4 : w6.cell? ⟨gb305, 4, none⟩ = some (.slice A0_4 l0_4.length c0_4) := (blk_cell BK305.out 4).trans rfl; have hcz7_5 : w6.cell? ⟨gb305, 5, none⟩ = some (.int .i64 a0_5) := (blk_cell BK305.out 5).trans rfl; have hcz7_6 : w6.cell? ⟨gb305, 6, none⟩ = some (.int .i64 a0_6) := (blk_cell BK305.out 6).trans rfl; have hcz7_7 : w6.cell? ⟨gb305, 7, none⟩ = some (.int .i64 a0_7) := (blk_cell BK305.out 7).trans rfl; have hfz7_0 := blk_frozen BK305.out 0; have hfz7_1 := blk_frozen BK305.out 1; have hfz7_2 := blk_frozen BK305.out 2; have hfz7_3 := blk_frozen BK305.out 3; have hfz7_4 := blk_frozen BK305.out 4; have hfz7_5 := blk_frozen BK305.out 5; have hfz7_6 := blk_frozen BK305.out 6; have hfz7_7 := blk_frozen BK305.out 7) | ((with_reducible refine gate_callee (f := 69) rfl ?_); refine goesL_ (some 7) rfl rfl Try.func69 (by kernel_rfl) rfl #[.agg #[.int .i64 a0_0, .int .i64 a0_1, .slice A0_2 l0_2.length c0_2, .slice A0_3 l0_3.length c0_3, .slice A0_4 l0_4.length c0_4, .int .i64 a0_5, .int .i64 a0_6, .int .i64 a0_7]] rfl (by (try simp only [List.map_toArray, List.map_cons, List.map_nil]); first | done | rfl | (simp only [List.length_drop, List.length_take]; rfl)) ?_; (with_reducible refine (impl_headerOK.calls k a0_0 a0_1 _ _ l0_2 _ _ l0_3 _ _ l0_4 a0_5 a0_6 a0_7 true _ ?side1 ?side2 ?side3 ?side4 ?side5 ?side6 A3.out).mono ?_); (case side1 => repeat (first | exact (Kd.C_below HR0_2.out HB.out) | (with_reducible refine Kd.C_alloc ?_ _) | (with_reducible refine Kd.C_drewN ?_ _) | (with_reducible refine Kd.C_drew ?_))); (case side2 => exact HC0_2.out); (case side3 => repeat (first | exact (Kd.C_below HR0_3.out HB.out) | (with_reducible refine Kd.C_alloc ?_ _) | (with_reducible refine Kd.C_drewN ?_ _) | (with_reducible refine Kd.C_drew ?_))); (case side4 => exact HC0_3.out); (case side5 => repeat (first | exact (Kd.C_below HR0_4.out HB.out) | (with_reducible refine Kd.C_alloc ?_ _) | (with_reducible refine Kd.C_drewN ?_ _) | (with_reducible refine Kd.C_drew ?_))); (case side6 => exact HC0_4.out); rintro e w8 ⟨rfl, hb⟩; refine ⟨_, rfl, ?_⟩; have n0_ := Aside0.mk (blk_below (g := gb305) (o := .cells #[.int .i64 a0_0, .int .i64 a0_1, .slice A0_2 l0_2.length c0_2, .slice A0_3 l0_3.length c0_3, .slice A0_4 l0_4.length c0_4, .int .i64 a0_5, .int .i64 a0_6, .int .i64 a0_7] 42 (0, 0)) (by (with_reducible repeat (first | refine blk_drewN ?_ _ | refine blk_drew ?_ | refine blk_alloc ?_ _)); exact BK305.out) hb); have n1_ := Aside0.mk (below_step (by repeat (first | (with_reducible first | exact HB.out | apply below_alloc | apply pw_below_drewN | apply below_drew1 | refine below_set ?_ GE305.out) | exact HB.out)) hb); clear BK305; clear HB; have BK305 := n0_; have HB := n1_; clear n0_ n1_; (try clear hb); (try clear hb2); (try clear hk); (try clear hi)))
   go_ret2
   exact ⟨_, by first | rfl | (simp [errW_none, errW_some] <;> rfl) | (simp [*, errW_none, errW_some] <;> rfl), by first | exact Kd.R_nil _ _ _ _ _ | exact Kd.N_nil _ _ _ _ _ | exact Kd.V_nil _ _ _ _ _ | exact Kd.Q_nil _ _ _ _ _ | exact Kd.S_nil _ _ _ _ _, by repeat (first | (with_reducible first | exact HB.out | apply below_alloc | apply pw_below_drewN | apply below_drew1 | refine below_set ?_ GE305.out) | exact HB.out)⟩
  ·rw [if_neg c5] at H
   have c5b0 : decide (a1 < 8) = false := decide_eq_false c5
   clear c5
   by_cases c9 : a1 > 1508
   ·rw [if_pos c9] at H
    have c9b0 : decide (1508 < a1) = true := decide_eq_true c9
    clear c9
    simp only [Option.some.injEq, Prod.mk.injEq] at H
    obtain ⟨rfl, rfl⟩ := H
    go_enter Try.func31, Try.ntmps31
    go_wp2_with (first | ((with_reducible refine gate_dst (N := 2) rfl ?_); refine box_event ?hg (N := 2) ?hd (cs := #[.int .i64 a0_0, .int .i64 a0_1, .slice A0_2 l0_2.length c0_2, .slice A0_3 l0_3.length c0_3, .slice A0_4 l0_4.length c0_4, .int .i64 a0_5, .int .i64 a0_6, .int .i64 a0_7]) (t := 42) ?hr ?_; (case hd => rfl); (case hg => rfl); (case hr => first | (go_simp; done) | (go_simp; rfl)); intro gb305 hg w10 hbox hb; have n0_ := Aside0.mk (below_step (by repeat (first | (with_reducible first | exact HB.out | apply below_alloc | apply pw_below_drewN | apply below_drew1) | exact HB.out)) hb); have n1_ := Aside0.mk (hbox); have n2_ := Aside0.mk ((by rw [hg]; exact (below_size (by repeat (first | (with_reducible first | exact HB.out | apply below_alloc | apply pw_below_drewN | apply below_drew1) | exact HB.out))) : w.heap.size ≤ gb305)); have n3_ := Aside0.mk ((by rw [hg]; exact (below_size (by repeat (first | (with_reducible first | exact HB.out | apply below_alloc | apply pw_below_drewN | apply below_drew1) | exact HB.out))) : w.heap.size ≤ gb305)); clear HB; have HB := n0_; have BK305 := n1_; have GW305 := n2_; have GE305 := n3_; clear n0_ n1_ n2_ n3_; clear hb hbox hg; have hcz11_0 : w10.cell? ⟨gb305, 0, none⟩ = some (.int .i64 a0_0) := (blk_cell BK305.out 0).trans rfl; have hcz11_1 : w10.cell? ⟨gb305, 1, none⟩ = some (.int .i64 a0_1) := (blk_cell BK305.out 1).trans rfl; have hcz11_2 : w10.cell? ⟨gb305, 2, none⟩ = some (.slice A0_2 l0_2.length c0_2) := (blk_cell BK305.out 2).trans rfl; have hcz11_3 : w10.cell? ⟨gb305, 3, none⟩ = some (.slice A0_3 l0_3.length c0_3) := (blk_cell BK305.out 3).trans rfl; have hcz11_4 : w10.cell? ⟨gb305, 4, none⟩ = some (.slice A0_4 l0_4.length c0_4) := (blk_cell BK305.out 4).trans rfl; have hcz11_5 : w10.cell? ⟨gb305, 5, none⟩ = some (.int .i64 a0_5) := (blk_cell BK305.out 5).trans rfl; have hcz11_6 : w10.cell? ⟨gb305, 6, none⟩ = some (.int .i64 a0_6) := (blk_cell BK305.out 6).trans rfl; have hcz11_7 : w10.cell? ⟨gb305, 7, none⟩ = some (.int .i64 a0_7) := (blk_cell BK305.out 7).trans rfl; have hfz11_0 := blk_frozen BK305.out 0; have hfz11_1 := blk_frozen BK305.out 1; have hfz11_2 := blk_frozen BK305.out 2; have hfz11_3 := blk_frozen BK305.out 3; have hfz11_4 := blk_frozen BK305.out 4; have hfz11_5 := blk_frozen BK305.out 5; have hfz11_6 := blk_frozen BK305.out 6; have hfz11_7 := blk_frozen BK305.out 7) | ((with_reducible refine gate_callee (f := 69) rfl ?_); refine goesL_ (some 7) rfl rfl Try.func69 (by kernel_rfl) rfl #[.agg #[.int .i64 a0_0, .int .i64 a0_1, .slice A0_2 l0_2.length c0_2, .slice A0_3 l0_3.length c0_3, .slice A0_4 l0_4.length c0_4, .int .i64 a0_5, .int .i64 a0_6, .int .i64 a0_7]] rfl (by (try simp only [List.map_toArray, List.map_cons, List.map_nil]); first | done | rfl | (simp only [List.length_drop, List.length_take]; rfl)) ?_; (with_reducible refine (impl_headerOK.calls k a0_0 a0_1 _ _ l0_2 _ _ l0_3 _ _ l0_4 a0_5 a0_6 a0_7 true _ ?side1 ?side2 ?side3 ?side4 ?side5 ?side6 A3.out).mono ?_); (case side1 => repeat (first | exact (Kd.C_below HR0_2.out HB.out) | (with_reducible refine Kd.C_alloc ?_ _) | (with_reducible refine Kd.C_drewN ?_ _) | (with_reducible refine Kd.C_drew ?_))); (case side2 => exact HC0_2.out); (case side3 => repeat (first | exact (Kd.C_below HR0_3.out HB.out) | (with_reducible refine Kd.C_alloc ?_ _) | (with_reducible refine Kd.C_drewN ?_ _) | (with_reducible refine Kd.C_drew ?_))); (case side4 => exact HC0_3.out); (case side5 => repeat (first | exact (Kd.C_below HR0_4.out HB.out) | (with_reducible refine Kd.C_alloc ?_ _) | (with_reducible refine Kd.C_drewN ?_ _) | (with_reducible refine Kd.C_drew ?_))); (case side6 => exact HC0_4.out); rintro e w12 ⟨rfl, hb⟩; refine ⟨_, rfl, ?_⟩; have n0_ := Aside0.mk (blk_below (g := gb305) (o := .cells #[.int .i64 a0_0, .int .i64 a0_1, .slice A0_2 l0_2.length c0_2, .slice A0_3 l0_3.length c0_3, .slice A0_4 l0_4.length c0_4, .int .i64 a0_5, .int .i64 a0_6, .int .i64 a0_7] 42 (0, 0)) (by (with_reducible repeat (first | refine blk_drewN ?_ _ | refine blk_drew ?_ | refine blk_alloc ?_ _)); exact BK305.out) hb); have n1_ := Aside0.mk (below_step (by repeat (first | (with_reducible first | exact HB.out | apply below_alloc | apply pw_below_drewN | apply below_drew1 | refine below_set ?_ GE305.out) | exact HB.out)) hb); clear BK305; clear HB; have BK305 := n0_; have HB := n1_; clear n0_ n1_; (try clear hb); (try clear hb2); (try clear hk); (try clear hi)))
    go_ret2
    exact ⟨_, by first | rfl | (simp [errW_none, errW_some] <;> rfl) | (simp [*, errW_none, errW_some] <;> rfl), by first | exact Kd.R_nil _ _ _ _ _ | exact Kd.N_nil _ _ _ _ _ | exact Kd.V_nil _ _ _ _ _ | exact Kd.Q_nil _ _ _ _ _ | exact Kd.S_nil _ _ _ _ _, by repeat (first | (with_reducible first | exact HB.out | apply below_alloc | apply pw_below_drewN | apply below_drew1 | refine below_set ?_ GE305.out) | exact HB.out)⟩
   ·rw [if_neg c9] at H
    have c9b0 : decide (1508 < a1) = false := decide_eq_false c9
    clear c9
    replace H := Option.bind_eq_some_iff.mp H
    obtain ⟨t307, A130, H⟩ := H
    replace H : (some (t307, 0)) = some (r1, r2) := H
    have A13 := Aside0.mk A130
    clear A130
    simp only [Option.some.injEq, Prod.mk.injEq] at H
    obtain ⟨rfl, rfl⟩ := H
    go_enter Try.func31, Try.ntmps31
    go_wp2_with (first | ((with_reducible refine gate_dst (N := 2) rfl ?_); refine box_event ?hg (N := 2) ?hd (cs := #[.int .i64 a0_0, .int .i64 a0_1, .slice A0_2 l0_2.length c0_2, .slice A0_3 l0_3.length c0_3, .slice A0_4 l0_4.length c0_4, .int .i64 a0_5, .int .i64 a0_6, .int .i64 a0_7]) (t := 42) ?hr ?_; (case hd => rfl); (case hg => rfl); (case hr => first | (go_simp; done) | (go_simp; rfl)); intro gb305 hg w14 hbox hb; have n0_ := Aside0.mk (below_step (by repeat (first | (with_reducible first | exact HB.out | apply below_alloc | apply pw_below_drewN | apply below_drew1) | exact HB.out)) hb); have n1_ := Aside0.mk (hbox); have n2_ := Aside0.mk ((by rw [hg]; exact (below_size (by repeat (first | (with_reducible first | exact HB.out | apply below_alloc | apply pw_below_drewN | apply below_drew1) | exact HB.out))) : w.heap.size ≤ gb305)); have n3_ := Aside0.mk ((by rw [hg]; exact (below_size (by repeat (first | (with_reducible first | exact HB.out | apply below_alloc | apply pw_below_drewN | apply below_drew1) | exact HB.out))) : w.heap.size ≤ gb305)); clear HB; have HB := n0_; have BK305 := n1_; have GW305 := n2_; have GE305 := n3_; clear n0_ n1_ n2_ n3_; clear hb hbox hg; have hcz15_0 : w14.cell? ⟨gb305, 0, none⟩ = some (.int .i64 a0_0) := (blk_cell BK305.out 0).trans rfl; have hcz15_1 : w14.cell? ⟨gb305, 1, none⟩ = some (.int .i64 a0_1) := (blk_cell BK305.out 1).trans rfl; have hcz15_2 : w14.cell? ⟨gb305, 2, none⟩ = some (.slice A0_2 l0_2.length c0_2) := (blk_cell BK305.out 2).trans rfl; have hcz15_3 : w14.cell? ⟨gb305, 3, none⟩ = some (.slice A0_3 l0_3.length c0_3) := (blk_cell BK305.out 3).trans rfl; have hcz15_4 : w14.cell? ⟨gb305, 4, none⟩ = some (.slice A0_4 l0_4.length c0_4) := (blk_cell BK305.out 4).trans rfl; have hcz15_5 : w14.cell? ⟨gb305, 5, none⟩ = some (.int .i64 a0_5) := (blk_cell BK305.out 5).trans rfl; have hcz15_6 : w14.cell? ⟨gb305, 6, none⟩ = some (.int .i64 a0_6) := (blk_cell BK305.out 6).trans rfl; have hcz15_7 : w14.cell? ⟨gb305, 7, none⟩ = some (.int .i64 a0_7) := (blk_cell BK305.out 7).trans rfl; have hfz15_0 := blk_frozen BK305.out 0; have hfz15_1 := blk_frozen BK305.out 1; have hfz15_2 := blk_frozen BK305.out 2; have hfz15_3 := blk_frozen BK305.out 3; have hfz15_4 := blk_frozen BK305.out 4; have hfz15_5 := blk_frozen BK305.out 5; have hfz15_6 := blk_frozen BK305.out 6; have hfz15_7 := blk_frozen BK305.out 7) | ((with_reducible refine gate_callee (f := 69) rfl ?_); refine goesL_ (some 7) rfl rfl Try.func69 (by kernel_rfl) rfl #[.agg #[.int .i64 a0_0, .int .i64 a0_1, .slice A0_2 l0_2.length c0_2, .slice A0_3 l0_3.length c0_3, .slice A0_4 l0_4.length c0_4, .int .i64 a0_5, .int .i64 a0_6, .int .i64 a0_7]] rfl (by (try simp only [List.map_toArray, List.map_cons, List.map_nil]); first | done | rfl | (simp only [List.length_drop, List.length_take]; rfl)) ?_; (with_reducible refine (impl_headerOK.calls k a0_0 a0_1 _ _ l0_2 _ _ l0_3 _ _ l0_4 a0_5 a0_6 a0_7 true _ ?side1 ?side2 ?side3 ?side4 ?side5 ?side6 A3.out).mono ?_); (case side1 => repeat (first | exact (Kd.C_below HR0_2.out HB.out) | (with_reducible refine Kd.C_alloc ?_ _) | (with_reducible refine Kd.C_drewN ?_ _) | (with_reducible refine Kd.C_drew ?_))); (case side2 => exact HC0_2.out); (case side3 => repeat (first | exact (Kd.C_below HR0_3.out HB.out) | (with_reducible refine Kd.C_alloc ?_ _) | (with_reducible refine Kd.C_drewN ?_ _) | (with_reducible refine Kd.C_drew ?_))); (case side4 => exact HC0_3.out); (case side5 => repeat (first | exact (Kd.C_below HR0_4.out HB.out) | (with_reducible refine Kd.C_alloc ?_ _) | (with_reducible refine Kd.C_drewN ?_ _) | (with_reducible refine Kd.C_drew ?_))); (case side6 => exact HC0_4.out); rintro e w16 ⟨rfl, hb⟩; refine ⟨_, rfl, ?_⟩; have n0_ := Aside0.mk (blk_below (g := gb305) (o := .cells #[.int .i64 a0_0, .int .i64 a0_1, .slice A0_2 l0_2.length c0_2, .slice A0_3 l0_3.length c0_3, .slice A0_4 l0_4.length c0_4, .int .i64 a0_5, .int .i64 a0_6, .int .i64 a0_7] 42 (0, 0)) (by (with_reducible repeat (first | refine blk_drewN ?_ _ | refine blk_drew ?_ | refine blk_alloc ?_ _)); exact BK305.out) hb); have n1_ := Aside0.mk (below_step (by repeat (first | (with_reducible first | exact HB.out | apply below_alloc | apply pw_below_drewN | apply below_drew1 | refine below_set ?_ GE305.out) | exact HB.out)) hb); clear BK305; clear HB; have BK305 := n0_; have HB := n1_; clear n0_ n1_; (try clear hb); (try clear hb2); (try clear hk); (try clear hi); have hcz17_0 : w16.cell? ⟨gb305, 0, none⟩ = some (.int .i64 a0_0) := (blk_cell BK305.out 0).trans rfl; have hcz17_1 : w16.cell? ⟨gb305, 1, none⟩ = some (.int .i64 a0_1) := (blk_cell BK305.out 1).trans rfl; have hcz17_2 : w16.cell? ⟨gb305, 2, none⟩ = some (.slice A0_2 l0_2.length c0_2) := (blk_cell BK305.out 2).trans rfl; have hcz17_3 : w16.cell? ⟨gb305, 3, none⟩ = some (.slice A0_3 l0_3.length c0_3) := (blk_cell BK305.out 3).trans rfl; have hcz17_4 : w16.cell? ⟨gb305, 4, none⟩ = some (.slice A0_4 l0_4.length c0_4) := (blk_cell BK305.out 4).trans rfl; have hcz17_5 : w16.cell? ⟨gb305, 5, none⟩ = some (.int .i64 a0_5) := (blk_cell BK305.out 5).trans rfl; have hcz17_6 : w16.cell? ⟨gb305, 6, none⟩ = some (.int .i64 a0_6) := (blk_cell BK305.out 6).trans rfl; have hcz17_7 : w16.cell? ⟨gb305, 7, none⟩ = some (.int .i64 a0_7) := (blk_cell BK305.out 7).trans rfl; have hfz17_0 := blk_frozen BK305.out 0; have hfz17_1 := blk_frozen BK305.out 1; have hfz17_2 := blk_frozen BK305.out 2; have hfz17_3 := blk_frozen BK305.out 3; have hfz17_4 := blk_frozen BK305.out 4; have hfz17_5 := blk_frozen BK305.out 5; have hfz17_6 := blk_frozen BK305.out 6; have hfz17_7 := blk_frozen BK305.out 7) | ((with_reducible refine gate_callee (f := 70) rfl ?_); refine goesL_ (some 19) rfl rfl Try.func70 (by kernel_rfl) rfl #[.agg #[.int .i64 a0_0, .int .i64 a0_1, .slice A0_2 l0_2.length c0_2, .slice A0_3 l0_3.length c0_3, .slice A0_4 l0_4.length c0_4, .int .i64 a0_5, .int .i64 a0_6, .int .i64 a0_7], .int .i64 a1] rfl (by (try simp only [List.map_toArray, List.map_cons, List.map_nil]); first | done | rfl | (simp only [List.length_drop, List.length_take]; rfl)) ?_; (with_reducible refine (impl_headBytes.calls k a0_0 a0_1 _ _ l0_2 _ _ l0_3 _ _ l0_4 a0_5 a0_6 a0_7 a1 t307 _ ?side1 ?side2 ?side3 ?side4 ?side5 ?side6 A13.out).mono ?_); (case side1 => repeat (first | exact (Kd.C_below HR0_2.out HB.out) | (with_reducible refine Kd.C_alloc ?_ _) | (with_reducible refine Kd.C_drewN ?_ _) | (with_reducible refine Kd.C_drew ?_))); (case side2 => exact HC0_2.out); (case side3 => repeat (first | exact (Kd.C_below HR0_3.out HB.out) | (with_reducible refine Kd.C_alloc ?_ _) | (with_reducible refine Kd.C_drewN ?_ _) | (with_reducible refine Kd.C_drew ?_))); (case side4 => exact HC0_3.out); (case side5 => repeat (first | exact (Kd.C_below HR0_4.out HB.out) | (with_reducible refine Kd.C_alloc ?_ _) | (with_reducible refine Kd.C_drewN ?_ _) | (with_reducible refine Kd.C_drew ?_))); (case side6 => exact HC0_4.out); rintro e w18 ⟨v308, rfl, ho0, hb⟩; refine ⟨_, rfl, ?_⟩; have n0_ := Aside0.mk (Kd.R_lower ho0 (below_size (by repeat (first | (with_reducible first | exact HB.out | apply below_alloc | apply pw_below_drewN | apply below_drew1 | refine below_set ?_ GE305.out) | exact HB.out)))); have n1_ := Aside0.mk (blk_below (g := gb305) (o := .cells #[.int .i64 a0_0, .int .i64 a0_1, .slice A0_2 l0_2.length c0_2, .slice A0_3 l0_3.length c0_3, .slice A0_4 l0_4.length c0_4, .int .i64 a0_5, .int .i64 a0_6, .int .i64 a0_7] 42 (0, 0)) (by (with_reducible repeat (first | refine blk_drewN ?_ _ | refine blk_drew ?_ | refine blk_alloc ?_ _)); exact BK305.out) hb); have n2_ := Aside0.mk (below_step (by repeat (first | (with_reducible first | exact HB.out | apply below_alloc | apply pw_below_drewN | apply below_drew1 | refine below_set ?_ GE305.out) | exact HB.out)) hb); clear BK305; clear HB; have HO309 := n0_; have BK305 := n1_; have HB := n2_; clear n0_ n1_ n2_; (try clear hb); (try clear hb2); (try clear hk); (try clear hi); (try clear ho0)))
    go_ret2
    exact ⟨_, by first | rfl | (simp [errW_none, errW_some] <;> rfl) | (simp [*, errW_none, errW_some] <;> rfl), by (with_reducible repeat (first | apply Kd.R_alloc | apply Kd.R_drewN | apply Kd.R_drew)); exact HO309.out, by repeat (first | (with_reducible first | exact HB.out | apply below_alloc | apply pw_below_drewN | apply below_drew1 | refine below_set ?_ GE305.out) | exact HB.out)⟩
 ·replace c4 := Bool.eq_false_iff.mpr c4
  subst c4
  have H1 : (some (([] : List Int), 1)) = some (r1, r2) := by rw [if_neg (show ¬ (false = true) by decide)] at H; exact H
  clear H
  have H := H1
  clear H1
  simp only [Option.some.injEq, Prod.mk.injEq] at H
  obtain ⟨rfl, rfl⟩ := H
  go_enter Try.func31, Try.ntmps31
  go_wp2_with (first | ((with_reducible refine gate_dst (N := 2) rfl ?_); refine box_event ?hg (N := 2) ?hd (cs := #[.int .i64 a0_0, .int .i64 a0_1, .slice A0_2 l0_2.length c0_2, .slice A0_3 l0_3.length c0_3, .slice A0_4 l0_4.length c0_4, .int .i64 a0_5, .int .i64 a0_6, .int .i64 a0_7]) (t := 42) ?hr ?_; (case hd => rfl); (case hg => rfl); (case hr => first | (go_simp; done) | (go_simp; rfl)); intro gb305 hg w19 hbox hb; have n0_ := Aside0.mk (below_step (by repeat (first | (with_reducible first | exact HB.out | apply below_alloc | apply pw_below_drewN | apply below_drew1) | exact HB.out)) hb); have n1_ := Aside0.mk (hbox); have n2_ := Aside0.mk ((by rw [hg]; exact (below_size (by repeat (first | (with_reducible first | exact HB.out | apply below_alloc | apply pw_below_drewN | apply below_drew1) | exact HB.out))) : w.heap.size ≤ gb305)); have n3_ := Aside0.mk ((by rw [hg]; exact (below_size (by repeat (first | (with_reducible first | exact HB.out | apply below_alloc | apply pw_below_drewN | apply below_drew1) | exact HB.out))) : w.heap.size ≤ gb305)); clear HB; have HB := n0_; have BK305 := n1_; have GW305 := n2_; have GE305 := n3_; clear n0_ n1_ n2_ n3_; clear hb hbox hg; have hcz20_0 : w19.cell? ⟨gb305, 0, none⟩ = some (.int .i64 a0_0) := (blk_cell BK305.out 0).trans rfl; have hcz20_1 : w19.cell? ⟨gb305, 1, none⟩ = some (.int .i64 a0_1) := (blk_cell BK305.out 1).trans rfl; have hcz20_2 : w19.cell? ⟨gb305, 2, none⟩ = some (.slice A0_2 l0_2.length c0_2) := (blk_cell BK305.out 2).trans rfl; have hcz20_3 : w19.cell? ⟨gb305, 3, none⟩ = some (.slice A0_3 l0_3.length c0_3) := (blk_cell BK305.out 3).trans rfl; have hcz20_4 : w19.cell? ⟨gb305, 4, none⟩ = some (.slice A0_4 l0_4.length c0_4) := (blk_cell BK305.out 4).trans rfl; have hcz20_5 : w19.cell? ⟨gb305, 5, none⟩ = some (.int .i64 a0_5) := (blk_cell BK305.out 5).trans rfl; have hcz20_6 : w19.cell? ⟨gb305, 6, none⟩ = some (.int .i64 a0_6) := (blk_cell BK305.out 6).trans rfl; have hcz20_7 : w19.cell? ⟨gb305, 7, none⟩ = some (.int .i64 a0_7) := (blk_cell BK305.out 7).trans rfl; have hfz20_0 := blk_frozen BK305.out 0; have hfz20_1 := blk_frozen BK305.out 1; have hfz20_2 := blk_frozen BK305.out 2; have hfz20_3 := blk_frozen BK305.out 3; have hfz20_4 := blk_frozen BK305.out 4; have hfz20_5 := blk_frozen BK305.out 5; have hfz20_6 := blk_frozen BK305.out 6; have hfz20_7 := blk_frozen BK305.out 7) | ((with_reducible refine gate_callee (f := 69) rfl ?_); refine goesL_ (some 7) rfl rfl Try.func69 (by kernel_rfl) rfl #[.agg #[.int .i64 a0_0, .int .i64 a0_1, .slice A0_2 l0_2.length c0_2, .slice A0_3 l0_3.length c0_3, .slice A0_4 l0_4.length c0_4, .int .i64 a0_5, .int .i64 a0_6, .int .i64 a0_7]] rfl (by (try simp only [List.map_toArray, List.map_cons, List.map_nil]); first | done | rfl | (simp only [List.length_drop, List.length_take]; rfl)) ?_; (with_reducible refine (impl_headerOK.calls k a0_0 a0_1 _ _ l0_2 _ _ l0_3 _ _ l0_4 a0_5 a0_6 a0_7 false _ ?side1 ?side2 ?side3 ?side4 ?side5 ?side6 A3.out).mono ?_); (case side1 => repeat (first | exact (Kd.C_below HR0_2.out HB.out) | (with_reducible refine Kd.C_alloc ?_ _) | (with_reducible refine Kd.C_drewN ?_ _) | (with_reducible refine Kd.C_drew ?_))); (case side2 => exact HC0_2.out); (case side3 => repeat (first | exact (Kd.C_below HR0_3.out HB.out) | (with_reducible refine Kd.C_alloc ?_ _) | (with_reducible refine Kd.C_drewN ?_ _) | (with_reducible refine Kd.C_drew ?_))); (case side4 => exact HC0_3.out); (case side5 => repeat (first | exact (Kd.C_below HR0_4.out HB.out) | (with_reducible refine Kd.C_alloc ?_ _) | (with_reducible refine Kd.C_drewN ?_ _) | (with_reducible refine Kd.C_drew ?_))); (case side6 => exact HC0_4.out); rintro e w21 ⟨rfl, hb⟩; refine ⟨_, rfl, ?_⟩; have n0_ := Aside0.mk (blk_below (g := gb305) (o := .cells #[.int .i64 a0_0, .int .i64 a0_1, .slice A0_2 l0_2.length c0_2, .slice A0_3 l0_3.length c0_3, .slice A0_4 l0_4.length c0_4, .int .i64 a0_5, .int .i64 a0_6, .int .i64 a0_7] 42 (0, 0)) (by (with_reducible repeat (first | refine blk_drewN ?_ _ | refine blk_drew ?_ | refine blk_alloc ?_ _)); exact BK305.out) hb); have n1_ := Aside0.mk (below_step (by repeat (first | (with_reducible first | exact HB.out | apply below_alloc | apply pw_below_drewN | apply below_drew1 | refine below_set ?_ GE305.out) | exact HB.out)) hb); clear BK305; clear HB; have BK305 := n0_; have HB := n1_; clear n0_ n1_; (try clear hb); (try clear hb2); (try clear hk); (try clear hi)))
  go_ret2
  exact ⟨_, by first | rfl | (simp [errW_none, errW_some] <;> rfl) | (simp [*, errW_none, errW_some] <;> rfl), by first | exact Kd.R_nil _ _ _ _ _ | exact Kd.N_nil _ _ _ _ _ | exact Kd.V_nil _ _ _ _ _ | exact Kd.Q_nil _ _ _ _ _ | exact Kd.S_nil _ _ _ _ _, by repeat (first | (with_reducible first | exact HB.out | apply below_alloc | apply pw_below_drewN | apply below_drew1 | refine below_set ?_ GE305.out) | exact HB.out)⟩

end Go.Proofs.Ytdojcdhlcnlohaa.SFnExactHeadBytes
