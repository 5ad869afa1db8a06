/- The walk of functions that the law FnExactResetToken uses, written by program. -/
import Derived.Test.YtcdkbdkanjifeaaSFnExactResetTokenx0
import Derived.Test.YtcdkbdkanjifeaaSFnExactResetTokenx1
import Derived.Lib.SmallJoins
namespace Go.Proofs.Ytcdkbdkanjifeaa.SFnExactResetToken
open Go.RowKit Go.Proofs.YtcdkbdkanjifeaaW.PrintWords Go.Proofs.YtcdkbdkanjifeaaW.PrintLast Go.Proofs.YtcdkbdkanjifeaaW.PrintMore
attribute [local go_sem] max2_int min2_int max_two min_two max_three min_three max_four min_four   -- for this text's walks alone
set_option linter.unusedVariables false
set_option linter.unusedSimpArgs false

/-! ### spec_l03Digest: function 49 -/
def spec_l03Digest.l0 : Nat → Int → Int → Int → Int → Int → Option (List Int)
  | 0, _, _, _, _, _ => none
  | k + 1, x6, x126000, x126001, x126002, x126003 => if x6 < 16 then ((spec_l03Stir.f k x126000 x126001 x126002 x126003 (([165] : List Int))).bind fun bt151 => (spec_l03Digest.l0 k (wrap64 (x6 + 1)) bt151.1 bt151.2.1 bt151.2.2.1 bt151.2.2.2)) else ((spec_l01Digits.f k (wrap64 (x126000)) 4).bind fun t155 => ((spec_l01Digits.f k (wrap64 (x126001)) 4).bind fun t158 => (if t155.length + t158.length < 140737488355328 then ((some (t155 ++ t158 : List Int)).bind fun y161 => ((spec_l01Digits.f k (wrap64 (x126002)) 4).bind fun t164 => (if y161.length + t164.length < 140737488355328 then ((some (y161 ++ t164 : List Int)).bind fun y167 => ((spec_l01Digits.f k (wrap64 (x126003)) 4).bind fun t170 => (if y167.length + t170.length < 140737488355328 then (some (y167 ++ t170)) else (none)))) else (none)))) else (none))))
def spec_l03Digest.f (k : Nat) (l0 : List Int) (l1 : List Int) : Option (List Int) := (spec_l01Digits.f k (l0.length : Int) 4).bind fun t126 => ((spec_l03Stir.f k 1779033703 3144134277 1013904242 2773480762 t126).bind fun bt129 => ((spec_l03Stir.f k bt129.1 bt129.2.1 bt129.2.2.1 bt129.2.2.2 l0).bind fun bt133 => ((spec_l03Stir.f k bt133.1 bt133.2.1 bt133.2.2.1 bt133.2.2.2 l1).bind fun bt137 => ((spec_l01Digits.f k (l1.length : Int) 4).bind fun t141 => ((spec_l03Stir.f k bt137.1 bt137.2.1 bt137.2.2.1 bt137.2.2.2 t141).bind fun bt144 => (spec_l03Digest.l0 k 0 bt144.1 bt144.2.1 bt144.2.2.1 bt144.2.2.2))))))
theorem spec_l03Digest.mono_l : ∀ k, (∀ y0 y1 y2 y3 y4, LeO (spec_l03Digest.l0 k y0 y1 y2 y3 y4) (spec_l03Digest.l0 (k + 1) y0 y1 y2 y3 y4))
  | 0 => fun _ _ _ _ _ r h => by simp [spec_l03Digest.l0] at h
  | k + 1 => by
    have ih0 := spec_l03Digest.mono_l k
    · intro y0 y1 y2 y3 y4
      unfold spec_l03Digest.l0
      repeat' first
      | (with_reducible exact ih0 _ _ _ _ _)
      | (with_reducible exact spec_l01Digits.mono _ _ _)
      | (with_reducible exact spec_l03Stir.mono _ _ _ _ _ _)
      | (with_reducible exact LeO.refl _)
      | (with_reducible exact LeO.none _)
      | (with_reducible refine LeO.ite ?_ ?_)
      | (with_reducible refine LeO.bind ?_ (fun _ => ?_))
      | exact ih0 _ _ _ _ _
      | exact spec_l01Digits.mono _ _ _
      | exact spec_l03Stir.mono _ _ _ _ _ _
      | exact LeO.none _
      | refine LeO.ite ?_ ?_
      | refine LeO.bind ?_ (fun _ => ?_)
theorem spec_l03Digest.mono : ∀ a0 a1 k, LeO (spec_l03Digest.f k a0 a1) (spec_l03Digest.f (k + 1) a0 a1) := by
  intro a0 a1 k
  have ih0 := spec_l03Digest.mono_l k
  unfold spec_l03Digest.f
  repeat' first
      | (with_reducible exact ih0 _ _ _ _ _)
      | (with_reducible exact spec_l01Digits.mono _ _ _)
      | (with_reducible exact spec_l03Stir.mono _ _ _ _ _ _)
      | (with_reducible exact LeO.refl _)
      | (with_reducible exact LeO.none _)
      | (with_reducible refine LeO.ite ?_ ?_)
      | (with_reducible refine LeO.bind ?_ (fun _ => ?_))
      | exact ih0 _ _ _ _ _
      | exact spec_l01Digits.mono _ _ _
      | exact spec_l03Stir.mono _ _ _ _ _ _
      | exact LeO.none _
      | refine LeO.ite ?_ ?_
      | refine LeO.bind ?_ (fun _ => ?_)
set_option maxHeartbeats 8000000 in
set_option maxRecDepth 100000 in
theorem spec_l03Digest.calls (k : Nat) (A0 : Option Addr) (c0 : Nat) (l0 : List Int) (A1 : Option Addr) (c1 : Nat) (l1 : List Int) (r : List Int) (w : World) (hr0 : Kd.C (Kd.int .u8) w A0 l0.length l0) (hc0 : l0.length ≤ c0) (hr1 : Kd.C (Kd.int .u8) w A1 l1.length l1) (hc1 : l1.length ≤ c1) (h : spec_l03Digest.f k l0 l1 = some r) :
    Calls Try.prog 49 #[.slice A0 l0.length c0, .slice A1 l1.length c1] w fun e w' => ∃ v0_ : Value, e = .returned (v0_) ∧ Kd.R (Kd.int .u8) 5 w' w.heap.size (fun _ => True) v0_ r ∧ Below w.heap.size w w' := by
  have hu75 := Try.underlying75
  have HR0 := Aside0.mk hr0
  have HC0 := Aside0.mk hc0
  clear hr0 hc0
  have HR1 := Aside0.mk hr1
  have HC1 := Aside0.mk hc1
  clear hr1 hc1
  have HB := Aside0.mk (Below.refl w.heap.size w)
  have H : ((spec_l01Digits.f k (l0.length : Int) 4).bind fun t126 => ((spec_l03Stir.f k 1779033703 3144134277 1013904242 2773480762 t126).bind fun bt129 => ((spec_l03Stir.f k bt129.1 bt129.2.1 bt129.2.2.1 bt129.2.2.2 l0).bind fun bt133 => ((spec_l03Stir.f k bt133.1 bt133.2.1 bt133.2.2.1 bt133.2.2.2 l1).bind fun bt137 => ((spec_l01Digits.f k (l1.length : Int) 4).bind fun t141 => ((spec_l03Stir.f k bt137.1 bt137.2.1 bt137.2.2.1 bt137.2.2.2 t141).bind fun bt144 => (spec_l03Digest.l0 k 0 bt144.1 bt144.2.1 bt144.2.2.1 bt144.2.2.2))))))) = some r := h
  clear h
  replace H := Option.bind_eq_some_iff.mp H
  obtain ⟨t126, A30, H⟩ := H
  replace H : ((spec_l03Stir.f k 1779033703 3144134277 1013904242 2773480762 t126).bind fun bt129 => ((spec_l03Stir.f k bt129.1 bt129.2.1 bt129.2.2.1 bt129.2.2.2 l0).bind fun bt133 => ((spec_l03Stir.f k bt133.1 bt133.2.1 bt133.2.2.1 bt133.2.2.2 l1).bind fun bt137 => ((spec_l01Digits.f k (l1.length : Int) 4).bind fun t141 => ((spec_l03Stir.f k bt137.1 bt137.2.1 bt137.2.2.1 bt137.2.2.2 t141).bind fun bt144 => (spec_l03Digest.l0 k 0 bt144.1 bt144.2.1 bt144.2.2.1 bt144.2.2.2)))))) = some r := H
  have A3 := Aside0.mk A30
  clear A30
  replace H := Option.bind_eq_some_iff.mp H
  obtain ⟨⟨t129, t130, t131, t132⟩, A40, H⟩ := H
  replace H : ((spec_l03Stir.f k t129 t130 t131 t132 l0).bind fun bt133 => ((spec_l03Stir.f k bt133.1 bt133.2.1 bt133.2.2.1 bt133.2.2.2 l1).bind fun bt137 => ((spec_l01Digits.f k (l1.length : Int) 4).bind fun t141 => ((spec_l03Stir.f k bt137.1 bt137.2.1 bt137.2.2.1 bt137.2.2.2 t141).bind fun bt144 => (spec_l03Digest.l0 k 0 bt144.1 bt144.2.1 bt144.2.2.1 bt144.2.2.2))))) = some r := H
  have A4 := Aside0.mk A40
  clear A40
  replace H := Option.bind_eq_some_iff.mp H
  obtain ⟨⟨t133, t134, t135, t136⟩, A50, H⟩ := H
  replace H : ((spec_l03Stir.f k t133 t134 t135 t136 l1).bind fun bt137 => ((spec_l01Digits.f k (l1.length : Int) 4).bind fun t141 => ((spec_l03Stir.f k bt137.1 bt137.2.1 bt137.2.2.1 bt137.2.2.2 t141).bind fun bt144 => (spec_l03Digest.l0 k 0 bt144.1 bt144.2.1 bt144.2.2.1 bt144.2.2.2)))) = some r := H
  have A5 := Aside0.mk A50
  clear A50
  replace H := Option.bind_eq_some_iff.mp H
  obtain ⟨⟨t137, t138, t139, t140⟩, A60, H⟩ := H
  replace H : ((spec_l01Digits.f k (l1.length : Int) 4).bind fun t141 => ((spec_l03Stir.f k t137 t138 t139 t140 t141).bind fun bt144 => (spec_l03Digest.l0 k 0 bt144.1 bt144.2.1 bt144.2.2.1 bt144.2.2.2))) = some r := H
  have A6 := Aside0.mk A60
  clear A60
  replace H := Option.bind_eq_some_iff.mp H
  obtain ⟨t141, A70, H⟩ := H
  replace H : ((spec_l03Stir.f k t137 t138 t139 t140 t141).bind fun bt144 => (spec_l03Digest.l0 k 0 bt144.1 bt144.2.1 bt144.2.2.1 bt144.2.2.2)) = some r := H
  have A7 := Aside0.mk A70
  clear A70
  replace H := Option.bind_eq_some_iff.mp H
  obtain ⟨⟨t144, t145, t146, t147⟩, A80, H⟩ := H
  replace H : (spec_l03Digest.l0 k 0 t144 t145 t146 t147) = some r := H
  have A8 := Aside0.mk A80
  clear A80
  have H' := Aside0.mk H
  clear H
  go_enter Try.func49, Try.ntmps49
  try go_wp2_with (first | ((with_reducible refine gate_dst (N := 5) rfl ?_); refine box_event ?hg (N := 5) ?hd (cs := #[.int .u32 0, .int .u32 0, .int .u32 0, .int .u32 0]) (t := 75) ?hr ?_; (case hd => rfl); (case hg => rfl); (case hr => first | (go_simp; done) | (go_simp; rfl)); intro gb125 hg w9 hbox hb; have n0_ := Aside0.mk (below_step (by repeat (first | (with_reducible first | exact HB.out | apply below_alloc | apply pw_below_drewN | apply below_drew1) | exact HB.out)) hb); have n1_ := Aside0.mk (hbox); have n2_ := Aside0.mk ((by rw [hg]; exact (below_size (by repeat (first | (with_reducible first | exact HB.out | apply below_alloc | apply pw_below_drewN | apply below_drew1) | exact HB.out))) : w.heap.size ≤ gb125)); have n3_ := Aside0.mk ((by rw [hg]; exact (below_size (by repeat (first | (with_reducible first | exact HB.out | apply below_alloc | apply pw_below_drewN | apply below_drew1) | exact HB.out))) : w.heap.size ≤ gb125)); clear HB; have HB := n0_; have BK125 := n1_; have GW125 := n2_; have GE125 := n3_; clear n0_ n1_ n2_ n3_; clear hb hbox hg; have hcz10_0 : w9.cell? ⟨gb125, 0, none⟩ = some (.int .u32 0) := (blk_cell BK125.out 0).trans rfl; have hcz10_1 : w9.cell? ⟨gb125, 1, none⟩ = some (.int .u32 0) := (blk_cell BK125.out 1).trans rfl; have hcz10_2 : w9.cell? ⟨gb125, 2, none⟩ = some (.int .u32 0) := (blk_cell BK125.out 2).trans rfl; have hcz10_3 : w9.cell? ⟨gb125, 3, none⟩ = some (.int .u32 0) := (blk_cell BK125.out 3).trans rfl; have hfz10_0 := blk_frozen BK125.out 0; have hfz10_1 := blk_frozen BK125.out 1; have hfz10_2 := blk_frozen BK125.out 2; have hfz10_3 := blk_frozen BK125.out 3))
  have n0_ : Aside0 (((((w9.setCell ⟨gb125, 0, none⟩ (.int .u32 1779033703)).setCell ⟨gb125, 1, none⟩ (.int .u32 3144134277)).setCell ⟨gb125, 2, none⟩ (.int .u32 1013904242)).setCell ⟨gb125, 3, none⟩ (.int .u32 2773480762)).heap[gb125]? = some (.cells #[.int .u32 1779033703, .int .u32 3144134277, .int .u32 1013904242, .int .u32 2773480762] 75 (0, 0))) := ⟨by (with_reducible repeat (first | refine blk_drewN ?_ _ | refine blk_drew ?_ | refine blk_alloc ?_ _)); refine blk_put (cs := #[.int .u32 1779033703, .int .u32 3144134277, .int .u32 1013904242, .int .u32 0]) ?_ 3 _ rfl; (with_reducible repeat (first | refine blk_drewN ?_ _ | refine blk_drew ?_ | refine blk_alloc ?_ _)); refine blk_put (cs := #[.int .u32 1779033703, .int .u32 3144134277, .int .u32 0, .int .u32 0]) ?_ 2 _ rfl; (with_reducible repeat (first | refine blk_drewN ?_ _ | refine blk_drew ?_ | refine blk_alloc ?_ _)); refine blk_put (cs := #[.int .u32 1779033703, .int .u32 0, .int .u32 0, .int .u32 0]) ?_ 1 _ rfl; (with_reducible repeat (first | refine blk_drewN ?_ _ | refine blk_drew ?_ | refine blk_alloc ?_ _)); refine blk_put (cs := #[.int .u32 0, .int .u32 0, .int .u32 0, .int .u32 0]) ?_ 0 _ rfl; (with_reducible repeat (first | refine blk_drewN ?_ _ | refine blk_drew ?_ | refine blk_alloc ?_ _)); exact BK125.out⟩
  have n1_ : Aside0 (Below w.heap.size w ((((w9.setCell ⟨gb125, 0, none⟩ (.int .u32 1779033703)).setCell ⟨gb125, 1, none⟩ (.int .u32 3144134277)).setCell ⟨gb125, 2, none⟩ (.int .u32 1013904242)).setCell ⟨gb125, 3, none⟩ (.int .u32 2773480762))) := ⟨by repeat (first | (with_reducible first | exact HB.out | apply below_alloc | apply pw_below_drewN | apply below_drew1 | refine below_set ?_ GE125.out) | exact HB.out)⟩
  (try clear BK125)
  (try clear HB)
  generalize ((((w9.setCell ⟨gb125, 0, none⟩ (.int .u32 1779033703)).setCell ⟨gb125, 1, none⟩ (.int .u32 3144134277)).setCell ⟨gb125, 2, none⟩ (.int .u32 1013904242)).setCell ⟨gb125, 3, none⟩ (.int .u32 2773480762)) = w11 at n0_ n1_ ⊢
  have BK125 := n0_
  have HB := n1_
  clear n0_ n1_
  have n0_ := Aside0.mk (blk_drew BK125.out)
  have n1_ := Aside0.mk (below_drew1 HB.out)
  clear BK125
  clear HB
  have BK125 := n0_
  have HB := n1_
  clear n0_ n1_
  refine start_ (n := 6) (S := fun w' => w'.cell? ⟨gb125, 0, none⟩ = some (.int .u32 1779033703) ∧ w'.cell? ⟨gb125, 1, none⟩ = some (.int .u32 3144134277) ∧ w'.cell? ⟨gb125, 2, none⟩ = some (.int .u32 1013904242) ∧ w'.cell? ⟨gb125, 3, none⟩ = some (.int .u32 2773480762)) (ds := [5]) #[false, false, false, false, false, false] (by kernel_rfl) rfl rfl ⟨(blk_cell BK125.out 0).trans rfl, (blk_cell BK125.out 1).trans rfl, (blk_cell BK125.out 2).trans rfl, (blk_cell BK125.out 3).trans rfl⟩ (fun hHeld => ?_)
  generalize w11.drew = w12 at BK125 HB hHeld ⊢
  refine pure_ (i := 1) (N := some 10) (v := ?_) (a' := ?_) #[false, true, false, false, false, false] rfl rfl (by kernel_rfl) (fun _ _ _ h => h) (Or.inl ⟨by rfl, ?_⟩) ?_ ?_
  rotate_left
  · intro w'
    go_simp
    with_reducible rfl
  rotate_left
  · simp only [Act.put, List.setIfInBounds_toArray, List.set_cons_zero, List.set_cons_succ, i64_w, i32_w]
    rfl
  refine pure_ (i := 2) (N := some 11) (v := ?_) (a' := ?_) #[false, true, true, false, false, false] rfl rfl (by kernel_rfl) (fun _ _ _ h => h) (Or.inl ⟨by rfl, ?_⟩) ?_ ?_
  rotate_left
  · intro w'
    go_simp
    with_reducible rfl
  rotate_left
  · simp only [Act.put, List.setIfInBounds_toArray, List.set_cons_zero, List.set_cons_succ, i64_w, i32_w]
    rfl
  refine take_ (i := 0) (N := some 9) (v := ?_) (a' := ?_) #[true, true, true, false, false, false] rfl rfl (by kernel_rfl) (fun _ _ _ h => h) (Or.inl ⟨by rfl, ?_⟩) hHeld ?_ ?_
  rotate_left
  · rintro w' ⟨s0, s1, s2, s3⟩
    go_simp
    with_reducible rfl
  rotate_left
  · simp only [Act.put, List.setIfInBounds_toArray, List.set_cons_zero, List.set_cons_succ, i64_w, i32_w]
    rfl
  refine one_ (i := 3) (N := some 12) #[true, true, true, true, false, false] rfl rfl (by kernel_rfl) (by decide) (fun K hK => ?_)
  refine goes_ Try.func64 (by kernel_rfl) rfl #[.int .i64 (l0.length : Int), .int .i64 4] (by rfl) rfl rfl (by (try simp only [List.map_toArray, List.map_cons, List.map_nil]); first | done | rfl | (simp only [List.length_drop, List.length_take]; rfl)) ?_
  with_reducible refine (spec_l01Digits.calls k (l0.length : Int) 4 t126 _ A3.out).mono ?_
  rintro e w13 ⟨v127, rfl, ho0, hb⟩
  refine ⟨_, rfl, ?_⟩
  have n0_ := Aside0.mk (Kd.R_lower ho0 (below_size (by repeat (first | (with_reducible first | exact HB.out | apply below_alloc | apply pw_below_drewN | apply below_drew1 | refine below_set ?_ GE125.out) | exact HB.out))))
  have n1_ := Aside0.mk (blk_below (g := gb125) (o := .cells #[.int .u32 1779033703, .int .u32 3144134277, .int .u32 1013904242, .int .u32 2773480762] 75 (0, 0)) (by (with_reducible repeat (first | refine blk_drewN ?_ _ | refine blk_drew ?_ | refine blk_alloc ?_ _)); exact BK125.out) hb)
  have n2_ := Aside0.mk (below_step (by repeat (first | (with_reducible first | exact HB.out | apply below_alloc | apply pw_below_drewN | apply below_drew1 | refine below_set ?_ GE125.out) | exact HB.out)) hb)
  clear BK125
  clear HB
  have HO128 := n0_
  have BK125 := n1_
  have HB := n2_
  clear n0_ n1_ n2_
  (try clear hb)
  (try clear hb2)
  (try clear hk)
  (try clear hi)
  (try clear ho0)
  obtain ⟨Ao14, co14, eo14⟩ := Kd.R_slice HO128.out
  (first | subst eo14 | (injection eo14 with f1_ f2_ f3_; have f4_ := f1_.symm; have f5_ := f3_.symm; clear f1_ f2_ f3_; subst f4_; subst f5_))
  refine hK.out _ _ ⟨(blk_cell BK125.out 0).trans rfl, (blk_cell BK125.out 1).trans rfl, (blk_cell BK125.out 2).trans rfl, (blk_cell BK125.out 3).trans rfl⟩ (fun hHeld => ?_)
  clear hK K
  refine norm_ (a' := ?_) ?_ ?_
  rotate_left
  · show Act.put _ (some 12) _ = _
    simp only [Act.put, List.setIfInBounds_toArray, List.set_cons_zero, List.set_cons_succ, i64_w, i32_w]
    rfl
  refine one_ (i := 4) (N := some 13) #[true, true, true, true, true, false] rfl rfl (by kernel_rfl) (by decide) (fun K hK => ?_)
  refine goes_ Try.func78 (by kernel_rfl) rfl #[.agg #[.int .u32 1779033703, .int .u32 3144134277, .int .u32 1013904242, .int .u32 2773480762], .slice Ao14 t126.length co14] (by rfl) rfl rfl (by (try simp only [List.map_toArray, List.map_cons, List.map_nil]); first | done | rfl | (simp only [List.length_drop, List.length_take]; rfl)) ?_
  with_reducible refine (spec_l03Stir.calls k 1779033703 3144134277 1013904242 2773480762 _ _ t126 t129 t130 t131 t132 _ ?side1 ?side2 A4.out).mono ?_
  (case side1 => repeat (first | exact (Kd.R_reads' HO128.out).2.2 | (with_reducible refine Kd.C_alloc ?_ _) | (with_reducible refine Kd.C_drewN ?_ _) | (with_reducible refine Kd.C_drew ?_)))
  (case side2 => exact (Kd.R_reads' HO128.out).2.1)
  rintro e w15 ⟨rfl, hb⟩
  refine ⟨_, rfl, ?_⟩
  have n0_ := Aside0.mk (Kd.R_below (by (with_reducible repeat (first | apply Kd.R_alloc | apply Kd.R_drewN | apply Kd.R_drew)); exact HO128.out) hb)
  have n1_ := Aside0.mk (blk_below (g := gb125) (o := .cells #[.int .u32 1779033703, .int .u32 3144134277, .int .u32 1013904242, .int .u32 2773480762] 75 (0, 0)) (by (with_reducible repeat (first | refine blk_drewN ?_ _ | refine blk_drew ?_ | refine blk_alloc ?_ _)); exact BK125.out) hb)
  have n2_ := Aside0.mk (below_step (by repeat (first | (with_reducible first | exact HB.out | apply below_alloc | apply pw_below_drewN | apply below_drew1 | refine below_set ?_ GE125.out) | exact HB.out)) hb)
  clear HO128
  clear BK125
  clear HB
  have HO128 := n0_
  have BK125 := n1_
  have HB := n2_
  clear n0_ n1_ n2_
  (try clear hb)
  (try clear hb2)
  (try clear hk)
  (try clear hi)
  refine hK.out _ _ ⟨(blk_cell BK125.out 0).trans rfl, (blk_cell BK125.out 1).trans rfl, (blk_cell BK125.out 2).trans rfl, (blk_cell BK125.out 3).trans rfl⟩ (fun hHeld => ?_)
  clear hK K
  refine norm_ (a' := ?_) ?_ ?_
  rotate_left
  · show Act.put _ (some 13) _ = _
    simp only [Act.put, List.setIfInBounds_toArray, List.set_cons_zero, List.set_cons_succ, i64_w, i32_w]
    rfl
  refine last_ (i := 5) (N := none) #[true, true, true, true, true, true] rfl rfl (by kernel_rfl) (by decide) (fun K hK => ?_)
  have hs16 : w15.cell? ⟨gb125, 0, none⟩ = some (.int .u32 1779033703) := (blk_cell BK125.out 0).trans rfl
  have hfs16 := blk_frozen BK125.out 0
  have hs17 : w15.cell? ⟨gb125, 1, none⟩ = some (.int .u32 3144134277) := (blk_cell BK125.out 1).trans rfl
  have hfs17 := blk_frozen BK125.out 1
  have hs18 : w15.cell? ⟨gb125, 2, none⟩ = some (.int .u32 1013904242) := (blk_cell BK125.out 2).trans rfl
  have hfs18 := blk_frozen BK125.out 2
  have hs19 : w15.cell? ⟨gb125, 3, none⟩ = some (.int .u32 2773480762) := (blk_cell BK125.out 3).trans rfl
  have hfs19 := blk_frozen BK125.out 3
  refine skip_ (w1 := ?_) (by rfl) rfl ?_ ?_
  rotate_left
  · go_simp
    rfl
  refine hK.out _ _ ?_
  clear hK K
  refine done_ (by kernel_rfl) ?_
  have hcz20_0 : w15.cell? ⟨gb125, 0, none⟩ = some (.int .u32 1779033703) := (blk_cell BK125.out 0).trans rfl
  have hcz20_1 : w15.cell? ⟨gb125, 1, none⟩ = some (.int .u32 3144134277) := (blk_cell BK125.out 1).trans rfl
  have hcz20_2 : w15.cell? ⟨gb125, 2, none⟩ = some (.int .u32 1013904242) := (blk_cell BK125.out 2).trans rfl
  have hcz20_3 : w15.cell? ⟨gb125, 3, none⟩ = some (.int .u32 2773480762) := (blk_cell BK125.out 3).trans rfl
  have hfz20_0 := blk_frozen BK125.out 0
  have hfz20_1 := blk_frozen BK125.out 1
  have hfz20_2 := blk_frozen BK125.out 2
  have hfz20_3 := blk_frozen BK125.out 3
  try go_wp2_with (first | ((with_reducible refine gate_callee (f := 78) rfl ?_); refine goesL_ (some 16) rfl rfl Try.func78 (by kernel_rfl) rfl #[.agg #[.int .u32 t129, .int .u32 t130, .int .u32 t131, .int .u32 t132], .slice A0 l0.length c0] rfl (by (try simp only [List.map_toArray, List.map_cons, List.map_nil]); first | done | rfl | (simp only [List.length_drop, List.length_take]; rfl)) ?_; (with_reducible refine (spec_l03Stir.calls k t129 t130 t131 t132 _ _ l0 t133 t134 t135 t136 _ ?side1 ?side2 A5.out).mono ?_); (case side1 => exact Kd.C_below HR0.out (by repeat (first | (with_reducible first | exact HB.out | apply below_alloc | apply pw_below_drewN | apply below_drew1 | refine below_set ?_ GE125.out) | exact HB.out))); (case side2 => exact HC0.out); rintro e w21 ⟨rfl, hb⟩; refine ⟨_, rfl, ?_⟩; have n0_ := Aside0.mk (Kd.R_below (by (with_reducible repeat (first | apply Kd.R_alloc | apply Kd.R_drewN | apply Kd.R_drew)); exact (Kd.R_mono (Kd.R_far (p := ⟨gb125, 3, none⟩) (Kd.R_far (p := ⟨gb125, 2, none⟩) (Kd.R_far (p := ⟨gb125, 1, none⟩) (Kd.R_far (p := ⟨gb125, 0, none⟩) (Kd.R_types HO128.out BK125.out (by decide)) (fun _ hk => hk.2) (.int .u32 t129)) (fun _ hk => hk.2) (.int .u32 t130)) (fun _ hk => hk.2) (.int .u32 t131)) (fun _ hk => hk.2) (.int .u32 t132)) (fun _ h_ => h_.1))) hb); have n1_ := Aside0.mk (blk_below (g := gb125) (o := .cells #[.int .u32 t129, .int .u32 t130, .int .u32 t131, .int .u32 t132] 75 (0, 0)) (by (with_reducible repeat (first | refine blk_drewN ?_ _ | refine blk_drew ?_ | refine blk_alloc ?_ _)); refine blk_put (cs := #[.int .u32 t129, .int .u32 t130, .int .u32 t131, .int .u32 2773480762]) ?_ 3 _ rfl; (with_reducible repeat (first | refine blk_drewN ?_ _ | refine blk_drew ?_ | refine blk_alloc ?_ _)); refine blk_put (cs := #[.int .u32 t129, .int .u32 t130, .int .u32 1013904242, .int .u32 2773480762]) ?_ 2 _ rfl; (with_reducible repeat (first | refine blk_drewN ?_ _ | refine blk_drew ?_ | refine blk_alloc ?_ _)); refine blk_put (cs := #[.int .u32 t129, .int .u32 3144134277, .int .u32 1013904242, .int .u32 2773480762]) ?_ 1 _ rfl; (with_reducible repeat (first | refine blk_drewN ?_ _ | refine blk_drew ?_ | refine blk_alloc ?_ _)); refine blk_put (cs := #[.int .u32 1779033703, .int .u32 3144134277, .int .u32 1013904242, .int .u32 2773480762]) ?_ 0 _ rfl; (with_reducible repeat (first | refine blk_drewN ?_ _ | refine blk_drew ?_ | refine blk_alloc ?_ _)); exact BK125.out) hb); have n2_ := Aside0.mk (below_step (by repeat (first | (with_reducible first | exact HB.out | apply below_alloc | apply pw_below_drewN | apply below_drew1 | refine below_set ?_ GE125.out) | exact HB.out)) hb); clear HO128; clear BK125; clear HB; have HO128 := n0_; have BK125 := n1_; have HB := n2_; clear n0_ n1_ n2_; (try clear hb); (try clear hb2); (try clear hk); (try clear hi); have hcz22_0 : w21.cell? ⟨gb125, 0, none⟩ = some (.int .u32 t129) := (blk_cell BK125.out 0).trans rfl; have hcz22_1 : w21.cell? ⟨gb125, 1, none⟩ = some (.int .u32 t130) := (blk_cell BK125.out 1).trans rfl; have hcz22_2 : w21.cell? ⟨gb125, 2, none⟩ = some (.int .u32 t131) := (blk_cell BK125.out 2).trans rfl; have hcz22_3 : w21.cell? ⟨gb125, 3, none⟩ = some (.int .u32 t132) := (blk_cell BK125.out 3).trans rfl; have hfz22_0 := blk_frozen BK125.out 0; have hfz22_1 := blk_frozen BK125.out 1; have hfz22_2 := blk_frozen BK125.out 2; have hfz22_3 := blk_frozen BK125.out 3) | ((with_reducible refine gate_callee (f := 78) rfl ?_); refine goesL_ (some 19) rfl rfl Try.func78 (by kernel_rfl) rfl #[.agg #[.int .u32 t133, .int .u32 t134, .int .u32 t135, .int .u32 t136], .slice A1 l1.length c1] rfl (by (try simp only [List.map_toArray, List.map_cons, List.map_nil]); first | done | rfl | (simp only [List.length_drop, List.length_take]; rfl)) ?_; (with_reducible refine (spec_l03Stir.calls k t133 t134 t135 t136 _ _ l1 t137 t138 t139 t140 _ ?side1 ?side2 A6.out).mono ?_); (case side1 => exact Kd.C_below HR1.out (by repeat (first | (with_reducible first | exact HB.out | apply below_alloc | apply pw_below_drewN | apply below_drew1 | refine below_set ?_ GE125.out) | exact HB.out))); (case side2 => exact HC1.out); rintro e w23 ⟨rfl, hb⟩; refine ⟨_, rfl, ?_⟩; have n0_ := Aside0.mk (Kd.R_below (by (with_reducible repeat (first | apply Kd.R_alloc | apply Kd.R_drewN | apply Kd.R_drew)); exact (Kd.R_mono (Kd.R_far (p := ⟨gb125, 3, none⟩) (Kd.R_far (p := ⟨gb125, 2, none⟩) (Kd.R_far (p := ⟨gb125, 1, none⟩) (Kd.R_far (p := ⟨gb125, 0, none⟩) (Kd.R_types HO128.out BK125.out (by decide)) (fun _ hk => hk.2) (.int .u32 t133)) (fun _ hk => hk.2) (.int .u32 t134)) (fun _ hk => hk.2) (.int .u32 t135)) (fun _ hk => hk.2) (.int .u32 t136)) (fun _ h_ => h_.1))) hb); have n1_ := Aside0.mk (blk_below (g := gb125) (o := .cells #[.int .u32 t133, .int .u32 t134, .int .u32 t135, .int .u32 t136] 75 (0, 0)) (by (with_reducible repeat (first | refine blk_drewN ?_ _ | refine blk_drew ?_ | refine blk_alloc ?_ _)); refine blk_put (cs := #[.int .u32 t133, .int .u32 t134, .int .u32 t135, .int .u32 t132]) ?_ 3 _ rfl; (with_reducible repeat (first | refine blk_drewN ?_ _ | refine blk_drew ?_ | refine blk_alloc ?_ _)); refine blk_put (cs := #[.int .u32 t133, .int .u32 t134, .int .u32 t131, .int .u32 t132]) ?_ 2 _ rfl; (with_reducible repeat (first | refine blk_drewN ?_ _ | refine blk_drew ?_ | refine blk_alloc ?_ _)); refine blk_put (cs := #[.int .u32 t133, .int .u32 t130, .int .u32 t131, .int .u32 t132]) ?_ 1 _ rfl; (with_reducible repeat (first | refine blk_drewN ?_ _ | refine blk_drew ?_ | refine blk_alloc ?_ _)); refine blk_put (cs := #[.int .u32 t129, .int .u32 t130, .int .u32 t131, .int .u32 t132]) ?_ 0 _ rfl; (with_reducible repeat (first | refine blk_drewN ?_ _ | refine blk_drew ?_ | refine blk_alloc ?_ _)); exact BK125.out) hb); have n2_ := Aside0.mk (below_step (by repeat (first | (with_reducible first | exact HB.out | apply below_alloc | apply pw_below_drewN | apply below_drew1 | refine below_set ?_ GE125.out) | exact HB.out)) hb); clear HO128; clear BK125; clear HB; have HO128 := n0_; have BK125 := n1_; have HB := n2_; clear n0_ n1_ n2_; (try clear hb); (try clear hb2); (try clear hk); (try clear hi); have hcz24_0 : w23.cell? ⟨gb125, 0, none⟩ = some (.int .u32 t133) := (blk_cell BK125.out 0).trans rfl; have hcz24_1 : w23.cell? ⟨gb125, 1, none⟩ = some (.int .u32 t134) := (blk_cell BK125.out 1).trans rfl; have hcz24_2 : w23.cell? ⟨gb125, 2, none⟩ = some (.int .u32 t135) := (blk_cell BK125.out 2).trans rfl; have hcz24_3 : w23.cell? ⟨gb125, 3, none⟩ = some (.int .u32 t136) := (blk_cell BK125.out 3).trans rfl; have hfz24_0 := blk_frozen BK125.out 0; have hfz24_1 := blk_frozen BK125.out 1; have hfz24_2 := blk_frozen BK125.out 2; have hfz24_3 := blk_frozen BK125.out 3))
  have n0_ : Aside0 (Kd.R (Kd.int .u8) 5 ((((w23.setCell ⟨gb125, 0, none⟩ (.int .u32 t137)).setCell ⟨gb125, 1, none⟩ (.int .u32 t138)).setCell ⟨gb125, 2, none⟩ (.int .u32 t139)).setCell ⟨gb125, 3, none⟩ (.int .u32 t140)) w.heap.size (fun _ => True) (.slice Ao14 t126.length co14) t126) := ⟨by (with_reducible repeat (first | apply Kd.R_alloc | apply Kd.R_drewN | apply Kd.R_drew)); exact Kd.R_mono (Kd.R_far (p := ⟨gb125, 3, none⟩) (Kd.R_far (p := ⟨gb125, 2, none⟩) (Kd.R_far (p := ⟨gb125, 1, none⟩) (Kd.R_far (p := ⟨gb125, 0, none⟩) (Kd.R_types HO128.out BK125.out (by decide)) (fun _ hk => hk.2) (.int .u32 t137)) (fun _ hk => hk.2) (.int .u32 t138)) (fun _ hk => hk.2) (.int .u32 t139)) (fun _ hk => hk.2) (.int .u32 t140)) (fun _ hk => trivial)⟩
  have n1_ : Aside0 (((((w23.setCell ⟨gb125, 0, none⟩ (.int .u32 t137)).setCell ⟨gb125, 1, none⟩ (.int .u32 t138)).setCell ⟨gb125, 2, none⟩ (.int .u32 t139)).setCell ⟨gb125, 3, none⟩ (.int .u32 t140)).heap[gb125]? = some (.cells #[.int .u32 t137, .int .u32 t138, .int .u32 t139, .int .u32 t140] 75 (0, 0))) := ⟨by (with_reducible repeat (first | refine blk_drewN ?_ _ | refine blk_drew ?_ | refine blk_alloc ?_ _)); refine blk_put (cs := #[.int .u32 t137, .int .u32 t138, .int .u32 t139, .int .u32 t136]) ?_ 3 _ rfl; (with_reducible repeat (first | refine blk_drewN ?_ _ | refine blk_drew ?_ | refine blk_alloc ?_ _)); refine blk_put (cs := #[.int .u32 t137, .int .u32 t138, .int .u32 t135, .int .u32 t136]) ?_ 2 _ rfl; (with_reducible repeat (first | refine blk_drewN ?_ _ | refine blk_drew ?_ | refine blk_alloc ?_ _)); refine blk_put (cs := #[.int .u32 t137, .int .u32 t134, .int .u32 t135, .int .u32 t136]) ?_ 1 _ rfl; (with_reducible repeat (first | refine blk_drewN ?_ _ | refine blk_drew ?_ | refine blk_alloc ?_ _)); refine blk_put (cs := #[.int .u32 t133, .int .u32 t134, .int .u32 t135, .int .u32 t136]) ?_ 0 _ rfl; (with_reducible repeat (first | refine blk_drewN ?_ _ | refine blk_drew ?_ | refine blk_alloc ?_ _)); exact BK125.out⟩
  have n2_ : Aside0 (Below w.heap.size w ((((w23.setCell ⟨gb125, 0, none⟩ (.int .u32 t137)).setCell ⟨gb125, 1, none⟩ (.int .u32 t138)).setCell ⟨gb125, 2, none⟩ (.int .u32 t139)).setCell ⟨gb125, 3, none⟩ (.int .u32 t140))) := ⟨by repeat (first | (with_reducible first | exact HB.out | apply below_alloc | apply pw_below_drewN | apply below_drew1 | refine below_set ?_ GE125.out) | exact HB.out)⟩
  (try clear HO128)
  (try clear BK125)
  (try clear HB)
  generalize ((((w23.setCell ⟨gb125, 0, none⟩ (.int .u32 t137)).setCell ⟨gb125, 1, none⟩ (.int .u32 t138)).setCell ⟨gb125, 2, none⟩ (.int .u32 t139)).setCell ⟨gb125, 3, none⟩ (.int .u32 t140)) = w25 at n0_ n1_ n2_ ⊢
  have HO128 := n0_
  have BK125 := n1_
  have HB := n2_
  clear n0_ n1_ n2_
  have n0_ := Aside0.mk (Kd.R_drew HO128.out)
  have n1_ := Aside0.mk (blk_drew BK125.out)
  have n2_ := Aside0.mk (below_drew1 HB.out)
  clear HO128
  clear BK125
  clear HB
  have HO128 := n0_
  have BK125 := n1_
  have HB := n2_
  clear n0_ n1_ n2_
  refine start_ (n := 6) (S := fun w' => w'.cell? ⟨gb125, 0, none⟩ = some (.int .u32 t137) ∧ w'.cell? ⟨gb125, 1, none⟩ = some (.int .u32 t138) ∧ w'.cell? ⟨gb125, 2, none⟩ = some (.int .u32 t139) ∧ w'.cell? ⟨gb125, 3, none⟩ = some (.int .u32 t140)) (ds := [5]) #[false, false, false, false, false, false] (by kernel_rfl) rfl rfl ⟨(blk_cell BK125.out 0).trans rfl, (blk_cell BK125.out 1).trans rfl, (blk_cell BK125.out 2).trans rfl, (blk_cell BK125.out 3).trans rfl⟩ (fun hHeld => ?_)
  generalize w25.drew = w26 at HO128 BK125 HB hHeld ⊢
  refine pure_ (i := 1) (N := some 21) (v := ?_) (a' := ?_) #[false, true, false, false, false, false] rfl rfl (by kernel_rfl) (fun _ _ _ h => h) (Or.inl ⟨by rfl, ?_⟩) ?_ ?_
  rotate_left
  · intro w'
    go_simp
    with_reducible rfl
  rotate_left
  · simp only [Act.put, List.setIfInBounds_toArray, List.set_cons_zero, List.set_cons_succ, i64_w, i32_w]
    rfl
  refine pure_ (i := 2) (N := some 22) (v := ?_) (a' := ?_) #[false, true, true, false, false, false] rfl rfl (by kernel_rfl) (fun _ _ _ h => h) (Or.inl ⟨by rfl, ?_⟩) ?_ ?_
  rotate_left
  · intro w'
    go_simp
    with_reducible rfl
  rotate_left
  · simp only [Act.put, List.setIfInBounds_toArray, List.set_cons_zero, List.set_cons_succ, i64_w, i32_w]
    rfl
  refine take_ (i := 0) (N := some 20) (v := ?_) (a' := ?_) #[true, true, true, false, false, false] rfl rfl (by kernel_rfl) (fun _ _ _ h => h) (Or.inl ⟨by rfl, ?_⟩) hHeld ?_ ?_
  rotate_left
  · rintro w' ⟨s0, s1, s2, s3⟩
    go_simp
    with_reducible rfl
  rotate_left
  · simp only [Act.put, List.setIfInBounds_toArray, List.set_cons_zero, List.set_cons_succ, i64_w, i32_w]
    rfl
  refine one_ (i := 3) (N := some 23) #[true, true, true, true, false, false] rfl rfl (by kernel_rfl) (by decide) (fun K hK => ?_)
  refine goes_ Try.func64 (by kernel_rfl) rfl #[.int .i64 (l1.length : Int), .int .i64 4] (by rfl) rfl rfl (by (try simp only [List.map_toArray, List.map_cons, List.map_nil]); first | done | rfl | (simp only [List.length_drop, List.length_take]; rfl)) ?_
  with_reducible refine (spec_l01Digits.calls k (l1.length : Int) 4 t141 _ A7.out).mono ?_
  rintro e w27 ⟨v142, rfl, ho0, hb⟩
  refine ⟨_, rfl, ?_⟩
  have n0_ := Aside0.mk (Kd.R_elder' (by (with_reducible repeat (first | apply Kd.R_alloc | apply Kd.R_drewN | apply Kd.R_drew)); exact HO128.out) (Kd.R_base ho0) hb)
  have n1_ := Aside0.mk (Kd.R_lower (Kd.R_new' ho0 (Kd.R_lt (by (with_reducible repeat (first | apply Kd.R_alloc | apply Kd.R_drewN | apply Kd.R_drew)); exact HO128.out))) (below_size (by repeat (first | (with_reducible first | exact HB.out | apply below_alloc | apply pw_below_drewN | apply below_drew1 | refine below_set ?_ GE125.out) | exact HB.out))))
  have n2_ := Aside0.mk (blk_below (g := gb125) (o := .cells #[.int .u32 t137, .int .u32 t138, .int .u32 t139, .int .u32 t140] 75 (0, 0)) (by (with_reducible repeat (first | refine blk_drewN ?_ _ | refine blk_drew ?_ | refine blk_alloc ?_ _)); exact BK125.out) hb)
  have n3_ := Aside0.mk (below_step (by repeat (first | (with_reducible first | exact HB.out | apply below_alloc | apply pw_below_drewN | apply below_drew1 | refine below_set ?_ GE125.out) | exact HB.out)) hb)
  clear HO128
  clear BK125
  clear HB
  have HO128 := n0_
  have HO143 := n1_
  have BK125 := n2_
  have HB := n3_
  clear n0_ n1_ n2_ n3_
  (try clear hb)
  (try clear hb2)
  (try clear hk)
  (try clear hi)
  (try clear ho0)
  obtain ⟨Ao28, co28, eo28⟩ := Kd.R_slice HO143.out
  (first | subst eo28 | (injection eo28 with f1_ f2_ f3_; have f4_ := f1_.symm; have f5_ := f3_.symm; clear f1_ f2_ f3_; subst f4_; subst f5_))
  refine hK.out _ _ ⟨(blk_cell BK125.out 0).trans rfl, (blk_cell BK125.out 1).trans rfl, (blk_cell BK125.out 2).trans rfl, (blk_cell BK125.out 3).trans rfl⟩ (fun hHeld => ?_)
  clear hK K
  refine norm_ (a' := ?_) ?_ ?_
  rotate_left
  · show Act.put _ (some 23) _ = _
    simp only [Act.put, List.setIfInBounds_toArray, List.set_cons_zero, List.set_cons_succ, i64_w, i32_w]
    rfl
  refine one_ (i := 4) (N := some 24) #[true, true, true, true, true, false] rfl rfl (by kernel_rfl) (by decide) (fun K hK => ?_)
  refine goes_ Try.func78 (by kernel_rfl) rfl #[.agg #[.int .u32 t137, .int .u32 t138, .int .u32 t139, .int .u32 t140], .slice Ao28 t141.length co28] (by rfl) rfl rfl (by (try simp only [List.map_toArray, List.map_cons, List.map_nil]); first | done | rfl | (simp only [List.length_drop, List.length_take]; rfl)) ?_
  with_reducible refine (spec_l03Stir.calls k t137 t138 t139 t140 _ _ t141 t144 t145 t146 t147 _ ?side1 ?side2 A8.out).mono ?_
  (case side1 => repeat (first | exact (Kd.R_reads' HO143.out).2.2 | (with_reducible refine Kd.C_alloc ?_ _) | (with_reducible refine Kd.C_drewN ?_ _) | (with_reducible refine Kd.C_drew ?_)))
  (case side2 => exact (Kd.R_reads' HO143.out).2.1)
  rintro e w29 ⟨rfl, hb⟩
  refine ⟨_, rfl, ?_⟩
  have n0_ := Aside0.mk (Kd.R_below (by (with_reducible repeat (first | apply Kd.R_alloc | apply Kd.R_drewN | apply Kd.R_drew)); exact HO128.out) hb)
  have n1_ := Aside0.mk (Kd.R_below (by (with_reducible repeat (first | apply Kd.R_alloc | apply Kd.R_drewN | apply Kd.R_drew)); exact HO143.out) hb)
  have n2_ := Aside0.mk (blk_below (g := gb125) (o := .cells #[.int .u32 t137, .int .u32 t138, .int .u32 t139, .int .u32 t140] 75 (0, 0)) (by (with_reducible repeat (first | refine blk_drewN ?_ _ | refine blk_drew ?_ | refine blk_alloc ?_ _)); exact BK125.out) hb)
  have n3_ := Aside0.mk (below_step (by repeat (first | (with_reducible first | exact HB.out | apply below_alloc | apply pw_below_drewN | apply below_drew1 | refine below_set ?_ GE125.out) | exact HB.out)) hb)
  clear HO128
  clear HO143
  clear BK125
  clear HB
  have HO128 := n0_
  have HO143 := n1_
  have BK125 := n2_
  have HB := n3_
  clear n0_ n1_ n2_ n3_
  (try clear hb)
  (try clear hb2)
  (try clear hk)
  (try clear hi)
  refine hK.out _ _ ⟨(blk_cell BK125.out 0).trans rfl, (blk_cell BK125.out 1).trans rfl, (blk_cell BK125.out 2).trans rfl, (blk_cell BK125.out 3).trans rfl⟩ (fun hHeld => ?_)
  clear hK K
  refine norm_ (a' := ?_) ?_ ?_
  rotate_left
  · show Act.put _ (some 24) _ = _
    simp only [Act.put, List.setIfInBounds_toArray, List.set_cons_zero, List.set_cons_succ, i64_w, i32_w]
    rfl
  refine last_ (i := 5) (N := none) #[true, true, true, true, true, true] rfl rfl (by kernel_rfl) (by decide) (fun K hK => ?_)
  have hs30 : w29.cell? ⟨gb125, 0, none⟩ = some (.int .u32 t137) := (blk_cell BK125.out 0).trans rfl
  have hfs30 := blk_frozen BK125.out 0
  have hs31 : w29.cell? ⟨gb125, 1, none⟩ = some (.int .u32 t138) := (blk_cell BK125.out 1).trans rfl
  have hfs31 := blk_frozen BK125.out 1
  have hs32 : w29.cell? ⟨gb125, 2, none⟩ = some (.int .u32 t139) := (blk_cell BK125.out 2).trans rfl
  have hfs32 := blk_frozen BK125.out 2
  have hs33 : w29.cell? ⟨gb125, 3, none⟩ = some (.int .u32 t140) := (blk_cell BK125.out 3).trans rfl
  have hfs33 := blk_frozen BK125.out 3
  refine skip_ (w1 := ?_) (by rfl) rfl ?_ ?_
  rotate_left
  · go_simp
    rfl
  refine hK.out _ _ ?_
  clear hK K
  refine done_ (by kernel_rfl) ?_
  try go_wp2
  go_loopg [6] k (fun kq v6 w' => ∃ (x6_1 : Int) (x126000_1 : Int) (x126001_1 : Int) (x126002_1 : Int) (x126003_1 : Int), v6 = .int .i64 x6_1 ∧ Aside0 (spec_l03Digest.l0 kq x6_1 x126000_1 x126001_1 x126002_1 x126003_1 = some r) ∧ Aside0 (kq ≤ k) ∧ Aside0 (w'.heap[gb125]? = some (.cells #[.int .u32 x126000_1, .int .u32 x126001_1, .int .u32 x126002_1, .int .u32 x126003_1] 75 (0, 0))) ∧ Aside0 (Below w.heap.size w w'))
  case atStart => exact ⟨(0), (t144), (t145), (t146), (t147), (by first | rfl | (simp; done) | (simp [*]; done)), H', ⟨Nat.le_refl _⟩, ⟨by (with_reducible repeat (first | refine blk_drewN ?_ _ | refine blk_drew ?_ | refine blk_alloc ?_ _)); refine blk_put (cs := #[.int .u32 t144, .int .u32 t145, .int .u32 t146, .int .u32 t140]) ?_ 3 _ rfl; (with_reducible repeat (first | refine blk_drewN ?_ _ | refine blk_drew ?_ | refine blk_alloc ?_ _)); refine blk_put (cs := #[.int .u32 t144, .int .u32 t145, .int .u32 t139, .int .u32 t140]) ?_ 2 _ rfl; (with_reducible repeat (first | refine blk_drewN ?_ _ | refine blk_drew ?_ | refine blk_alloc ?_ _)); refine blk_put (cs := #[.int .u32 t144, .int .u32 t138, .int .u32 t139, .int .u32 t140]) ?_ 1 _ rfl; (with_reducible repeat (first | refine blk_drewN ?_ _ | refine blk_drew ?_ | refine blk_alloc ?_ _)); refine blk_put (cs := #[.int .u32 t137, .int .u32 t138, .int .u32 t139, .int .u32 t140]) ?_ 0 _ rfl; (with_reducible repeat (first | refine blk_drewN ?_ _ | refine blk_drew ?_ | refine blk_alloc ?_ _)); exact BK125.out⟩, ⟨by repeat (first | (with_reducible first | exact HB.out | apply below_alloc | apply pw_below_drewN | apply below_drew1 | refine below_set ?_ GE125.out) | exact HB.out)⟩⟩
  case round =>
    clear H'
    try clear c1
    try clear p2
    try clear c4
    try clear c6
    try clear c7
    try clear hcz10_0
    try clear hcz10_1
    try clear hcz10_2
    try clear hcz10_3
    try clear hcz20_0
    try clear hcz20_1
    try clear hcz20_2
    try clear hcz20_3
    try clear hcz22_0
    try clear hcz22_1
    try clear hcz22_2
    try clear hcz22_3
    try clear hcz24_0
    try clear hcz24_1
    try clear hcz24_2
    try clear hcz24_3
    try clear hfz10_0
    try clear hfz10_1
    try clear hfz10_2
    try clear hfz10_3
    try clear hfz20_0
    try clear hfz20_1
    try clear hfz20_2
    try clear hfz20_3
    try clear hfz22_0
    try clear hfz22_1
    try clear hfz22_2
    try clear hfz22_3
    try clear hfz24_0
    try clear hfz24_1
    try clear hfz24_2
    try clear hfz24_3
    obtain ⟨x6_1, x126000_1, x126001_1, x126002_1, x126003_1, rfl, HA, HK1, BK125, HB⟩ := hrel
    cases gk with
    | zero => exact absurd HA.out (by simp [spec_l03Digest.l0])
    | succ k1 =>
      have H := HA.out
      clear HA
      simp only [spec_l03Digest.l0] at H
      by_cases c34 : x6_1 < 16
      · rw [if_pos c34] at H
        have c34b0 : decide (x6_1 < 16) = true := decide_eq_true c34
        clear c34
        obtain ⟨y148, hy148⟩ : ∃ y_ : List Int, y_ = (([165] : List Int)) := ⟨_, rfl⟩
        replace H : ((spec_l03Stir.f k1 x126000_1 x126001_1 x126002_1 x126003_1 y148).bind fun bt151 => (spec_l03Digest.l0 k1 (wrap64 (x6_1 + 1)) bt151.1 bt151.2.1 bt151.2.2.1 bt151.2.2.2)) = some r := by first | (rw [hy148]; with_reducible exact H) | (have H2_ := (Option.bind_some _ _).symm.trans H; rw [hy148]; with_reducible exact H2_) | (have H2_ := (Option.bind_some _ _).symm.trans H; with_reducible exact H2_) | with_reducible exact H | (rw [hy148]; exact H) | exact H
        have Ny148 := Aside0.mk hy148
        clear hy148
        replace H := Option.bind_eq_some_iff.mp H
        obtain ⟨⟨t151, t152, t153, t154⟩, A350, H⟩ := H
        replace H : (spec_l03Digest.l0 k1 (wrap64 (x6_1 + 1)) t151 t152 t153 t154) = some r := H
        have A35 := Aside0.mk A350
        clear A350
        have H' := Aside0.mk H
        clear H
        have hcz36_0 : wr.cell? ⟨gb125, 0, none⟩ = some (.int .u32 x126000_1) := (blk_cell BK125.out 0).trans rfl
        have hcz36_1 : wr.cell? ⟨gb125, 1, none⟩ = some (.int .u32 x126001_1) := (blk_cell BK125.out 1).trans rfl
        have hcz36_2 : wr.cell? ⟨gb125, 2, none⟩ = some (.int .u32 x126002_1) := (blk_cell BK125.out 2).trans rfl
        have hcz36_3 : wr.cell? ⟨gb125, 3, none⟩ = some (.int .u32 x126003_1) := (blk_cell BK125.out 3).trans rfl
        have hfz36_0 := blk_frozen BK125.out 0
        have hfz36_1 := blk_frozen BK125.out 1
        have hfz36_2 := blk_frozen BK125.out 2
        have hfz36_3 := blk_frozen BK125.out 3
        go_wp2_with (first | ((with_reducible refine gate_dst (N := 30) rfl ?_); refine Kd.R_lit (Kd.int .u8) _ 5 ?hg (N := 30) ?hd (xs := ([165] : List Int)) (inner := [.int .u8 165]) (ok := fun _ => True) (okp := fun _ => True) ?hr ?hp (fun _ hk => hk) trivial (Below.refl _ _) (Nat.le_refl _) (by simp) ?_; (case hd => rfl); (case hg => rfl); (case hr => first | (go_simp; done) | (go_simp; rfl)); (case hp => exact (Reps.one (show Kd.M (Kd.int .u8) _ _ _ 165 [.int .u8 165] from rfl) (Reps.none _ _))); intro v149 w37 ho38 hb hg_ hnew_; clear hg_ hnew_; (first | rw [← Ny148.out] at ho38 | (simp only [Int.reduceToNat] at ho38; rw [← Ny148.out] at ho38)); have n0_ := Aside0.mk (Kd.R_lower ho38 (below_size (by repeat (first | (with_reducible first | exact HB.out | apply below_alloc | apply pw_below_drewN | apply below_drew1 | refine below_set ?_ GE125.out) | exact HB.out)))); have n1_ := Aside0.mk (blk_below (g := gb125) (o := .cells #[.int .u32 x126000_1, .int .u32 x126001_1, .int .u32 x126002_1, .int .u32 x126003_1] 75 (0, 0)) (by (with_reducible repeat (first | refine blk_drewN ?_ _ | refine blk_drew ?_ | refine blk_alloc ?_ _)); exact BK125.out) hb); have n2_ := Aside0.mk (below_step (by repeat (first | (with_reducible first | exact HB.out | apply below_alloc | apply pw_below_drewN | apply below_drew1 | refine below_set ?_ GE125.out) | exact HB.out)) hb); clear BK125; clear HB; have HO150 := n0_; have BK125 := n1_; have HB := n2_; clear n0_ n1_ n2_; clear hb ho38; obtain ⟨Ao39, co39, eo39⟩ := Kd.R_slice HO150.out; subst eo39) | ((with_reducible refine gate_callee (f := 78) rfl ?_); refine goesL_ (some 31) rfl rfl Try.func78 (by kernel_rfl) rfl #[.agg #[.int .u32 x126000_1, .int .u32 x126001_1, .int .u32 x126002_1, .int .u32 x126003_1], .slice Ao39 y148.length co39] rfl (by (try simp only [List.map_toArray, List.map_cons, List.map_nil]); first | done | rfl | (simp only [List.length_drop, List.length_take]; rfl)) ?_; (with_reducible refine (spec_l03Stir.calls k1 x126000_1 x126001_1 x126002_1 x126003_1 _ _ y148 t151 t152 t153 t154 _ ?side1 ?side2 A35.out).mono ?_); (case side1 => repeat (first | exact (Kd.R_reads' HO150.out).2.2 | (with_reducible refine Kd.C_alloc ?_ _) | (with_reducible refine Kd.C_drewN ?_ _) | (with_reducible refine Kd.C_drew ?_))); (case side2 => exact (Kd.R_reads' HO150.out).2.1); rintro e w40 ⟨rfl, hb⟩; refine ⟨_, rfl, ?_⟩; have n0_ := Aside0.mk (Kd.R_below (by (with_reducible repeat (first | apply Kd.R_alloc | apply Kd.R_drewN | apply Kd.R_drew)); exact HO150.out) hb); have n1_ := Aside0.mk (blk_below (g := gb125) (o := .cells #[.int .u32 x126000_1, .int .u32 x126001_1, .int .u32 x126002_1, .int .u32 x126003_1] 75 (0, 0)) (by (with_reducible repeat (first | refine blk_drewN ?_ _ | refine blk_drew ?_ | refine blk_alloc ?_ _)); exact BK125.out) hb); have n2_ := Aside0.mk (below_step (by repeat (first | (with_reducible first | exact HB.out | apply below_alloc | apply pw_below_drewN | apply below_drew1 | refine below_set ?_ GE125.out) | exact HB.out)) hb); clear HO150; clear BK125; clear HB; have HO150 := n0_; have BK125 := n1_; have HB := n2_; clear n0_ n1_ n2_; (try clear hb); (try clear hb2); (try clear hk); (try clear hi); have hcz41_0 : w40.cell? ⟨gb125, 0, none⟩ = some (.int .u32 x126000_1) := (blk_cell BK125.out 0).trans rfl; have hcz41_1 : w40.cell? ⟨gb125, 1, none⟩ = some (.int .u32 x126001_1) := (blk_cell BK125.out 1).trans rfl; have hcz41_2 : w40.cell? ⟨gb125, 2, none⟩ = some (.int .u32 x126002_1) := (blk_cell BK125.out 2).trans rfl; have hcz41_3 : w40.cell? ⟨gb125, 3, none⟩ = some (.int .u32 x126003_1) := (blk_cell BK125.out 3).trans rfl; have hfz41_0 := blk_frozen BK125.out 0; have hfz41_1 := blk_frozen BK125.out 1; have hfz41_2 := blk_frozen BK125.out 2; have hfz41_3 := blk_frozen BK125.out 3))
        go_roundg k1
        case measure => have := HK1.out; omega
        case rel => exact ⟨(wrap64 (x6_1 + 1)), (t151), (t152), (t153), (t154), (by first | rfl | (simp; done) | (simp [*]; done)), H', ⟨by have := HK1.out; omega⟩, ⟨by (with_reducible repeat (first | refine blk_drewN ?_ _ | refine blk_drew ?_ | refine blk_alloc ?_ _)); refine blk_put (cs := #[.int .u32 t151, .int .u32 t152, .int .u32 t153, .int .u32 x126003_1]) ?_ 3 _ rfl; (with_reducible repeat (first | refine blk_drewN ?_ _ | refine blk_drew ?_ | refine blk_alloc ?_ _)); refine blk_put (cs := #[.int .u32 t151, .int .u32 t152, .int .u32 x126002_1, .int .u32 x126003_1]) ?_ 2 _ rfl; (with_reducible repeat (first | refine blk_drewN ?_ _ | refine blk_drew ?_ | refine blk_alloc ?_ _)); refine blk_put (cs := #[.int .u32 t151, .int .u32 x126001_1, .int .u32 x126002_1, .int .u32 x126003_1]) ?_ 1 _ rfl; (with_reducible repeat (first | refine blk_drewN ?_ _ | refine blk_drew ?_ | refine blk_alloc ?_ _)); refine blk_put (cs := #[.int .u32 x126000_1, .int .u32 x126001_1, .int .u32 x126002_1, .int .u32 x126003_1]) ?_ 0 _ rfl; (with_reducible repeat (first | refine blk_drewN ?_ _ | refine blk_drew ?_ | refine blk_alloc ?_ _)); exact BK125.out⟩, ⟨by repeat (first | (with_reducible first | exact HB.out | apply below_alloc | apply pw_below_drewN | apply below_drew1 | refine below_set ?_ GE125.out) | exact HB.out)⟩⟩
      · rw [if_neg c34] at H
        have c34b0 : decide (x6_1 < 16) = false := decide_eq_false c34
        clear c34
        replace H := Option.bind_eq_some_iff.mp H
        obtain ⟨t155, A420, H⟩ := H
        replace H : ((spec_l01Digits.f k1 (wrap64 (x126001_1)) 4).bind fun t158 => (if t155.length + t158.length < 140737488355328 then ((some (t155 ++ t158 : List Int)).bind fun y161 => ((spec_l01Digits.f k1 (wrap64 (x126002_1)) 4).bind fun t164 => (if y161.length + t164.length < 140737488355328 then ((some (y161 ++ t164 : List Int)).bind fun y167 => ((spec_l01Digits.f k1 (wrap64 (x126003_1)) 4).bind fun t170 => (if y167.length + t170.length < 140737488355328 then (some (y167 ++ t170)) else (none)))) else (none)))) else (none))) = some r := H
        have A42 := Aside0.mk A420
        clear A420
        replace H := Option.bind_eq_some_iff.mp H
        obtain ⟨t158, A430, H⟩ := H
        replace H : (if t155.length + t158.length < 140737488355328 then ((some (t155 ++ t158 : List Int)).bind fun y161 => ((spec_l01Digits.f k1 (wrap64 (x126002_1)) 4).bind fun t164 => (if y161.length + t164.length < 140737488355328 then ((some (y161 ++ t164 : List Int)).bind fun y167 => ((spec_l01Digits.f k1 (wrap64 (x126003_1)) 4).bind fun t170 => (if y167.length + t170.length < 140737488355328 then (some (y167 ++ t170)) else (none)))) else (none)))) else (none)) = some r := H
        have A43 := Aside0.mk A430
        clear A430
        by_cases c44 : t155.length + t158.length < 140737488355328
        · rw [if_pos c44] at H
          have LMc44 := Aside0.mk c44
          clear c44
          obtain ⟨y161, hy161⟩ : ∃ y_ : List Int, y_ = (t155 ++ t158) := ⟨_, rfl⟩
          replace H : ((spec_l01Digits.f k1 (wrap64 (x126002_1)) 4).bind fun t164 => (if y161.length + t164.length < 140737488355328 then ((some (y161 ++ t164 : List Int)).bind fun y167 => ((spec_l01Digits.f k1 (wrap64 (x126003_1)) 4).bind fun t170 => (if y167.length + t170.length < 140737488355328 then (some (y167 ++ t170)) else (none)))) else (none))) = some r := by first | (rw [hy161]; with_reducible exact H) | (have H2_ := (Option.bind_some _ _).symm.trans H; rw [hy161]; with_reducible exact H2_) | (have H2_ := (Option.bind_some _ _).symm.trans H; with_reducible exact H2_) | with_reducible exact H | (rw [hy161]; exact H) | exact H
          have Ny161 := Aside0.mk hy161
          clear hy161
          replace H := Option.bind_eq_some_iff.mp H
          obtain ⟨t164, A450, H⟩ := H
          replace H : (if y161.length + t164.length < 140737488355328 then ((some (y161 ++ t164 : List Int)).bind fun y167 => ((spec_l01Digits.f k1 (wrap64 (x126003_1)) 4).bind fun t170 => (if y167.length + t170.length < 140737488355328 then (some (y167 ++ t170)) else (none)))) else (none)) = some r := H
          have A45 := Aside0.mk A450
          clear A450
          by_cases c46 : y161.length + t164.length < 140737488355328
          · rw [if_pos c46] at H
            have LMc46 := Aside0.mk c46
            clear c46
            obtain ⟨y167, hy167⟩ : ∃ y_ : List Int, y_ = (y161 ++ t164) := ⟨_, rfl⟩
            replace H : ((spec_l01Digits.f k1 (wrap64 (x126003_1)) 4).bind fun t170 => (if y167.length + t170.length < 140737488355328 then (some (y167 ++ t170)) else (none))) = some r := by first | (rw [hy167]; with_reducible exact H) | (have H2_ := (Option.bind_some _ _).symm.trans H; rw [hy167]; with_reducible exact H2_) | (have H2_ := (Option.bind_some _ _).symm.trans H; with_reducible exact H2_) | with_reducible exact H | (rw [hy167]; exact H) | exact H
            have Ny167 := Aside0.mk hy167
            clear hy167
            replace H := Option.bind_eq_some_iff.mp H
            obtain ⟨t170, A470, H⟩ := H
            replace H : (if y167.length + t170.length < 140737488355328 then (some (y167 ++ t170)) else (none)) = some r := H
            have A47 := Aside0.mk A470
            clear A470
            by_cases c48 : y167.length + t170.length < 140737488355328
            · rw [if_pos c48] at H
              have LMc48 := Aside0.mk c48
              clear c48
              obtain ⟨y173, hy173⟩ : ∃ y_ : List Int, y_ = (y167 ++ t170) := ⟨_, rfl⟩
              replace H : (some y173) = some r := by first | (rw [hy173]; with_reducible exact H) | (have H2_ := (Option.bind_some _ _).symm.trans H; rw [hy173]; with_reducible exact H2_) | (have H2_ := (Option.bind_some _ _).symm.trans H; with_reducible exact H2_) | with_reducible exact H | (rw [hy173]; exact H) | exact H
              have Ny173 := Aside0.mk hy173
              clear hy173
              obtain rfl := Option.some.inj H
              have hcz49_0 : wr.cell? ⟨gb125, 0, none⟩ = some (.int .u32 x126000_1) := (blk_cell BK125.out 0).trans rfl
              have hcz49_1 : wr.cell? ⟨gb125, 1, none⟩ = some (.int .u32 x126001_1) := (blk_cell BK125.out 1).trans rfl
              have hcz49_2 : wr.cell? ⟨gb125, 2, none⟩ = some (.int .u32 x126002_1) := (blk_cell BK125.out 2).trans rfl
              have hcz49_3 : wr.cell? ⟨gb125, 3, none⟩ = some (.int .u32 x126003_1) := (blk_cell BK125.out 3).trans rfl
              have hfz49_0 := blk_frozen BK125.out 0
              have hfz49_1 := blk_frozen BK125.out 1
              have hfz49_2 := blk_frozen BK125.out 2
              have hfz49_3 := blk_frozen BK125.out 3
              go_wp2_with (first | ((with_reducible refine gate_callee (f := 64) rfl ?_); refine goesL_ (some 35) rfl rfl Try.func64 (by kernel_rfl) rfl #[.int .i64 (wrap64 (x126000_1)), .int .i64 4] rfl (by (try simp only [List.map_toArray, List.map_cons, List.map_nil]); first | done | rfl | (simp only [List.length_drop, List.length_take]; rfl)) ?_; (with_reducible refine (spec_l01Digits.calls k1 (wrap64 (x126000_1)) 4 t155 _ A42.out).mono ?_); rintro e w50 ⟨v156, rfl, ho0, hb⟩; refine ⟨_, rfl, ?_⟩; have n0_ := Aside0.mk (Kd.R_lower ho0 (below_size (by repeat (first | (with_reducible first | exact HB.out | apply below_alloc | apply pw_below_drewN | apply below_drew1 | refine below_set ?_ GE125.out) | exact HB.out)))); have n1_ := Aside0.mk (blk_below (g := gb125) (o := .cells #[.int .u32 x126000_1, .int .u32 x126001_1, .int .u32 x126002_1, .int .u32 x126003_1] 75 (0, 0)) (by (with_reducible repeat (first | refine blk_drewN ?_ _ | refine blk_drew ?_ | refine blk_alloc ?_ _)); exact BK125.out) hb); have n2_ := Aside0.mk (below_step (by repeat (first | (with_reducible first | exact HB.out | apply below_alloc | apply pw_below_drewN | apply below_drew1 | refine below_set ?_ GE125.out) | exact HB.out)) hb); clear BK125; clear HB; have HO157 := n0_; have BK125 := n1_; have HB := n2_; clear n0_ n1_ n2_; (try clear hb); (try clear hb2); (try clear hk); (try clear hi); (try clear ho0); have hcz51_0 : w50.cell? ⟨gb125, 0, none⟩ = some (.int .u32 x126000_1) := (blk_cell BK125.out 0).trans rfl; have hcz51_1 : w50.cell? ⟨gb125, 1, none⟩ = some (.int .u32 x126001_1) := (blk_cell BK125.out 1).trans rfl; have hcz51_2 : w50.cell? ⟨gb125, 2, none⟩ = some (.int .u32 x126002_1) := (blk_cell BK125.out 2).trans rfl; have hcz51_3 : w50.cell? ⟨gb125, 3, none⟩ = some (.int .u32 x126003_1) := (blk_cell BK125.out 3).trans rfl; have hfz51_0 := blk_frozen BK125.out 0; have hfz51_1 := blk_frozen BK125.out 1; have hfz51_2 := blk_frozen BK125.out 2; have hfz51_3 := blk_frozen BK125.out 3) | ((with_reducible refine gate_callee (f := 64) rfl ?_); refine goesL_ (some 40) rfl rfl Try.func64 (by kernel_rfl) rfl #[.int .i64 (wrap64 (x126001_1)), .int .i64 4] rfl (by (try simp only [List.map_toArray, List.map_cons, List.map_nil]); first | done | rfl | (simp only [List.length_drop, List.length_take]; rfl)) ?_; (with_reducible refine (spec_l01Digits.calls k1 (wrap64 (x126001_1)) 4 t158 _ A43.out).mono ?_); rintro e w52 ⟨v159, rfl, ho0, hb⟩; refine ⟨_, rfl, ?_⟩; have n0_ := Aside0.mk (Kd.R_elder' (by (with_reducible repeat (first | apply Kd.R_alloc | apply Kd.R_drewN | apply Kd.R_drew)); exact HO157.out) (Kd.R_base ho0) hb); have n1_ := Aside0.mk (Kd.R_lower (Kd.R_new' ho0 (Kd.R_lt (by (with_reducible repeat (first | apply Kd.R_alloc | apply Kd.R_drewN | apply Kd.R_drew)); exact HO157.out))) (below_size (by repeat (first | (with_reducible first | exact HB.out | apply below_alloc | apply pw_below_drewN | apply below_drew1 | refine below_set ?_ GE125.out) | exact HB.out)))); have n2_ := Aside0.mk (blk_below (g := gb125) (o := .cells #[.int .u32 x126000_1, .int .u32 x126001_1, .int .u32 x126002_1, .int .u32 x126003_1] 75 (0, 0)) (by (with_reducible repeat (first | refine blk_drewN ?_ _ | refine blk_drew ?_ | refine blk_alloc ?_ _)); exact BK125.out) hb); have n3_ := Aside0.mk (below_step (by repeat (first | (with_reducible first | exact HB.out | apply below_alloc | apply pw_below_drewN | apply below_drew1 | refine below_set ?_ GE125.out) | exact HB.out)) hb); clear HO157; clear BK125; clear HB; have HO157 := n0_; have HO160 := n1_; have BK125 := n2_; have HB := n3_; clear n0_ n1_ n2_ n3_; (try clear hb); (try clear hb2); (try clear hk); (try clear hi); (try clear ho0); obtain ⟨Ao54, co54, eo54⟩ := Kd.R_slice HO160.out; subst eo54) | ((with_reducible refine gate_builtin (b := .append) (xs := #[.tmp 36, .tmp 40]) rfl ?_); at_builtin; refine Kd.R_append_rows (Kd.int .u8) (w0 := w) w.heap.size rfl (.tmp 36) (.tmp 40) 22 5 (.int .u8 0) 1 rfl Try.underlying22 info5 rfl (by decide) (by omega) v156 t155 t158 _ _ _ (fun k_ => some k_ ≠ (.slice Ao54 t158.length co54 : Value).ownBlock) (fun _ => False) rfl rfl ?aO ?aR (fun _ _ h => h) (fun _ h => h.elim) ?aF ?aB ?aS ?aL ?_; (case aR => repeat (first | exact (Kd.R_reads' HO160.out).2.2 | (with_reducible refine Kd.C_alloc ?_ _) | (with_reducible refine Kd.C_drewN ?_ _) | (with_reducible refine Kd.C_drew ?_))); (case aB => exact (by repeat (first | (with_reducible first | exact HB.out | apply below_alloc | apply pw_below_drewN | apply below_drew1 | refine below_set ?_ GE125.out) | exact HB.out))); (case aF => exact (fun k_ hk => Kd.fresh' (Kd.R_lt (by (with_reducible repeat (first | apply Kd.R_alloc | apply Kd.R_drewN | apply Kd.R_drew)); exact HO160.out)) k_ hk)); (case aO => exact (by (with_reducible repeat (first | apply Kd.R_alloc | apply Kd.R_drewN | apply Kd.R_drew)); exact Kd.R_mono HO157.out (fun _ hk => hk.2))); (case aS => exact (below_size (by repeat (first | (with_reducible first | exact HB.out | apply below_alloc | apply pw_below_drewN | apply below_drew1 | refine below_set ?_ GE125.out) | exact HB.out)))); (case aL => have := LMc44.out; omega); intro v162 w53 ho hb hg hat; rw [← Ny161.out] at ho; have n0_ := Aside0.mk (blk_grown (g := gb125) (o := .cells #[.int .u32 x126000_1, .int .u32 x126001_1, .int .u32 x126002_1, .int .u32 x126003_1] 75 (0, 0)) (by (with_reducible repeat (first | refine blk_drewN ?_ _ | refine blk_drew ?_ | refine blk_alloc ?_ _)); exact BK125.out) hg (Kd.R_ne HO157.out BK125.out (by decide))); have n1_ := Aside0.mk (Kd.R_after (ok := (fun _ => True)) (by (with_reducible repeat (first | apply Kd.R_alloc | apply Kd.R_drewN | apply Kd.R_drew)); exact HO160.out) hg hat); have n2_ := Aside0.mk (hb); have n3_ := Aside0.mk (ho); clear BK125; clear HO160; clear HB; clear HO157; have BK125 := n0_; have HO160 := n1_; have HB := n2_; have HO163 := n3_; clear n0_ n1_ n2_ n3_; clear ho hb hg hat; have hcz55_0 : w53.cell? ⟨gb125, 0, none⟩ = some (.int .u32 x126000_1) := (blk_cell BK125.out 0).trans rfl; have hcz55_1 : w53.cell? ⟨gb125, 1, none⟩ = some (.int .u32 x126001_1) := (blk_cell BK125.out 1).trans rfl; have hcz55_2 : w53.cell? ⟨gb125, 2, none⟩ = some (.int .u32 x126002_1) := (blk_cell BK125.out 2).trans rfl; have hcz55_3 : w53.cell? ⟨gb125, 3, none⟩ = some (.int .u32 x126003_1) := (blk_cell BK125.out 3).trans rfl; have hfz55_0 := blk_frozen BK125.out 0; have hfz55_1 := blk_frozen BK125.out 1; have hfz55_2 := blk_frozen BK125.out 2; have hfz55_3 := blk_frozen BK125.out 3) | ((with_reducible refine gate_callee (f := 64) rfl ?_); refine goesL_ (some 46) rfl rfl Try.func64 (by kernel_rfl) rfl #[.int .i64 (wrap64 (x126002_1)), .int .i64 4] rfl (by (try simp only [List.map_toArray, List.map_cons, List.map_nil]); first | done | rfl | (simp only [List.length_drop, List.length_take]; rfl)) ?_; (with_reducible refine (spec_l01Digits.calls k1 (wrap64 (x126002_1)) 4 t164 _ A45.out).mono ?_); rintro e w56 ⟨v165, rfl, ho0, hb⟩; refine ⟨_, rfl, ?_⟩; have n0_ := Aside0.mk (Kd.R_elder' (by (with_reducible repeat (first | apply Kd.R_alloc | apply Kd.R_drewN | apply Kd.R_drew)); exact HO160.out) (Kd.R_base ho0) hb); have n1_ := Aside0.mk (Kd.R_elder' (by (with_reducible repeat (first | apply Kd.R_alloc | apply Kd.R_drewN | apply Kd.R_drew)); exact HO163.out) (Kd.R_base ho0) hb); have n2_ := Aside0.mk (Kd.R_lower (Kd.R_new' (Kd.R_new' ho0 (Kd.R_lt (by (with_reducible repeat (first | apply Kd.R_alloc | apply Kd.R_drewN | apply Kd.R_drew)); exact HO160.out))) (Kd.R_lt (by (with_reducible repeat (first | apply Kd.R_alloc | apply Kd.R_drewN | apply Kd.R_drew)); exact HO163.out))) (below_size (by repeat (first | (with_reducible first | exact HB.out | apply below_alloc | apply pw_below_drewN | apply below_drew1 | refine below_set ?_ GE125.out) | exact HB.out)))); have n3_ := Aside0.mk (blk_below (g := gb125) (o := .cells #[.int .u32 x126000_1, .int .u32 x126001_1, .int .u32 x126002_1, .int .u32 x126003_1] 75 (0, 0)) (by (with_reducible repeat (first | refine blk_drewN ?_ _ | refine blk_drew ?_ | refine blk_alloc ?_ _)); exact BK125.out) hb); have n4_ := Aside0.mk (below_step (by repeat (first | (with_reducible first | exact HB.out | apply below_alloc | apply pw_below_drewN | apply below_drew1 | refine below_set ?_ GE125.out) | exact HB.out)) hb); clear HO160; clear HO163; clear BK125; clear HB; have HO160 := n0_; have HO163 := n1_; have HO166 := n2_; have BK125 := n3_; have HB := n4_; clear n0_ n1_ n2_ n3_ n4_; (try clear hb); (try clear hb2); (try clear hk); (try clear hi); (try clear ho0); obtain ⟨Ao58, co58, eo58⟩ := Kd.R_slice HO166.out; subst eo58) | ((with_reducible refine gate_builtin (b := .append) (xs := #[.tmp 42, .tmp 46]) rfl ?_); at_builtin; refine Kd.R_append_rows (Kd.int .u8) (w0 := w) w.heap.size rfl (.tmp 42) (.tmp 46) 22 5 (.int .u8 0) 1 rfl Try.underlying22 info5 rfl (by decide) (by omega) v162 y161 t164 _ _ _ (fun k_ => some k_ ≠ (.slice Ao54 t158.length co54 : Value).ownBlock ∧ some k_ ≠ (.slice Ao58 t164.length co58 : Value).ownBlock) (fun _ => False) rfl rfl ?aO ?aR (fun _ _ h => h) (fun _ h => h.elim) ?aF ?aB ?aS ?aL ?_; (case aR => repeat (first | exact (Kd.R_reads' HO166.out).2.2 | (with_reducible refine Kd.C_alloc ?_ _) | (with_reducible refine Kd.C_drewN ?_ _) | (with_reducible refine Kd.C_drew ?_))); (case aB => exact (by repeat (first | (with_reducible first | exact HB.out | apply below_alloc | apply pw_below_drewN | apply below_drew1 | refine below_set ?_ GE125.out) | exact HB.out))); (case aF => exact (fun k_ hk => ⟨Kd.fresh' (Kd.R_lt (by (with_reducible repeat (first | apply Kd.R_alloc | apply Kd.R_drewN | apply Kd.R_drew)); exact HO160.out)) k_ hk, Kd.fresh' (Kd.R_lt (by (with_reducible repeat (first | apply Kd.R_alloc | apply Kd.R_drewN | apply Kd.R_drew)); exact HO166.out)) k_ hk⟩)); (case aO => exact (by (with_reducible repeat (first | apply Kd.R_alloc | apply Kd.R_drewN | apply Kd.R_drew)); exact HO163.out)); (case aS => exact (below_size (by repeat (first | (with_reducible first | exact HB.out | apply below_alloc | apply pw_below_drewN | apply below_drew1 | refine below_set ?_ GE125.out) | exact HB.out)))); (case aL => have := LMc46.out; omega); intro v168 w57 ho hb hg hat; rw [← Ny167.out] at ho; have n0_ := Aside0.mk (blk_grown (g := gb125) (o := .cells #[.int .u32 x126000_1, .int .u32 x126001_1, .int .u32 x126002_1, .int .u32 x126003_1] 75 (0, 0)) (by (with_reducible repeat (first | refine blk_drewN ?_ _ | refine blk_drew ?_ | refine blk_alloc ?_ _)); exact BK125.out) hg (Kd.R_ne HO163.out BK125.out (by decide))); have n1_ := Aside0.mk (Kd.R_after (ok := (fun k_ => some k_ ≠ (.slice Ao58 t164.length co58 : Value).ownBlock)) (by (with_reducible repeat (first | apply Kd.R_alloc | apply Kd.R_drewN | apply Kd.R_drew)); exact Kd.R_mono HO160.out (fun _ hk => ⟨hk.2, hk.1.2⟩)) hg hat); have n2_ := Aside0.mk (Kd.R_after (ok := (fun k_ => some k_ ≠ (.slice Ao54 t158.length co54 : Value).ownBlock)) (by (with_reducible repeat (first | apply Kd.R_alloc | apply Kd.R_drewN | apply Kd.R_drew)); exact Kd.R_mono HO166.out (fun _ hk => ⟨hk.1.2, hk.2⟩)) hg hat); have n3_ := Aside0.mk (hb); have n4_ := Aside0.mk (ho); clear BK125; clear HO160; clear HO166; clear HB; clear HO163; have BK125 := n0_; have HO160 := n1_; have HO166 := n2_; have HB := n3_; have HO169 := n4_; clear n0_ n1_ n2_ n3_ n4_; clear ho hb hg hat; have hcz59_0 : w57.cell? ⟨gb125, 0, none⟩ = some (.int .u32 x126000_1) := (blk_cell BK125.out 0).trans rfl; have hcz59_1 : w57.cell? ⟨gb125, 1, none⟩ = some (.int .u32 x126001_1) := (blk_cell BK125.out 1).trans rfl; have hcz59_2 : w57.cell? ⟨gb125, 2, none⟩ = some (.int .u32 x126002_1) := (blk_cell BK125.out 2).trans rfl; have hcz59_3 : w57.cell? ⟨gb125, 3, none⟩ = some (.int .u32 x126003_1) := (blk_cell BK125.out 3).trans rfl; have hfz59_0 := blk_frozen BK125.out 0; have hfz59_1 := blk_frozen BK125.out 1; have hfz59_2 := blk_frozen BK125.out 2; have hfz59_3 := blk_frozen BK125.out 3) | ((with_reducible refine gate_callee (f := 64) rfl ?_); refine goesL_ (some 52) rfl rfl Try.func64 (by kernel_rfl) rfl #[.int .i64 (wrap64 (x126003_1)), .int .i64 4] rfl (by (try simp only [List.map_toArray, List.map_cons, List.map_nil]); first | done | rfl | (simp only [List.length_drop, List.length_take]; rfl)) ?_; (with_reducible refine (spec_l01Digits.calls k1 (wrap64 (x126003_1)) 4 t170 _ A47.out).mono ?_); rintro e w60 ⟨v171, rfl, ho0, hb⟩; refine ⟨_, rfl, ?_⟩; have n0_ := Aside0.mk (Kd.R_elder' (by (with_reducible repeat (first | apply Kd.R_alloc | apply Kd.R_drewN | apply Kd.R_drew)); exact HO160.out) (Kd.R_base ho0) hb); have n1_ := Aside0.mk (Kd.R_elder' (by (with_reducible repeat (first | apply Kd.R_alloc | apply Kd.R_drewN | apply Kd.R_drew)); exact HO166.out) (Kd.R_base ho0) hb); have n2_ := Aside0.mk (Kd.R_elder' (by (with_reducible repeat (first | apply Kd.R_alloc | apply Kd.R_drewN | apply Kd.R_drew)); exact HO169.out) (Kd.R_base ho0) hb); have n3_ := Aside0.mk (Kd.R_lower (Kd.R_new' (Kd.R_new' (Kd.R_new' ho0 (Kd.R_lt (by (with_reducible repeat (first | apply Kd.R_alloc | apply Kd.R_drewN | apply Kd.R_drew)); exact HO160.out))) (Kd.R_lt (by (with_reducible repeat (first | apply Kd.R_alloc | apply Kd.R_drewN | apply Kd.R_drew)); exact HO166.out))) (Kd.R_lt (by (with_reducible repeat (first | apply Kd.R_alloc | apply Kd.R_drewN | apply Kd.R_drew)); exact HO169.out))) (below_size (by repeat (first | (with_reducible first | exact HB.out | apply below_alloc | apply pw_below_drewN | apply below_drew1 | refine below_set ?_ GE125.out) | exact HB.out)))); have n4_ := Aside0.mk (blk_below (g := gb125) (o := .cells #[.int .u32 x126000_1, .int .u32 x126001_1, .int .u32 x126002_1, .int .u32 x126003_1] 75 (0, 0)) (by (with_reducible repeat (first | refine blk_drewN ?_ _ | refine blk_drew ?_ | refine blk_alloc ?_ _)); exact BK125.out) hb); have n5_ := Aside0.mk (below_step (by repeat (first | (with_reducible first | exact HB.out | apply below_alloc | apply pw_below_drewN | apply below_drew1 | refine below_set ?_ GE125.out) | exact HB.out)) hb); clear HO160; clear HO166; clear HO169; clear BK125; clear HB; have HO160 := n0_; have HO166 := n1_; have HO169 := n2_; have HO172 := n3_; have BK125 := n4_; have HB := n5_; clear n0_ n1_ n2_ n3_ n4_ n5_; (try clear hb); (try clear hb2); (try clear hk); (try clear hi); (try clear ho0); obtain ⟨Ao62, co62, eo62⟩ := Kd.R_slice HO172.out; subst eo62) | ((with_reducible refine gate_builtin (b := .append) (xs := #[.tmp 48, .tmp 52]) rfl ?_); at_builtin; refine Kd.R_append_rows (Kd.int .u8) (w0 := w) w.heap.size rfl (.tmp 48) (.tmp 52) 22 5 (.int .u8 0) 1 rfl Try.underlying22 info5 rfl (by decide) (by omega) v168 y167 t170 _ _ _ (fun k_ => some k_ ≠ (.slice Ao54 t158.length co54 : Value).ownBlock ∧ some k_ ≠ (.slice Ao58 t164.length co58 : Value).ownBlock ∧ some k_ ≠ (.slice Ao62 t170.length co62 : Value).ownBlock) (fun _ => False) rfl rfl ?aO ?aR (fun _ _ h => h) (fun _ h => h.elim) ?aF ?aB ?aS ?aL ?_; (case aR => repeat (first | exact (Kd.R_reads' HO172.out).2.2 | (with_reducible refine Kd.C_alloc ?_ _) | (with_reducible refine Kd.C_drewN ?_ _) | (with_reducible refine Kd.C_drew ?_))); (case aB => exact (by repeat (first | (with_reducible first | exact HB.out | apply below_alloc | apply pw_below_drewN | apply below_drew1 | refine below_set ?_ GE125.out) | exact HB.out))); (case aF => exact (fun k_ hk => ⟨Kd.fresh' (Kd.R_lt (by (with_reducible repeat (first | apply Kd.R_alloc | apply Kd.R_drewN | apply Kd.R_drew)); exact HO160.out)) k_ hk, Kd.fresh' (Kd.R_lt (by (with_reducible repeat (first | apply Kd.R_alloc | apply Kd.R_drewN | apply Kd.R_drew)); exact HO166.out)) k_ hk, Kd.fresh' (Kd.R_lt (by (with_reducible repeat (first | apply Kd.R_alloc | apply Kd.R_drewN | apply Kd.R_drew)); exact HO172.out)) k_ hk⟩)); (case aO => exact (by (with_reducible repeat (first | apply Kd.R_alloc | apply Kd.R_drewN | apply Kd.R_drew)); exact Kd.R_mono HO169.out (fun _ hk => ⟨hk.1.1, ⟨hk.1.2, hk.2⟩⟩))); (case aS => exact (below_size (by repeat (first | (with_reducible first | exact HB.out | apply below_alloc | apply pw_below_drewN | apply below_drew1 | refine below_set ?_ GE125.out) | exact HB.out)))); (case aL => have := LMc48.out; omega); intro v174 w61 ho hb hg hat; rw [← Ny173.out] at ho; have n0_ := Aside0.mk (blk_grown (g := gb125) (o := .cells #[.int .u32 x126000_1, .int .u32 x126001_1, .int .u32 x126002_1, .int .u32 x126003_1] 75 (0, 0)) (by (with_reducible repeat (first | refine blk_drewN ?_ _ | refine blk_drew ?_ | refine blk_alloc ?_ _)); exact BK125.out) hg (Kd.R_ne HO169.out BK125.out (by decide))); have n1_ := Aside0.mk (Kd.R_after (ok := (fun k_ => some k_ ≠ (.slice Ao58 t164.length co58 : Value).ownBlock ∧ some k_ ≠ (.slice Ao62 t170.length co62 : Value).ownBlock)) (by (with_reducible repeat (first | apply Kd.R_alloc | apply Kd.R_drewN | apply Kd.R_drew)); exact Kd.R_mono HO160.out (fun _ hk => ⟨⟨hk.1.1, hk.2⟩, hk.1.2⟩)) hg hat); have n2_ := Aside0.mk (Kd.R_after (ok := (fun k_ => some k_ ≠ (.slice Ao54 t158.length co54 : Value).ownBlock ∧ some k_ ≠ (.slice Ao62 t170.length co62 : Value).ownBlock)) (by (with_reducible repeat (first | apply Kd.R_alloc | apply Kd.R_drewN | apply Kd.R_drew)); exact Kd.R_mono HO166.out (fun _ hk => ⟨⟨hk.1.1, hk.2⟩, hk.1.2⟩)) hg hat); have n3_ := Aside0.mk (Kd.R_after (ok := (fun k_ => some k_ ≠ (.slice Ao54 t158.length co54 : Value).ownBlock ∧ some k_ ≠ (.slice Ao58 t164.length co58 : Value).ownBlock)) (by (with_reducible repeat (first | apply Kd.R_alloc | apply Kd.R_drewN | apply Kd.R_drew)); exact Kd.R_mono HO172.out (fun _ hk => ⟨⟨hk.1.1.2, hk.1.2⟩, hk.2⟩)) hg hat); have n4_ := Aside0.mk (hb); have n5_ := Aside0.mk (ho); clear BK125; clear HO160; clear HO166; clear HO172; clear HB; clear HO169; have BK125 := n0_; have HO160 := n1_; have HO166 := n2_; have HO172 := n3_; have HB := n4_; have HO175 := n5_; clear n0_ n1_ n2_ n3_ n4_ n5_; clear ho hb hg hat))
              go_ret
              exact ⟨_, by first | rfl | (simp [errW_none, errW_some] <;> rfl) | (simp [*, errW_none, errW_some] <;> rfl), by (with_reducible repeat (first | apply Kd.R_alloc | apply Kd.R_drewN | apply Kd.R_drew)); exact Kd.R_mono HO175.out (fun _ hk => trivial), by repeat (first | (with_reducible first | exact HB.out | apply below_alloc | apply pw_below_drewN | apply below_drew1 | refine below_set ?_ GE125.out) | exact HB.out)⟩
            · rw [if_neg c48] at H
              exact absurd H (by simp)
          · rw [if_neg c46] at H
            exact absurd H (by simp)
        · rw [if_neg c44] at H
          exact absurd H (by simp)

/-! ### spec_l03Copy: function 52 -/
def spec_l03Copy.f (l0 : List Int) : Option (List Int) := (some (([] : List Int) : List Int)).bind fun y176 => (if y176.length + l0.length < 140737488355328 then (some (y176 ++ l0)) else (none))
set_option maxHeartbeats 8000000 in
set_option maxRecDepth 100000 in
theorem spec_l03Copy.calls (A0 : Option Addr) (c0 : Nat) (l0 : List Int) (r : List Int) (w : World) (hr0 : Kd.C (Kd.int .u8) w A0 l0.length l0) (hc0 : l0.length ≤ c0) (h : spec_l03Copy.f l0 = some r) :
    Calls Try.prog 52 #[.slice A0 l0.length c0] w fun e w' => ∃ v0_ : Value, e = .returned (v0_) ∧ Kd.R (Kd.int .u8) 5 w' w.heap.size (fun _ => True) v0_ r ∧ Below w.heap.size w w' := by
  have HR0 := Aside0.mk hr0
  have HC0 := Aside0.mk hc0
  clear hr0 hc0
  have HB := Aside0.mk (Below.refl w.heap.size w)
  have H : ((some (([] : List Int) : List Int)).bind fun y176 => (if y176.length + l0.length < 140737488355328 then (some (y176 ++ l0)) else (none))) = some r := h
  clear h
  obtain ⟨y176, hy176⟩ : ∃ y_ : List Int, y_ = (([] : List Int)) := ⟨_, rfl⟩
  replace H : (if y176.length + l0.length < 140737488355328 then (some (y176 ++ l0)) else (none)) = some r := by first | (rw [hy176]; with_reducible exact H) | (have H2_ := (Option.bind_some _ _).symm.trans H; rw [hy176]; with_reducible exact H2_) | (have H2_ := (Option.bind_some _ _).symm.trans H; with_reducible exact H2_) | with_reducible exact H | (rw [hy176]; exact H) | exact H
  have Ny176 := Aside0.mk hy176
  clear hy176
  by_cases c2 : y176.length + l0.length < 140737488355328
  · rw [if_pos c2] at H
    have LMc2 := Aside0.mk c2
    clear c2
    obtain ⟨y179, hy179⟩ : ∃ y_ : List Int, y_ = (y176 ++ l0) := ⟨_, rfl⟩
    replace H : (some y179) = some r := by first | (rw [hy179]; with_reducible exact H) | (have H2_ := (Option.bind_some _ _).symm.trans H; rw [hy179]; with_reducible exact H2_) | (have H2_ := (Option.bind_some _ _).symm.trans H; with_reducible exact H2_) | with_reducible exact H | (rw [hy179]; exact H) | exact H
    have Ny179 := Aside0.mk hy179
    clear hy179
    obtain rfl := Option.some.inj H
    go_enter Try.func52, Try.ntmps52
    go_wp2_with (first | ((with_reducible refine gate_dst (N := 3) rfl ?_); refine Kd.R_lit (Kd.int .u8) _ 5 ?hg (N := 3) ?hd (xs := ([] : List Int)) (inner := []) (ok := fun _ => True) (okp := fun _ => True) ?hr ?hp (fun _ hk => hk) trivial (Below.refl _ _) (Nat.le_refl _) (by simp) ?_; (case hd => rfl); (case hg => rfl); (case hr => first | (go_simp; done) | (go_simp; rfl)); (case hp => exact (Reps.none _ _)); intro v177 w3 ho4 hb hg_ hnew_; clear hg_ hnew_; (first | rw [← Ny176.out] at ho4 | (simp only [Int.reduceToNat] at ho4; rw [← Ny176.out] at ho4)); have n0_ := Aside0.mk (Kd.R_lower ho4 (below_size (by repeat (first | (with_reducible first | exact HB.out | apply below_alloc | apply pw_below_drewN | apply below_drew1) | exact HB.out)))); have n1_ := Aside0.mk (below_step (by repeat (first | (with_reducible first | exact HB.out | apply below_alloc | apply pw_below_drewN | apply below_drew1) | exact HB.out)) hb); clear HB; have HO178 := n0_; have HB := n1_; clear n0_ n1_; clear hb ho4) | ((with_reducible refine gate_builtin (b := .append) (xs := #[.tmp 3, .tmp 4]) rfl ?_); at_builtin; refine Kd.R_append_rows (Kd.int .u8) (w0 := w) w.heap.size rfl (.tmp 3) (.tmp 4) 22 5 (.int .u8 0) 1 rfl Try.underlying22 info5 rfl (by decide) (by omega) v177 y176 l0 _ _ _ (fun _ => True) (fun _ => False) rfl rfl ?aO ?aR (fun _ _ h => h) (fun _ h => h.elim) ?aF ?aB ?aS ?aL ?_; (case aR => repeat (first | exact (Kd.C_below HR0.out HB.out) | (with_reducible refine Kd.C_alloc ?_ _) | (with_reducible refine Kd.C_drewN ?_ _) | (with_reducible refine Kd.C_drew ?_))); (case aB => exact (by repeat (first | (with_reducible first | exact HB.out | apply below_alloc | apply pw_below_drewN | apply below_drew1) | exact HB.out))); (case aF => exact (fun _ _ => trivial)); (case aO => exact (by (with_reducible repeat (first | apply Kd.R_alloc | apply Kd.R_drewN | apply Kd.R_drew)); exact HO178.out)); (case aS => exact (below_size (by repeat (first | (with_reducible first | exact HB.out | apply below_alloc | apply pw_below_drewN | apply below_drew1) | exact HB.out)))); (case aL => have := LMc2.out; omega); intro v180 w5 ho hb hg hat; rw [← Ny179.out] at ho; have n0_ := Aside0.mk (hb); have n1_ := Aside0.mk (ho); clear HB; clear HO178; have HB := n0_; have HO181 := n1_; clear n0_ n1_; clear ho hb hg hat))
    go_ret
    exact ⟨_, by first | rfl | (simp [errW_none, errW_some] <;> rfl) | (simp [*, errW_none, errW_some] <;> rfl), by (with_reducible repeat (first | apply Kd.R_alloc | apply Kd.R_drewN | apply Kd.R_drew)); exact HO181.out, by repeat (first | (with_reducible first | exact HB.out | apply below_alloc | apply pw_below_drewN | apply below_drew1) | exact HB.out)⟩
  · rw [if_neg c2] at H
    exact absurd H (by simp)

/-! ### spec_ResetToken: function 20 -/
def spec_ResetToken.j0 : Nat → List Int → List Int → Bool → Option (List Int)
  | 0, _, _, _ => none
  | k + 1, x0, x1, x12 => if x12 = true then (some (([] : List Int))) else ((spec_l03Digest.f k x0 x1).bind fun t185 => (if 8 ≤ (t185.length : Int) then ((spec_l03Copy.f (t185.take 8)).bind fun t192 => (some t192)) else (none)))
def spec_ResetToken.f (k : Nat) (l0 : List Int) (l1 : List Int) : Option (List Int) := if (l0.length : Int) = 16 then (spec_ResetToken.j0 k l0 l1 (decide ((l1.length : Int) > 8))) else (spec_ResetToken.j0 k l0 l1 true)
theorem spec_ResetToken.mono_l : ∀ k, (∀ y0 y1 y2, LeO (spec_ResetToken.j0 k y0 y1 y2) (spec_ResetToken.j0 (k + 1) y0 y1 y2))
  | 0 => fun _ _ _ r h => by simp [spec_ResetToken.j0] at h
  | k + 1 => by
    have ih0 := spec_ResetToken.mono_l k
    · intro y0 y1 y2
      unfold spec_ResetToken.j0
      repeat' first
      | (with_reducible exact ih0 _ _ _)
      | (with_reducible exact spec_l03Digest.mono _ _ _)
      | (with_reducible exact LeO.refl _)
      | (with_reducible exact LeO.none _)
      | (with_reducible refine LeO.ite ?_ ?_)
      | (with_reducible refine LeO.bind ?_ (fun _ => ?_))
      | exact ih0 _ _ _
      | exact spec_l03Digest.mono _ _ _
      | exact LeO.none _
      | refine LeO.ite ?_ ?_
      | refine LeO.bind ?_ (fun _ => ?_)
theorem spec_ResetToken.mono : ∀ a0 a1 k, LeO (spec_ResetToken.f k a0 a1) (spec_ResetToken.f (k + 1) a0 a1) := by
  intro a0 a1 k
  have ih0 := spec_ResetToken.mono_l k
  unfold spec_ResetToken.f
  repeat' first
      | (with_reducible exact ih0 _ _ _)
      | (with_reducible exact spec_l03Digest.mono _ _ _)
      | (with_reducible exact LeO.refl _)
      | (with_reducible exact LeO.none _)
      | (with_reducible refine LeO.ite ?_ ?_)
      | (with_reducible refine LeO.bind ?_ (fun _ => ?_))
      | exact ih0 _ _ _
      | exact spec_l03Digest.mono _ _ _
      | exact LeO.none _
      | refine LeO.ite ?_ ?_
      | refine LeO.bind ?_ (fun _ => ?_)
set_option maxHeartbeats 8000000 in
set_option maxRecDepth 100000 in
theorem spec_ResetToken.calls (k : Nat) (A0 : Option Addr) (c0 : Nat) (l0 : List Int) (A1 : Option Addr) (c1 : Nat) (l1 : List Int) (r : List Int) (w : World) (hr0 : Kd.C (Kd.int .u8) w A0 l0.length l0) (hc0 : l0.length ≤ c0) (hr1 : Kd.C (Kd.int .u8) w A1 l1.length l1) (hc1 : l1.length ≤ c1) (h : spec_ResetToken.f k l0 l1 = some r) :
    Calls Try.prog 20 #[.slice A0 l0.length c0, .slice A1 l1.length c1] w fun e w' => ∃ v0_ : Value, e = .returned (v0_) ∧ Kd.R (Kd.int .u8) 5 w' w.heap.size (fun _ => True) v0_ r ∧ Below w.heap.size w w' := by
  have HR0 := Aside0.mk hr0
  have HC0 := Aside0.mk hc0
  clear hr0 hc0
  have HR1 := Aside0.mk hr1
  have HC1 := Aside0.mk hc1
  clear hr1 hc1
  have HB := Aside0.mk (Below.refl w.heap.size w)
  have H : (if (l0.length : Int) = 16 then (spec_ResetToken.j0 k l0 l1 (decide ((l1.length : Int) > 8))) else (spec_ResetToken.j0 k l0 l1 true)) = some r := h
  clear h
  have HC3 := Aside0.mk H
  clear H
  go_enter Try.func20, Try.ntmps20
  go_upto_region 1 with (fail)
  go_cut [12] (fun v12 wc => ∃ (kq : Nat) (x12_2 : Bool), v12 = .bool x12_2 ∧ Aside0 (spec_ResetToken.j0 kq l0 l1 x12_2 = some r) ∧ Aside0 (kq ≤ k) ∧ Aside0 (Below w.heap.size w wc))
  case first =>
    have H := HC3.out
    clear HC3
    by_cases c4 : (l0.length : Int) = 16
    · rw [if_pos c4] at H
      have c4b0 : ((l0.length : Int) == 16) = true := beq_iff_eq.mpr c4
      have c4b1 : ((l0.length : Int) != 16) = false := bne_eq_false_iff_eq.mpr c4
      clear c4
      (first | rw [c4b0] | (simp only [i64_w, i32_w]; rw [c4b0]) | skip)
      have H' := Aside0.mk H
      clear H
      go_wp2
      go_meet
      case rel => exact ⟨_, (decide ((l1.length : Int) > 8)), (by first | rfl | (simp; done) | (simp [*]; done)), H', ⟨by first | omega | exact Nat.le_refl _⟩, ⟨by repeat (first | (with_reducible first | exact HB.out | apply below_alloc | apply pw_below_drewN | apply below_drew1) | exact HB.out)⟩⟩
    · rw [if_neg c4] at H
      have c4b0 : ((l0.length : Int) == 16) = false := beq_eq_false_iff_ne.mpr c4
      have c4b1 : ((l0.length : Int) != 16) = true := bne_iff_ne.mpr c4
      (first | rw [c4b0] | (simp only [i64_w, i32_w]; rw [c4b0]) | skip)
      have H' := Aside0.mk H
      clear H
      go_wp2
      go_meet
      case rel => exact ⟨_, (true), (by first | rfl | (simp; done) | (simp [*]; done)), H', ⟨by first | omega | exact Nat.le_refl _⟩, ⟨by repeat (first | (with_reducible first | exact HB.out | apply below_alloc | apply pw_below_drewN | apply below_drew1) | exact HB.out)⟩⟩
  case rest =>
    clear HC3
    try clear c1
    try clear c2
    try clear p2
    try clear c4
    try clear c4b0
    try clear c4b1
    obtain ⟨kq, x12_2, rfl, HA, HJ2, HB⟩ := hcut
    cases kq with
    | zero => exact absurd HA.out (by simp [spec_ResetToken.j0])
    | succ kj2 =>
      have H := HA.out
      clear HA
      simp only [spec_ResetToken.j0] at H
      by_cases c5 : x12_2 = true
      · subst c5
        have H1 : (some (([] : List Int))) = some r := by rw [if_pos rfl] at H; exact H
        clear H
        have H := H1
        clear H1
        obtain ⟨y182, hy182⟩ : ∃ y_ : List Int, y_ = (([] : List Int)) := ⟨_, rfl⟩
        replace H : (some y182) = some r := by first | (rw [hy182]; with_reducible exact H) | (have H2_ := (Option.bind_some _ _).symm.trans H; rw [hy182]; with_reducible exact H2_) | (have H2_ := (Option.bind_some _ _).symm.trans H; with_reducible exact H2_) | with_reducible exact H | (rw [hy182]; exact H) | exact H
        have Ny182 := Aside0.mk hy182
        clear hy182
        obtain rfl := Option.some.inj H
        go_wp2_with (first | ((with_reducible refine gate_dst (N := 13) rfl ?_); (try (refine gate_guard (by rfl) ?_; dsimp only)); refine Kd.R_lit (Kd.int .u8) _ 5 ?hg (N := 13) ?hd (xs := ([] : List Int)) (inner := []) (ok := fun _ => True) (okp := fun _ => True) ?hr ?hp (fun _ hk => hk) trivial (Below.refl _ _) (Nat.le_refl _) (by simp) ?_; (case hd => rfl); (case hg => rfl); (case hr => first | (go_simp; done) | (go_simp; rfl)); (case hp => exact (Reps.none _ _)); intro v183 w6 ho7 hb hg_ hnew_; clear hg_ hnew_; (first | rw [← Ny182.out] at ho7 | (simp only [Int.reduceToNat] at ho7; rw [← Ny182.out] at ho7)); have n0_ := Aside0.mk (Kd.R_lower ho7 (below_size (by repeat (first | (with_reducible first | exact HB.out | apply below_alloc | apply pw_below_drewN | apply below_drew1) | exact HB.out)))); have n1_ := Aside0.mk (below_step (by repeat (first | (with_reducible first | exact HB.out | apply below_alloc | apply pw_below_drewN | apply below_drew1) | exact HB.out)) hb); clear HB; have HO184 := n0_; have HB := n1_; clear n0_ n1_; clear hb ho7))
        go_ret
        exact ⟨_, by first | rfl | (simp [errW_none, errW_some] <;> rfl) | (simp [*, errW_none, errW_some] <;> rfl), by (with_reducible repeat (first | apply Kd.R_alloc | apply Kd.R_drewN | apply Kd.R_drew)); exact HO184.out, by repeat (first | (with_reducible first | exact HB.out | apply below_alloc | apply pw_below_drewN | apply below_drew1) | exact HB.out)⟩
      · replace c5 := Bool.eq_false_iff.mpr c5
        subst c5
        have H1 : ((spec_l03Digest.f kj2 l0 l1).bind fun t185 => (if 8 ≤ (t185.length : Int) then ((spec_l03Copy.f (t185.take 8)).bind fun t192 => (some t192)) else (none))) = some r := by rw [if_neg (show ¬ (false = true) by decide)] at H; exact H
        clear H
        have H := H1
        clear H1
        replace H := Option.bind_eq_some_iff.mp H
        obtain ⟨t185, A80, H⟩ := H
        replace H : (if 8 ≤ (t185.length : Int) then ((spec_l03Copy.f (t185.take 8)).bind fun t192 => (some t192)) else (none)) = some r := H
        have A8 := Aside0.mk A80
        clear A80
        by_cases c9 : 8 ≤ (t185.length : Int)
        · rw [if_pos c9] at H
          have c9b0 := eq_true c9
          have c9b1 : decide (8 ≤ (t185.length : Int)) = true := decide_eq_true c9
          clear c9
          obtain ⟨y188, hy188⟩ : ∃ y_ : List Int, y_ = (t185.take 8) := ⟨_, rfl⟩
          replace H : ((spec_l03Copy.f y188).bind fun t192 => (some t192)) = some r := by first | (rw [hy188]; with_reducible exact H) | (have H2_ := (Option.bind_some _ _).symm.trans H; rw [hy188]; with_reducible exact H2_) | (have H2_ := (Option.bind_some _ _).symm.trans H; with_reducible exact H2_) | with_reducible exact H | (rw [hy188]; exact H) | exact H
          have Ny188 := Aside0.mk hy188
          clear hy188
          replace H := Option.bind_eq_some_iff.mp H
          obtain ⟨t192, A100, H⟩ := H
          replace H : (some t192) = some r := H
          have A10 := Aside0.mk A100
          clear A100
          obtain rfl := Option.some.inj H
          go_wp2_with (first | ((with_reducible refine gate_callee (f := 49) rfl ?_); refine goesL_ (some 16) rfl rfl Try.func49 (by kernel_rfl) rfl #[.slice A0 l0.length c0, .slice A1 l1.length c1] rfl (by (try simp only [List.map_toArray, List.map_cons, List.map_nil]); first | done | rfl | (simp only [List.length_drop, List.length_take]; rfl)) ?_; (with_reducible refine (spec_l03Digest.calls kj2 _ _ l0 _ _ l1 t185 _ ?side1 ?side2 ?side3 ?side4 A8.out).mono ?_); (case side1 => repeat (first | exact (Kd.C_below HR0.out HB.out) | (with_reducible refine Kd.C_alloc ?_ _) | (with_reducible refine Kd.C_drewN ?_ _) | (with_reducible refine Kd.C_drew ?_))); (case side2 => exact HC0.out); (case side3 => repeat (first | exact (Kd.C_below HR1.out HB.out) | (with_reducible refine Kd.C_alloc ?_ _) | (with_reducible refine Kd.C_drewN ?_ _) | (with_reducible refine Kd.C_drew ?_))); (case side4 => exact HC1.out); rintro e w11 ⟨v186, rfl, ho0, hb⟩; refine ⟨_, rfl, ?_⟩; have n0_ := Aside0.mk (Kd.R_lower ho0 (below_size (by repeat (first | (with_reducible first | exact HB.out | apply below_alloc | apply pw_below_drewN | apply below_drew1) | exact HB.out)))); have n1_ := Aside0.mk (below_step (by repeat (first | (with_reducible first | exact HB.out | apply below_alloc | apply pw_below_drewN | apply below_drew1) | exact HB.out)) hb); clear HB; have HO187 := n0_; have HB := n1_; clear n0_ n1_; (try clear hb); (try clear hb2); (try clear hk); (try clear hi); (try clear ho0); obtain ⟨Ao13, co13, eo13⟩ := Kd.R_slice HO187.out; subst eo13; have q12 : (8 : Int) ≤ ((t185.length : Int) : Int) := of_decide_eq_true (by first | (with_reducible assumption) | assumption); obtain ⟨i012, hi012, _, hsz12, _⟩ := info_parts info5; have hroom12 : t185.length ≤ co13 := (Kd.R_reads' HO187.out).2.1; have hC12 : Kd.C (Kd.int .u8) _ Ao13 t185.length t185 := (Kd.R_reads' HO187.out).2.2; have hcut12 := cut_to (P := Try.prog) 22 5 .i64 Try.underlying22 hi012 Ao13 t185.length co13 8 (by omega) q12 hroom12; have hr12 := Kd.C_take (m := 8) hC12 (by omega); have hy12 : y188.length = (8 : Int).toNat := (by rw [Ny188.out, List.length_take]; omega); rw [← Ny188.out] at hr12; rw [← hy12] at hcut12; have HR191 := Aside0.mk hr12; have HC191 := Aside0.mk (show y188.length ≤ co13 from by omega); clear hr12 hC12 hroom12 hi012 hsz12; have KY12 := Aside0.mk hy12; clear hy12; have KL12 := Aside0.mk (show 8 ≤ t185.length from by omega); replace q12 := eq_true q12) | ((with_reducible refine gate_callee (f := 52) rfl ?_); refine goesL_ (some 18) rfl rfl Try.func52 (by kernel_rfl) rfl #[.slice Ao13 y188.length co13] rfl (by (try simp only [List.map_toArray, List.map_cons, List.map_nil]); first | done | rfl | (simp only [List.length_drop, List.length_take]; rfl)) ?_; (with_reducible refine (spec_l03Copy.calls _ _ y188 t192 _ ?side1 ?side2 A10.out).mono ?_); (case side1 => repeat (first | exact (by repeat (first | (with_reducible exact HR191.out) | (with_reducible refine Kd.C_alloc ?_ _) | (with_reducible refine Kd.C_drewN ?_ _) | (with_reducible refine Kd.C_drew ?_) | exact HR191.out)) | (with_reducible refine Kd.C_alloc ?_ _) | (with_reducible refine Kd.C_drewN ?_ _) | (with_reducible refine Kd.C_drew ?_))); (case side2 => exact HC191.out); rintro e w14 ⟨v193, rfl, ho0, hb⟩; refine ⟨_, rfl, ?_⟩; have n0_ := Aside0.mk (Kd.R_elder' (by (with_reducible repeat (first | apply Kd.R_alloc | apply Kd.R_drewN | apply Kd.R_drew)); exact HO187.out) (Kd.R_base ho0) hb); have n1_ := Aside0.mk (Kd.R_lower (Kd.R_new' ho0 (Kd.R_lt (by (with_reducible repeat (first | apply Kd.R_alloc | apply Kd.R_drewN | apply Kd.R_drew)); exact HO187.out))) (below_size (by repeat (first | (with_reducible first | exact HB.out | apply below_alloc | apply pw_below_drewN | apply below_drew1) | exact HB.out)))); have n2_ := Aside0.mk (Kd.C_below (by repeat (first | (with_reducible exact HR191.out) | (with_reducible refine Kd.C_alloc ?_ _) | (with_reducible refine Kd.C_drewN ?_ _) | (with_reducible refine Kd.C_drew ?_) | exact HR191.out)) hb); have n3_ := Aside0.mk (below_step (by repeat (first | (with_reducible first | exact HB.out | apply below_alloc | apply pw_below_drewN | apply below_drew1) | exact HB.out)) hb); clear HO187; clear HR191; clear HB; have HO187 := n0_; have HO194 := n1_; have HR191 := n2_; have HB := n3_; clear n0_ n1_ n2_ n3_; (try clear hb); (try clear hb2); (try clear hk); (try clear hi); (try clear ho0)))
          go_ret
          exact ⟨_, by first | rfl | (simp [errW_none, errW_some] <;> rfl) | (simp [*, errW_none, errW_some] <;> rfl), by (with_reducible repeat (first | apply Kd.R_alloc | apply Kd.R_drewN | apply Kd.R_drew)); exact Kd.R_mono HO194.out (fun _ hk => trivial), by repeat (first | (with_reducible first | exact HB.out | apply below_alloc | apply pw_below_drewN | apply below_drew1) | exact HB.out)⟩
        · rw [if_neg c9] at H
          exact absurd H (by simp)

/-! ### bits_RotateLeft32: function 87 -/
def bits_RotateLeft32.f (a0 : Int) (a1 : Int) : Option (Int) := if 0 ≤ (Go.bits .and .u64 (IntKind.u64.wrap (a1)) 31) then (if 0 ≤ (IntKind.u64.wrap (32 - (Go.bits .and .u64 (IntKind.u64.wrap (a1)) 31))) then (some (Go.bits .or .u32 (shl .u32 a0 (Go.bits .and .u64 (IntKind.u64.wrap (a1)) 31)) (shr .u32 a0 (IntKind.u64.wrap (32 - (Go.bits .and .u64 (IntKind.u64.wrap (a1)) 31)))))) else (none)) else (none)
set_option maxHeartbeats 8000000 in
set_option maxRecDepth 100000 in
theorem bits_RotateLeft32.calls (a0 : Int) (a1 : Int) (r : Int) (w : World) (h : bits_RotateLeft32.f a0 a1 = some r) :
    Calls Try.prog 87 #[.int .u32 a0, .int .i64 a1] w fun e w' => e = .returned (.int .u32 r) ∧ Drawn0 w w' := by
  have H : (if 0 ≤ (Go.bits .and .u64 (IntKind.u64.wrap (a1)) 31) then (if 0 ≤ (IntKind.u64.wrap (32 - (Go.bits .and .u64 (IntKind.u64.wrap (a1)) 31))) then (some (Go.bits .or .u32 (shl .u32 a0 (Go.bits .and .u64 (IntKind.u64.wrap (a1)) 31)) (shr .u32 a0 (IntKind.u64.wrap (32 - (Go.bits .and .u64 (IntKind.u64.wrap (a1)) 31)))))) else (none)) else (none)) = some r := h
  clear h
  obtain ⟨ji3, hji3⟩ : ∃ j_ : Int, (Go.bits .and .u64 (IntKind.u64.wrap (a1)) 31) = j_ := ⟨_, rfl⟩
  replace H : (if 0 ≤ (ji3) then (if 0 ≤ (IntKind.u64.wrap (32 - (ji3))) then (some (Go.bits .or .u32 (shl .u32 a0 (ji3)) (shr .u32 a0 (IntKind.u64.wrap (32 - (ji3)))))) else (none)) else (none)) = some r := by first | (rw [hji3] at H; exact H) | (simp only [hji3] at H ⊢; exact H)
  by_cases c4 : 0 ≤ (ji3)
  · rw [if_pos c4] at H
    have c4b0 := eq_true c4
    have c4b1 : decide (0 ≤ (ji3)) = true := decide_eq_true c4
    clear c4
    obtain ⟨ji5, hji5⟩ : ∃ j_ : Int, (shl .u32 a0 (ji3)) = j_ := ⟨_, rfl⟩
    replace H : (if 0 ≤ (IntKind.u64.wrap (32 - (ji3))) then (some (Go.bits .or .u32 (ji5) (shr .u32 a0 (IntKind.u64.wrap (32 - (ji3)))))) else (none)) = some r := by first | (rw [hji5] at H; exact H) | (simp only [hji5] at H ⊢; exact H)
    have hji5_ : (IntKind.u32.wrap (a0 * 2 ^ min (ji3).toNat 32)) = ji5 := hji5
    have hji5z : (ji3) ≤ 32 → (IntKind.u32.wrap (a0 * 2 ^ (ji3).toNat)) = ji5 := shl_small hji5
    obtain ⟨ji6, hji6⟩ : ∃ j_ : Int, (IntKind.u64.wrap (32 - (ji3))) = j_ := ⟨_, rfl⟩
    replace H : (if 0 ≤ (ji6) then (some (Go.bits .or .u32 (ji5) (shr .u32 a0 (ji6)))) else (none)) = some r := by first | (rw [hji6] at H; exact H) | (simp only [hji6] at H ⊢; exact H)
    by_cases c7 : 0 ≤ (ji6)
    · rw [if_pos c7] at H
      have c7b0 := eq_true c7
      have c7b1 : decide (0 ≤ (ji6)) = true := decide_eq_true c7
      clear c7
      obtain ⟨ji8, hji8⟩ : ∃ j_ : Int, (shr .u32 a0 (ji6)) = j_ := ⟨_, rfl⟩
      replace H : (some (Go.bits .or .u32 (ji5) (ji8))) = some r := by first | (rw [hji8] at H; exact H) | (simp only [hji8] at H ⊢; exact H)
      have hji8_ : (a0 / 2 ^ min (ji6).toNat 32) = ji8 := hji8
      have hji8z : (ji6) ≤ 32 → (a0 / 2 ^ (ji6).toNat) = ji8 := shr_small hji8
      obtain rfl := Option.some.inj H
      go_enter Try.func87, Try.ntmps87
      go_wp2
      go_ret
      exact ⟨by first | rfl | (simp; done) | (simp only [← hji3, ← hji5, ← hji6, ← hji8] <;> (first | rfl | simp)) | (simp [*]; done), by repeat (first | exact Drawn0.refl _ | apply Drawn0.step)⟩
    · rw [if_neg c7] at H
      exact absurd H (by simp)
  · rw [if_neg c4] at H
    exact absurd H (by simp)

/-- A state of type 79 at block g of W; what its slices lead to came in by w0. -/
def IsS79 (w0 W : World) (g : Nat) (f0 : Int) (f1 : Int) (f2 : Int) (f3 : Int) : Prop := W.heap[g]? = some (.cells #[.int .u32 f0, .int .u32 f1, .int .u32 f2, .int .u32 f3] 79 (0, 0)) ∧ w0.heap.size ≤ g
theorem IsS79.grown {w0 W : World} {g : Nat} {f0 : Int} {f1 : Int} {f2 : Int} {f3 : Int} {W1 : World} {row : Option Nat} (h : IsS79 w0 W g f0 f1 f2 f3) (hw : W.grownBy W1 row) (hne : some g ≠ row) : IsS79 w0 W1 g f0 f1 f2 f3 := by
  obtain ⟨hb, hg⟩ := h
  exact ⟨blk_grown hb hw hne, hg⟩
theorem IsS79.own_neN {w0 W : World} {g : Nat} {f0 : Int} {f1 : Int} {f2 : Int} {f3 : Int} {α : Type} {d : Kd α} {e : Nat} {base : Nat} {ok : Nat → Prop} {v : Value} {xs : List α} (h : IsS79 w0 W g f0 f1 f2 f3) (ho : Kd.N d e W base ok v xs) (ht : e ≠ 79) : some g ≠ v.ownBlock := by
  obtain ⟨hb, hg⟩ := h
  exact Kd.N_ne ho hb ht
theorem IsS79.fresh {w0 W : World} {g : Nat} {f0 : Int} {f1 : Int} {f2 : Int} {f3 : Int} (h : IsS79 w0 W g f0 f1 f2 f3) : ∀ k, W.heap.size ≤ k → k ≠ g := by
  obtain ⟨hb, hg⟩ := h
  exact Kd.freshB hb
theorem IsS79.kept {w0 W : World} {g : Nat} {f0 : Int} {f1 : Int} {f2 : Int} {f3 : Int} {W1 : World} {S : Nat → Prop} (h : IsS79 w0 W g f0 f1 f2 f3) (hk : Kept W W1 S) (hne : ¬ S g) : IsS79 w0 W1 g f0 f1 f2 f3 := by
  obtain ⟨hb, hg⟩ := h
  exact ⟨blk_kept hb hk hne, hg⟩
theorem IsS79.below {w0 W : World} {g : Nat} {f0 : Int} {f1 : Int} {f2 : Int} {f3 : Int} {W1 : World} (h : IsS79 w0 W g f0 f1 f2 f3) (hw : Below W.heap.size W W1) : IsS79 w0 W1 g f0 f1 f2 f3 := h.grown (grown_of_below hw none) (by simp)
theorem IsS79.alloc {w0 W : World} {g : Nat} {f0 : Int} {f1 : Int} {f2 : Int} {f3 : Int} (h : IsS79 w0 W g f0 f1 f2 f3) (o : Obj) : IsS79 w0 (W.alloc o) g f0 f1 f2 f3 := h.below (below_alloc (Below.refl _ _) o)
theorem IsS79.drewN {w0 W : World} {g : Nat} {f0 : Int} {f1 : Int} {f2 : Int} {f3 : Int} (h : IsS79 w0 W g f0 f1 f2 f3) (m : Nat) : IsS79 w0 (W.drewN m) g f0 f1 f2 f3 := h
theorem IsS79.drew {w0 W : World} {g : Nat} {f0 : Int} {f1 : Int} {f2 : Int} {f3 : Int} (h : IsS79 w0 W g f0 f1 f2 f3) : IsS79 w0 W.drew g f0 f1 f2 f3 := h
theorem IsS79.at_ {w0 W : World} {g : Nat} {f0 : Int} {f1 : Int} {f2 : Int} {f3 : Int} {w' : World} {m : Nat} (hq : W.drewN m = w') (h : IsS79 w0 W g f0 f1 f2 f3) : IsS79 w0 w' g f0 f1 f2 f3 := by subst hq; exact IsS79.drewN h m
theorem IsS79.apart {w0 W : World} {g : Nat} {f0 : Int} {f1 : Int} {f2 : Int} {f3 : Int} {α : Type} {d : Kd α} {e : Nat} {base : Nat} {ok : Nat → Prop} {v : Value} {xs : List α} (h : IsS79 w0 W g f0 f1 f2 f3) (ho : d.R e W base ok v xs) (ht : ∀ q, q ∈ e :: d.E → q ≠ 79) : d.R e W base (fun k => ok k ∧ k ≠ g) v xs := by
  obtain ⟨hb, hg⟩ := h
  exact Kd.R_types ho hb ht
theorem IsS79.own_ne {w0 W : World} {g : Nat} {f0 : Int} {f1 : Int} {f2 : Int} {f3 : Int} {α : Type} {d : Kd α} {e : Nat} {base : Nat} {ok : Nat → Prop} {v : Value} {xs : List α} (h : IsS79 w0 W g f0 f1 f2 f3) (ho : d.R e W base ok v xs) (ht : e ≠ 79) : some g ≠ v.ownBlock := by
  obtain ⟨hb, hg⟩ := h
  exact Kd.R_ne ho hb ht
theorem IsS79.apartQ {w0 W : World} {g : Nat} {f0 : Int} {f1 : Int} {f2 : Int} {f3 : Int} {α : Type} {d : Kd α} {e : Nat} {base : Nat} {ok : Nat → Prop} {v : Value} {xs : List α} (h : IsS79 w0 W g f0 f1 f2 f3) (ho : d.Q e W base ok v xs) (ht : ∀ q, q ∈ e :: d.E → q ≠ 79) : d.Q e W base (fun k => ok k ∧ k ≠ g) v xs := by
  obtain ⟨hb, hg⟩ := h
  exact Kd.Q_types ho hb ht
theorem IsS79.own_neQ {w0 W : World} {g : Nat} {f0 : Int} {f1 : Int} {f2 : Int} {f3 : Int} {α : Type} {d : Kd α} {e : Nat} {base : Nat} {ok : Nat → Prop} {v : Value} {xs : List α} (h : IsS79 w0 W g f0 f1 f2 f3) (ho : d.Q e W base ok v xs) (ht : e ≠ 79) : some g ≠ v.ownBlock := by
  obtain ⟨hb, hg⟩ := h
  exact Kd.Q_ne ho hb ht
theorem IsS79.apartS {w0 W : World} {g : Nat} {f0 : Int} {f1 : Int} {f2 : Int} {f3 : Int} {α : Type} {d : Kd α} {e : Nat} {base : Nat} {ok : Nat → Prop} {v : Value} {xs : List α} (h : IsS79 w0 W g f0 f1 f2 f3) (ho : d.S e W base ok v xs) (ht : ∀ q, q ∈ e :: d.E → q ≠ 79) : d.S e W base (fun k => ok k ∧ k ≠ g) v xs := by
  obtain ⟨hb, hg⟩ := h
  exact Kd.S_types ho hb ht
theorem IsS79.own_neS {w0 W : World} {g : Nat} {f0 : Int} {f1 : Int} {f2 : Int} {f3 : Int} {α : Type} {d : Kd α} {e : Nat} {base : Nat} {ok : Nat → Prop} {v : Value} {xs : List α} (h : IsS79 w0 W g f0 f1 f2 f3) (ho : d.S e W base ok v xs) (ht : e ≠ 79) : some g ≠ v.ownBlock := by
  obtain ⟨hb, hg⟩ := h
  exact Kd.S_ne ho hb ht
theorem IsS79.lt {w0 W : World} {g : Nat} {f0 : Int} {f1 : Int} {f2 : Int} {f3 : Int} (h : IsS79 w0 W g f0 f1 f2 f3) : g < W.heap.size := by
  obtain ⟨hb, hg⟩ := h
  exact blk_lt hb
theorem IsS79.ge {w0 W : World} {g : Nat} {f0 : Int} {f1 : Int} {f2 : Int} {f3 : Int} (h : IsS79 w0 W g f0 f1 f2 f3) : w0.heap.size ≤ g := by
  obtain ⟨hb, hg⟩ := h
  exact hg
theorem IsS79.ne_blk {w0 W : World} {g : Nat} {f0 : Int} {f1 : Int} {f2 : Int} {f3 : Int} {a : Nat} {cs : Array Value} {t : TypeId} {fr : Nat × Nat} (h : IsS79 w0 W g f0 f1 f2 f3) (hb2 : W.heap[a]? = some (.cells cs t fr)) (ht : t ≠ 79) : g ≠ a := by
  obtain ⟨hb, hg⟩ := h
  rintro rfl
  rw [hb] at hb2
  injection hb2 with hb2
  injection hb2 with _ ht2
  exact ht ht2.symm
theorem IsS79.far {w0 W : World} {g : Nat} {f0 : Int} {f1 : Int} {f2 : Int} {f3 : Int} {p : Addr} (h : IsS79 w0 W g f0 f1 f2 f3) (hne : g ≠ p.block) (u : Value) : IsS79 w0 (W.setCell p u) g f0 f1 f2 f3 := by
  obtain ⟨hb, hg⟩ := h
  exact ⟨blk_far hb hne u, hg⟩
theorem cellS79_0 {W : World} {g : Nat} {f0 : Int} {f1 : Int} {f2 : Int} {f3 : Int} (h : W.heap[g]? = some (.cells #[.int .u32 f0, .int .u32 f1, .int .u32 f2, .int .u32 f3] 79 (0, 0))) : W.cell? ⟨g, 0, none⟩ = some (.int .u32 f0) := (blk_cell h 0).trans rfl
theorem IsS79.set_0 {w0 W : World} {g : Nat} {f0 : Int} {f1 : Int} {f2 : Int} {f3 : Int} (h : IsS79 w0 W g f0 f1 f2 f3) (x : Int) : IsS79 w0 (W.setCell ⟨g, 0, none⟩ (.int .u32 x)) g x f1 f2 f3 := by
  obtain ⟨hb, hg⟩ := h
  exact ⟨by simpa using blk_set hb 0 (.int .u32 x), hg⟩
theorem cellS79_1 {W : World} {g : Nat} {f0 : Int} {f1 : Int} {f2 : Int} {f3 : Int} (h : W.heap[g]? = some (.cells #[.int .u32 f0, .int .u32 f1, .int .u32 f2, .int .u32 f3] 79 (0, 0))) : W.cell? ⟨g, 1, none⟩ = some (.int .u32 f1) := (blk_cell h 1).trans rfl
theorem IsS79.set_1 {w0 W : World} {g : Nat} {f0 : Int} {f1 : Int} {f2 : Int} {f3 : Int} (h : IsS79 w0 W g f0 f1 f2 f3) (x : Int) : IsS79 w0 (W.setCell ⟨g, 1, none⟩ (.int .u32 x)) g f0 x f2 f3 := by
  obtain ⟨hb, hg⟩ := h
  exact ⟨by simpa using blk_set hb 1 (.int .u32 x), hg⟩
theorem cellS79_2 {W : World} {g : Nat} {f0 : Int} {f1 : Int} {f2 : Int} {f3 : Int} (h : W.heap[g]? = some (.cells #[.int .u32 f0, .int .u32 f1, .int .u32 f2, .int .u32 f3] 79 (0, 0))) : W.cell? ⟨g, 2, none⟩ = some (.int .u32 f2) := (blk_cell h 2).trans rfl
theorem IsS79.set_2 {w0 W : World} {g : Nat} {f0 : Int} {f1 : Int} {f2 : Int} {f3 : Int} (h : IsS79 w0 W g f0 f1 f2 f3) (x : Int) : IsS79 w0 (W.setCell ⟨g, 2, none⟩ (.int .u32 x)) g f0 f1 x f3 := by
  obtain ⟨hb, hg⟩ := h
  exact ⟨by simpa using blk_set hb 2 (.int .u32 x), hg⟩
theorem cellS79_3 {W : World} {g : Nat} {f0 : Int} {f1 : Int} {f2 : Int} {f3 : Int} (h : W.heap[g]? = some (.cells #[.int .u32 f0, .int .u32 f1, .int .u32 f2, .int .u32 f3] 79 (0, 0))) : W.cell? ⟨g, 3, none⟩ = some (.int .u32 f3) := (blk_cell h 3).trans rfl
theorem IsS79.set_3 {w0 W : World} {g : Nat} {f0 : Int} {f1 : Int} {f2 : Int} {f3 : Int} (h : IsS79 w0 W g f0 f1 f2 f3) (x : Int) : IsS79 w0 (W.setCell ⟨g, 3, none⟩ (.int .u32 x)) g f0 f1 f2 x := by
  obtain ⟨hb, hg⟩ := h
  exact ⟨by simpa using blk_set hb 3 (.int .u32 x), hg⟩
theorem IsS79.new (w0 W : World) (f0 : Int) (f1 : Int) (f2 : Int) (f3 : Int) (hB : Below w0.heap.size w0 W) : IsS79 w0 (W.alloc (.cells #[.int .u32 f0, .int .u32 f1, .int .u32 f2, .int .u32 f3] 79)) W.heap.size f0 f1 f2 f3 := ⟨by simpa using heap_alloc_new W _, hB.size⟩

/-! ### impl_stirrer_stir: function 79 -/
def impl_stirrer_stir.l0 : Nat → List Int → Int → Int → Int → Int → Int → Int → Option (Int × Int × Int × Int)
  | 0, _, _, _, _, _, _, _ => none
  | k + 1, x6, x7, x8, x1000, x1001, x1002, x1003 => if x8 < x7 then (if 0 ≤ x8 then (if x8 < (x6.length : Int) then ((bits_RotateLeft32.f ((x1001 + (((Go.bits .xor .u32 x1000 ((rd x6 x8) % 4294967296)) * 16777619) % 4294967296)) % 4294967296) 7).bind fun t196 => ((bits_RotateLeft32.f (Go.bits .xor .u32 x1002 t196) 13).bind fun t197 => ((bits_RotateLeft32.f ((x1003 + t197) % 4294967296) 17).bind fun t198 => (impl_stirrer_stir.l0 k x6 x7 (wrap64 (x8 + 1)) (Go.bits .xor .u32 (((Go.bits .xor .u32 x1000 ((rd x6 x8) % 4294967296)) * 16777619) % 4294967296) t198) t196 t197 t198)))) else (none)) else (none)) else (some (x1000, x1001, x1002, x1003))
def impl_stirrer_stir.f (k : Nat) (s0_0 : Int) (s0_1 : Int) (s0_2 : Int) (s0_3 : Int) (l1 : List Int) : Option (Int × Int × Int × Int) := impl_stirrer_stir.l0 k l1 (l1.length : Int) 0 s0_0 s0_1 s0_2 s0_3
theorem impl_stirrer_stir.mono_l : ∀ k, (∀ y0 y1 y2 y3 y4 y5 y6, LeO (impl_stirrer_stir.l0 k y0 y1 y2 y3 y4 y5 y6) (impl_stirrer_stir.l0 (k + 1) y0 y1 y2 y3 y4 y5 y6))
  | 0 => fun _ _ _ _ _ _ _ r h => by simp [impl_stirrer_stir.l0] at h
  | k + 1 => by
    have ih0 := impl_stirrer_stir.mono_l k
    · intro y0 y1 y2 y3 y4 y5 y6
      unfold impl_stirrer_stir.l0
      repeat' first
      | (with_reducible exact ih0 _ _ _ _ _ _ _)
      | (with_reducible exact LeO.refl _)
      | (with_reducible exact LeO.none _)
      | (with_reducible refine LeO.ite ?_ ?_)
      | (with_reducible refine LeO.bind ?_ (fun _ => ?_))
      | exact ih0 _ _ _ _ _ _ _
      | exact LeO.none _
      | refine LeO.ite ?_ ?_
      | refine LeO.bind ?_ (fun _ => ?_)
theorem impl_stirrer_stir.mono : ∀ a0 a1 a2 a3 a4 k, LeO (impl_stirrer_stir.f k a0 a1 a2 a3 a4) (impl_stirrer_stir.f (k + 1) a0 a1 a2 a3 a4) := by
  intro a0 a1 a2 a3 a4 k
  have ih0 := impl_stirrer_stir.mono_l k
  unfold impl_stirrer_stir.f
  repeat' first
      | (with_reducible exact ih0 _ _ _ _ _ _ _)
      | (with_reducible exact LeO.refl _)
      | (with_reducible exact LeO.none _)
      | (with_reducible refine LeO.ite ?_ ?_)
      | (with_reducible refine LeO.bind ?_ (fun _ => ?_))
      | exact ih0 _ _ _ _ _ _ _
      | exact LeO.none _
      | refine LeO.ite ?_ ?_
      | refine LeO.bind ?_ (fun _ => ?_)
set_option maxHeartbeats 8000000 in
set_option maxRecDepth 100000 in
theorem impl_stirrer_stir.calls (k : Nat) (g : Nat) (s0_0 : Int) (s0_1 : Int) (s0_2 : Int) (s0_3 : Int) (A1 : Option Addr) (c1 : Nat) (l1 : List Int) (r1 : Int) (r2 : Int) (r3 : Int) (r4 : Int) (w0 w : World) (hI : IsS79 w0 w g s0_0 s0_1 s0_2 s0_3) (hB : Below w0.heap.size w0 w) (hr1 : Kd.C (Kd.int .u8) w A1 l1.length l1) (hc1 : l1.length ≤ c1) (hf1 : ∀ ad, A1 = some ad → 0 < l1.length → ad.block ≠ g) (h : impl_stirrer_stir.f k s0_0 s0_1 s0_2 s0_3 l1 = some (r1, r2, r3, r4)) :
    Calls Try.prog 79 #[.pointer (some ⟨g, 0, none⟩), .slice A1 l1.length c1] w fun e w' => e = .returned (.tuple #[]) ∧ IsS79 w0 w' g r1 r2 r3 r4 ∧ Below w0.heap.size w0 w' ∧ KeepBut w w' g none := by
  have HR1 := Aside0.mk hr1
  have HC1 := Aside0.mk hc1
  clear hr1 hc1
  have HI0 := Aside0.mk hI
  have HK := Aside0.mk (KeepBut.refl w g none)
  have HL := Aside0.mk hB.size
  clear hI
  have HW0 := Aside0.mk hB.size
  have HB := Aside0.mk hB
  clear hB
  have H : (impl_stirrer_stir.l0 k l1 (l1.length : Int) 0 s0_0 s0_1 s0_2 s0_3) = some (r1, r2, r3, r4) := h
  clear h
  have H' := Aside0.mk H
  clear H
  go_enter Try.func79, Try.ntmps79
  go_wp2
  go_loopg [8] k (fun kq v8 w' => ∃ (x8_1 : Int) (x1000_1 : Int) (x1001_1 : Int) (x1002_1 : Int) (x1003_1 : Int), v8 = .int .i64 x8_1 ∧ Aside0 (impl_stirrer_stir.l0 kq l1 (l1.length : Int) x8_1 x1000_1 x1001_1 x1002_1 x1003_1 = some (r1, r2, r3, r4)) ∧ Aside0 (kq ≤ k) ∧ Aside0 (IsS79 w0 w' g x1000_1 x1001_1 x1002_1 x1003_1) ∧ Aside0 (KeepBut w w' g none) ∧ Aside0 (Below w0.heap.size w0 w'))
  case atStart => exact ⟨(0), (s0_0), (s0_1), (s0_2), (s0_3), (by first | rfl | (simp; done) | (simp [*]; done)), H', ⟨Nat.le_refl _⟩, ⟨by repeat (first | (with_reducible first | exact HI0.out | apply IsS79.alloc | apply IsS79.drewN | apply IsS79.drew | apply IsS79.set_0 | apply IsS79.set_1 | apply IsS79.set_2 | apply IsS79.set_3) | exact HI0.out)⟩, ⟨by repeat (first | (with_reducible first | exact HK.out | apply KeepBut.set_ | apply keep_drewN | apply keep_drew | apply keep_alloc) | exact HK.out)⟩, ⟨by repeat (first | (with_reducible first | exact HB.out | apply below_alloc | apply pw_below_drewN | apply below_drew1 | refine below_set ?_ (IsS79.ge HI0.out)) | exact HB.out)⟩⟩
  case round =>
    clear H'
    try clear c1
    try clear p2
    obtain ⟨x8_1, x1000_1, x1001_1, x1002_1, x1003_1, rfl, HA, HK1, HI0, HK, HB⟩ := hrel
    cases gk with
    | zero => exact absurd HA.out (by simp [impl_stirrer_stir.l0])
    | succ k1 =>
      have H := HA.out
      clear HA
      simp only [impl_stirrer_stir.l0] at H
      by_cases c3 : x8_1 < (l1.length : Int)
      · rw [if_pos c3] at H
        have c3b0 : decide (x8_1 < (l1.length : Int)) = true := decide_eq_true c3
        clear c3
        by_cases c4 : 0 ≤ x8_1
        · rw [if_pos c4] at H
          have c4b0 : decide (0 ≤ x8_1) = true := decide_eq_true c4
          clear c4
          by_cases c5 : x8_1 < (l1.length : Int)
          · rw [if_pos c5] at H
            have c5b0 : decide (x8_1 < (l1.length : Int)) = true := decide_eq_true c5
            clear c5
            replace H := Option.bind_eq_some_iff.mp H
            obtain ⟨t196, A60, H⟩ := H
            replace H : ((bits_RotateLeft32.f (Go.bits .xor .u32 x1002_1 t196) 13).bind fun t197 => ((bits_RotateLeft32.f ((x1003_1 + t197) % 4294967296) 17).bind fun t198 => (impl_stirrer_stir.l0 k1 l1 (l1.length : Int) (wrap64 (x8_1 + 1)) (Go.bits .xor .u32 (((Go.bits .xor .u32 x1000_1 ((rd l1 x8_1) % 4294967296)) * 16777619) % 4294967296) t198) t196 t197 t198))) = some (r1, r2, r3, r4) := H
            have A6 := Aside0.mk A60
            clear A60
            replace H := Option.bind_eq_some_iff.mp H
            obtain ⟨t197, A70, H⟩ := H
            replace H : ((bits_RotateLeft32.f ((x1003_1 + t197) % 4294967296) 17).bind fun t198 => (impl_stirrer_stir.l0 k1 l1 (l1.length : Int) (wrap64 (x8_1 + 1)) (Go.bits .xor .u32 (((Go.bits .xor .u32 x1000_1 ((rd l1 x8_1) % 4294967296)) * 16777619) % 4294967296) t198) t196 t197 t198)) = some (r1, r2, r3, r4) := H
            have A7 := Aside0.mk A70
            clear A70
            replace H := Option.bind_eq_some_iff.mp H
            obtain ⟨t198, A80, H⟩ := H
            replace H : (impl_stirrer_stir.l0 k1 l1 (l1.length : Int) (wrap64 (x8_1 + 1)) (Go.bits .xor .u32 (((Go.bits .xor .u32 x1000_1 ((rd l1 x8_1) % 4294967296)) * 16777619) % 4294967296) t198) t196 t197 t198) = some (r1, r2, r3, r4) := H
            have A8 := Aside0.mk A80
            clear A80
            have H' := Aside0.mk H
            clear H
            have p195 : 0 ≤ (x8_1 : Int) := of_decide_eq_true (by first | (with_reducible assumption) | assumption)
            have q195 : x8_1 < (l1.length : Int) := of_decide_eq_true (by first | (with_reducible assumption) | assumption)
            obtain ⟨ad195, e195, hx195_0⟩ := Kd.at_int HR1.out x8_1 p195 q195
            cases e195
            replace hx195_0 := keep_cell HK.out hx195_0 (by first | (rw [add_block]; exact hf1 _ rfl (by omega)) | exact hf1 _ rfl (by omega) | exact hf1 ad195 rfl (by omega))
            replace p195 := eq_true p195
            replace q195 := eq_true q195
            obtain ⟨HGz9, hgz9⟩ := HI0.out
            have hcz9_0 := cellS79_0 HGz9
            have hcz9_1 := cellS79_1 HGz9
            have hcz9_2 := cellS79_2 HGz9
            have hcz9_3 := cellS79_3 HGz9
            have hfz9_0 := blk_frozen HGz9 0
            have hfz9_1 := blk_frozen HGz9 1
            have hfz9_2 := blk_frozen HGz9 2
            have hfz9_3 := blk_frozen HGz9 3
            clear HGz9 hgz9
            go_wp2
            clear hcz9_0 hfz9_0 hcz9_1 hfz9_1 hcz9_2 hfz9_2 hcz9_3 hfz9_3
            have m0_ : Aside0 (IsS79 w0 (World.setCell wr ⟨g, 0, none⟩ (.int .u32 ((((Go.bits .xor .u32 x1000_1 ((rd l1 x8_1) % 4294967296)) * 16777619) % 4294967296)))) g ((((Go.bits .xor .u32 x1000_1 ((rd l1 x8_1) % 4294967296)) * 16777619) % 4294967296)) (x1001_1) (x1002_1) (x1003_1)) := ⟨IsS79.set_0 HI0.out _⟩
            have m1_ : Aside0 (KeepBut w (World.setCell wr ⟨g, 0, none⟩ (.int .u32 ((((Go.bits .xor .u32 x1000_1 ((rd l1 x8_1) % 4294967296)) * 16777619) % 4294967296)))) g none) := ⟨by first | exact KeepBut.set_ HK.out _ _ | (apply KeepBut.set_; exact HK.out)⟩
            have m2_ : Aside0 (Below w0.heap.size w0 (World.setCell wr ⟨g, 0, none⟩ (.int .u32 ((((Go.bits .xor .u32 x1000_1 ((rd l1 x8_1) % 4294967296)) * 16777619) % 4294967296))))) := ⟨below_set HB.out (IsS79.ge HI0.out)⟩
            clear HI0 HK HB
            have HI0 := m0_
            have HK := m1_
            have HB := m2_
            clear m0_ m1_ m2_
            generalize World.setCell wr ⟨g, 0, none⟩ (.int .u32 ((((Go.bits .xor .u32 x1000_1 ((rd l1 x8_1) % 4294967296)) * 16777619) % 4294967296))) = wa at HI0 HK HB ⊢
            obtain ⟨HG_, hg_⟩ := HI0.out
            have hc_0 := cellS79_0 HG_
            have hc_1 := cellS79_1 HG_
            have hc_2 := cellS79_2 HG_
            have hc_3 := cellS79_3 HG_
            have hf_0 := blk_frozen HG_ 0
            have hf_1 := blk_frozen HG_ 1
            have hf_2 := blk_frozen HG_ 2
            have hf_3 := blk_frozen HG_ 3
            clear HG_ hg_
            refine start_ (n := 14) (S := fun w' => w'.cell? ⟨g, 1, none⟩ = some (.int .u32 (x1001_1)) ∧ w'.cell? ⟨g, 0, none⟩ = some (.int .u32 ((((Go.bits .xor .u32 x1000_1 ((rd l1 x8_1) % 4294967296)) * 16777619) % 4294967296)))) (ds := [13]) #[false, false, false, false, false, false, false, false, false, false, false, false, false, false] (by kernel_rfl) rfl rfl ⟨hc_1, hc_0⟩ (fun hHeld => ?_)
            clear hc_0 hf_0 hc_1 hf_1 hc_2 hf_2 hc_3 hf_3
            have m0_ : Aside0 (IsS79 w0 (wa.drew) g ((((Go.bits .xor .u32 x1000_1 ((rd l1 x8_1) % 4294967296)) * 16777619) % 4294967296)) (x1001_1) (x1002_1) (x1003_1)) := ⟨IsS79.drew HI0.out⟩
            have m1_ : Aside0 (KeepBut w (wa.drew) g none) := ⟨by first | exact keep_drew HK.out | (apply keep_drew; exact HK.out)⟩
            have m2_ : Aside0 (Below w0.heap.size w0 (wa.drew)) := ⟨below_drew1 HB.out⟩
            clear HI0 HK HB
            have HI0 := m0_
            have HK := m1_
            have HB := m2_
            clear m0_ m1_ m2_
            generalize wa.drew = wd4 at HI0 HK HB hHeld ⊢
            refine pure_ (i := 0) (N := some 23) (v := ?_) (a' := ?_) #[true, false, false, false, false, false, false, false, false, false, false, false, false, false] rfl rfl (by kernel_rfl) (fun _ _ _ h => h) (Or.inl ⟨by rfl, ?_⟩) ?_ ?_
            rotate_left
            · intro w'
              go_simp
              with_reducible rfl
            rotate_left
            · simp only [Act.put, List.setIfInBounds_toArray, List.set_cons_zero, List.set_cons_succ, i64_w, i32_w, IntKind.wrap_u32]
              rfl
            refine pure_ (i := 1) (N := some 24) (v := ?_) (a' := ?_) #[true, true, false, false, false, false, false, false, false, false, false, false, false, false] rfl rfl (by kernel_rfl) (fun _ _ _ h => h) (Or.inl ⟨by rfl, ?_⟩) ?_ ?_
            rotate_left
            · intro w'
              go_simp
              with_reducible rfl
            rotate_left
            · simp only [Act.put, List.setIfInBounds_toArray, List.set_cons_zero, List.set_cons_succ, i64_w, i32_w, IntKind.wrap_u32]
              rfl
            refine pure_ (i := 2) (N := some 25) (v := ?_) (a' := ?_) #[true, true, true, false, false, false, false, false, false, false, false, false, false, false] rfl rfl (by kernel_rfl) (fun _ _ _ h => h) (Or.inl ⟨by rfl, ?_⟩) ?_ ?_
            rotate_left
            · intro w'
              go_simp
              with_reducible rfl
            rotate_left
            · simp only [Act.put, List.setIfInBounds_toArray, List.set_cons_zero, List.set_cons_succ, i64_w, i32_w, IntKind.wrap_u32]
              rfl
            refine pure_ (i := 3) (N := some 26) (v := ?_) (a' := ?_) #[true, true, true, true, false, false, false, false, false, false, false, false, false, false] rfl rfl (by kernel_rfl) (fun _ _ _ h => h) (Or.inl ⟨by rfl, ?_⟩) ?_ ?_
            rotate_left
            · intro w'
              go_simp
              with_reducible rfl
            rotate_left
            · simp only [Act.put, List.setIfInBounds_toArray, List.set_cons_zero, List.set_cons_succ, i64_w, i32_w, IntKind.wrap_u32]
              rfl
            refine take_ (i := 4) (N := some 27) (v := ?_) (a' := ?_) #[true, true, true, true, true, false, false, false, false, false, false, false, false, false] rfl rfl (by kernel_rfl) (fun _ _ _ h => h) (Or.inl ⟨by rfl, ?_⟩) hHeld ?_ ?_
            rotate_left
            · intro w' s0
              obtain ⟨s0, s1⟩ := s0
              go_simp
              with_reducible rfl
            rotate_left
            · simp only [Act.put, List.setIfInBounds_toArray, List.set_cons_zero, List.set_cons_succ, i64_w, i32_w, IntKind.wrap_u32]
              rfl
            refine pure_ (i := 5) (N := some 28) (v := ?_) (a' := ?_) #[true, true, true, true, true, true, false, false, false, false, false, false, false, false] rfl rfl (by kernel_rfl) (fun _ _ _ h => h) (Or.inl ⟨by rfl, ?_⟩) ?_ ?_
            rotate_left
            · intro w'
              go_simp
              with_reducible rfl
            rotate_left
            · simp only [Act.put, List.setIfInBounds_toArray, List.set_cons_zero, List.set_cons_succ, i64_w, i32_w, IntKind.wrap_u32]
              rfl
            refine pure_ (i := 6) (N := some 29) (v := ?_) (a' := ?_) #[true, true, true, true, true, true, true, false, false, false, false, false, false, false] rfl rfl (by kernel_rfl) (fun _ _ _ h => h) (Or.inl ⟨by rfl, ?_⟩) ?_ ?_
            rotate_left
            · intro w'
              go_simp
              with_reducible rfl
            rotate_left
            · simp only [Act.put, List.setIfInBounds_toArray, List.set_cons_zero, List.set_cons_succ, i64_w, i32_w, IntKind.wrap_u32]
              rfl
            refine pure_ (i := 7) (N := some 30) (v := ?_) (a' := ?_) #[true, true, true, true, true, true, true, true, false, false, false, false, false, false] rfl rfl (by kernel_rfl) (fun _ _ _ h => h) (Or.inl ⟨by rfl, ?_⟩) ?_ ?_
            rotate_left
            · intro w'
              go_simp
              with_reducible rfl
            rotate_left
            · simp only [Act.put, List.setIfInBounds_toArray, List.set_cons_zero, List.set_cons_succ, i64_w, i32_w, IntKind.wrap_u32]
              rfl
            refine take_ (i := 8) (N := some 31) (v := ?_) (a' := ?_) #[true, true, true, true, true, true, true, true, true, false, false, false, false, false] rfl rfl (by kernel_rfl) (fun _ _ _ h => h) (Or.inl ⟨by rfl, ?_⟩) hHeld ?_ ?_
            rotate_left
            · intro w' s0
              obtain ⟨s0, s1⟩ := s0
              go_simp
              with_reducible rfl
            rotate_left
            · simp only [Act.put, List.setIfInBounds_toArray, List.set_cons_zero, List.set_cons_succ, i64_w, i32_w, IntKind.wrap_u32]
              rfl
            refine pure_ (i := 9) (N := some 32) (v := ?_) (a' := ?_) #[true, true, true, true, true, true, true, true, true, true, false, false, false, false] rfl rfl (by kernel_rfl) (fun _ _ _ h => h) (Or.inl ⟨by rfl, ?_⟩) ?_ ?_
            rotate_left
            · intro w'
              go_simp
              with_reducible rfl
            rotate_left
            · simp only [Act.put, List.setIfInBounds_toArray, List.set_cons_zero, List.set_cons_succ, i64_w, i32_w, IntKind.wrap_u32]
              rfl
            refine one_ (i := 10) (N := some 33) #[true, true, true, true, true, true, true, true, true, true, true, false, false, false] rfl rfl (by kernel_rfl) (by decide) (fun K hK => ?_)
            refine goes_ Try.func87 (by kernel_rfl) rfl #[.int .u32 ((x1001_1 + (((Go.bits .xor .u32 x1000_1 ((rd l1 x8_1) % 4294967296)) * 16777619) % 4294967296)) % 4294967296), .int .i64 7] (by rfl) rfl rfl (by (try simp only [List.map_toArray, List.map_cons, List.map_nil]); first | done | rfl) ?_
            refine (bits_RotateLeft32.calls ((x1001_1 + (((Go.bits .xor .u32 x1000_1 ((rd l1 x8_1) % 4294967296)) * 16777619) % 4294967296)) % 4294967296) 7 t196 _ A6.out).mono ?_
            rintro e w' ⟨rfl, ⟨nd, rfl⟩⟩
            refine ⟨_, rfl, hK.out _ _ hHeld (fun hHeld => ?_)⟩
            clear hK K
            have m0_ : Aside0 (IsS79 w0 (World.drewN wd4 nd) g ((((Go.bits .xor .u32 x1000_1 ((rd l1 x8_1) % 4294967296)) * 16777619) % 4294967296)) (x1001_1) (x1002_1) (x1003_1)) := ⟨IsS79.drewN HI0.out _⟩
            have m1_ : Aside0 (KeepBut w (World.drewN wd4 nd) g none) := ⟨by first | exact keep_drewN HK.out _ | (apply keep_drewN; exact HK.out)⟩
            have m2_ : Aside0 (Below w0.heap.size w0 (World.drewN wd4 nd)) := ⟨pw_below_drewN HB.out _⟩
            clear HI0 HK HB
            have HI0 := m0_
            have HK := m1_
            have HB := m2_
            clear m0_ m1_ m2_
            generalize World.drewN wd4 nd = wn4 at HI0 HK HB hHeld ⊢
            refine pure_ (i := 11) (N := some 34) (v := ?_) (a' := ?_) #[true, true, true, true, true, true, true, true, true, true, true, true, false, false] rfl rfl (by kernel_rfl) (fun _ _ _ h => h) (Or.inl ⟨by rfl, ?_⟩) ?_ ?_
            rotate_left
            · intro w'
              go_simp
              with_reducible rfl
            rotate_left
            · simp only [Act.put, List.setIfInBounds_toArray, List.set_cons_zero, List.set_cons_succ, i64_w, i32_w, IntKind.wrap_u32]
              rfl
            refine pure_ (i := 12) (N := some 35) (v := ?_) (a' := ?_) #[true, true, true, true, true, true, true, true, true, true, true, true, true, false] rfl rfl (by kernel_rfl) (fun _ _ _ h => h) (Or.inl ⟨by rfl, ?_⟩) ?_ ?_
            rotate_left
            · intro w'
              go_simp
              with_reducible rfl
            rotate_left
            · simp only [Act.put, List.setIfInBounds_toArray, List.set_cons_zero, List.set_cons_succ, i64_w, i32_w, IntKind.wrap_u32]
              rfl
            clear hHeld
            obtain ⟨HG_, hg_⟩ := HI0.out
            have hc_0 := cellS79_0 HG_
            have hc_1 := cellS79_1 HG_
            have hc_2 := cellS79_2 HG_
            have hc_3 := cellS79_3 HG_
            have hf_0 := blk_frozen HG_ 0
            have hf_1 := blk_frozen HG_ 1
            have hf_2 := blk_frozen HG_ 2
            have hf_3 := blk_frozen HG_ 3
            clear HG_ hg_
            refine last_ (i := 13) (N := none) #[true, true, true, true, true, true, true, true, true, true, true, true, true, true] rfl rfl (by kernel_rfl) (by decide) (fun K hK => ?_)
            refine skip_ (w1 := ?_) (by rfl) rfl ?_ ?_
            rotate_left
            · go_simp
              rfl
            refine hK.out _ _ ?_
            clear hK K
            clear hc_0 hf_0 hc_1 hf_1 hc_2 hf_2 hc_3 hf_3
            refine done_ (by kernel_rfl) ?_
            have m0_ : Aside0 (IsS79 w0 (World.setCell wn4 ⟨g, 1, none⟩ (.int .u32 (t196))) g ((((Go.bits .xor .u32 x1000_1 ((rd l1 x8_1) % 4294967296)) * 16777619) % 4294967296)) (t196) (x1002_1) (x1003_1)) := ⟨IsS79.set_1 HI0.out _⟩
            have m1_ : Aside0 (KeepBut w (World.setCell wn4 ⟨g, 1, none⟩ (.int .u32 (t196))) g none) := ⟨by first | exact KeepBut.set_ HK.out _ _ | (apply KeepBut.set_; exact HK.out)⟩
            have m2_ : Aside0 (Below w0.heap.size w0 (World.setCell wn4 ⟨g, 1, none⟩ (.int .u32 (t196)))) := ⟨below_set HB.out (IsS79.ge HI0.out)⟩
            clear HI0 HK HB
            have HI0 := m0_
            have HK := m1_
            have HB := m2_
            clear m0_ m1_ m2_
            generalize World.setCell wn4 ⟨g, 1, none⟩ (.int .u32 (t196)) = ws4 at HI0 HK HB ⊢
            go_wp2
            obtain ⟨HG_, hg_⟩ := HI0.out
            have hc_0 := cellS79_0 HG_
            have hc_1 := cellS79_1 HG_
            have hc_2 := cellS79_2 HG_
            have hc_3 := cellS79_3 HG_
            have hf_0 := blk_frozen HG_ 0
            have hf_1 := blk_frozen HG_ 1
            have hf_2 := blk_frozen HG_ 2
            have hf_3 := blk_frozen HG_ 3
            clear HG_ hg_
            refine start_ (n := 14) (S := fun w' => w'.cell? ⟨g, 2, none⟩ = some (.int .u32 (x1002_1)) ∧ w'.cell? ⟨g, 1, none⟩ = some (.int .u32 (t196))) (ds := [13]) #[false, false, false, false, false, false, false, false, false, false, false, false, false, false] (by kernel_rfl) rfl rfl ⟨hc_2, hc_1⟩ (fun hHeld => ?_)
            clear hc_0 hf_0 hc_1 hf_1 hc_2 hf_2 hc_3 hf_3
            have m0_ : Aside0 (IsS79 w0 (ws4.drew) g ((((Go.bits .xor .u32 x1000_1 ((rd l1 x8_1) % 4294967296)) * 16777619) % 4294967296)) (t196) (x1002_1) (x1003_1)) := ⟨IsS79.drew HI0.out⟩
            have m1_ : Aside0 (KeepBut w (ws4.drew) g none) := ⟨by first | exact keep_drew HK.out | (apply keep_drew; exact HK.out)⟩
            have m2_ : Aside0 (Below w0.heap.size w0 (ws4.drew)) := ⟨below_drew1 HB.out⟩
            clear HI0 HK HB
            have HI0 := m0_
            have HK := m1_
            have HB := m2_
            clear m0_ m1_ m2_
            generalize ws4.drew = wd5 at HI0 HK HB hHeld ⊢
            refine pure_ (i := 0) (N := some 36) (v := ?_) (a' := ?_) #[true, false, false, false, false, false, false, false, false, false, false, false, false, false] rfl rfl (by kernel_rfl) (fun _ _ _ h => h) (Or.inl ⟨by rfl, ?_⟩) ?_ ?_
            rotate_left
            · intro w'
              go_simp
              with_reducible rfl
            rotate_left
            · simp only [Act.put, List.setIfInBounds_toArray, List.set_cons_zero, List.set_cons_succ, i64_w, i32_w, IntKind.wrap_u32]
              rfl
            refine pure_ (i := 1) (N := some 37) (v := ?_) (a' := ?_) #[true, true, false, false, false, false, false, false, false, false, false, false, false, false] rfl rfl (by kernel_rfl) (fun _ _ _ h => h) (Or.inl ⟨by rfl, ?_⟩) ?_ ?_
            rotate_left
            · intro w'
              go_simp
              with_reducible rfl
            rotate_left
            · simp only [Act.put, List.setIfInBounds_toArray, List.set_cons_zero, List.set_cons_succ, i64_w, i32_w, IntKind.wrap_u32]
              rfl
            refine pure_ (i := 2) (N := some 38) (v := ?_) (a' := ?_) #[true, true, true, false, false, false, false, false, false, false, false, false, false, false] rfl rfl (by kernel_rfl) (fun _ _ _ h => h) (Or.inl ⟨by rfl, ?_⟩) ?_ ?_
            rotate_left
            · intro w'
              go_simp
              with_reducible rfl
            rotate_left
            · simp only [Act.put, List.setIfInBounds_toArray, List.set_cons_zero, List.set_cons_succ, i64_w, i32_w, IntKind.wrap_u32]
              rfl
            refine pure_ (i := 3) (N := some 39) (v := ?_) (a' := ?_) #[true, true, true, true, false, false, false, false, false, false, false, false, false, false] rfl rfl (by kernel_rfl) (fun _ _ _ h => h) (Or.inl ⟨by rfl, ?_⟩) ?_ ?_
            rotate_left
            · intro w'
              go_simp
              with_reducible rfl
            rotate_left
            · simp only [Act.put, List.setIfInBounds_toArray, List.set_cons_zero, List.set_cons_succ, i64_w, i32_w, IntKind.wrap_u32]
              rfl
            refine take_ (i := 4) (N := some 40) (v := ?_) (a' := ?_) #[true, true, true, true, true, false, false, false, false, false, false, false, false, false] rfl rfl (by kernel_rfl) (fun _ _ _ h => h) (Or.inl ⟨by rfl, ?_⟩) hHeld ?_ ?_
            rotate_left
            · intro w' s0
              obtain ⟨s0, s1⟩ := s0
              go_simp
              with_reducible rfl
            rotate_left
            · simp only [Act.put, List.setIfInBounds_toArray, List.set_cons_zero, List.set_cons_succ, i64_w, i32_w, IntKind.wrap_u32]
              rfl
            refine pure_ (i := 5) (N := some 41) (v := ?_) (a' := ?_) #[true, true, true, true, true, true, false, false, false, false, false, false, false, false] rfl rfl (by kernel_rfl) (fun _ _ _ h => h) (Or.inl ⟨by rfl, ?_⟩) ?_ ?_
            rotate_left
            · intro w'
              go_simp
              with_reducible rfl
            rotate_left
            · simp only [Act.put, List.setIfInBounds_toArray, List.set_cons_zero, List.set_cons_succ, i64_w, i32_w, IntKind.wrap_u32]
              rfl
            refine pure_ (i := 6) (N := some 42) (v := ?_) (a' := ?_) #[true, true, true, true, true, true, true, false, false, false, false, false, false, false] rfl rfl (by kernel_rfl) (fun _ _ _ h => h) (Or.inl ⟨by rfl, ?_⟩) ?_ ?_
            rotate_left
            · intro w'
              go_simp
              with_reducible rfl
            rotate_left
            · simp only [Act.put, List.setIfInBounds_toArray, List.set_cons_zero, List.set_cons_succ, i64_w, i32_w, IntKind.wrap_u32]
              rfl
            refine pure_ (i := 7) (N := some 43) (v := ?_) (a' := ?_) #[true, true, true, true, true, true, true, true, false, false, false, false, false, false] rfl rfl (by kernel_rfl) (fun _ _ _ h => h) (Or.inl ⟨by rfl, ?_⟩) ?_ ?_
            rotate_left
            · intro w'
              go_simp
              with_reducible rfl
            rotate_left
            · simp only [Act.put, List.setIfInBounds_toArray, List.set_cons_zero, List.set_cons_succ, i64_w, i32_w, IntKind.wrap_u32]
              rfl
            refine take_ (i := 8) (N := some 44) (v := ?_) (a' := ?_) #[true, true, true, true, true, true, true, true, true, false, false, false, false, false] rfl rfl (by kernel_rfl) (fun _ _ _ h => h) (Or.inl ⟨by rfl, ?_⟩) hHeld ?_ ?_
            rotate_left
            · intro w' s0
              obtain ⟨s0, s1⟩ := s0
              go_simp
              with_reducible rfl
            rotate_left
            · simp only [Act.put, List.setIfInBounds_toArray, List.set_cons_zero, List.set_cons_succ, i64_w, i32_w, IntKind.wrap_u32]
              rfl
            refine pure_ (i := 9) (N := some 45) (v := ?_) (a' := ?_) #[true, true, true, true, true, true, true, true, true, true, false, false, false, false] rfl rfl (by kernel_rfl) (fun _ _ _ h => h) (Or.inl ⟨by rfl, ?_⟩) ?_ ?_
            rotate_left
            · intro w'
              go_simp
              with_reducible rfl
            rotate_left
            · simp only [Act.put, List.setIfInBounds_toArray, List.set_cons_zero, List.set_cons_succ, i64_w, i32_w, IntKind.wrap_u32]
              rfl
            refine one_ (i := 10) (N := some 46) #[true, true, true, true, true, true, true, true, true, true, true, false, false, false] rfl rfl (by kernel_rfl) (by decide) (fun K hK => ?_)
            refine goes_ Try.func87 (by kernel_rfl) rfl #[.int .u32 (Go.bits .xor .u32 x1002_1 t196), .int .i64 13] (by rfl) rfl rfl (by (try simp only [List.map_toArray, List.map_cons, List.map_nil]); first | done | rfl) ?_
            refine (bits_RotateLeft32.calls (Go.bits .xor .u32 x1002_1 t196) 13 t197 _ A7.out).mono ?_
            rintro e w' ⟨rfl, ⟨nd, rfl⟩⟩
            refine ⟨_, rfl, hK.out _ _ hHeld (fun hHeld => ?_)⟩
            clear hK K
            have m0_ : Aside0 (IsS79 w0 (World.drewN wd5 nd) g ((((Go.bits .xor .u32 x1000_1 ((rd l1 x8_1) % 4294967296)) * 16777619) % 4294967296)) (t196) (x1002_1) (x1003_1)) := ⟨IsS79.drewN HI0.out _⟩
            have m1_ : Aside0 (KeepBut w (World.drewN wd5 nd) g none) := ⟨by first | exact keep_drewN HK.out _ | (apply keep_drewN; exact HK.out)⟩
            have m2_ : Aside0 (Below w0.heap.size w0 (World.drewN wd5 nd)) := ⟨pw_below_drewN HB.out _⟩
            clear HI0 HK HB
            have HI0 := m0_
            have HK := m1_
            have HB := m2_
            clear m0_ m1_ m2_
            generalize World.drewN wd5 nd = wn5 at HI0 HK HB hHeld ⊢
            refine pure_ (i := 11) (N := some 47) (v := ?_) (a' := ?_) #[true, true, true, true, true, true, true, true, true, true, true, true, false, false] rfl rfl (by kernel_rfl) (fun _ _ _ h => h) (Or.inl ⟨by rfl, ?_⟩) ?_ ?_
            rotate_left
            · intro w'
              go_simp
              with_reducible rfl
            rotate_left
            · simp only [Act.put, List.setIfInBounds_toArray, List.set_cons_zero, List.set_cons_succ, i64_w, i32_w, IntKind.wrap_u32]
              rfl
            refine pure_ (i := 12) (N := some 48) (v := ?_) (a' := ?_) #[true, true, true, true, true, true, true, true, true, true, true, true, true, false] rfl rfl (by kernel_rfl) (fun _ _ _ h => h) (Or.inl ⟨by rfl, ?_⟩) ?_ ?_
            rotate_left
            · intro w'
              go_simp
              with_reducible rfl
            rotate_left
            · simp only [Act.put, List.setIfInBounds_toArray, List.set_cons_zero, List.set_cons_succ, i64_w, i32_w, IntKind.wrap_u32]
              rfl
            clear hHeld
            obtain ⟨HG_, hg_⟩ := HI0.out
            have hc_0 := cellS79_0 HG_
            have hc_1 := cellS79_1 HG_
            have hc_2 := cellS79_2 HG_
            have hc_3 := cellS79_3 HG_
            have hf_0 := blk_frozen HG_ 0
            have hf_1 := blk_frozen HG_ 1
            have hf_2 := blk_frozen HG_ 2
            have hf_3 := blk_frozen HG_ 3
            clear HG_ hg_
            refine last_ (i := 13) (N := none) #[true, true, true, true, true, true, true, true, true, true, true, true, true, true] rfl rfl (by kernel_rfl) (by decide) (fun K hK => ?_)
            refine skip_ (w1 := ?_) (by rfl) rfl ?_ ?_
            rotate_left
            · go_simp
              rfl
            refine hK.out _ _ ?_
            clear hK K
            clear hc_0 hf_0 hc_1 hf_1 hc_2 hf_2 hc_3 hf_3
            refine done_ (by kernel_rfl) ?_
            have m0_ : Aside0 (IsS79 w0 (World.setCell wn5 ⟨g, 2, none⟩ (.int .u32 (t197))) g ((((Go.bits .xor .u32 x1000_1 ((rd l1 x8_1) % 4294967296)) * 16777619) % 4294967296)) (t196) (t197) (x1003_1)) := ⟨IsS79.set_2 HI0.out _⟩
            have m1_ : Aside0 (KeepBut w (World.setCell wn5 ⟨g, 2, none⟩ (.int .u32 (t197))) g none) := ⟨by first | exact KeepBut.set_ HK.out _ _ | (apply KeepBut.set_; exact HK.out)⟩
            have m2_ : Aside0 (Below w0.heap.size w0 (World.setCell wn5 ⟨g, 2, none⟩ (.int .u32 (t197)))) := ⟨below_set HB.out (IsS79.ge HI0.out)⟩
            clear HI0 HK HB
            have HI0 := m0_
            have HK := m1_
            have HB := m2_
            clear m0_ m1_ m2_
            generalize World.setCell wn5 ⟨g, 2, none⟩ (.int .u32 (t197)) = ws5 at HI0 HK HB ⊢
            go_wp2
            obtain ⟨HG_, hg_⟩ := HI0.out
            have hc_0 := cellS79_0 HG_
            have hc_1 := cellS79_1 HG_
            have hc_2 := cellS79_2 HG_
            have hc_3 := cellS79_3 HG_
            have hf_0 := blk_frozen HG_ 0
            have hf_1 := blk_frozen HG_ 1
            have hf_2 := blk_frozen HG_ 2
            have hf_3 := blk_frozen HG_ 3
            clear HG_ hg_
            refine start_ (n := 14) (S := fun w' => w'.cell? ⟨g, 3, none⟩ = some (.int .u32 (x1003_1)) ∧ w'.cell? ⟨g, 2, none⟩ = some (.int .u32 (t197))) (ds := [13]) #[false, false, false, false, false, false, false, false, false, false, false, false, false, false] (by kernel_rfl) rfl rfl ⟨hc_3, hc_2⟩ (fun hHeld => ?_)
            clear hc_0 hf_0 hc_1 hf_1 hc_2 hf_2 hc_3 hf_3
            have m0_ : Aside0 (IsS79 w0 (ws5.drew) g ((((Go.bits .xor .u32 x1000_1 ((rd l1 x8_1) % 4294967296)) * 16777619) % 4294967296)) (t196) (t197) (x1003_1)) := ⟨IsS79.drew HI0.out⟩
            have m1_ : Aside0 (KeepBut w (ws5.drew) g none) := ⟨by first | exact keep_drew HK.out | (apply keep_drew; exact HK.out)⟩
            have m2_ : Aside0 (Below w0.heap.size w0 (ws5.drew)) := ⟨below_drew1 HB.out⟩
            clear HI0 HK HB
            have HI0 := m0_
            have HK := m1_
            have HB := m2_
            clear m0_ m1_ m2_
            generalize ws5.drew = wd6 at HI0 HK HB hHeld ⊢
            refine pure_ (i := 0) (N := some 49) (v := ?_) (a' := ?_) #[true, false, false, false, false, false, false, false, false, false, false, false, false, false] rfl rfl (by kernel_rfl) (fun _ _ _ h => h) (Or.inl ⟨by rfl, ?_⟩) ?_ ?_
            rotate_left
            · intro w'
              go_simp
              with_reducible rfl
            rotate_left
            · simp only [Act.put, List.setIfInBounds_toArray, List.set_cons_zero, List.set_cons_succ, i64_w, i32_w, IntKind.wrap_u32]
              rfl
            refine pure_ (i := 1) (N := some 50) (v := ?_) (a' := ?_) #[true, true, false, false, false, false, false, false, false, false, false, false, false, false] rfl rfl (by kernel_rfl) (fun _ _ _ h => h) (Or.inl ⟨by rfl, ?_⟩) ?_ ?_
            rotate_left
            · intro w'
              go_simp
              with_reducible rfl
            rotate_left
            · simp only [Act.put, List.setIfInBounds_toArray, List.set_cons_zero, List.set_cons_succ, i64_w, i32_w, IntKind.wrap_u32]
              rfl
            refine pure_ (i := 2) (N := some 51) (v := ?_) (a' := ?_) #[true, true, true, false, false, false, false, false, false, false, false, false, false, false] rfl rfl (by kernel_rfl) (fun _ _ _ h => h) (Or.inl ⟨by rfl, ?_⟩) ?_ ?_
            rotate_left
            · intro w'
              go_simp
              with_reducible rfl
            rotate_left
            · simp only [Act.put, List.setIfInBounds_toArray, List.set_cons_zero, List.set_cons_succ, i64_w, i32_w, IntKind.wrap_u32]
              rfl
            refine pure_ (i := 3) (N := some 52) (v := ?_) (a' := ?_) #[true, true, true, true, false, false, false, false, false, false, false, false, false, false] rfl rfl (by kernel_rfl) (fun _ _ _ h => h) (Or.inl ⟨by rfl, ?_⟩) ?_ ?_
            rotate_left
            · intro w'
              go_simp
              with_reducible rfl
            rotate_left
            · simp only [Act.put, List.setIfInBounds_toArray, List.set_cons_zero, List.set_cons_succ, i64_w, i32_w, IntKind.wrap_u32]
              rfl
            refine take_ (i := 4) (N := some 53) (v := ?_) (a' := ?_) #[true, true, true, true, true, false, false, false, false, false, false, false, false, false] rfl rfl (by kernel_rfl) (fun _ _ _ h => h) (Or.inl ⟨by rfl, ?_⟩) hHeld ?_ ?_
            rotate_left
            · intro w' s0
              obtain ⟨s0, s1⟩ := s0
              go_simp
              with_reducible rfl
            rotate_left
            · simp only [Act.put, List.setIfInBounds_toArray, List.set_cons_zero, List.set_cons_succ, i64_w, i32_w, IntKind.wrap_u32]
              rfl
            refine pure_ (i := 5) (N := some 54) (v := ?_) (a' := ?_) #[true, true, true, true, true, true, false, false, false, false, false, false, false, false] rfl rfl (by kernel_rfl) (fun _ _ _ h => h) (Or.inl ⟨by rfl, ?_⟩) ?_ ?_
            rotate_left
            · intro w'
              go_simp
              with_reducible rfl
            rotate_left
            · simp only [Act.put, List.setIfInBounds_toArray, List.set_cons_zero, List.set_cons_succ, i64_w, i32_w, IntKind.wrap_u32]
              rfl
            refine pure_ (i := 6) (N := some 55) (v := ?_) (a' := ?_) #[true, true, true, true, true, true, true, false, false, false, false, false, false, false] rfl rfl (by kernel_rfl) (fun _ _ _ h => h) (Or.inl ⟨by rfl, ?_⟩) ?_ ?_
            rotate_left
            · intro w'
              go_simp
              with_reducible rfl
            rotate_left
            · simp only [Act.put, List.setIfInBounds_toArray, List.set_cons_zero, List.set_cons_succ, i64_w, i32_w, IntKind.wrap_u32]
              rfl
            refine pure_ (i := 7) (N := some 56) (v := ?_) (a' := ?_) #[true, true, true, true, true, true, true, true, false, false, false, false, false, false] rfl rfl (by kernel_rfl) (fun _ _ _ h => h) (Or.inl ⟨by rfl, ?_⟩) ?_ ?_
            rotate_left
            · intro w'
              go_simp
              with_reducible rfl
            rotate_left
            · simp only [Act.put, List.setIfInBounds_toArray, List.set_cons_zero, List.set_cons_succ, i64_w, i32_w, IntKind.wrap_u32]
              rfl
            refine take_ (i := 8) (N := some 57) (v := ?_) (a' := ?_) #[true, true, true, true, true, true, true, true, true, false, false, false, false, false] rfl rfl (by kernel_rfl) (fun _ _ _ h => h) (Or.inl ⟨by rfl, ?_⟩) hHeld ?_ ?_
            rotate_left
            · intro w' s0
              obtain ⟨s0, s1⟩ := s0
              go_simp
              with_reducible rfl
            rotate_left
            · simp only [Act.put, List.setIfInBounds_toArray, List.set_cons_zero, List.set_cons_succ, i64_w, i32_w, IntKind.wrap_u32]
              rfl
            refine pure_ (i := 9) (N := some 58) (v := ?_) (a' := ?_) #[true, true, true, true, true, true, true, true, true, true, false, false, false, false] rfl rfl (by kernel_rfl) (fun _ _ _ h => h) (Or.inl ⟨by rfl, ?_⟩) ?_ ?_
            rotate_left
            · intro w'
              go_simp
              with_reducible rfl
            rotate_left
            · simp only [Act.put, List.setIfInBounds_toArray, List.set_cons_zero, List.set_cons_succ, i64_w, i32_w, IntKind.wrap_u32]
              rfl
            refine one_ (i := 10) (N := some 59) #[true, true, true, true, true, true, true, true, true, true, true, false, false, false] rfl rfl (by kernel_rfl) (by decide) (fun K hK => ?_)
            refine goes_ Try.func87 (by kernel_rfl) rfl #[.int .u32 ((x1003_1 + t197) % 4294967296), .int .i64 17] (by rfl) rfl rfl (by (try simp only [List.map_toArray, List.map_cons, List.map_nil]); first | done | rfl) ?_
            refine (bits_RotateLeft32.calls ((x1003_1 + t197) % 4294967296) 17 t198 _ A8.out).mono ?_
            rintro e w' ⟨rfl, ⟨nd, rfl⟩⟩
            refine ⟨_, rfl, hK.out _ _ hHeld (fun hHeld => ?_)⟩
            clear hK K
            have m0_ : Aside0 (IsS79 w0 (World.drewN wd6 nd) g ((((Go.bits .xor .u32 x1000_1 ((rd l1 x8_1) % 4294967296)) * 16777619) % 4294967296)) (t196) (t197) (x1003_1)) := ⟨IsS79.drewN HI0.out _⟩
            have m1_ : Aside0 (KeepBut w (World.drewN wd6 nd) g none) := ⟨by first | exact keep_drewN HK.out _ | (apply keep_drewN; exact HK.out)⟩
            have m2_ : Aside0 (Below w0.heap.size w0 (World.drewN wd6 nd)) := ⟨pw_below_drewN HB.out _⟩
            clear HI0 HK HB
            have HI0 := m0_
            have HK := m1_
            have HB := m2_
            clear m0_ m1_ m2_
            generalize World.drewN wd6 nd = wn6 at HI0 HK HB hHeld ⊢
            refine pure_ (i := 11) (N := some 60) (v := ?_) (a' := ?_) #[true, true, true, true, true, true, true, true, true, true, true, true, false, false] rfl rfl (by kernel_rfl) (fun _ _ _ h => h) (Or.inl ⟨by rfl, ?_⟩) ?_ ?_
            rotate_left
            · intro w'
              go_simp
              with_reducible rfl
            rotate_left
            · simp only [Act.put, List.setIfInBounds_toArray, List.set_cons_zero, List.set_cons_succ, i64_w, i32_w, IntKind.wrap_u32]
              rfl
            refine pure_ (i := 12) (N := some 61) (v := ?_) (a' := ?_) #[true, true, true, true, true, true, true, true, true, true, true, true, true, false] rfl rfl (by kernel_rfl) (fun _ _ _ h => h) (Or.inl ⟨by rfl, ?_⟩) ?_ ?_
            rotate_left
            · intro w'
              go_simp
              with_reducible rfl
            rotate_left
            · simp only [Act.put, List.setIfInBounds_toArray, List.set_cons_zero, List.set_cons_succ, i64_w, i32_w, IntKind.wrap_u32]
              rfl
            clear hHeld
            obtain ⟨HG_, hg_⟩ := HI0.out
            have hc_0 := cellS79_0 HG_
            have hc_1 := cellS79_1 HG_
            have hc_2 := cellS79_2 HG_
            have hc_3 := cellS79_3 HG_
            have hf_0 := blk_frozen HG_ 0
            have hf_1 := blk_frozen HG_ 1
            have hf_2 := blk_frozen HG_ 2
            have hf_3 := blk_frozen HG_ 3
            clear HG_ hg_
            refine last_ (i := 13) (N := none) #[true, true, true, true, true, true, true, true, true, true, true, true, true, true] rfl rfl (by kernel_rfl) (by decide) (fun K hK => ?_)
            refine skip_ (w1 := ?_) (by rfl) rfl ?_ ?_
            rotate_left
            · go_simp
              rfl
            refine hK.out _ _ ?_
            clear hK K
            clear hc_0 hf_0 hc_1 hf_1 hc_2 hf_2 hc_3 hf_3
            refine done_ (by kernel_rfl) ?_
            have m0_ : Aside0 (IsS79 w0 (World.setCell wn6 ⟨g, 3, none⟩ (.int .u32 (t198))) g ((((Go.bits .xor .u32 x1000_1 ((rd l1 x8_1) % 4294967296)) * 16777619) % 4294967296)) (t196) (t197) (t198)) := ⟨IsS79.set_3 HI0.out _⟩
            have m1_ : Aside0 (KeepBut w (World.setCell wn6 ⟨g, 3, none⟩ (.int .u32 (t198))) g none) := ⟨by first | exact KeepBut.set_ HK.out _ _ | (apply KeepBut.set_; exact HK.out)⟩
            have m2_ : Aside0 (Below w0.heap.size w0 (World.setCell wn6 ⟨g, 3, none⟩ (.int .u32 (t198)))) := ⟨below_set HB.out (IsS79.ge HI0.out)⟩
            clear HI0 HK HB
            have HI0 := m0_
            have HK := m1_
            have HB := m2_
            clear m0_ m1_ m2_
            generalize World.setCell wn6 ⟨g, 3, none⟩ (.int .u32 (t198)) = ws6 at HI0 HK HB ⊢
            go_wp2
            obtain ⟨HG_, hg_⟩ := HI0.out
            have hc_0 := cellS79_0 HG_
            have hc_1 := cellS79_1 HG_
            have hc_2 := cellS79_2 HG_
            have hc_3 := cellS79_3 HG_
            have hf_0 := blk_frozen HG_ 0
            have hf_1 := blk_frozen HG_ 1
            have hf_2 := blk_frozen HG_ 2
            have hf_3 := blk_frozen HG_ 3
            clear HG_ hg_
            refine start_ (n := 12) (S := fun w' => w'.cell? ⟨g, 0, none⟩ = some (.int .u32 ((((Go.bits .xor .u32 x1000_1 ((rd l1 x8_1) % 4294967296)) * 16777619) % 4294967296))) ∧ w'.cell? ⟨g, 3, none⟩ = some (.int .u32 (t198))) (ds := [11]) #[false, false, false, false, false, false, false, false, false, false, false, false] (by kernel_rfl) rfl rfl ⟨hc_0, hc_3⟩ (fun hHeld => ?_)
            clear hc_0 hf_0 hc_1 hf_1 hc_2 hf_2 hc_3 hf_3
            have m0_ : Aside0 (IsS79 w0 (ws6.drew) g ((((Go.bits .xor .u32 x1000_1 ((rd l1 x8_1) % 4294967296)) * 16777619) % 4294967296)) (t196) (t197) (t198)) := ⟨IsS79.drew HI0.out⟩
            have m1_ : Aside0 (KeepBut w (ws6.drew) g none) := ⟨by first | exact keep_drew HK.out | (apply keep_drew; exact HK.out)⟩
            have m2_ : Aside0 (Below w0.heap.size w0 (ws6.drew)) := ⟨below_drew1 HB.out⟩
            clear HI0 HK HB
            have HI0 := m0_
            have HK := m1_
            have HB := m2_
            clear m0_ m1_ m2_
            generalize ws6.drew = wd7 at HI0 HK HB hHeld ⊢
            refine pure_ (i := 0) (N := some 62) (v := ?_) (a' := ?_) #[true, false, false, false, false, false, false, false, false, false, false, false] rfl rfl (by kernel_rfl) (fun _ _ _ h => h) (Or.inl ⟨by rfl, ?_⟩) ?_ ?_
            rotate_left
            · intro w'
              go_simp
              with_reducible rfl
            rotate_left
            · simp only [Act.put, List.setIfInBounds_toArray, List.set_cons_zero, List.set_cons_succ, i64_w, i32_w, IntKind.wrap_u32]
              rfl
            refine pure_ (i := 1) (N := some 63) (v := ?_) (a' := ?_) #[true, true, false, false, false, false, false, false, false, false, false, false] rfl rfl (by kernel_rfl) (fun _ _ _ h => h) (Or.inl ⟨by rfl, ?_⟩) ?_ ?_
            rotate_left
            · intro w'
              go_simp
              with_reducible rfl
            rotate_left
            · simp only [Act.put, List.setIfInBounds_toArray, List.set_cons_zero, List.set_cons_succ, i64_w, i32_w, IntKind.wrap_u32]
              rfl
            refine pure_ (i := 2) (N := some 64) (v := ?_) (a' := ?_) #[true, true, true, false, false, false, false, false, false, false, false, false] rfl rfl (by kernel_rfl) (fun _ _ _ h => h) (Or.inl ⟨by rfl, ?_⟩) ?_ ?_
            rotate_left
            · intro w'
              go_simp
              with_reducible rfl
            rotate_left
            · simp only [Act.put, List.setIfInBounds_toArray, List.set_cons_zero, List.set_cons_succ, i64_w, i32_w, IntKind.wrap_u32]
              rfl
            refine take_ (i := 3) (N := some 65) (v := ?_) (a' := ?_) #[true, true, true, true, false, false, false, false, false, false, false, false] rfl rfl (by kernel_rfl) (fun _ _ _ h => h) (Or.inl ⟨by rfl, ?_⟩) hHeld ?_ ?_
            rotate_left
            · intro w' s0
              obtain ⟨s0, s1⟩ := s0
              go_simp
              with_reducible rfl
            rotate_left
            · simp only [Act.put, List.setIfInBounds_toArray, List.set_cons_zero, List.set_cons_succ, i64_w, i32_w, IntKind.wrap_u32]
              rfl
            refine pure_ (i := 4) (N := some 66) (v := ?_) (a' := ?_) #[true, true, true, true, true, false, false, false, false, false, false, false] rfl rfl (by kernel_rfl) (fun _ _ _ h => h) (Or.inl ⟨by rfl, ?_⟩) ?_ ?_
            rotate_left
            · intro w'
              go_simp
              with_reducible rfl
            rotate_left
            · simp only [Act.put, List.setIfInBounds_toArray, List.set_cons_zero, List.set_cons_succ, i64_w, i32_w, IntKind.wrap_u32]
              rfl
            refine pure_ (i := 5) (N := some 67) (v := ?_) (a' := ?_) #[true, true, true, true, true, true, false, false, false, false, false, false] rfl rfl (by kernel_rfl) (fun _ _ _ h => h) (Or.inl ⟨by rfl, ?_⟩) ?_ ?_
            rotate_left
            · intro w'
              go_simp
              with_reducible rfl
            rotate_left
            · simp only [Act.put, List.setIfInBounds_toArray, List.set_cons_zero, List.set_cons_succ, i64_w, i32_w, IntKind.wrap_u32]
              rfl
            refine pure_ (i := 6) (N := some 68) (v := ?_) (a' := ?_) #[true, true, true, true, true, true, true, false, false, false, false, false] rfl rfl (by kernel_rfl) (fun _ _ _ h => h) (Or.inl ⟨by rfl, ?_⟩) ?_ ?_
            rotate_left
            · intro w'
              go_simp
              with_reducible rfl
            rotate_left
            · simp only [Act.put, List.setIfInBounds_toArray, List.set_cons_zero, List.set_cons_succ, i64_w, i32_w, IntKind.wrap_u32]
              rfl
            refine take_ (i := 7) (N := some 69) (v := ?_) (a' := ?_) #[true, true, true, true, true, true, true, true, false, false, false, false] rfl rfl (by kernel_rfl) (fun _ _ _ h => h) (Or.inl ⟨by rfl, ?_⟩) hHeld ?_ ?_
            rotate_left
            · intro w' s0
              obtain ⟨s0, s1⟩ := s0
              go_simp
              with_reducible rfl
            rotate_left
            · simp only [Act.put, List.setIfInBounds_toArray, List.set_cons_zero, List.set_cons_succ, i64_w, i32_w, IntKind.wrap_u32]
              rfl
            refine pure_ (i := 8) (N := some 70) (v := ?_) (a' := ?_) #[true, true, true, true, true, true, true, true, true, false, false, false] rfl rfl (by kernel_rfl) (fun _ _ _ h => h) (Or.inl ⟨by rfl, ?_⟩) ?_ ?_
            rotate_left
            · intro w'
              go_simp
              with_reducible rfl
            rotate_left
            · simp only [Act.put, List.setIfInBounds_toArray, List.set_cons_zero, List.set_cons_succ, i64_w, i32_w, IntKind.wrap_u32]
              rfl
            refine pure_ (i := 9) (N := some 71) (v := ?_) (a' := ?_) #[true, true, true, true, true, true, true, true, true, true, false, false] rfl rfl (by kernel_rfl) (fun _ _ _ h => h) (Or.inl ⟨by rfl, ?_⟩) ?_ ?_
            rotate_left
            · intro w'
              go_simp
              with_reducible rfl
            rotate_left
            · simp only [Act.put, List.setIfInBounds_toArray, List.set_cons_zero, List.set_cons_succ, i64_w, i32_w, IntKind.wrap_u32]
              rfl
            refine pure_ (i := 10) (N := some 72) (v := ?_) (a' := ?_) #[true, true, true, true, true, true, true, true, true, true, true, false] rfl rfl (by kernel_rfl) (fun _ _ _ h => h) (Or.inl ⟨by rfl, ?_⟩) ?_ ?_
            rotate_left
            · intro w'
              go_simp
              with_reducible rfl
            rotate_left
            · simp only [Act.put, List.setIfInBounds_toArray, List.set_cons_zero, List.set_cons_succ, i64_w, i32_w, IntKind.wrap_u32]
              rfl
            clear hHeld
            obtain ⟨HG_, hg_⟩ := HI0.out
            have hc_0 := cellS79_0 HG_
            have hc_1 := cellS79_1 HG_
            have hc_2 := cellS79_2 HG_
            have hc_3 := cellS79_3 HG_
            have hf_0 := blk_frozen HG_ 0
            have hf_1 := blk_frozen HG_ 1
            have hf_2 := blk_frozen HG_ 2
            have hf_3 := blk_frozen HG_ 3
            clear HG_ hg_
            refine last_ (i := 11) (N := none) #[true, true, true, true, true, true, true, true, true, true, true, true] rfl rfl (by kernel_rfl) (by decide) (fun K hK => ?_)
            refine skip_ (w1 := ?_) (by rfl) rfl ?_ ?_
            rotate_left
            · go_simp
              rfl
            refine hK.out _ _ ?_
            clear hK K
            clear hc_0 hf_0 hc_1 hf_1 hc_2 hf_2 hc_3 hf_3
            refine done_ (by kernel_rfl) ?_
            have m0_ : Aside0 (IsS79 w0 (World.setCell wd7 ⟨g, 0, none⟩ (.int .u32 (Go.bits .xor .u32 ((((Go.bits .xor .u32 x1000_1 ((rd l1 x8_1) % 4294967296)) * 16777619) % 4294967296)) t198))) g (Go.bits .xor .u32 ((((Go.bits .xor .u32 x1000_1 ((rd l1 x8_1) % 4294967296)) * 16777619) % 4294967296)) t198) (t196) (t197) (t198)) := ⟨IsS79.set_0 HI0.out _⟩
            have m1_ : Aside0 (KeepBut w (World.setCell wd7 ⟨g, 0, none⟩ (.int .u32 (Go.bits .xor .u32 ((((Go.bits .xor .u32 x1000_1 ((rd l1 x8_1) % 4294967296)) * 16777619) % 4294967296)) t198))) g none) := ⟨by first | exact KeepBut.set_ HK.out _ _ | (apply KeepBut.set_; exact HK.out)⟩
            have m2_ : Aside0 (Below w0.heap.size w0 (World.setCell wd7 ⟨g, 0, none⟩ (.int .u32 (Go.bits .xor .u32 ((((Go.bits .xor .u32 x1000_1 ((rd l1 x8_1) % 4294967296)) * 16777619) % 4294967296)) t198)))) := ⟨below_set HB.out (IsS79.ge HI0.out)⟩
            clear HI0 HK HB
            have HI0 := m0_
            have HK := m1_
            have HB := m2_
            clear m0_ m1_ m2_
            generalize World.setCell wd7 ⟨g, 0, none⟩ (.int .u32 (Go.bits .xor .u32 ((((Go.bits .xor .u32 x1000_1 ((rd l1 x8_1) % 4294967296)) * 16777619) % 4294967296)) t198)) = ws7 at HI0 HK HB ⊢
            go_wp2
            go_roundg k1
            case measure => have := HK1.out; omega
            case rel => exact ⟨(wrap64 (x8_1 + 1)), (Go.bits .xor .u32 (((Go.bits .xor .u32 x1000_1 ((rd l1 x8_1) % 4294967296)) * 16777619) % 4294967296) t198), (t196), (t197), (t198), (by first | rfl | (simp; done) | (simp [*]; done)), H', ⟨by have := HK1.out; omega⟩, ⟨by repeat (first | (with_reducible first | exact HI0.out | apply IsS79.alloc | apply IsS79.drewN | apply IsS79.drew | apply IsS79.set_0 | apply IsS79.set_1 | apply IsS79.set_2 | apply IsS79.set_3) | exact HI0.out)⟩, ⟨by repeat (first | (with_reducible first | exact HK.out | apply KeepBut.set_ | apply keep_drewN | apply keep_drew | apply keep_alloc) | exact HK.out)⟩, ⟨by repeat (first | (with_reducible first | exact HB.out | apply below_alloc | apply pw_below_drewN | apply below_drew1 | refine below_set ?_ (IsS79.ge HI0.out)) | exact HB.out)⟩⟩
          · rw [if_neg c5] at H
            exact absurd H (by simp)
        · rw [if_neg c4] at H
          exact absurd H (by simp)
      · rw [if_neg c3] at H
        have c3b0 : decide (x8_1 < (l1.length : Int)) = false := decide_eq_false c3
        clear c3
        simp only [Option.some.injEq, Prod.mk.injEq] at H
        obtain ⟨rfl, rfl, rfl, rfl⟩ := H
        go_wp2
        first | go_end0 | ((try simp only [Exit.inBlock, Exit.then]); refine bodyPost_ret (results_none rfl _ _ _) rfl ?_)
        exact ⟨by first | rfl | (simp [errW_none, errW_some] <;> rfl) | (simp [*, errW_none, errW_some] <;> rfl), by repeat (first | (with_reducible first | exact HI0.out | apply IsS79.alloc | apply IsS79.drewN | apply IsS79.drew | apply IsS79.set_0 | apply IsS79.set_1 | apply IsS79.set_2 | apply IsS79.set_3) | exact HI0.out), by repeat (first | (with_reducible first | exact HB.out | apply below_alloc | apply pw_below_drewN | apply below_drew1 | refine below_set ?_ (IsS79.ge HI0.out)) | exact HB.out), by repeat (first | (with_reducible first | exact HK.out | apply KeepBut.set_ | apply keep_drewN | apply keep_drew | apply keep_alloc) | exact HK.out)⟩

end Go.Proofs.Ytcdkbdkanjifeaa.SFnExactResetToken
