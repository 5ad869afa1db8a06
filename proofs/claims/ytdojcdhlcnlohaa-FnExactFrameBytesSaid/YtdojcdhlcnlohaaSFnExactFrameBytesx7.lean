/- The walk of functions that the law FnExactFrameBytes uses, written by program. -/
import Derived.Test.YtdojcdhlcnlohaaSFnExactFrameBytesx0
import Derived.Test.YtdojcdhlcnlohaaSFnExactFrameBytesx6
import Derived.Test.YtdojcdhlcnlohaaSteps2
namespace Go.Proofs.Ytdojcdhlcnlohaa.SFnExactFrameBytes
open Go.Proofs.Ytdojcdhlcnlohaa.Steps2 Go.RowKit Go.Proofs.YtdojcdhlcnlohaaW.PrintWords Go.Proofs.YtdojcdhlcnlohaaW.PrintLast Go.Proofs.YtdojcdhlcnlohaaW.PrintMore
open Go.Proofs.YtdojcdhlcnlohaaW.PrintWords renaming below_alloc → qh, pw_below_drewN → qi, below_drew1 → qj, below_set → qk, below_size → qs, blk_cell → qu
open Go.Proofs.YtdojcdhlcnlohaaW.PrintWords.Kd renaming R_drew → qd, R_mono → qg
open Go.Proofs.YtdojcdhlcnlohaaW.PrintWords.Aside0 renaming mk → qm
attribute [local go_sem] max2_int min2_int max_two min_two max_three min_three max_four min_four 
set_option linter.unusedVariables false
set_option linter.unusedSimpArgs false
/-! ### spec_l05AckBytes: function 79 -/
def spec_l05AckBytes.l0 : Nat → Int → List Int → Int → Int → Int → Int → Bool → List Int → List Int → List (S105) → Option (List Int)
 | 0, _, _, _, _, _, _, _, _, _, _ => none
 | k + 1, x3, x4, x192000, x192001, x192002, x192003, x192004, x192005, x192006, x192007 => if x3 ≥ 0 then (if 0 ≤ (wrap64 (x3 + 1)) then (if (wrap64 (x3 + 1)) < (x192007.length : Int) then (if 0 ≤ x3 then (if x3 < (x192007.length : Int) then ((spec_l05N.f k x4 (wrap64 ((wrap64 (((rd_T105 x192007 (wrap64 (x3 + 1))).f0) - ((rd_T105 x192007 x3).f1))) - 2))).bind fun t212 => ((spec_l05N.f k t212 (wrap64 (((rd_T105 x192007 x3).f1) - ((rd_T105 x192007 x3).f0)))).bind fun t217 => (spec_l05AckBytes.l0 k (wrap64 (x3 - 1)) t217 x192000 x192001 x192002 x192003 x192004 x192005 x192006 x192007))) else (none)) else (none)) else (none)) else (none)) else (some x4)
def spec_l05AckBytes.f (k : Nat) (a0_0 : Int) (a0_1 : Int) (a0_2 : Int) (a0_3 : Int) (a0_4 : Bool) (l0_5 : List Int) (l0_6 : List Int) (l0_7 : List (S105)) : Option (List Int) := if 0 ≤ (wrap64 ((l0_7.length : Int) - 1)) then (if (wrap64 ((l0_7.length : Int) - 1)) < (l0_7.length : Int) then ((spec_l05N.f k (([2] : List Int)) ((rd_T105 l0_7 (wrap64 ((l0_7.length : Int) - 1))).f1)).bind fun t196 => ((spec_l05N.f k t196 a0_1).bind fun t199 => ((spec_l05N.f k t199 (wrap64 ((l0_7.length : Int) - 1))).bind fun t202 => ((spec_l05N.f k t202 (wrap64 (((rd_T105 l0_7 (wrap64 ((l0_7.length : Int) - 1))).f1) - ((rd_T105 l0_7 (wrap64 ((l0_7.length : Int) - 1))).f0)))).bind fun t207 => (spec_l05AckBytes.l0 k (wrap64 ((wrap64 ((l0_7.length : Int) - 1)) - 1)) t207 a0_0 a0_1 a0_2 a0_3 a0_4 l0_5 l0_6 l0_7))))) else (none)) else (none)
theorem spec_l05AckBytes.mono_l : ∀ k, (∀ y0 y1 y2 y3 y4 y5 y6 y7 y8 y9, LeO (spec_l05AckBytes.l0 k y0 y1 y2 y3 y4 y5 y6 y7 y8 y9) (spec_l05AckBytes.l0 (k + 1) y0 y1 y2 y3 y4 y5 y6 y7 y8 y9))
 | 0 => fun _ _ _ _ _ _ _ _ _ _ r h => by simp [spec_l05AckBytes.l0] at h
 | k + 1 => by
  have ih0 := spec_l05AckBytes.mono_l k
  ·intro y0 y1 y2 y3 y4 y5 y6 y7 y8 y9
   unfold spec_l05AckBytes.l0
   repeat' first
   | (with_reducible apply ih0)
   | (with_reducible apply spec_l05N.mono)
   | (with_reducible exact LeO.refl _)
   | (with_reducible exact LeO.none _)
   | (with_reducible refine LeO.ite ?_ ?_)
   | (with_reducible refine LeO.bind ?_ (fun _ => ?_))
theorem spec_l05AckBytes.mono : ∀ a0 a1 a2 a3 a4 a5 a6 a7 k, LeO (spec_l05AckBytes.f k a0 a1 a2 a3 a4 a5 a6 a7) (spec_l05AckBytes.f (k + 1) a0 a1 a2 a3 a4 a5 a6 a7) := by
 intro a0 a1 a2 a3 a4 a5 a6 a7 k
 have ih0 := spec_l05AckBytes.mono_l k
 unfold spec_l05AckBytes.f
 repeat' first
   | (with_reducible apply ih0)
   | (with_reducible apply spec_l05N.mono)
   | (with_reducible exact LeO.refl _)
   | (with_reducible exact LeO.none _)
   | (with_reducible refine LeO.ite ?_ ?_)
   | (with_reducible refine LeO.bind ?_ (fun _ => ?_))
def spec_l05AckBytes.T5 : Bool × List (List Nat × List Nat) := (true, [([], []), ([], []), ([1], [1]), ([], []), ([2, 3], [2, 3]), ([4], [4]), ([5], [5]), ([], []), ([7], [7]), ([], []), ([8, 9], [8, 9]), ([10], [10]), ([11], [11]), ([6, 12], [6, 12]), ([0, 13], [0, 13]), ([14, 14, 0, 1, 2, 3, 4, 5, 6, 7, 8, 9, 10, 11, 12, 13, 14], [0, 14])])
def spec_l05AckBytes.B5 : List Nat := [0, 0, 2, 0, 14, 30, 62, 0, 128, 0, 896, 1920, 3968, 8190, 16383, 32767]
theorem spec_l05AckBytes.tab5 : rtab .any (opsOf Try.f79 5) = spec_l05AckBytes.T5 := by kernel_rfl
theorem spec_l05AckBytes.bits5 : waitsOk spec_l05AckBytes.T5.2 spec_l05AckBytes.B5 = true := by kernel_rfl
def spec_l05AckBytes.T9 : Bool × List (List Nat × List Nat) := (true, [([], []), ([], []), ([1], [1]), ([], []), ([3], [3]), ([2, 4], [2, 4]), ([5], [5]), ([6], [6]), ([], []), ([8], [8]), ([], []), ([9, 10], [9, 10]), ([11], [11]), ([12], [12]), ([7, 13], [7, 13]), ([14], [14]), ([0, 15], [0, 15]), ([16, 16, 0, 1, 2, 3, 4, 5, 6, 7, 8, 9, 10, 11, 12, 13, 14, 15, 16], [0, 16])])
def spec_l05AckBytes.B9 : List Nat := [0, 0, 2, 0, 8, 30, 62, 126, 0, 256, 0, 1792, 3840, 7936, 16382, 32766, 65535, 131071]
theorem spec_l05AckBytes.tab9 : rtab .any (opsOf Try.f79 9) = spec_l05AckBytes.T9 := by kernel_rfl
theorem spec_l05AckBytes.bits9 : waitsOk spec_l05AckBytes.T9.2 spec_l05AckBytes.B9 = true := by kernel_rfl
def spec_l05AckBytes.T10 : Bool × List (List Nat × List Nat) := (true, [([], []), ([], []), ([1], [1]), ([], []), ([2, 3], [2, 3]), ([4], [4]), ([5], [5]), ([], []), ([7], [7]), ([], []), ([8, 9], [8, 9]), ([10], [10]), ([11], [11]), ([6, 12], [6, 12]), ([0, 13], [0, 13]), ([14, 14, 0, 1, 2, 3, 4, 5, 6, 7, 8, 9, 10, 11, 12, 13, 14], [0, 14])])
def spec_l05AckBytes.B10 : List Nat := [0, 0, 2, 0, 14, 30, 62, 0, 128, 0, 896, 1920, 3968, 8190, 16383, 32767]
theorem spec_l05AckBytes.tab10 : rtab .any (opsOf Try.f79 10) = spec_l05AckBytes.T10 := by kernel_rfl
theorem spec_l05AckBytes.bits10 : waitsOk spec_l05AckBytes.T10.2 spec_l05AckBytes.B10 = true := by kernel_rfl
set_option maxHeartbeats 8000000 in
set_option maxRecDepth 100000 in
theorem spec_l05AckBytes.calls (k : Nat) (a0_0 : Int) (a0_1 : Int) (a0_2 : Int) (a0_3 : Int) (a0_4 : Bool) (A0_5 : Option Addr) (c0_5 : Nat) (l0_5 : List Int) (A0_6 : Option Addr) (c0_6 : Nat) (l0_6 : List Int) (A0_7 : Option Addr) (c0_7 : Nat) (l0_7 : List (S105)) (r : List Int) (w : World) (hr0_5 : Kd.C (Kd.int .u8) w A0_5 l0_5.length l0_5) (hc0_5 : l0_5.length ≤ c0_5) (hr0_6 : Kd.C (Kd.int .u8) w A0_6 l0_6.length l0_6) (hc0_6 : l0_6.length ≤ c0_6) (hr0_7 : Kd.C k105 w A0_7 l0_7.length l0_7) (hc0_7 : l0_7.length ≤ c0_7) (h : spec_l05AckBytes.f k a0_0 a0_1 a0_2 a0_3 a0_4 l0_5 l0_6 l0_7 = some r) :
  Calls Try.prog 79 #[.agg #[.int .i64 a0_0, .int .i64 a0_1, .int .i64 a0_2, .int .i64 a0_3, .bool a0_4, .slice A0_5 l0_5.length c0_5, .slice A0_6 l0_6.length c0_6, .slice A0_7 l0_7.length c0_7]] w fun e w' => ∃ v0_ : Value, e = .returned (v0_) ∧ Kd.R (Kd.int .u8) 5 w' w.heap.size (fun _ => True) v0_ r ∧ Below w.heap.size w w' := by
 have hu55 := Try.underlying55
 have HR0_5 := qm hr0_5
 have HC0_5 := qm hc0_5
 clear hr0_5 hc0_5
 have HR0_6 := qm hr0_6
 have HC0_6 := qm hc0_6
 clear hr0_6 hc0_6
 have HR0_7 := qm hr0_7
 have HC0_7 := qm hc0_7
 clear hr0_7 hc0_7
 have HB := qm (Below.refl w.heap.size w)
 have H : (if 0 ≤ (wrap64 ((l0_7.length : Int) - 1)) then (if (wrap64 ((l0_7.length : Int) - 1)) < (l0_7.length : Int) then ((spec_l05N.f k (([2] : List Int)) ((rd_T105 l0_7 (wrap64 ((l0_7.length : Int) - 1))).f1)).bind fun t196 => ((spec_l05N.f k t196 a0_1).bind fun t199 => ((spec_l05N.f k t199 (wrap64 ((l0_7.length : Int) - 1))).bind fun t202 => ((spec_l05N.f k t202 (wrap64 (((rd_T105 l0_7 (wrap64 ((l0_7.length : Int) - 1))).f1) - ((rd_T105 l0_7 (wrap64 ((l0_7.length : Int) - 1))).f0)))).bind fun t207 => (spec_l05AckBytes.l0 k (wrap64 ((wrap64 ((l0_7.length : Int) - 1)) - 1)) t207 a0_0 a0_1 a0_2 a0_3 a0_4 l0_5 l0_6 l0_7))))) else (none)) else (none)) = some r := h
 clear h
 obtain ⟨y192, hy192⟩ : ∃ y_ : List Int, y_ = (([2] : List Int)) := ⟨_, rfl⟩
 replace H : (if 0 ≤ (wrap64 ((l0_7.length : Int) - 1)) then (if (wrap64 ((l0_7.length : Int) - 1)) < (l0_7.length : Int) then ((spec_l05N.f k y192 ((rd_T105 l0_7 (wrap64 ((l0_7.length : Int) - 1))).f1)).bind fun t196 => ((spec_l05N.f k t196 a0_1).bind fun t199 => ((spec_l05N.f k t199 (wrap64 ((l0_7.length : Int) - 1))).bind fun t202 => ((spec_l05N.f k t202 (wrap64 (((rd_T105 l0_7 (wrap64 ((l0_7.length : Int) - 1))).f1) - ((rd_T105 l0_7 (wrap64 ((l0_7.length : Int) - 1))).f0)))).bind fun t207 => (spec_l05AckBytes.l0 k (wrap64 ((wrap64 ((l0_7.length : Int) - 1)) - 1)) t207 a0_0 a0_1 a0_2 a0_3 a0_4 l0_5 l0_6 l0_7))))) else (none)) else (none)) = some r := by first | (rw [hy192]; with_reducible exact H) | (have H2_ := (Option.bind_some _ _).symm.trans H; rw [hy192]; with_reducible exact H2_) | (have H2_ := (Option.bind_some _ _).symm.trans H; with_reducible exact H2_) | with_reducible exact H | (rw [hy192]; exact H) | exact H
 have Ny192 := qm hy192
 clear hy192
 obtain ⟨ji2, hji2⟩ : ∃ j_ : Int, (wrap64 ((l0_7.length : Int) - 1)) = j_ := ⟨_, rfl⟩
 replace H : (if 0 ≤ (ji2) then (if (ji2) < (l0_7.length : Int) then ((spec_l05N.f k y192 ((rd_T105 l0_7 (ji2)).f1)).bind fun t196 => ((spec_l05N.f k t196 a0_1).bind fun t199 => ((spec_l05N.f k t199 (ji2)).bind fun t202 => ((spec_l05N.f k t202 (wrap64 (((rd_T105 l0_7 (ji2)).f1) - ((rd_T105 l0_7 (ji2)).f0)))).bind fun t207 => (spec_l05AckBytes.l0 k (wrap64 ((ji2) - 1)) t207 a0_0 a0_1 a0_2 a0_3 a0_4 l0_5 l0_6 l0_7))))) else (none)) else (none)) = some r := by first | (rw [hji2] at H; exact H) | (simp only [hji2] at H ⊢; exact H)
 have hji2w : (IntKind.i64.wrap ((l0_7.length : Int) - 1)) = ji2 := (i64_w _).trans hji2
 by_cases c3 : 0 ≤ (ji2)
 ·rw [if_pos c3] at H
  have c3b0 : decide (0 ≤ (ji2)) = true := decide_eq_true c3
  clear c3
  by_cases c4 : (ji2) < (l0_7.length : Int)
  ·rw [if_pos c4] at H
   have c4b0 : decide ((ji2) < (l0_7.length : Int)) = true := decide_eq_true c4
   clear c4
   replace H := Option.bind_eq_some_iff.mp H
   obtain ⟨t196, A50, H⟩ := H
   try dsimp only at H
   have A5 := qm A50
   clear A50
   replace H := Option.bind_eq_some_iff.mp H
   obtain ⟨t199, A60, H⟩ := H
   try dsimp only at H
   have A6 := qm A60
   clear A60
   replace H := Option.bind_eq_some_iff.mp H
   obtain ⟨t202, A70, H⟩ := H
   try dsimp only at H
   have A7 := qm A70
   clear A70
   replace H := Option.bind_eq_some_iff.mp H
   obtain ⟨t207, A80, H⟩ := H
   try dsimp only at H
   have A8 := qm A80
   clear A80
   have H' := qm H
   clear H
   go_enter Try.func79, Try.ntmps79
   try go_wp2_with (first | ((with_reducible refine gate_dst (N := 1) rfl ?_); refine box_event (by rfl) (N := 1) (by rfl) (cs := #[.int .i64 a0_0, .int .i64 a0_1, .int .i64 a0_2, .int .i64 a0_3, .bool a0_4, .slice A0_5 l0_5.length c0_5, .slice A0_6 l0_6.length c0_6, .slice A0_7 l0_7.length c0_7]) (t := 55) (by first | (go_simp; done) | (go_simp; rfl)) ?_; intro gb191 hg w9 hbox hb; have n0_ := qm (below_step HB.out hb); have n1_ := qm (hbox); have n2_ := qm ((by rw [hg]; exact (qs HB.out) : w.heap.size ≤ gb191)); have n3_ := qm ((by rw [hg]; exact (qs HB.out) : w.heap.size ≤ gb191)); clear HB; have HB := n0_; have BK191 := n1_; have GW191 := n2_; have GE191 := n3_; clear hb hbox hg; obtain ⟨_, _, _, _, _, _, _, _, _, _, _, _, _, _, _, _⟩ := fc8 BK191.out) | ((with_reducible refine gate_dst (N := 9) rfl ?_); refine Kd.R_lit (Kd.int .u8) _ 5 ?hg (N := 9) ?hd (xs := ([2] : List Int)) (inner := [.int .u8 2]) (ok := fun _ => True) (okp := fun _ => True) ?hr ?hp (fun _ hk => hk) trivial (Below.refl _ _) (Nat.le_refl _) (by simp) ?_; (case hd => rfl); (case hg => rfl); (case hr => first | (go_simp; done) | (go_simp; rfl)); (case hp => exact (Reps.one (show Kd.M (Kd.int .u8) _ _ _ 2 [.int .u8 2] from rfl) (Reps.none _ _))); intro v193 w11 ho12 hb hg_ hnew_; clear hg_ hnew_; (first | rw [← Ny192.out] at ho12 | (simp only [Int.reduceToNat] at ho12; rw [← Ny192.out] at ho12)); have n0_ := qm (Kd.R_lower ho12 (qs HB.out)); have n1_ := qm (blk_below (g := gb191) BK191.out hb); have n2_ := qm (below_step HB.out hb); clear BK191; clear HB; have HO194 := n0_; have BK191 := n1_; have HB := n2_; clear hb ho12; obtain ⟨_, _, _, _, _, _, _, _, _, _, _, _, _, _, _, _⟩ := fc8 BK191.out; have p195 : 0 ≤ ((ji2) : Int) := of_decide_eq_true (by assumption); have q195 : (ji2) < (l0_7.length : Int) := of_decide_eq_true (by assumption); obtain ⟨ad195, e195, hx195_0, hx195_1⟩ := at_T105 HR0_7.out (ji2) p195 q195; cases e195; replace hx195_0 := (HB.out.cell (World.block_lt_of_cell? w _ hx195_0)).trans hx195_0; replace hx195_1 := (HB.out.cell (World.block_lt_of_cell? w _ hx195_1)).trans hx195_1; replace p195 := eq_true p195; replace q195 := eq_true q195; obtain ⟨Ao14, co14, eo14⟩ := Kd.R_slice HO194.out; subst eo14) | ((with_reducible refine gate_callee (f := 80) rfl ?_); refine goesL_ (some 16) rfl rfl Try.func80 (by kernel_rfl) rfl #[.slice Ao14 y192.length co14, .int .i64 ((rd_T105 l0_7 (ji2)).f1)] rfl (by (try simp only [List.map_toArray, List.map_cons, List.map_nil]); first | done | (simp only [hji2]; rfl) | rfl | (simp only [List.length_drop, List.length_take]; rfl)) ?_; (with_reducible refine (spec_l05N.calls k (fun k_ => some k_ = (.slice Ao14 y192.length co14 : Value).ownBlock) (.slice Ao14 y192.length co14) y192 ((rd_T105 l0_7 (ji2)).f1) t196 w _ ?side1 ?side2 A5.out).mono ?_); (case side1 => repeat (first | (with_reducible first | exact HB.out | apply qh | apply qi | apply qj | refine qk ?_ GE191.out) | exact HB.out)); (case side2 => exact Kd.R_tight rfl HO194.out); rintro e w15 ⟨v197, rfl, ho0, hb, hkp⟩; refine ⟨_, rfl, ?_⟩; have n0_ := qm (blk_kept BK191.out hkp (fun hs_ => (fun e_ => (Kd.R_ne HO194.out BK191.out (by decide)) e_) hs_)); have n1_ := qm (qg (ok' := fun k_ => True) ho0 (fun k_ hk_ => trivial)); have n2_ := qm (hb); clear BK191; clear HB; clear HO194; have BK191 := n0_; have HO198 := n1_; have HB := n2_; obtain ⟨_, _, _, _, _, _, _, _, _, _, _, _, _, _, _, _⟩ := fc8 BK191.out; obtain ⟨Ao17, co17, eo17⟩ := Kd.R_slice HO198.out; subst eo17) | ((with_reducible refine gate_callee (f := 80) rfl ?_); refine goesL_ (some 20) rfl rfl Try.func80 (by kernel_rfl) rfl #[.slice Ao17 t196.length co17, .int .i64 a0_1] rfl (by (try simp only [m1, m2, m3]); first | done | rfl) ?_; (with_reducible refine (spec_l05N.calls k (fun k_ => some k_ = (.slice Ao17 t196.length co17 : Value).ownBlock) (.slice Ao17 t196.length co17) t196 a0_1 t199 w _ ?side1 ?side2 A6.out).mono ?_); (case side1 => repeat (first | (with_reducible first | exact HB.out | apply qh | apply qi | apply qj | refine qk ?_ GE191.out) | exact HB.out)); (case side2 => exact Kd.R_tight rfl HO198.out); rintro e w18 ⟨v200, rfl, ho0, hb, hkp⟩; refine ⟨_, rfl, ?_⟩; have n0_ := qm (blk_kept BK191.out hkp (fun hs_ => (fun e_ => (Kd.R_ne HO198.out BK191.out (by decide)) e_) hs_)); have n1_ := qm (qg (ok' := fun k_ => True) ho0 (fun k_ hk_ => trivial)); have n2_ := qm (hb); clear BK191; clear HB; clear HO198; have BK191 := n0_; have HO201 := n1_; have HB := n2_; obtain ⟨Ao19, co19, eo19⟩ := Kd.R_slice HO201.out; subst eo19) | ((with_reducible refine gate_callee (f := 80) rfl ?_); refine goesL_ (some 23) rfl rfl Try.func80 (by kernel_rfl) rfl #[.slice Ao19 t199.length co19, .int .i64 ji2] rfl (by (try simp only [List.map_toArray, List.map_cons, List.map_nil]); first | done | (simp only [hji2]; rfl) | rfl | (simp only [List.length_drop, List.length_take]; rfl)) ?_; (with_reducible refine (spec_l05N.calls k (fun k_ => some k_ = (.slice Ao19 t199.length co19 : Value).ownBlock) (.slice Ao19 t199.length co19) t199 ji2 t202 w _ ?side1 ?side2 A7.out).mono ?_); (case side1 => repeat (first | (with_reducible first | exact HB.out | apply qh | apply qi | apply qj | refine qk ?_ GE191.out) | exact HB.out)); (case side2 => exact Kd.R_tight rfl HO201.out); rintro e w20 ⟨v203, rfl, ho0, hb, hkp⟩; refine ⟨_, rfl, ?_⟩; have n0_ := qm (blk_kept BK191.out hkp (fun hs_ => (fun e_ => (Kd.R_ne HO201.out BK191.out (by decide)) e_) hs_)); have n1_ := qm (qg (ok' := fun k_ => True) ho0 (fun k_ hk_ => trivial)); have n2_ := qm (hb); clear BK191; clear HB; clear HO201; have BK191 := n0_; have HO204 := n1_; have HB := n2_))
   have n0_ := qm (qd HO204.out)
   have n1_ := qm (blk_drew BK191.out)
   have n2_ := qm (qj HB.out)
   clear HO204
   clear BK191
   clear HB
   have HO204 := n0_
   have BK191 := n1_
   have HB := n2_
   clear n0_ n1_ n2_
   have p205 : 0 ≤ ((ji2) : Int) := of_decide_eq_true (by assumption)
   have q205 : (ji2) < (l0_7.length : Int) := of_decide_eq_true (by assumption)
   obtain ⟨ad205, e205, hx205_0, hx205_1⟩ := at_T105 HR0_7.out (ji2) p205 q205
   have hw205_1 := hx205_1
   have hw205_0 := hx205_0
   obtain rfl : ad195 = ad205 := (by injection e205)
   replace hx205_0 := (HB.out.cell (World.block_lt_of_cell? w _ hx205_0)).trans hx205_0
   replace hx205_1 := (HB.out.cell (World.block_lt_of_cell? w _ hx205_1)).trans hx205_1
   replace p205 := eq_true p205
   replace q205 := eq_true q205
   have p206 : 0 ≤ ((ji2) : Int) := of_decide_eq_true (by assumption)
   have q206 : (ji2) < (l0_7.length : Int) := of_decide_eq_true (by assumption)
   obtain ⟨ad206, e206, hx206_0, hx206_1⟩ := at_T105 HR0_7.out (ji2) p206 q206
   have hw206_1 := hx206_1
   have hw206_0 := hx206_0
   obtain rfl : ad195 = ad206 := (by injection e206)
   replace hx206_0 := (HB.out.cell (World.block_lt_of_cell? w _ hx206_0)).trans hx206_0
   replace hx206_1 := (HB.out.cell (World.block_lt_of_cell? w _ hx206_1)).trans hx206_1
   replace p206 := eq_true p206
   replace q206 := eq_true q206
   obtain ⟨Ao22, co22, eo22⟩ := Kd.R_slice HO204.out
   (first | subst eo22 | (injection eo22 with f1_ f2_ f3_; have f4_ := f1_.symm; have f5_ := f3_.symm; clear f1_ f2_ f3_; subst f4_; subst f5_))
   refine start_ (n := 16) (S := fun w' => w'.cell? ⟨gb191, 0, none⟩ = some (.int .i64 a0_0) ∧ w'.cell? ⟨gb191, 1, none⟩ = some (.int .i64 a0_1) ∧ w'.cell? ⟨gb191, 2, none⟩ = some (.int .i64 a0_2) ∧ w'.cell? ⟨gb191, 3, none⟩ = some (.int .i64 a0_3) ∧ w'.cell? ⟨gb191, 4, none⟩ = some (.bool a0_4) ∧ w'.cell? ⟨gb191, 5, none⟩ = some (.slice A0_5 l0_5.length c0_5) ∧ w'.cell? ⟨gb191, 6, none⟩ = some (.slice A0_6 l0_6.length c0_6) ∧ w'.cell? ⟨gb191, 7, none⟩ = some (.slice (some ad195) l0_7.length c0_7) ∧ w'.cell? (ad195.add (((ji2)).toNat * 2)) = some (.int .i64 ((rd_T105 l0_7 (ji2)).f0)) ∧ w'.cell? ⟨(ad195.add (((ji2)).toNat * 2)).block, (ad195.add (((ji2)).toNat * 2)).off + 1, none⟩ = some (.int .i64 ((rd_T105 l0_7 (ji2)).f1)) ∧ w'.cell? (ad195.add (((ji2)).toNat * 2)) = some (.int .i64 ((rd_T105 l0_7 (ji2)).f0)) ∧ w'.cell? ⟨(ad195.add (((ji2)).toNat * 2)).block, (ad195.add (((ji2)).toNat * 2)).off + 1, none⟩ = some (.int .i64 ((rd_T105 l0_7 (ji2)).f1))) (ds := []) (bm 0 16) (by kernel_rfl) rfl rfl ⟨(qu BK191.out 0).trans rfl, (qu BK191.out 1).trans rfl, (qu BK191.out 2).trans rfl, (qu BK191.out 3).trans rfl, (qu BK191.out 4).trans rfl, (qu BK191.out 5).trans rfl, (qu BK191.out 6).trans rfl, (qu BK191.out 7).trans rfl, ((HB.out.cell (World.block_lt_of_cell? w _ hw205_0)).trans hw205_0), ((HB.out.cell (World.block_lt_of_cell? w _ hw205_1)).trans hw205_1), ((HB.out.cell (World.block_lt_of_cell? w _ hw206_0)).trans hw206_0), ((HB.out.cell (World.block_lt_of_cell? w _ hw206_1)).trans hw206_1)⟩ (fun hHeld => ?_); refine with_tabW spec_l05AckBytes.tab5 spec_l05AckBytes.bits5 (fun HT_ HW_ => ?_)
   generalize w20.drew = w21 at HO204 BK191 HB hx205_0 hx205_1 hx206_0 hx206_1 hHeld ⊢
   refine pu 0 24 (bm 1 16) HT_ (h := ⟨_, by intro w'; go_simp; with_reducible rfl, _, by simp only [Act.put, s1, s2, s3, i64_w, i32_w]; rfl, ?_⟩)
   refine pu 1 25 (bm 2 16) HT_ (h := ⟨_, by intro w'; go_simp; with_reducible rfl, _, by simp only [Act.put, s1, s2, s3, i64_w, i32_w]; rfl, ?_⟩)
   refine pu 3 27 (bb 11 16) HT_ (h := ⟨_, by intro w'; go_simp; with_reducible rfl, _, by simp only [Act.put, s1, s2, s3, i64_w, i32_w]; rfl, ?_⟩)
   refine pu 7 31 (bb 139 16) HT_ (h := ⟨_, by intro w'; go_simp; with_reducible rfl, _, by simp only [Act.put, s1, s2, s3, i64_w, i32_w]; rfl, ?_⟩)
   refine pu 9 33 (bb 651 16) HT_ (h := ⟨_, by intro w'; go_simp; with_reducible rfl, _, by simp only [Act.put, s1, s2, s3, i64_w, i32_w]; rfl, ?_⟩)
   refine tk 2 26 (bb 655 16) HT_ HW_ (hS := hHeld) (h := ⟨_, by rintro w' ⟨s0, s1, s2, s3, s4, s5, s6, s7, s8, s9, s10, s11⟩; go_simp; with_reducible rfl, _, by simp only [Act.put, s1, s2, s3, i64_w, i32_w]; rfl, ?_⟩)
   refine pu 4 28 (bb 671 16) HT_ (h := ⟨_, by intro w'; go_simp; with_reducible rfl, _, by simp only [Act.put, s1, s2, s3, i64_w, i32_w]; rfl, ?_⟩)
   refine pu 5 29 (bb 703 16) HT_ (h := ⟨_, by intro w'; go_simp; with_reducible rfl, _, by simp only [Act.put, s1, s2, s3, i64_w, i32_w]; rfl, ?_⟩)
   refine tk 6 30 (bb 767 16) HT_ HW_ (hS := hHeld) (h := ⟨_, by rintro w' ⟨s0, s1, s2, s3, s4, s5, s6, s7, s8, s9, s10, s11⟩; go_simp; with_reducible rfl, _, by simp only [Act.put, s1, s2, s3, i64_w, i32_w]; rfl, ?_⟩)
   refine tk 8 32 (bm 10 16) HT_ HW_ (hS := hHeld) (h := ⟨_, by rintro w' ⟨s0, s1, s2, s3, s4, s5, s6, s7, s8, s9, s10, s11⟩; go_simp; with_reducible rfl, _, by simp only [Act.put, s1, s2, s3, i64_w, i32_w]; rfl, ?_⟩)
   refine pu 10 34 (bm 11 16) HT_ (h := ⟨_, by intro w'; go_simp; with_reducible rfl, _, by simp only [Act.put, s1, s2, s3, i64_w, i32_w]; rfl, ?_⟩)
   refine pu 11 35 (bm 12 16) HT_ (h := ⟨_, by intro w'; go_simp; with_reducible rfl, _, by simp only [Act.put, s1, s2, s3, i64_w, i32_w]; rfl, ?_⟩)
   refine tk 12 36 (bm 13 16) HT_ HW_ (hS := hHeld) (h := ⟨_, by rintro w' ⟨s0, s1, s2, s3, s4, s5, s6, s7, s8, s9, s10, s11⟩; go_simp; with_reducible rfl, _, by simp only [Act.put, s1, s2, s3, i64_w, i32_w]; rfl, ?_⟩)
   refine pu 13 37 (bm 14 16) HT_ (h := ⟨_, by intro w'; go_simp; with_reducible rfl, _, by simp only [Act.put, s1, s2, s3, i64_w, i32_w]; rfl, ?_⟩)
   refine one_ (i := 14) (N := some 38) (bm 15 16) rfl rfl (one_of HT_.out (by kernel_rfl)) (by decide) (fun K hK => ?_)
   refine goes_ Try.func80 (by kernel_rfl) rfl #[.slice Ao22 t202.length co22, .int .i64 (wrap64 (((rd_T105 l0_7 (ji2)).f1) - ((rd_T105 l0_7 (ji2)).f0)))] (by rfl) rfl rfl (by (try simp only [List.map_toArray, List.map_cons, List.map_nil]); first | done | (simp only [hji2]; rfl) | rfl | (simp only [List.length_drop, List.length_take]; rfl)) ?_
   with_reducible refine (spec_l05N.calls k (fun k_ => some k_ = (.slice Ao22 t202.length co22 : Value).ownBlock) (.slice Ao22 t202.length co22) t202 (wrap64 (((rd_T105 l0_7 (ji2)).f1) - ((rd_T105 l0_7 (ji2)).f0))) t207 w _ ?side1 ?side2 A8.out).mono ?_
   (case side1 => repeat (first | (with_reducible first | exact HB.out | apply qh | apply qi | apply qj | refine qk ?_ GE191.out) | exact HB.out))
   (case side2 => exact Kd.R_tight rfl HO204.out)
   rintro e w23 ⟨v208, rfl, ho0, hb, hkp⟩
   refine ⟨_, rfl, ?_⟩
   have n0_ := qm (blk_kept BK191.out hkp (fun hs_ => (fun e_ => (Kd.R_ne HO204.out BK191.out (by decide)) e_) hs_))
   have n1_ := qm (qg (ok' := fun k_ => True) ho0 (fun k_ hk_ => trivial))
   have n2_ := qm (hb)
   clear BK191
   clear HB
   clear HO204
   have BK191 := n0_
   have HO209 := n1_
   have HB := n2_
   clear n0_ n1_ n2_
   (try clear hb)
   (try clear hkp)
   (try clear ho0)
   refine hK.out _ _ ⟨(qu BK191.out 0).trans rfl, (qu BK191.out 1).trans rfl, (qu BK191.out 2).trans rfl, (qu BK191.out 3).trans rfl, (qu BK191.out 4).trans rfl, (qu BK191.out 5).trans rfl, (qu BK191.out 6).trans rfl, (qu BK191.out 7).trans rfl, ((HB.out.cell (World.block_lt_of_cell? w _ hw205_0)).trans hw205_0), ((HB.out.cell (World.block_lt_of_cell? w _ hw205_1)).trans hw205_1), ((HB.out.cell (World.block_lt_of_cell? w _ hw206_0)).trans hw206_0), ((HB.out.cell (World.block_lt_of_cell? w _ hw206_1)).trans hw206_1)⟩ (fun hHeld => ?_)
   clear hK K
   refine norm_ (a' := ?_) ?_ ?_
   rotate_left
   ·show Act.put _ (some 38) _ = _
    simp only [Act.put, s1, s2, s3, i64_w, i32_w]
    rfl
   refine pu 15 4 (bm 16 16) HT_ (h := ⟨_, by intro w'; go_simp; with_reducible rfl, _, by simp only [Act.put, s1, s2, s3, i64_w, i32_w]; rfl, ?_⟩)
   refine done_ (done_of HT_.out (by kernel_rfl)) ?_
   try go_wp2
   go_loopg [3, 4] k (fun kq v3 v4 w' => ∃ (x3_1 : Int) (x4_1 : List Int), v3 = .int .i64 x3_1 ∧ Aside0 (spec_l05AckBytes.l0 kq x3_1 x4_1 a0_0 a0_1 a0_2 a0_3 a0_4 l0_5 l0_6 l0_7 = some r) ∧ Aside0 (kq ≤ k) ∧ Aside0 (Kd.R (Kd.int .u8) 5 w' w.heap.size (fun _ => True) v4 x4_1) ∧ Aside0 (w'.heap[gb191]? = some (.cells #[.int .i64 a0_0, .int .i64 a0_1, .int .i64 a0_2, .int .i64 a0_3, .bool a0_4, (.slice A0_5 l0_5.length c0_5), (.slice A0_6 l0_6.length c0_6), (.slice (some ad195) l0_7.length c0_7)] 55 (0, 0))) ∧ Aside0 (Below w.heap.size w w'))
   case atStart => exact ⟨(wrap64 ((ji2) - 1)), (t207), (by first | rfl | (simp; done) | (simp only [← hji2] <;> (first | rfl | simp)) | (simp [*]; done)), H', ⟨Nat.le_refl _⟩, ⟨HO209.out⟩, ⟨BK191.out⟩, ⟨HB.out⟩⟩
   case round =>
    clear H'
    try clear c3
    try clear c3b0
    try clear c4
    try clear c4b0
    try clear hx195_0
    try clear hx195_1
    try clear hx205_0
    try clear hx205_1
    try clear hx206_0
    try clear hx206_1
    try clear p195
    try clear p205
    try clear p206
    try clear q195
    try clear q205
    try clear q206
    obtain ⟨x3_1, x4_1, rfl, HA, HK1, HO_4, BK191, HB⟩ := hrel
    cases gk with
    | zero => exact absurd HA.out (by simp [spec_l05AckBytes.l0])
    | succ k1 => ?_
    have H := HA.out
    clear HA
    simp only [spec_l05AckBytes.l0] at H
    by_cases c24 : x3_1 ≥ 0
    ·rw [if_pos c24] at H
     have c24b0 : decide (0 ≤ x3_1) = true := decide_eq_true c24
     clear c24
     obtain ⟨ji25, hji25⟩ : ∃ j_ : Int, (wrap64 (x3_1 + 1)) = j_ := ⟨_, rfl⟩
     replace H : (if 0 ≤ (ji25) then (if (ji25) < (l0_7.length : Int) then (if 0 ≤ x3_1 then (if x3_1 < (l0_7.length : Int) then ((spec_l05N.f k1 x4_1 (wrap64 ((wrap64 (((rd_T105 l0_7 (ji25)).f0) - ((rd_T105 l0_7 x3_1).f1))) - 2))).bind fun t212 => ((spec_l05N.f k1 t212 (wrap64 (((rd_T105 l0_7 x3_1).f1) - ((rd_T105 l0_7 x3_1).f0)))).bind fun t217 => (spec_l05AckBytes.l0 k1 (wrap64 (x3_1 - 1)) t217 a0_0 a0_1 a0_2 a0_3 a0_4 l0_5 l0_6 l0_7))) else (none)) else (none)) else (none)) else (none)) = some r := by first | (rw [hji25] at H; exact H) | (simp only [hji25] at H ⊢; exact H)
     have hji25w : (IntKind.i64.wrap (x3_1 + 1)) = ji25 := (i64_w _).trans hji25
     by_cases c26 : 0 ≤ (ji25)
     ·rw [if_pos c26] at H
      have c26b0 : decide (0 ≤ (ji25)) = true := decide_eq_true c26
      clear c26
      by_cases c27 : (ji25) < (l0_7.length : Int)
      ·rw [if_pos c27] at H
       have c27b0 : decide ((ji25) < (l0_7.length : Int)) = true := decide_eq_true c27
       clear c27
       by_cases c28 : 0 ≤ x3_1
       ·rw [if_pos c28] at H
        have c28b0 : decide (0 ≤ x3_1) = true := decide_eq_true c28
        clear c28
        by_cases c29 : x3_1 < (l0_7.length : Int)
        ·rw [if_pos c29] at H
         have c29b0 : decide (x3_1 < (l0_7.length : Int)) = true := decide_eq_true c29
         clear c29
         replace H := Option.bind_eq_some_iff.mp H
         obtain ⟨t212, A300, H⟩ := H
         try dsimp only at H
         have A30 := qm A300
         clear A300
         replace H := Option.bind_eq_some_iff.mp H
         obtain ⟨t217, A310, H⟩ := H
         try dsimp only at H
         have A31 := qm A310
         clear A310
         have H' := qm H
         clear H
         try go_wp2
         have n0_ := qm (qd HO_4.out)
         have n1_ := qm (blk_drew BK191.out)
         have n2_ := qm (qj HB.out)
         clear HO_4
         clear BK191
         clear HB
         have HO_4 := n0_
         have BK191 := n1_
         have HB := n2_
         clear n0_ n1_ n2_
         have p210 : 0 ≤ ((ji25) : Int) := of_decide_eq_true (by assumption)
         have q210 : (ji25) < (l0_7.length : Int) := of_decide_eq_true (by assumption)
         obtain ⟨ad210, e210, hx210_0, hx210_1⟩ := at_T105 HR0_7.out (ji25) p210 q210
         have hw210_1 := hx210_1
         have hw210_0 := hx210_0
         obtain rfl : ad195 = ad210 := (by injection e210)
         replace hx210_0 := (HB.out.cell (World.block_lt_of_cell? w _ hx210_0)).trans hx210_0
         replace hx210_1 := (HB.out.cell (World.block_lt_of_cell? w _ hx210_1)).trans hx210_1
         replace p210 := eq_true p210
         replace q210 := eq_true q210
         have p211 : 0 ≤ (x3_1 : Int) := of_decide_eq_true (by assumption)
         have q211 : x3_1 < (l0_7.length : Int) := of_decide_eq_true (by assumption)
         obtain ⟨ad211, e211, hx211_0, hx211_1⟩ := at_T105 HR0_7.out x3_1 p211 q211
         have hw211_1 := hx211_1
         have hw211_0 := hx211_0
         obtain rfl : ad195 = ad211 := (by injection e211)
         replace hx211_0 := (HB.out.cell (World.block_lt_of_cell? w _ hx211_0)).trans hx211_0
         replace hx211_1 := (HB.out.cell (World.block_lt_of_cell? w _ hx211_1)).trans hx211_1
         replace p211 := eq_true p211
         replace q211 := eq_true q211
         obtain ⟨Ao33, co33, eo33⟩ := Kd.R_slice HO_4.out
         (first | subst eo33 | (injection eo33 with f1_ f2_ f3_; have f4_ := f1_.symm; have f5_ := f3_.symm; clear f1_ f2_ f3_; subst f4_; subst f5_))
         refine start_ (n := 18) (S := fun w' => w'.cell? ⟨gb191, 0, none⟩ = some (.int .i64 a0_0) ∧ w'.cell? ⟨gb191, 1, none⟩ = some (.int .i64 a0_1) ∧ w'.cell? ⟨gb191, 2, none⟩ = some (.int .i64 a0_2) ∧ w'.cell? ⟨gb191, 3, none⟩ = some (.int .i64 a0_3) ∧ w'.cell? ⟨gb191, 4, none⟩ = some (.bool a0_4) ∧ w'.cell? ⟨gb191, 5, none⟩ = some (.slice A0_5 l0_5.length c0_5) ∧ w'.cell? ⟨gb191, 6, none⟩ = some (.slice A0_6 l0_6.length c0_6) ∧ w'.cell? ⟨gb191, 7, none⟩ = some (.slice (some ad195) l0_7.length c0_7) ∧ w'.cell? (ad195.add (((ji25)).toNat * 2)) = some (.int .i64 ((rd_T105 l0_7 (ji25)).f0)) ∧ w'.cell? ⟨(ad195.add (((ji25)).toNat * 2)).block, (ad195.add (((ji25)).toNat * 2)).off + 1, none⟩ = some (.int .i64 ((rd_T105 l0_7 (ji25)).f1)) ∧ w'.cell? (ad195.add ((x3_1).toNat * 2)) = some (.int .i64 ((rd_T105 l0_7 x3_1).f0)) ∧ w'.cell? ⟨(ad195.add ((x3_1).toNat * 2)).block, (ad195.add ((x3_1).toNat * 2)).off + 1, none⟩ = some (.int .i64 ((rd_T105 l0_7 x3_1).f1))) (ds := []) (bm 0 18) (by kernel_rfl) rfl rfl ⟨(qu BK191.out 0).trans rfl, (qu BK191.out 1).trans rfl, (qu BK191.out 2).trans rfl, (qu BK191.out 3).trans rfl, (qu BK191.out 4).trans rfl, (qu BK191.out 5).trans rfl, (qu BK191.out 6).trans rfl, (qu BK191.out 7).trans rfl, ((HB.out.cell (World.block_lt_of_cell? w _ hw210_0)).trans hw210_0), ((HB.out.cell (World.block_lt_of_cell? w _ hw210_1)).trans hw210_1), ((HB.out.cell (World.block_lt_of_cell? w _ hw211_0)).trans hw211_0), ((HB.out.cell (World.block_lt_of_cell? w _ hw211_1)).trans hw211_1)⟩ (fun hHeld => ?_); refine with_tabW spec_l05AckBytes.tab9 spec_l05AckBytes.bits9 (fun HT_ HW_ => ?_)
         generalize wr.drew = w32 at HO_4 BK191 HB hx210_0 hx210_1 hx211_0 hx211_1 hHeld ⊢
         refine pu 0 45 (bm 1 18) HT_ (h := ⟨_, by intro w'; go_simp; with_reducible rfl, _, by simp only [Act.put, s1, s2, s3, i64_w, i32_w]; rfl, ?_⟩)
         refine pu 1 46 (bm 2 18) HT_ (h := ⟨_, by intro w'; go_simp; with_reducible rfl, _, by simp only [Act.put, s1, s2, s3, i64_w, i32_w]; rfl, ?_⟩)
         refine pu 3 48 (bb 11 18) HT_ (h := ⟨_, by intro w'; go_simp; with_reducible rfl, _, by simp only [Act.put, s1, s2, s3, i64_w, i32_w]; rfl, ?_⟩)
         refine pu 4 49 (bb 27 18) HT_ (h := ⟨_, by intro w'; go_simp; with_reducible rfl, _, by simp only [Act.put, s1, s2, s3, i64_w, i32_w]; rfl, ?_⟩)
         refine pu 8 53 (bb 283 18) HT_ (h := ⟨_, by intro w'; go_simp; with_reducible rfl, _, by simp only [Act.put, s1, s2, s3, i64_w, i32_w]; rfl, ?_⟩)
         refine pu 10 55 (bb 1307 18) HT_ (h := ⟨_, by intro w'; go_simp; with_reducible rfl, _, by simp only [Act.put, s1, s2, s3, i64_w, i32_w]; rfl, ?_⟩)
         refine tk 2 47 (bb 1311 18) HT_ HW_ (hS := hHeld) (h := ⟨_, by rintro w' ⟨s0, s1, s2, s3, s4, s5, s6, s7, s8, s9, s10, s11⟩; go_simp; with_reducible rfl, _, by simp only [Act.put, s1, s2, s3, i64_w, i32_w]; rfl, ?_⟩)
         refine pu 5 50 (bb 1343 18) HT_ (h := ⟨_, by intro w'; go_simp; with_reducible rfl, _, by simp only [Act.put, s1, s2, s3, i64_w, i32_w]; rfl, ?_⟩)
         refine pu 6 51 (bb 1407 18) HT_ (h := ⟨_, by intro w'; go_simp; with_reducible rfl, _, by simp only [Act.put, s1, s2, s3, i64_w, i32_w]; rfl, ?_⟩)
         refine tk 7 52 (bb 1535 18) HT_ HW_ (hS := hHeld) (h := ⟨_, by rintro w' ⟨s0, s1, s2, s3, s4, s5, s6, s7, s8, s9, s10, s11⟩; go_simp; with_reducible rfl, _, by simp only [Act.put, s1, s2, s3, i64_w, i32_w]; rfl, ?_⟩)
         refine tk 9 54 (bm 11 18) HT_ HW_ (hS := hHeld) (h := ⟨_, by rintro w' ⟨s0, s1, s2, s3, s4, s5, s6, s7, s8, s9, s10, s11⟩; go_simp; with_reducible rfl, _, by simp only [Act.put, s1, s2, s3, i64_w, i32_w]; rfl, ?_⟩)
         refine pu 11 56 (bm 12 18) HT_ (h := ⟨_, by intro w'; go_simp; with_reducible rfl, _, by simp only [Act.put, s1, s2, s3, i64_w, i32_w]; rfl, ?_⟩)
         refine pu 12 57 (bm 13 18) HT_ (h := ⟨_, by intro w'; go_simp; with_reducible rfl, _, by simp only [Act.put, s1, s2, s3, i64_w, i32_w]; rfl, ?_⟩)
         refine tk 13 58 (bm 14 18) HT_ HW_ (hS := hHeld) (h := ⟨_, by rintro w' ⟨s0, s1, s2, s3, s4, s5, s6, s7, s8, s9, s10, s11⟩; go_simp; with_reducible rfl, _, by simp only [Act.put, s1, s2, s3, i64_w, i32_w]; rfl, ?_⟩)
         refine pu 14 59 (bm 15 18) HT_ (h := ⟨_, by intro w'; go_simp; with_reducible rfl, _, by simp only [Act.put, s1, s2, s3, i64_w, i32_w]; rfl, ?_⟩)
         refine pu 15 60 (bm 16 18) HT_ (h := ⟨_, by intro w'; go_simp; with_reducible rfl, _, by simp only [Act.put, s1, s2, s3, i64_w, i32_w]; rfl, ?_⟩)
         refine one_ (i := 16) (N := some 61) (bm 17 18) rfl rfl (one_of HT_.out (by kernel_rfl)) (by decide) (fun K hK => ?_)
         refine goes_ Try.func80 (by kernel_rfl) rfl #[.slice Ao33 x4_1.length co33, .int .i64 (wrap64 ((wrap64 (((rd_T105 l0_7 (ji25)).f0) - ((rd_T105 l0_7 x3_1).f1))) - 2))] (by rfl) rfl rfl (by (try simp only [List.map_toArray, List.map_cons, List.map_nil]); first | done | (simp only [hji25]; rfl) | rfl | (simp only [List.length_drop, List.length_take]; rfl)) ?_
         with_reducible refine (spec_l05N.calls k1 (fun k_ => some k_ = (.slice Ao33 x4_1.length co33 : Value).ownBlock) (.slice Ao33 x4_1.length co33) x4_1 (wrap64 ((wrap64 (((rd_T105 l0_7 (ji25)).f0) - ((rd_T105 l0_7 x3_1).f1))) - 2)) t212 w _ ?side1 ?side2 A30.out).mono ?_
         (case side1 => repeat (first | (with_reducible first | exact HB.out | apply qh | apply qi | apply qj | refine qk ?_ GE191.out) | exact HB.out))
         (case side2 => exact Kd.R_tight rfl HO_4.out)
         rintro e w34 ⟨v213, rfl, ho0, hb, hkp⟩
         refine ⟨_, rfl, ?_⟩
         have n0_ := qm (blk_kept BK191.out hkp (fun hs_ => (fun e_ => (Kd.R_ne HO_4.out BK191.out (by decide)) e_) hs_))
         have n1_ := qm (qg (ok' := fun k_ => True) ho0 (fun k_ hk_ => trivial))
         have n2_ := qm (hb)
         clear BK191
         clear HB
         clear HO_4
         have BK191 := n0_
         have HO214 := n1_
         have HB := n2_
         clear n0_ n1_ n2_
         (try clear hb)
         (try clear hkp)
         (try clear ho0)
         refine hK.out _ _ ⟨(qu BK191.out 0).trans rfl, (qu BK191.out 1).trans rfl, (qu BK191.out 2).trans rfl, (qu BK191.out 3).trans rfl, (qu BK191.out 4).trans rfl, (qu BK191.out 5).trans rfl, (qu BK191.out 6).trans rfl, (qu BK191.out 7).trans rfl, ((HB.out.cell (World.block_lt_of_cell? w _ hw210_0)).trans hw210_0), ((HB.out.cell (World.block_lt_of_cell? w _ hw210_1)).trans hw210_1), ((HB.out.cell (World.block_lt_of_cell? w _ hw211_0)).trans hw211_0), ((HB.out.cell (World.block_lt_of_cell? w _ hw211_1)).trans hw211_1)⟩ (fun hHeld => ?_)
         clear hK K
         refine norm_ (a' := ?_) ?_ ?_
         rotate_left
         ·show Act.put _ (some 61) _ = _
          simp only [Act.put, s1, s2, s3, i64_w, i32_w]
          rfl
         refine pu 17 4 (bm 18 18) HT_ (h := ⟨_, by intro w'; go_simp; with_reducible rfl, _, by simp only [Act.put, s1, s2, s3, i64_w, i32_w]; rfl, ?_⟩)
         refine done_ (done_of HT_.out (by kernel_rfl)) ?_
         try go_wp2
         have n0_ := qm (qd HO214.out)
         have n1_ := qm (blk_drew BK191.out)
         have n2_ := qm (qj HB.out)
         clear HO214
         clear BK191
         clear HB
         have HO214 := n0_
         have BK191 := n1_
         have HB := n2_
         clear n0_ n1_ n2_
         have p215 : 0 ≤ (x3_1 : Int) := of_decide_eq_true (by assumption)
         have q215 : x3_1 < (l0_7.length : Int) := of_decide_eq_true (by assumption)
         obtain ⟨ad215, e215, hx215_0, hx215_1⟩ := at_T105 HR0_7.out x3_1 p215 q215
         have hw215_1 := hx215_1
         have hw215_0 := hx215_0
         obtain rfl : ad195 = ad215 := (by injection e215)
         replace hx215_0 := (HB.out.cell (World.block_lt_of_cell? w _ hx215_0)).trans hx215_0
         replace hx215_1 := (HB.out.cell (World.block_lt_of_cell? w _ hx215_1)).trans hx215_1
         replace p215 := eq_true p215
         replace q215 := eq_true q215
         have p216 : 0 ≤ (x3_1 : Int) := of_decide_eq_true (by assumption)
         have q216 : x3_1 < (l0_7.length : Int) := of_decide_eq_true (by assumption)
         obtain ⟨ad216, e216, hx216_0, hx216_1⟩ := at_T105 HR0_7.out x3_1 p216 q216
         have hw216_1 := hx216_1
         have hw216_0 := hx216_0
         obtain rfl : ad195 = ad216 := (by injection e216)
         replace hx216_0 := (HB.out.cell (World.block_lt_of_cell? w _ hx216_0)).trans hx216_0
         replace hx216_1 := (HB.out.cell (World.block_lt_of_cell? w _ hx216_1)).trans hx216_1
         replace p216 := eq_true p216
         replace q216 := eq_true q216
         obtain ⟨Ao36, co36, eo36⟩ := Kd.R_slice HO214.out
         (first | subst eo36 | (injection eo36 with f1_ f2_ f3_; have f4_ := f1_.symm; have f5_ := f3_.symm; clear f1_ f2_ f3_; subst f4_; subst f5_))
         refine start_ (n := 16) (S := fun w' => w'.cell? ⟨gb191, 0, none⟩ = some (.int .i64 a0_0) ∧ w'.cell? ⟨gb191, 1, none⟩ = some (.int .i64 a0_1) ∧ w'.cell? ⟨gb191, 2, none⟩ = some (.int .i64 a0_2) ∧ w'.cell? ⟨gb191, 3, none⟩ = some (.int .i64 a0_3) ∧ w'.cell? ⟨gb191, 4, none⟩ = some (.bool a0_4) ∧ w'.cell? ⟨gb191, 5, none⟩ = some (.slice A0_5 l0_5.length c0_5) ∧ w'.cell? ⟨gb191, 6, none⟩ = some (.slice A0_6 l0_6.length c0_6) ∧ w'.cell? ⟨gb191, 7, none⟩ = some (.slice (some ad195) l0_7.length c0_7) ∧ w'.cell? (ad195.add ((x3_1).toNat * 2)) = some (.int .i64 ((rd_T105 l0_7 x3_1).f0)) ∧ w'.cell? ⟨(ad195.add ((x3_1).toNat * 2)).block, (ad195.add ((x3_1).toNat * 2)).off + 1, none⟩ = some (.int .i64 ((rd_T105 l0_7 x3_1).f1)) ∧ w'.cell? (ad195.add ((x3_1).toNat * 2)) = some (.int .i64 ((rd_T105 l0_7 x3_1).f0)) ∧ w'.cell? ⟨(ad195.add ((x3_1).toNat * 2)).block, (ad195.add ((x3_1).toNat * 2)).off + 1, none⟩ = some (.int .i64 ((rd_T105 l0_7 x3_1).f1))) (ds := []) (bm 0 16) (by kernel_rfl) rfl rfl ⟨(qu BK191.out 0).trans rfl, (qu BK191.out 1).trans rfl, (qu BK191.out 2).trans rfl, (qu BK191.out 3).trans rfl, (qu BK191.out 4).trans rfl, (qu BK191.out 5).trans rfl, (qu BK191.out 6).trans rfl, (qu BK191.out 7).trans rfl, ((HB.out.cell (World.block_lt_of_cell? w _ hw215_0)).trans hw215_0), ((HB.out.cell (World.block_lt_of_cell? w _ hw215_1)).trans hw215_1), ((HB.out.cell (World.block_lt_of_cell? w _ hw216_0)).trans hw216_0), ((HB.out.cell (World.block_lt_of_cell? w _ hw216_1)).trans hw216_1)⟩ (fun hHeld => ?_); refine with_tabW spec_l05AckBytes.tab10 spec_l05AckBytes.bits10 (fun HT_ HW_ => ?_)
         generalize w34.drew = w35 at HO214 BK191 HB hx215_0 hx215_1 hx216_0 hx216_1 hHeld ⊢
         refine pu 0 62 (bm 1 16) HT_ (h := ⟨_, by intro w'; go_simp; with_reducible rfl, _, by simp only [Act.put, s1, s2, s3, i64_w, i32_w]; rfl, ?_⟩)
         refine pu 1 63 (bm 2 16) HT_ (h := ⟨_, by intro w'; go_simp; with_reducible rfl, _, by simp only [Act.put, s1, s2, s3, i64_w, i32_w]; rfl, ?_⟩)
         refine pu 3 65 (bb 11 16) HT_ (h := ⟨_, by intro w'; go_simp; with_reducible rfl, _, by simp only [Act.put, s1, s2, s3, i64_w, i32_w]; rfl, ?_⟩)
         refine pu 7 69 (bb 139 16) HT_ (h := ⟨_, by intro w'; go_simp; with_reducible rfl, _, by simp only [Act.put, s1, s2, s3, i64_w, i32_w]; rfl, ?_⟩)
         refine pu 9 71 (bb 651 16) HT_ (h := ⟨_, by intro w'; go_simp; with_reducible rfl, _, by simp only [Act.put, s1, s2, s3, i64_w, i32_w]; rfl, ?_⟩)
         refine tk 2 64 (bb 655 16) HT_ HW_ (hS := hHeld) (h := ⟨_, by rintro w' ⟨s0, s1, s2, s3, s4, s5, s6, s7, s8, s9, s10, s11⟩; go_simp; with_reducible rfl, _, by simp only [Act.put, s1, s2, s3, i64_w, i32_w]; rfl, ?_⟩)
         refine pu 4 66 (bb 671 16) HT_ (h := ⟨_, by intro w'; go_simp; with_reducible rfl, _, by simp only [Act.put, s1, s2, s3, i64_w, i32_w]; rfl, ?_⟩)
         refine pu 5 67 (bb 703 16) HT_ (h := ⟨_, by intro w'; go_simp; with_reducible rfl, _, by simp only [Act.put, s1, s2, s3, i64_w, i32_w]; rfl, ?_⟩)
         refine tk 6 68 (bb 767 16) HT_ HW_ (hS := hHeld) (h := ⟨_, by rintro w' ⟨s0, s1, s2, s3, s4, s5, s6, s7, s8, s9, s10, s11⟩; go_simp; with_reducible rfl, _, by simp only [Act.put, s1, s2, s3, i64_w, i32_w]; rfl, ?_⟩)
         refine tk 8 70 (bm 10 16) HT_ HW_ (hS := hHeld) (h := ⟨_, by rintro w' ⟨s0, s1, s2, s3, s4, s5, s6, s7, s8, s9, s10, s11⟩; go_simp; with_reducible rfl, _, by simp only [Act.put, s1, s2, s3, i64_w, i32_w]; rfl, ?_⟩)
         refine pu 10 72 (bm 11 16) HT_ (h := ⟨_, by intro w'; go_simp; with_reducible rfl, _, by simp only [Act.put, s1, s2, s3, i64_w, i32_w]; rfl, ?_⟩)
         refine pu 11 73 (bm 12 16) HT_ (h := ⟨_, by intro w'; go_simp; with_reducible rfl, _, by simp only [Act.put, s1, s2, s3, i64_w, i32_w]; rfl, ?_⟩)
         refine tk 12 74 (bm 13 16) HT_ HW_ (hS := hHeld) (h := ⟨_, by rintro w' ⟨s0, s1, s2, s3, s4, s5, s6, s7, s8, s9, s10, s11⟩; go_simp; with_reducible rfl, _, by simp only [Act.put, s1, s2, s3, i64_w, i32_w]; rfl, ?_⟩)
         refine pu 13 75 (bm 14 16) HT_ (h := ⟨_, by intro w'; go_simp; with_reducible rfl, _, by simp only [Act.put, s1, s2, s3, i64_w, i32_w]; rfl, ?_⟩)
         refine one_ (i := 14) (N := some 76) (bm 15 16) rfl rfl (one_of HT_.out (by kernel_rfl)) (by decide) (fun K hK => ?_)
         refine goes_ Try.func80 (by kernel_rfl) rfl #[.slice Ao36 t212.length co36, .int .i64 (wrap64 (((rd_T105 l0_7 x3_1).f1) - ((rd_T105 l0_7 x3_1).f0)))] (by rfl) rfl rfl (by (try simp only [m1, m2, m3]); first | done | rfl) ?_
         with_reducible refine (spec_l05N.calls k1 (fun k_ => some k_ = (.slice Ao36 t212.length co36 : Value).ownBlock) (.slice Ao36 t212.length co36) t212 (wrap64 (((rd_T105 l0_7 x3_1).f1) - ((rd_T105 l0_7 x3_1).f0))) t217 w _ ?side1 ?side2 A31.out).mono ?_
         (case side1 => repeat (first | (with_reducible first | exact HB.out | apply qh | apply qi | apply qj | refine qk ?_ GE191.out) | exact HB.out))
         (case side2 => exact Kd.R_tight rfl HO214.out)
         rintro e w37 ⟨v218, rfl, ho0, hb, hkp⟩
         refine ⟨_, rfl, ?_⟩
         have n0_ := qm (blk_kept BK191.out hkp (fun hs_ => (fun e_ => (Kd.R_ne HO214.out BK191.out (by decide)) e_) hs_))
         have n1_ := qm (qg (ok' := fun k_ => True) ho0 (fun k_ hk_ => trivial))
         have n2_ := qm (hb)
         clear BK191
         clear HB
         clear HO214
         have BK191 := n0_
         have HO219 := n1_
         have HB := n2_
         clear n0_ n1_ n2_
         (try clear hb)
         (try clear hkp)
         (try clear ho0)
         refine hK.out _ _ ⟨(qu BK191.out 0).trans rfl, (qu BK191.out 1).trans rfl, (qu BK191.out 2).trans rfl, (qu BK191.out 3).trans rfl, (qu BK191.out 4).trans rfl, (qu BK191.out 5).trans rfl, (qu BK191.out 6).trans rfl, (qu BK191.out 7).trans rfl, ((HB.out.cell (World.block_lt_of_cell? w _ hw215_0)).trans hw215_0), ((HB.out.cell (World.block_lt_of_cell? w _ hw215_1)).trans hw215_1), ((HB.out.cell (World.block_lt_of_cell? w _ hw216_0)).trans hw216_0), ((HB.out.cell (World.block_lt_of_cell? w _ hw216_1)).trans hw216_1)⟩ (fun hHeld => ?_)
         clear hK K
         refine norm_ (a' := ?_) ?_ ?_
         rotate_left
         ·show Act.put _ (some 76) _ = _
          simp only [Act.put, s1, s2, s3, i64_w, i32_w]
          rfl
         refine pu 15 4 (bm 16 16) HT_ (h := ⟨_, by intro w'; go_simp; with_reducible rfl, _, by simp only [Act.put, s1, s2, s3, i64_w, i32_w]; rfl, ?_⟩)
         refine done_ (done_of HT_.out (by kernel_rfl)) ?_
         try go_wp2
         go_roundg k1
         case measure => have := HK1.out; omega
         case rel => exact ⟨(wrap64 (x3_1 - 1)), (t217), rfl, H', ⟨by have := HK1.out; omega⟩, ⟨HO219.out⟩, ⟨BK191.out⟩, ⟨HB.out⟩⟩
        rw [if_neg c29] at H
        exact absurd H (by simp)
       rw [if_neg c28] at H
       exact absurd H (by simp)
      rw [if_neg c27] at H
      exact absurd H (by simp)
     rw [if_neg c26] at H
     exact absurd H (by simp)
    rw [if_neg c24] at H
    have c24b0 : decide (0 ≤ x3_1) = false := decide_eq_false c24
    clear c24
    obtain rfl := Option.some.inj H
    go_wp2
    go_ret
    exact ⟨_, by first | rfl | (simp [errW_none, errW_some] <;> rfl) | (simp only [← hji2]; first | rfl | (simp [errW_none, errW_some] <;> rfl)) | (simp [*, errW_none, errW_some] <;> rfl), HO_4.out, HB.out⟩
  rw [if_neg c4] at H
  exact absurd H (by simp)
 rw [if_neg c3] at H
 exact absurd H (by simp)
/-! ### spec_l05Counted: function 81 -/
def spec_l05Counted.f (k : Nat) (l0 : List Int) (l1 : List Int) : Option (List Int) := (spec_l05N.f k l0 (l1.length : Int)).bind fun t220 => (if t220.length + l1.length < 140737488355328 then (some (t220 ++ l1)) else (none))
theorem spec_l05Counted.mono : ∀ a0 a1 k, LeO (spec_l05Counted.f k a0 a1) (spec_l05Counted.f (k + 1) a0 a1) := by
 intro a0 a1 k
 unfold spec_l05Counted.f
 repeat' first
   | (with_reducible apply spec_l05N.mono)
   | (with_reducible exact LeO.refl _)
   | (with_reducible exact LeO.none _)
   | (with_reducible refine LeO.ite ?_ ?_)
   | (with_reducible refine LeO.bind ?_ (fun _ => ?_))
set_option maxHeartbeats 8000000 in
set_option maxRecDepth 100000 in
theorem spec_l05Counted.calls (k : Nat) (P0_ : Nat → Prop) (u9000_ : Value) (l0 : List Int) (A1 : Option Addr) (c1 : Nat) (l1 : List Int) (r : List Int) (w0 w : World) (hB : Below w0.heap.size w0 w) (ho0 : Kd.R (Kd.int .u8) 5 w w0.heap.size P0_ u9000_ l0) (hr1 : ∀ W_, Kept w W_ (fun k_ => P0_ k_) → Kd.C (Kd.int .u8) W_ A1 l1.length l1) (hc1 : l1.length ≤ c1) (h : spec_l05Counted.f k l0 l1 = some r) :
  Calls Try.prog 81 #[u9000_, .slice A1 l1.length c1] w fun e w' => ∃ v0_ : Value, e = .returned (v0_) ∧ Kd.R (Kd.int .u8) 5 w' w0.heap.size (fun k_ => (P0_ k_ ∨ w.heap.size ≤ k_)) v0_ r ∧ Below w0.heap.size w0 w' ∧ Kept w w' (fun k_ => P0_ k_) := by
 have HO0 := qm (show Kd.R (Kd.int .u8) 5 w w0.heap.size (fun k_ => (P0_ k_ ∨ w.heap.size ≤ k_)) u9000_ l0 from qg ho0 (fun k_ hk => (.inl hk)))
 have HR1 := qm hr1
 have HC1 := qm hc1
 clear hr1 hc1
 have HK := qm (Kept.refl w (fun k_ => P0_ k_))
 have HW0 := qm hB.size
 have HB := qm hB
 clear hB
 have H : ((spec_l05N.f k l0 (l1.length : Int)).bind fun t220 => (if t220.length + l1.length < 140737488355328 then (some (t220 ++ l1)) else (none))) = some r := h
 clear h
 replace H := Option.bind_eq_some_iff.mp H
 obtain ⟨t220, A30, H⟩ := H
 try dsimp only at H
 have A3 := qm A30
 clear A30
 by_cases c4 : t220.length + l1.length < 140737488355328
 ·rw [if_pos c4] at H
  have LMc4 := qm c4
  clear c4
  obtain ⟨y223, hy223⟩ : ∃ y_ : List Int, y_ = (t220 ++ l1) := ⟨_, rfl⟩
  replace H : (some y223) = some r := by first | (rw [hy223]; with_reducible exact H) | (have H2_ := (Option.bind_some _ _).symm.trans H; rw [hy223]; with_reducible exact H2_) | (have H2_ := (Option.bind_some _ _).symm.trans H; with_reducible exact H2_) | with_reducible exact H | (rw [hy223]; exact H) | exact H
  have Ny223 := qm hy223
  clear hy223
  obtain rfl := Option.some.inj H
  obtain ⟨Ao5, co5, eo5⟩ := Kd.R_slice HO0.out
  subst eo5
  go_enter Try.func81, Try.ntmps81
  go_wp2_with (first | ((with_reducible refine gate_callee (f := 80) rfl ?_); refine goesL_ (some 8) rfl rfl Try.func80 (by kernel_rfl) rfl #[.slice Ao5 l0.length co5, .int .i64 (l1.length : Int)] rfl (by (try simp only [m1, m2, m3]); first | done | rfl) ?_; (with_reducible refine (spec_l05N.calls k (fun k_ => some k_ = (.slice Ao5 l0.length co5 : Value).ownBlock) (.slice Ao5 l0.length co5) l0 (l1.length : Int) t220 w0 _ ?side1 ?side2 A3.out).mono ?_); (case side1 => repeat (first | (with_reducible first | exact HB.out | apply qh | apply qi | apply qj) | exact HB.out)); (case side2 => exact Kd.R_tight rfl HO0.out); rintro e w6 ⟨v221, rfl, ho0, hb, hkp⟩; refine ⟨_, rfl, ?_⟩; have n0_ := qm (qg (ok' := fun k_ => (P0_ k_ ∨ w.heap.size ≤ k_)) ho0 (fun k_ hk_ => Or.elim hk_ (fun hs_ => (HO0.out.1 k_ (hs_).symm)) (fun hn_ => (.inr (Nat.le_trans (by first | exact HK.out.1 | exact (show Kept w _ (fun k_ => P0_ k_) from by repeat (first | (with_reducible first | exact HK.out | apply Kept.alloc | apply Kept.drewN | apply Kept.drew) | exact HK.out)).1) hn_))))); have n1_ := qm (Kept.then_ (S := (fun k_ => P0_ k_)) (by repeat (first | (with_reducible first | exact HK.out | apply Kept.alloc | apply Kept.drewN | apply Kept.drew) | exact HK.out)) hkp (fun k_ hs_ => (fun e_ => (HO0.out.1 k_ e_.symm)) hs_)); have n2_ := qm (hb); clear HK; clear HB; clear HO0; have HO222 := n0_; have HK := n1_; have HB := n2_) | ((with_reducible refine gate_builtin (b := .append) (xs := #[.tmp 8, .tmp 9]) rfl ?_); at_builtin; refine Kd.R_append_rows (Kd.int .u8) (w0 := w0) w0.heap.size rfl (.tmp 8) (.tmp 9) 22 5 (.int .u8 0) 1 rfl Try.underlying22 info5 rfl (by decide) (by omega) v221 t220 l1 _ _ _ (fun k_ => (P0_ k_ ∨ w.heap.size ≤ k_)) (fun _ => False) rfl rfl ?aO ?aR (fun _ _ h => h) (fun _ h => h.elim) ?aF ?aB ?aS ?aL ?_; (case aR => exact Kd.C_kept_now HR1.out (by repeat (first | (with_reducible first | exact HK.out | apply Kept.alloc | apply Kept.drewN | apply Kept.drew) | exact HK.out))); (case aB => exact HB.out); (case aF => exact (fun k_ hk => (.inr (Nat.le_trans (by first | exact HK.out.1 | exact (show Kept w _ (fun k_ => P0_ k_) from by repeat (first | (with_reducible first | exact HK.out | apply Kept.alloc | apply Kept.drewN | apply Kept.drew) | exact HK.out)).1) hk)))); (case aO => exact HO222.out); (case aS => exact (qs HB.out)); (case aL => have := LMc4.out; omega); intro v224 w7 ho hb hg hat; rw [← Ny223.out] at ho; have n0_ := qm (hb); have n1_ := qm (Kept.of_grown (S := (fun k_ => P0_ k_)) hg (by repeat (first | (with_reducible first | exact HK.out | apply Kept.alloc | apply Kept.drewN | apply Kept.drew) | exact HK.out)) (fun k_ e_ => (HO222.out.1 k_ e_))); have n2_ := qm (ho); clear HB; clear HK; clear HO222; have HB := n0_; have HK := n1_; have HO225 := n2_; clear ho hb hg hat))
  go_ret
  exact ⟨_, by first | rfl | (simp <;> rfl) | (simp [*] <;> rfl), HO225.out, by repeat (first | (with_reducible first | exact HB.out | apply qh | apply qi | apply qj) | exact HB.out), by repeat (first | (with_reducible first | exact HK.out | apply Kept.alloc | apply Kept.drewN | apply Kept.drew) | exact HK.out)⟩
 rw [if_neg c4] at H
 exact absurd H (by simp)
end Go.Proofs.Ytdojcdhlcnlohaa.SFnExactFrameBytes
