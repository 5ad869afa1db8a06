/- The walk of functions that the law FnExactFrameBytes uses, written by program. -/
import Derived.Test.YtdojcdhlcnlohaaSFnExactFrameBytesx0
import Derived.Test.YtdojcdhlcnlohaaSFnExactFrameBytesx1
import Derived.Test.YtdojcdhlcnlohaaSFnExactFrameBytesx2
import Derived.Test.YtdojcdhlcnlohaaSFnExactFrameBytesx8
import Derived.Test.YtdojcdhlcnlohaaSFnExactFrameBytesx14
import Derived.Test.YtdojcdhlcnlohaaSteps2
namespace Go.Proofs.Ytdojcdhlcnlohaa.SFnExactFrameBytes
open Go.Proofs.Ytdojcdhlcnlohaa.Steps2 Go.RowKit Go.Proofs.YtdojcdhlcnlohaaW.PrintWords Go.Proofs.YtdojcdhlcnlohaaW.PrintLast Go.Proofs.YtdojcdhlcnlohaaW.PrintMore
open Go.Proofs.YtdojcdhlcnlohaaW.PrintWords renaming below_alloc → qh, pw_below_drewN → qi, below_drew1 → qj, below_set → qk, blk_drewN → ql, blk_drew → qn, blk_alloc → qo, blk_put → qp, blk_far → qr, below_size → qs, below_step → qt, blk_cell → qu, blk_below → qv
open Go.Proofs.YtdojcdhlcnlohaaW.PrintWords.Kd renaming R_far → qa, R_alloc → qb, R_drewN → qc, R_drew → qd, R_reads' → qe, R_below → qf, R_mono → qg
open Go.Proofs.YtdojcdhlcnlohaaW.PrintWords.Aside0 renaming mk → qm
attribute [local go_sem] max2_int min2_int max_two min_two max_three min_three max_four min_four 
set_option linter.unusedVariables false
set_option linter.unusedSimpArgs false
/-! ### laws_FnExactFrameBytes: function 10 -/
mutual
def laws_FnExactFrameBytes.j0 : Nat → List Int → Int → List Int → Int → Bool → Int → Int → Int → Int → Bool → List Int → List Int → List (S107) → Int → Int → Int → Int → Bool → List Int → List Int → List (S105) → Option (Bool)
 | 0, _, _, _, _, _, _, _, _, _, _, _, _, _, _, _, _, _, _, _, _, _ => none
 | k + 1, x4, x5, x7, x8, x40, x494000, x494001, x494002, x494003, x494004, x494005, x494006, x494007, x528000, x528001, x528002, x528003, x528004, x528005, x528006, x528007 => if x40 = true then (some false) else ((laws_toFrame.f k x494000 x494001 x494002 x494003 x494004 x494005 x494006 x494007).bind fun bt533 => ((laws_eqFrame.f k x528000 x528001 x528002 x528003 x528004 x528005 x528006 x528007 bt533.1 bt533.2.1 bt533.2.2.1 bt533.2.2.2.1 bt533.2.2.2.2.1 bt533.2.2.2.2.2.1 bt533.2.2.2.2.2.2.1 bt533.2.2.2.2.2.2.2).bind fun t547 => (if t547 = true then ((laws_markFrame.f k x528000 x528001 x528002 x528003 x528004 x528005 x528006 x528007 1).bind fun bt548 => (if bt548.1 < 0 then (laws_FnExactFrameBytes.j1 k x4 x5 x7 true x494000 x494001 x494002 x494003 x494004 x494005 x494006 x494007) else ((laws_eqByteS.f k x7 x4).bind fun t552 => (if t552 = true then (laws_FnExactFrameBytes.j1 k x4 x5 x7 (x8 != x5) x494000 x494001 x494002 x494003 x494004 x494005 x494006 x494007) else (laws_FnExactFrameBytes.j1 k x4 x5 x7 true x494000 x494001 x494002 x494003 x494004 x494005 x494006 x494007))))) else (some false))))
def laws_FnExactFrameBytes.j1 : Nat → List Int → Int → List Int → Bool → Int → Int → Int → Int → Bool → List Int → List Int → List (S107) → Option (Bool)
 | 0, _, _, _, _, _, _, _, _, _, _, _, _ => none
 | k + 1, x4, x5, x7, x61, x494000, x494001, x494002, x494003, x494004, x494005, x494006, x494007 => if x61 = true then (some false) else ((laws_markByteS.f k x7 1).bind fun bt553 => ((laws_heldByteS.f k bt553.2 1).bind fun t555 => (if t555 < 0 then (some false) else (if t555 = bt553.1 then ((laws_toFrame.f k x494000 x494001 x494002 x494003 x494004 x494005 x494006 x494007).bind fun bt556 => ((impl_FrameBytes.f k bt556.1 bt556.2.1 bt556.2.2.1 bt556.2.2.2.1 bt556.2.2.2.2.1 bt556.2.2.2.2.2.1 bt556.2.2.2.2.2.2.1 bt556.2.2.2.2.2.2.2).bind fun bt570 => ((laws_eqByteS.f k bt570.1 x4).bind fun t574 => (if t574 = true then (laws_FnExactFrameBytes.j2 k bt553.2 bt553.1 (bt570.2 != x5)) else (laws_FnExactFrameBytes.j2 k bt553.2 bt553.1 true))))) else (some false)))))
def laws_FnExactFrameBytes.j2 : Nat → List Int → Int → Bool → Option (Bool)
 | 0, _, _, _ => none
 | k + 1, x7, x10, x87 => if x87 = true then (some false) else ((laws_heldByteS.f k x7 1).bind fun t575 => (if t575 < 0 then (some false) else (if t575 = x10 then (some true) else (some false))))
end
def laws_FnExactFrameBytes.f (k : Nat) (a0_0 : Int) (a0_1 : Int) (a0_2 : Int) (a0_3 : Int) (a0_4 : Bool) (l0_5 : List Int) (l0_6 : List Int) (l0_7 : List (S107)) : Option (Bool) := (laws_szFrame.f a0_0 a0_1 a0_2 a0_3 a0_4 l0_5 l0_6 l0_7 1048576).bind fun t494 => (if t494 < 0 then (some true) else ((laws_toFrame.f k a0_0 a0_1 a0_2 a0_3 a0_4 l0_5 l0_6 l0_7).bind fun bt495 => ((spec_FrameBytes.f k bt495.1 bt495.2.1 bt495.2.2.1 bt495.2.2.2.1 bt495.2.2.2.2.1 bt495.2.2.2.2.2.1 bt495.2.2.2.2.2.2.1 bt495.2.2.2.2.2.2.2).bind fun bt509 => ((laws_toFrame.f k a0_0 a0_1 a0_2 a0_3 a0_4 l0_5 l0_6 l0_7).bind fun bt513 => ((impl_FrameBytes.f k bt513.1 bt513.2.1 bt513.2.2.1 bt513.2.2.2.1 bt513.2.2.2.2.1 bt513.2.2.2.2.2.1 bt513.2.2.2.2.2.2.1 bt513.2.2.2.2.2.2.2).bind fun bt528 => ((laws_eqByteS.f k bt528.1 bt509.1).bind fun t532 => (if t532 = true then (laws_FnExactFrameBytes.j0 k bt509.1 bt509.2 bt528.1 bt528.2 (bt528.2 != bt509.2) a0_0 a0_1 a0_2 a0_3 a0_4 l0_5 l0_6 l0_7 bt513.1 bt513.2.1 bt513.2.2.1 bt513.2.2.2.1 bt513.2.2.2.2.1 bt513.2.2.2.2.2.1 bt513.2.2.2.2.2.2.1 bt513.2.2.2.2.2.2.2) else (laws_FnExactFrameBytes.j0 k bt509.1 bt509.2 bt528.1 bt528.2 true a0_0 a0_1 a0_2 a0_3 a0_4 l0_5 l0_6 l0_7 bt513.1 bt513.2.1 bt513.2.2.1 bt513.2.2.2.1 bt513.2.2.2.2.1 bt513.2.2.2.2.2.1 bt513.2.2.2.2.2.2.1 bt513.2.2.2.2.2.2.2))))))))
theorem laws_FnExactFrameBytes.mono_l : ∀ k, (∀ y0 y1 y2 y3 y4 y5 y6 y7 y8 y9 y10 y11 y12 y13 y14 y15 y16 y17 y18 y19 y20, LeO (laws_FnExactFrameBytes.j0 k y0 y1 y2 y3 y4 y5 y6 y7 y8 y9 y10 y11 y12 y13 y14 y15 y16 y17 y18 y19 y20) (laws_FnExactFrameBytes.j0 (k + 1) y0 y1 y2 y3 y4 y5 y6 y7 y8 y9 y10 y11 y12 y13 y14 y15 y16 y17 y18 y19 y20)) ∧ (∀ y0 y1 y2 y3 y4 y5 y6 y7 y8 y9 y10 y11, LeO (laws_FnExactFrameBytes.j1 k y0 y1 y2 y3 y4 y5 y6 y7 y8 y9 y10 y11) (laws_FnExactFrameBytes.j1 (k + 1) y0 y1 y2 y3 y4 y5 y6 y7 y8 y9 y10 y11)) ∧ (∀ y0 y1 y2, LeO (laws_FnExactFrameBytes.j2 k y0 y1 y2) (laws_FnExactFrameBytes.j2 (k + 1) y0 y1 y2))
 | 0 => ⟨fun _ _ _ _ _ _ _ _ _ _ _ _ _ _ _ _ _ _ _ _ _ r h => by simp [laws_FnExactFrameBytes.j0] at h, fun _ _ _ _ _ _ _ _ _ _ _ _ r h => by simp [laws_FnExactFrameBytes.j1] at h, fun _ _ _ r h => by simp [laws_FnExactFrameBytes.j2] at h⟩
 | k + 1 => by
  obtain ⟨ih0, ih1, ih2⟩ := laws_FnExactFrameBytes.mono_l k
  refine ⟨?_, ?_, ?_⟩
  ·intro y0 y1 y2 y3 y4 y5 y6 y7 y8 y9 y10 y11 y12 y13 y14 y15 y16 y17 y18 y19 y20
   unfold laws_FnExactFrameBytes.j0
   repeat' first
   | (with_reducible apply ih0)
   | (with_reducible apply ih1)
   | (with_reducible apply ih2)
   | (with_reducible apply impl_FrameBytes.mono)
   | (with_reducible apply laws_eqByteS.mono)
   | (with_reducible apply laws_eqFrame.mono)
   | (with_reducible apply laws_heldByteS.mono)
   | (with_reducible apply laws_markByteS.mono)
   | (with_reducible apply laws_markFrame.mono)
   | (with_reducible apply laws_toFrame.mono)
   | (with_reducible apply spec_FrameBytes.mono)
   | (with_reducible exact LeO.refl _)
   | (with_reducible exact LeO.none _)
   | (with_reducible refine LeO.ite ?_ ?_)
   | (with_reducible refine LeO.bind ?_ (fun _ => ?_))
  ·intro y0 y1 y2 y3 y4 y5 y6 y7 y8 y9 y10 y11
   unfold laws_FnExactFrameBytes.j1
   repeat' first
   | (with_reducible apply ih0)
   | (with_reducible apply ih1)
   | (with_reducible apply ih2)
   | (with_reducible apply impl_FrameBytes.mono)
   | (with_reducible apply laws_eqByteS.mono)
   | (with_reducible apply laws_eqFrame.mono)
   | (with_reducible apply laws_heldByteS.mono)
   | (with_reducible apply laws_markByteS.mono)
   | (with_reducible apply laws_markFrame.mono)
   | (with_reducible apply laws_toFrame.mono)
   | (with_reducible apply spec_FrameBytes.mono)
   | (with_reducible exact LeO.refl _)
   | (with_reducible exact LeO.none _)
   | (with_reducible refine LeO.ite ?_ ?_)
   | (with_reducible refine LeO.bind ?_ (fun _ => ?_))
  ·intro y0 y1 y2
   unfold laws_FnExactFrameBytes.j2
   repeat' first
   | (with_reducible apply ih0)
   | (with_reducible apply ih1)
   | (with_reducible apply ih2)
   | (with_reducible apply impl_FrameBytes.mono)
   | (with_reducible apply laws_eqByteS.mono)
   | (with_reducible apply laws_eqFrame.mono)
   | (with_reducible apply laws_heldByteS.mono)
   | (with_reducible apply laws_markByteS.mono)
   | (with_reducible apply laws_markFrame.mono)
   | (with_reducible apply laws_toFrame.mono)
   | (with_reducible apply spec_FrameBytes.mono)
   | (with_reducible exact LeO.refl _)
   | (with_reducible exact LeO.none _)
   | (with_reducible refine LeO.ite ?_ ?_)
   | (with_reducible refine LeO.bind ?_ (fun _ => ?_))
theorem laws_FnExactFrameBytes.mono : ∀ a0 a1 a2 a3 a4 a5 a6 a7 k, LeO (laws_FnExactFrameBytes.f k a0 a1 a2 a3 a4 a5 a6 a7) (laws_FnExactFrameBytes.f (k + 1) a0 a1 a2 a3 a4 a5 a6 a7) := by
 intro a0 a1 a2 a3 a4 a5 a6 a7 k
 obtain ⟨ih0, ih1, ih2⟩ := laws_FnExactFrameBytes.mono_l k
 unfold laws_FnExactFrameBytes.f
 repeat' first
   | (with_reducible apply ih0)
   | (with_reducible apply ih1)
   | (with_reducible apply ih2)
   | (with_reducible apply impl_FrameBytes.mono)
   | (with_reducible apply laws_eqByteS.mono)
   | (with_reducible apply laws_eqFrame.mono)
   | (with_reducible apply laws_heldByteS.mono)
   | (with_reducible apply laws_markByteS.mono)
   | (with_reducible apply laws_markFrame.mono)
   | (with_reducible apply laws_toFrame.mono)
   | (with_reducible apply spec_FrameBytes.mono)
   | (with_reducible exact LeO.refl _)
   | (with_reducible exact LeO.none _)
   | (with_reducible refine LeO.ite ?_ ?_)
   | (with_reducible refine LeO.bind ?_ (fun _ => ?_))
set_option maxHeartbeats 8000000 in
set_option maxRecDepth 100000 in
theorem laws_FnExactFrameBytes.calls (k : Nat) (a0_0 : Int) (a0_1 : Int) (a0_2 : Int) (a0_3 : Int) (a0_4 : Bool) (A0_5 : Option Addr) (c0_5 : Nat) (l0_5 : List Int) (A0_6 : Option Addr) (c0_6 : Nat) (l0_6 : List Int) (A0_7 : Option Addr) (c0_7 : Nat) (l0_7 : List (S107)) (w : World) (hr0_5 : Kd.C (Kd.int .u8) w A0_5 l0_5.length l0_5) (hc0_5 : l0_5.length ≤ c0_5) (hr0_6 : Kd.C (Kd.int .u8) w A0_6 l0_6.length l0_6) (hc0_6 : l0_6.length ≤ c0_6) (hr0_7 : Kd.C k107 w A0_7 l0_7.length l0_7) (hc0_7 : l0_7.length ≤ c0_7) (h : laws_FnExactFrameBytes.f k a0_0 a0_1 a0_2 a0_3 a0_4 l0_5 l0_6 l0_7 = some true) :
  Calls Try.prog 10 #[.agg #[.int .i64 a0_0, .int .i64 a0_1, .int .i64 a0_2, .int .i64 a0_3, .bool a0_4, .slice A0_5 l0_5.length c0_5, .slice A0_6 l0_6.length c0_6, .slice A0_7 l0_7.length c0_7]] w fun e w' => e = .returned (.bool true) ∧ Below w.heap.size w w' := by
 have hu50 := Try.underlying50
 have hu55 := Try.underlying55
 have HR0_5 := qm hr0_5
 have HC0_5 := qm hc0_5
 clear hr0_5 hc0_5
 have HR0_6 := qm hr0_6
 have HC0_6 := qm hc0_6
 clear hr0_6 hc0_6
 have HR0_7 := qm hr0_7
 have HC0_7 := qm hc0_7
 clear hr0_7 hc0_7
 have HB := qm (Below.refl w.heap.size w)
 have H : ((laws_szFrame.f a0_0 a0_1 a0_2 a0_3 a0_4 l0_5 l0_6 l0_7 1048576).bind fun t494 => (if t494 < 0 then (some true) else ((laws_toFrame.f k a0_0 a0_1 a0_2 a0_3 a0_4 l0_5 l0_6 l0_7).bind fun bt495 => ((spec_FrameBytes.f k bt495.1 bt495.2.1 bt495.2.2.1 bt495.2.2.2.1 bt495.2.2.2.2.1 bt495.2.2.2.2.2.1 bt495.2.2.2.2.2.2.1 bt495.2.2.2.2.2.2.2).bind fun bt509 => ((laws_toFrame.f k a0_0 a0_1 a0_2 a0_3 a0_4 l0_5 l0_6 l0_7).bind fun bt513 => ((impl_FrameBytes.f k bt513.1 bt513.2.1 bt513.2.2.1 bt513.2.2.2.1 bt513.2.2.2.2.1 bt513.2.2.2.2.2.1 bt513.2.2.2.2.2.2.1 bt513.2.2.2.2.2.2.2).bind fun bt528 => ((laws_eqByteS.f k bt528.1 bt509.1).bind fun t532 => (if t532 = true then (laws_FnExactFrameBytes.j0 k bt509.1 bt509.2 bt528.1 bt528.2 (bt528.2 != bt509.2) a0_0 a0_1 a0_2 a0_3 a0_4 l0_5 l0_6 l0_7 bt513.1 bt513.2.1 bt513.2.2.1 bt513.2.2.2.1 bt513.2.2.2.2.1 bt513.2.2.2.2.2.1 bt513.2.2.2.2.2.2.1 bt513.2.2.2.2.2.2.2) else (laws_FnExactFrameBytes.j0 k bt509.1 bt509.2 bt528.1 bt528.2 true a0_0 a0_1 a0_2 a0_3 a0_4 l0_5 l0_6 l0_7 bt513.1 bt513.2.1 bt513.2.2.1 bt513.2.2.2.1 bt513.2.2.2.2.1 bt513.2.2.2.2.2.1 bt513.2.2.2.2.2.2.1 bt513.2.2.2.2.2.2.2))))))))) = some true := h
 clear h
 replace H := Option.bind_eq_some_iff.mp H
 obtain ⟨t494, A20, H⟩ := H
 try dsimp only at H
 have A2 := qm A20
 clear A20
 by_cases c3 : t494 < 0
 ·rw [if_pos c3] at H
  have c3b0 : decide (t494 < 0) = true := decide_eq_true c3
  clear c3
  clear H
  go_enter Try.func10, Try.ntmps10
  go_wp2_with (first | ((with_reducible refine gate_dst (N := 1) rfl ?_); refine box_event (by rfl) (N := 1) (by rfl) (cs := #[.int .i64 a0_0, .int .i64 a0_1, .int .i64 a0_2, .int .i64 a0_3, .bool a0_4, .slice A0_5 l0_5.length c0_5, .slice A0_6 l0_6.length c0_6, .slice A0_7 l0_7.length c0_7]) (t := 50) (by first | (go_simp; done) | (go_simp; rfl)) ?_; intro gb493 hg w4 hbox hb; have n0_ := qm (qt HB.out hb); have n1_ := qm (hbox); have n2_ := qm ((by rw [hg]; exact (qs HB.out) : w.heap.size ≤ gb493)); have n3_ := qm ((by rw [hg]; exact (qs HB.out) : w.heap.size ≤ gb493)); clear HB; have HB := n0_; have BK493 := n1_; have GW493 := n2_; have GE493 := n3_; clear hb hbox hg; obtain ⟨_, _, _, _, _, _, _, _, _, _, _, _, _, _, _, _⟩ := fc8 BK493.out) | ((with_reducible refine gate_callee (f := 38) rfl ?_); refine goesL_ (some 16) rfl rfl Try.func38 (by kernel_rfl) rfl #[.agg #[.int .i64 a0_0, .int .i64 a0_1, .int .i64 a0_2, .int .i64 a0_3, .bool a0_4, .slice A0_5 l0_5.length c0_5, .slice A0_6 l0_6.length c0_6, .slice A0_7 l0_7.length c0_7], .int .i64 1048576] rfl (by (try simp only [m1, m2, m3]); first | done | rfl) ?_; (with_reducible refine (laws_szFrame.calls a0_0 a0_1 a0_2 a0_3 a0_4 _ _ l0_5 _ _ l0_6 _ _ l0_7 1048576 t494 _ ?side1 ?side2 ?side3 ?side4 ?side5 ?side6 A2.out).mono ?_); (case side1 => repeat (first | exact (Kd.C_below HR0_5.out HB.out) | (with_reducible refine Kd.C_alloc ?_ _) | (with_reducible refine Kd.C_drewN ?_ _) | (with_reducible refine Kd.C_drew ?_))); (case side2 => exact HC0_5.out); (case side3 => repeat (first | exact (Kd.C_below HR0_6.out HB.out) | (with_reducible refine Kd.C_alloc ?_ _) | (with_reducible refine Kd.C_drewN ?_ _) | (with_reducible refine Kd.C_drew ?_))); (case side4 => exact HC0_6.out); (case side5 => repeat (first | exact (Kd.C_below HR0_7.out HB.out) | (with_reducible refine Kd.C_alloc ?_ _) | (with_reducible refine Kd.C_drewN ?_ _) | (with_reducible refine Kd.C_drew ?_))); (case side6 => exact HC0_7.out); rintro e w6 ⟨rfl, hb⟩; refine ⟨_, rfl, ?_⟩; have n0_ := qm (qv (g := gb493) BK493.out hb); have n1_ := qm (qt (by repeat (first | (with_reducible first | exact HB.out | apply qh | apply qi | apply qj | refine qk ?_ GE493.out) | exact HB.out)) hb); clear BK493; clear HB; have BK493 := n0_; have HB := n1_))
  go_ret
  exact ⟨by first | rfl | (simp <;> rfl) | (simp [*] <;> rfl), by repeat (first | (with_reducible first | exact HB.out | apply qh | apply qi | apply qj | refine qk ?_ GE493.out) | exact HB.out)⟩
 rw [if_neg c3] at H
 have c3b0 : decide (t494 < 0) = false := decide_eq_false c3
 clear c3
 replace H := Option.bind_eq_some_iff.mp H
 obtain ⟨⟨t495, t496, t497, t498, t499, t500, t503, t506⟩, A70, H⟩ := H
 try dsimp only at H
 have A7 := qm A70
 clear A70
 replace H := Option.bind_eq_some_iff.mp H
 obtain ⟨⟨t509, t512⟩, A80, H⟩ := H
 try dsimp only at H
 have A8 := qm A80
 clear A80
 replace H := Option.bind_eq_some_iff.mp H
 obtain ⟨⟨t513, t514, t515, t516, t517, t518, t521, t524⟩, A90, H⟩ := H
 try dsimp only at H
 have A9 := qm A90
 clear A90
 replace H := Option.bind_eq_some_iff.mp H
 obtain ⟨⟨t528, t531⟩, A100, H⟩ := H
 try dsimp only at H
 have A10 := qm A100
 clear A100
 have HC11 := qm H
 clear H
 go_enter Try.func10, Try.ntmps10
 go_upto_region 8 with (first | ((with_reducible refine gate_dst (N := 1) rfl ?_); refine box_event ?hg (N := 1) ?hd (cs := #[.int .i64 a0_0, .int .i64 a0_1, .int .i64 a0_2, .int .i64 a0_3, .bool a0_4, .slice A0_5 l0_5.length c0_5, .slice A0_6 l0_6.length c0_6, .slice A0_7 l0_7.length c0_7]) (t := 50) ?hr ?_; (case hd => rfl); (case hg => rfl); (case hr => first | (go_simp; done) | (go_simp; rfl)); intro gb493 hg w12 hbox hb; have n0_ := qm (qt (by repeat (first | (with_reducible first | exact HB.out | apply qh | apply qi | apply qj) | exact HB.out)) hb); have n1_ := qm (hbox); have n2_ := qm ((by rw [hg]; exact (qs (by repeat (first | (with_reducible first | exact HB.out | apply qh | apply qi | apply qj) | exact HB.out))) : w.heap.size ≤ gb493)); have n3_ := qm ((by rw [hg]; exact (qs (by repeat (first | (with_reducible first | exact HB.out | apply qh | apply qi | apply qj) | exact HB.out))) : w.heap.size ≤ gb493)); clear HB; have HB := n0_; have BK493 := n1_; have GW493 := n2_; have GE493 := n3_; clear n0_ n1_ n2_ n3_; clear hb hbox hg; obtain ⟨z8_0, z8_1, z8_2, z8_3, z8_4, z8_5, z8_6, z8_7, z8_8, z8_9, z8_10, z8_11, z8_12, z8_13, z8_14, z8_15⟩ := fc8 BK493.out) | ((with_reducible refine gate_callee (f := 38) rfl ?_); refine goesL_ (some 16) rfl rfl Try.func38 (by kernel_rfl) rfl #[.agg #[.int .i64 a0_0, .int .i64 a0_1, .int .i64 a0_2, .int .i64 a0_3, .bool a0_4, .slice A0_5 l0_5.length c0_5, .slice A0_6 l0_6.length c0_6, .slice A0_7 l0_7.length c0_7], .int .i64 1048576] rfl (by (try simp only [m1, m2, m3]); first | done | rfl) ?_; (with_reducible refine (laws_szFrame.calls a0_0 a0_1 a0_2 a0_3 a0_4 _ _ l0_5 _ _ l0_6 _ _ l0_7 1048576 t494 _ ?side1 ?side2 ?side3 ?side4 ?side5 ?side6 A2.out).mono ?_); (case side1 => repeat (first | exact (Kd.C_below HR0_5.out HB.out) | (with_reducible refine Kd.C_alloc ?_ _) | (with_reducible refine Kd.C_drewN ?_ _) | (with_reducible refine Kd.C_drew ?_))); (case side2 => exact HC0_5.out); (case side3 => repeat (first | exact (Kd.C_below HR0_6.out HB.out) | (with_reducible refine Kd.C_alloc ?_ _) | (with_reducible refine Kd.C_drewN ?_ _) | (with_reducible refine Kd.C_drew ?_))); (case side4 => exact HC0_6.out); (case side5 => repeat (first | exact (Kd.C_below HR0_7.out HB.out) | (with_reducible refine Kd.C_alloc ?_ _) | (with_reducible refine Kd.C_drewN ?_ _) | (with_reducible refine Kd.C_drew ?_))); (case side6 => exact HC0_7.out); rintro e w14 ⟨rfl, hb⟩; refine ⟨_, rfl, ?_⟩; have n0_ := qm (qv (g := gb493) (o := .cells #[.int .i64 a0_0, .int .i64 a0_1, .int .i64 a0_2, .int .i64 a0_3, .bool a0_4, .slice A0_5 l0_5.length c0_5, .slice A0_6 l0_6.length c0_6, .slice A0_7 l0_7.length c0_7] 50 (0, 0)) (by (with_reducible repeat (first | refine ql ?_ _ | refine qn ?_ | refine qo ?_ _)); exact BK493.out) hb); have n1_ := qm (qt (by repeat (first | (with_reducible first | exact HB.out | apply qh | apply qi | apply qj | refine qk ?_ GE493.out) | exact HB.out)) hb); clear BK493; clear HB; have BK493 := n0_; have HB := n1_; clear n0_ n1_; (try clear hb); (try clear hb2); (try clear hk); (try clear hi); obtain ⟨z8_0, z8_1, z8_2, z8_3, z8_4, z8_5, z8_6, z8_7, z8_8, z8_9, z8_10, z8_11, z8_12, z8_13, z8_14, z8_15⟩ := fc8 BK493.out) | ((with_reducible refine gate_callee (f := 40) rfl ?_); refine goesL_ (some 21) rfl rfl Try.func40 (by kernel_rfl) rfl #[.agg #[.int .i64 a0_0, .int .i64 a0_1, .int .i64 a0_2, .int .i64 a0_3, .bool a0_4, .slice A0_5 l0_5.length c0_5, .slice A0_6 l0_6.length c0_6, .slice A0_7 l0_7.length c0_7]] rfl (by (try simp only [m1, m2, m3]); first | done | rfl) ?_; (with_reducible refine (laws_toFrame.calls k a0_0 a0_1 a0_2 a0_3 a0_4 _ _ l0_5 _ _ l0_6 _ _ l0_7 t495 t496 t497 t498 t499 t500 t503 t506 _ ?side1 ?side2 ?side3 ?side4 ?side5 ?side6 A7.out).mono ?_); (case side1 => repeat (first | exact (Kd.C_below HR0_5.out HB.out) | (with_reducible refine Kd.C_alloc ?_ _) | (with_reducible refine Kd.C_drewN ?_ _) | (with_reducible refine Kd.C_drew ?_))); (case side2 => exact HC0_5.out); (case side3 => repeat (first | exact (Kd.C_below HR0_6.out HB.out) | (with_reducible refine Kd.C_alloc ?_ _) | (with_reducible refine Kd.C_drewN ?_ _) | (with_reducible refine Kd.C_drew ?_))); (case side4 => exact HC0_6.out); (case side5 => repeat (first | exact (Kd.C_below HR0_7.out HB.out) | (with_reducible refine Kd.C_alloc ?_ _) | (with_reducible refine Kd.C_drewN ?_ _) | (with_reducible refine Kd.C_drew ?_))); (case side6 => exact HC0_7.out); rintro e w16 ⟨v501, v504, v507, rfl, ho0, ho1, ho2, hb⟩; refine ⟨_, rfl, ?_⟩; have n0_ := qm (Kd.R_lower ho0 (qs (by repeat (first | (with_reducible first | exact HB.out | apply qh | apply qi | apply qj | refine qk ?_ GE493.out) | exact HB.out)))); have n1_ := qm (Kd.R_lower ho1 (qs (by repeat (first | (with_reducible first | exact HB.out | apply qh | apply qi | apply qj | refine qk ?_ GE493.out) | exact HB.out)))); have n2_ := qm (Kd.R_lower ho2 (qs (by repeat (first | (with_reducible first | exact HB.out | apply qh | apply qi | apply qj | refine qk ?_ GE493.out) | exact HB.out)))); have n3_ := qm (qv (g := gb493) (o := .cells #[.int .i64 a0_0, .int .i64 a0_1, .int .i64 a0_2, .int .i64 a0_3, .bool a0_4, .slice A0_5 l0_5.length c0_5, .slice A0_6 l0_6.length c0_6, .slice A0_7 l0_7.length c0_7] 50 (0, 0)) (by (with_reducible repeat (first | refine ql ?_ _ | refine qn ?_ | refine qo ?_ _)); exact BK493.out) hb); have n4_ := qm (qt (by repeat (first | (with_reducible first | exact HB.out | apply qh | apply qi | apply qj | refine qk ?_ GE493.out) | exact HB.out)) hb); clear BK493; clear HB; have HO502 := n0_; have HO505 := n1_; have HO508 := n2_; have BK493 := n3_; have HB := n4_; clear n0_ n1_ n2_ n3_ n4_; (try clear hb); (try clear hb2); (try clear hk); (try clear hi); (try clear ho0); (try clear ho1); (try clear ho2); obtain ⟨Ao17, co17, eo17⟩ := Kd.R_slice HO502.out; subst eo17; obtain ⟨Ao18, co18, eo18⟩ := Kd.R_slice HO505.out; subst eo18; obtain ⟨Ao19, co19, eo19⟩ := Kd.R_slice HO508.out; subst eo19) | ((with_reducible refine gate_callee (f := 43) rfl ?_); refine goesL_ (some 22) rfl rfl Try.func43 (by kernel_rfl) rfl #[.agg #[.int .i64 t495, .int .i64 t496, .int .i64 t497, .int .i64 t498, .bool t499, .slice Ao17 t500.length co17, .slice Ao18 t503.length co18, .slice Ao19 t506.length co19]] rfl (by (try simp only [m1, m2, m3]); first | done | rfl) ?_; (with_reducible refine (spec_FrameBytes.calls k t495 t496 t497 t498 t499 _ _ t500 _ _ t503 _ _ t506 t509 t512 _ ?side1 ?side2 ?side3 ?side4 ?side5 ?side6 A8.out).mono ?_); (case side1 => repeat (first | exact (qe HO502.out).2.2 | (with_reducible refine Kd.C_alloc ?_ _) | (with_reducible refine Kd.C_drewN ?_ _) | (with_reducible refine Kd.C_drew ?_))); (case side2 => exact (qe HO502.out).2.1); (case side3 => repeat (first | exact (qe HO505.out).2.2 | (with_reducible refine Kd.C_alloc ?_ _) | (with_reducible refine Kd.C_drewN ?_ _) | (with_reducible refine Kd.C_drew ?_))); (case side4 => exact (qe HO505.out).2.1); (case side5 => repeat (first | exact (qe HO508.out).2.2 | (with_reducible refine Kd.C_alloc ?_ _) | (with_reducible refine Kd.C_drewN ?_ _) | (with_reducible refine Kd.C_drew ?_))); (case side6 => exact (qe HO508.out).2.1); rintro e w20 ⟨v510, rfl, ho0, hb⟩; refine ⟨_, rfl, ?_⟩; have n0_ := qm (Kd.R_elder' (by (with_reducible repeat (first | apply qb | apply qc | apply qd)); exact HO502.out) (Kd.R_base ho0) hb); have n1_ := qm (Kd.R_elder' (by (with_reducible repeat (first | apply qb | apply qc | apply qd)); exact HO505.out) (Kd.R_base ho0) hb); have n2_ := qm (qf (by (with_reducible repeat (first | apply qb | apply qc | apply qd)); exact HO508.out) hb); have n3_ := qm (Kd.R_lower (Kd.R_new' (Kd.R_new' ho0 (Kd.R_lt (by (with_reducible repeat (first | apply qb | apply qc | apply qd)); exact HO502.out))) (Kd.R_lt (by (with_reducible repeat (first | apply qb | apply qc | apply qd)); exact HO505.out))) (qs (by repeat (first | (with_reducible first | exact HB.out | apply qh | apply qi | apply qj | refine qk ?_ GE493.out) | exact HB.out)))); have n4_ := qm (qv (g := gb493) (o := .cells #[.int .i64 a0_0, .int .i64 a0_1, .int .i64 a0_2, .int .i64 a0_3, .bool a0_4, .slice A0_5 l0_5.length c0_5, .slice A0_6 l0_6.length c0_6, .slice A0_7 l0_7.length c0_7] 50 (0, 0)) (by (with_reducible repeat (first | refine ql ?_ _ | refine qn ?_ | refine qo ?_ _)); exact BK493.out) hb); have n5_ := qm (qt (by repeat (first | (with_reducible first | exact HB.out | apply qh | apply qi | apply qj | refine qk ?_ GE493.out) | exact HB.out)) hb); clear HO502; clear HO505; clear HO508; clear BK493; clear HB; have HO502 := n0_; have HO505 := n1_; have HO508 := n2_; have HO511 := n3_; have BK493 := n4_; have HB := n5_; clear n0_ n1_ n2_ n3_ n4_ n5_; (try clear hb); (try clear hb2); (try clear hk); (try clear hi); (try clear ho0); obtain ⟨z8_0, z8_1, z8_2, z8_3, z8_4, z8_5, z8_6, z8_7, z8_8, z8_9, z8_10, z8_11, z8_12, z8_13, z8_14, z8_15⟩ := fc8 BK493.out) | ((with_reducible refine gate_callee (f := 40) rfl ?_); refine goesL_ (some 26) rfl rfl Try.func40 (by kernel_rfl) rfl #[.agg #[.int .i64 a0_0, .int .i64 a0_1, .int .i64 a0_2, .int .i64 a0_3, .bool a0_4, .slice A0_5 l0_5.length c0_5, .slice A0_6 l0_6.length c0_6, .slice A0_7 l0_7.length c0_7]] rfl (by (try simp only [m1, m2, m3]); first | done | rfl) ?_; (with_reducible refine (laws_toFrame.calls k a0_0 a0_1 a0_2 a0_3 a0_4 _ _ l0_5 _ _ l0_6 _ _ l0_7 t513 t514 t515 t516 t517 t518 t521 t524 _ ?side1 ?side2 ?side3 ?side4 ?side5 ?side6 A9.out).mono ?_); (case side1 => repeat (first | exact (Kd.C_below HR0_5.out HB.out) | (with_reducible refine Kd.C_alloc ?_ _) | (with_reducible refine Kd.C_drewN ?_ _) | (with_reducible refine Kd.C_drew ?_))); (case side2 => exact HC0_5.out); (case side3 => repeat (first | exact (Kd.C_below HR0_6.out HB.out) | (with_reducible refine Kd.C_alloc ?_ _) | (with_reducible refine Kd.C_drewN ?_ _) | (with_reducible refine Kd.C_drew ?_))); (case side4 => exact HC0_6.out); (case side5 => repeat (first | exact (Kd.C_below HR0_7.out HB.out) | (with_reducible refine Kd.C_alloc ?_ _) | (with_reducible refine Kd.C_drewN ?_ _) | (with_reducible refine Kd.C_drew ?_))); (case side6 => exact HC0_7.out); rintro e w22 ⟨v519, v522, v525, rfl, ho0, ho1, ho2, hb⟩; refine ⟨_, rfl, ?_⟩; have n0_ := qm (qg (Kd.R_told (Kd.R_told (Kd.R_old (by (with_reducible repeat (first | apply qb | apply qc | apply qd)); exact HO502.out) hb) (Kd.R_base ho0)) (Kd.R_base ho1)) (fun _ h_ => h_.1)); have n1_ := qm (qg (Kd.R_told (Kd.R_told (Kd.R_old (by (with_reducible repeat (first | apply qb | apply qc | apply qd)); exact HO505.out) hb) (Kd.R_base ho0)) (Kd.R_base ho1)) (fun _ h_ => h_.1)); have n2_ := qm (Kd.R_elder' (by (with_reducible repeat (first | apply qb | apply qc | apply qd)); exact HO508.out) (Kd.R_base ho2) hb); have n3_ := qm (qg (Kd.R_told (Kd.R_told (Kd.R_old (by (with_reducible repeat (first | apply qb | apply qc | apply qd)); exact HO511.out) hb) (Kd.R_base ho0)) (Kd.R_base ho1)) (fun _ h_ => h_.1)); have n4_ := qm (Kd.R_lower (Kd.R_new' (Kd.R_new' (Kd.R_new' ho0 (Kd.R_lt (by (with_reducible repeat (first | apply qb | apply qc | apply qd)); exact HO502.out))) (Kd.R_lt (by (with_reducible repeat (first | apply qb | apply qc | apply qd)); exact HO505.out))) (Kd.R_lt (by (with_reducible repeat (first | apply qb | apply qc | apply qd)); exact HO511.out))) (qs (by repeat (first | (with_reducible first | exact HB.out | apply qh | apply qi | apply qj | refine qk ?_ GE493.out) | exact HB.out)))); have n5_ := qm (Kd.R_lower (Kd.R_new' (Kd.R_new' (Kd.R_new' ho1 (Kd.R_lt (by (with_reducible repeat (first | apply qb | apply qc | apply qd)); exact HO502.out))) (Kd.R_lt (by (with_reducible repeat (first | apply qb | apply qc | apply qd)); exact HO505.out))) (Kd.R_lt (by (with_reducible repeat (first | apply qb | apply qc | apply qd)); exact HO511.out))) (qs (by repeat (first | (with_reducible first | exact HB.out | apply qh | apply qi | apply qj | refine qk ?_ GE493.out) | exact HB.out)))); have n6_ := qm (Kd.R_lower (Kd.R_new' ho2 (Kd.R_lt (by (with_reducible repeat (first | apply qb | apply qc | apply qd)); exact HO508.out))) (qs (by repeat (first | (with_reducible first | exact HB.out | apply qh | apply qi | apply qj | refine qk ?_ GE493.out) | exact HB.out)))); have n7_ := qm (qv (g := gb493) (o := .cells #[.int .i64 a0_0, .int .i64 a0_1, .int .i64 a0_2, .int .i64 a0_3, .bool a0_4, .slice A0_5 l0_5.length c0_5, .slice A0_6 l0_6.length c0_6, .slice A0_7 l0_7.length c0_7] 50 (0, 0)) (by (with_reducible repeat (first | refine ql ?_ _ | refine qn ?_ | refine qo ?_ _)); exact BK493.out) hb); have n8_ := qm (qt (by repeat (first | (with_reducible first | exact HB.out | apply qh | apply qi | apply qj | refine qk ?_ GE493.out) | exact HB.out)) hb); clear HO502; clear HO505; clear HO508; clear HO511; clear BK493; clear HB; have HO502 := n0_; have HO505 := n1_; have HO508 := n2_; have HO511 := n3_; have HO520 := n4_; have HO523 := n5_; have HO526 := n6_; have BK493 := n7_; have HB := n8_; clear n0_ n1_ n2_ n3_ n4_ n5_ n6_ n7_ n8_; (try clear hb); (try clear hb2); (try clear hk); (try clear hi); (try clear ho0); (try clear ho1); (try clear ho2)) | ((with_reducible refine gate_dst (N := 6) rfl ?_); refine box_event ?hg (N := 6) ?hd (cs := #[.int .i64 0, .int .i64 0, .int .i64 0, .int .i64 0, .bool false, .slice none 0 0, .slice none 0 0, .slice none 0 0]) (t := 55) ?hr ?_; (case hd => rfl); (case hg => rfl); (case hr => first | (go_simp; done) | (go_simp; rfl)); intro gb527 hg w23 hbox hb; have n0_ := qm (qf (by (with_reducible repeat (first | apply qb | apply qc | apply qd)); exact HO502.out) hb); have n1_ := qm (qf (by (with_reducible repeat (first | apply qb | apply qc | apply qd)); exact HO505.out) hb); have n2_ := qm (qf (by (with_reducible repeat (first | apply qb | apply qc | apply qd)); exact HO508.out) hb); have n3_ := qm (qf (by (with_reducible repeat (first | apply qb | apply qc | apply qd)); exact HO511.out) hb); have n4_ := qm (qf (by (with_reducible repeat (first | apply qb | apply qc | apply qd)); exact HO520.out) hb); have n5_ := qm (qf (by (with_reducible repeat (first | apply qb | apply qc | apply qd)); exact HO523.out) hb); have n6_ := qm (qf (by (with_reducible repeat (first | apply qb | apply qc | apply qd)); exact HO526.out) hb); have n7_ := qm (qv (g := gb493) (o := .cells #[.int .i64 a0_0, .int .i64 a0_1, .int .i64 a0_2, .int .i64 a0_3, .bool a0_4, .slice A0_5 l0_5.length c0_5, .slice A0_6 l0_6.length c0_6, .slice A0_7 l0_7.length c0_7] 50 (0, 0)) (by (with_reducible repeat (first | refine ql ?_ _ | refine qn ?_ | refine qo ?_ _)); exact BK493.out) hb); have n8_ := qm (qt (by repeat (first | (with_reducible first | exact HB.out | apply qh | apply qi | apply qj | refine qk ?_ GE493.out) | exact HB.out)) hb); have n9_ := qm (hbox); have n10_ := qm ((by rw [hg]; exact (qs (by repeat (first | (with_reducible first | exact HB.out | apply qh | apply qi | apply qj | refine qk ?_ GE493.out) | exact HB.out))) : w.heap.size ≤ gb527)); have n11_ := qm ((by rw [hg]; exact (qs (by repeat (first | (with_reducible first | exact HB.out | apply qh | apply qi | apply qj | refine qk ?_ GE493.out) | exact HB.out))) : w.heap.size ≤ gb527)); have n12_ := qm ((by rw [hg]; exact Nat.ne_of_lt (blk_lt (g := gb493) (o := .cells #[.int .i64 a0_0, .int .i64 a0_1, .int .i64 a0_2, .int .i64 a0_3, .bool a0_4, .slice A0_5 l0_5.length c0_5, .slice A0_6 l0_6.length c0_6, .slice A0_7 l0_7.length c0_7] 50 (0, 0)) (by (with_reducible repeat (first | refine ql ?_ _ | refine qn ?_ | refine qo ?_ _)); exact BK493.out)) : gb493 ≠ gb527)); have n13_ := qm ((by rw [hg]; exact Nat.ne_of_gt (blk_lt (g := gb493) (o := .cells #[.int .i64 a0_0, .int .i64 a0_1, .int .i64 a0_2, .int .i64 a0_3, .bool a0_4, .slice A0_5 l0_5.length c0_5, .slice A0_6 l0_6.length c0_6, .slice A0_7 l0_7.length c0_7] 50 (0, 0)) (by (with_reducible repeat (first | refine ql ?_ _ | refine qn ?_ | refine qo ?_ _)); exact BK493.out)) : gb527 ≠ gb493)); clear HO502; clear HO505; clear HO508; clear HO511; clear HO520; clear HO523; clear HO526; clear BK493; clear HB; have HO502 := n0_; have HO505 := n1_; have HO508 := n2_; have HO511 := n3_; have HO520 := n4_; have HO523 := n5_; have HO526 := n6_; have BK493 := n7_; have HB := n8_; have BK527 := n9_; have GW527 := n10_; have GE527 := n11_; have NB493_527 := n12_; have NB527_493 := n13_; clear n0_ n1_ n2_ n3_ n4_ n5_ n6_ n7_ n8_ n9_ n10_ n11_ n12_ n13_; clear hb hbox hg; have hnb24 := NB527_493.out; have hnc24 := NB493_527.out; obtain ⟨z8_0, z8_1, z8_2, z8_3, z8_4, z8_5, z8_6, z8_7, z8_8, z8_9, z8_10, z8_11, z8_12, z8_13, z8_14, z8_15⟩ := fc8 BK527.out; obtain ⟨Ao26, co26, eo26⟩ := Kd.R_slice HO520.out; subst eo26; obtain ⟨Ao27, co27, eo27⟩ := Kd.R_slice HO523.out; subst eo27; obtain ⟨Ao28, co28, eo28⟩ := Kd.R_slice HO526.out; subst eo28) | ((with_reducible refine gate_callee (f := 44) rfl ?_); refine goesL_ (some 29) rfl rfl Try.func44 (by kernel_rfl) rfl #[.agg #[.int .i64 t513, .int .i64 t514, .int .i64 t515, .int .i64 t516, .bool t517, .slice Ao26 t518.length co26, .slice Ao27 t521.length co27, .slice Ao28 t524.length co28]] rfl (by (try simp only [m1, m2, m3]); first | done | rfl) ?_; (with_reducible refine (impl_FrameBytes.calls k t513 t514 t515 t516 t517 _ _ t518 _ _ t521 _ _ t524 t528 t531 _ ?side1 ?side2 ?side3 ?side4 ?side5 ?side6 A10.out).mono ?_); (case side1 => refine (qe (e := 5) (base := w.heap.size) (ok := fun k_ => (((some k_ ≠ (.slice Ao27 t521.length co27 : Value).ownBlock ∧ some k_ ≠ (.slice Ao17 t500.length co17 : Value).ownBlock) ∧ some k_ ≠ (.slice Ao18 t503.length co18 : Value).ownBlock) ∧ some k_ ≠ (v510 : Value).ownBlock)) (n := t518.length) (c := co26) ?_).2.2; exact (by (with_reducible repeat (first | apply qb | apply qc | apply qd)); exact (qg (qa (p := ⟨gb527, 7, none⟩) (qa (p := ⟨gb527, 6, none⟩) (qa (p := ⟨gb527, 5, none⟩) (qa (p := ⟨gb527, 4, none⟩) (qa (p := ⟨gb527, 3, none⟩) (qa (p := ⟨gb527, 2, none⟩) (qa (p := ⟨gb527, 1, none⟩) (qa (p := ⟨gb527, 0, none⟩) (Kd.R_types HO520.out BK527.out (by decide)) (fun _ hk => hk.2) (.int .i64 t513)) (fun _ hk => hk.2) (.int .i64 t514)) (fun _ hk => hk.2) (.int .i64 t515)) (fun _ hk => hk.2) (.int .i64 t516)) (fun _ hk => hk.2) (.bool t517)) (fun _ hk => hk.2) (.slice Ao26 t518.length co26)) (fun _ hk => hk.2) (.slice Ao27 t521.length co27)) (fun _ hk => hk.2) (.slice Ao28 t524.length co28)) (fun _ h_ => h_.1)))); (case side2 => exact (qe HO520.out).2.1); (case side3 => refine (qe (e := 5) (base := w.heap.size) (ok := fun k_ => (((some k_ ≠ (.slice Ao26 t518.length co26 : Value).ownBlock ∧ some k_ ≠ (.slice Ao17 t500.length co17 : Value).ownBlock) ∧ some k_ ≠ (.slice Ao18 t503.length co18 : Value).ownBlock) ∧ some k_ ≠ (v510 : Value).ownBlock)) (n := t521.length) (c := co27) ?_).2.2; exact (by (with_reducible repeat (first | apply qb | apply qc | apply qd)); exact (qg (qa (p := ⟨gb527, 7, none⟩) (qa (p := ⟨gb527, 6, none⟩) (qa (p := ⟨gb527, 5, none⟩) (qa (p := ⟨gb527, 4, none⟩) (qa (p := ⟨gb527, 3, none⟩) (qa (p := ⟨gb527, 2, none⟩) (qa (p := ⟨gb527, 1, none⟩) (qa (p := ⟨gb527, 0, none⟩) (Kd.R_types HO523.out BK527.out (by decide)) (fun _ hk => hk.2) (.int .i64 t513)) (fun _ hk => hk.2) (.int .i64 t514)) (fun _ hk => hk.2) (.int .i64 t515)) (fun _ hk => hk.2) (.int .i64 t516)) (fun _ hk => hk.2) (.bool t517)) (fun _ hk => hk.2) (.slice Ao26 t518.length co26)) (fun _ hk => hk.2) (.slice Ao27 t521.length co27)) (fun _ hk => hk.2) (.slice Ao28 t524.length co28)) (fun _ h_ => h_.1)))); (case side4 => exact (qe HO523.out).2.1); (case side5 => refine (qe (e := 105) (base := w.heap.size) (ok := fun k_ => (True ∧ some k_ ≠ (.slice Ao19 t506.length co19 : Value).ownBlock)) (n := t524.length) (c := co28) ?_).2.2; exact (by (with_reducible repeat (first | apply qb | apply qc | apply qd)); exact (qg (qa (p := ⟨gb527, 7, none⟩) (qa (p := ⟨gb527, 6, none⟩) (qa (p := ⟨gb527, 5, none⟩) (qa (p := ⟨gb527, 4, none⟩) (qa (p := ⟨gb527, 3, none⟩) (qa (p := ⟨gb527, 2, none⟩) (qa (p := ⟨gb527, 1, none⟩) (qa (p := ⟨gb527, 0, none⟩) (Kd.R_types HO526.out BK527.out (by decide)) (fun _ hk => hk.2) (.int .i64 t513)) (fun _ hk => hk.2) (.int .i64 t514)) (fun _ hk => hk.2) (.int .i64 t515)) (fun _ hk => hk.2) (.int .i64 t516)) (fun _ hk => hk.2) (.bool t517)) (fun _ hk => hk.2) (.slice Ao26 t518.length co26)) (fun _ hk => hk.2) (.slice Ao27 t521.length co27)) (fun _ hk => hk.2) (.slice Ao28 t524.length co28)) (fun _ h_ => h_.1)))); (case side6 => exact (qe HO526.out).2.1); rintro e w29 ⟨v529, rfl, ho0, hb⟩; refine ⟨_, rfl, ?_⟩; have n0_ := qm (Kd.R_elder' (by (with_reducible repeat (first | apply qb | apply qc | apply qd)); exact (qg (qa (p := ⟨gb527, 7, none⟩) (qa (p := ⟨gb527, 6, none⟩) (qa (p := ⟨gb527, 5, none⟩) (qa (p := ⟨gb527, 4, none⟩) (qa (p := ⟨gb527, 3, none⟩) (qa (p := ⟨gb527, 2, none⟩) (qa (p := ⟨gb527, 1, none⟩) (qa (p := ⟨gb527, 0, none⟩) (Kd.R_types HO502.out BK527.out (by decide)) (fun _ hk => hk.2) (.int .i64 t513)) (fun _ hk => hk.2) (.int .i64 t514)) (fun _ hk => hk.2) (.int .i64 t515)) (fun _ hk => hk.2) (.int .i64 t516)) (fun _ hk => hk.2) (.bool t517)) (fun _ hk => hk.2) (.slice Ao26 t518.length co26)) (fun _ hk => hk.2) (.slice Ao27 t521.length co27)) (fun _ hk => hk.2) (.slice Ao28 t524.length co28)) (fun _ h_ => h_.1))) (Kd.R_base ho0) hb); have n1_ := qm (Kd.R_elder' (by (with_reducible repeat (first | apply qb | apply qc | apply qd)); exact (qg (qa (p := ⟨gb527, 7, none⟩) (qa (p := ⟨gb527, 6, none⟩) (qa (p := ⟨gb527, 5, none⟩) (qa (p := ⟨gb527, 4, none⟩) (qa (p := ⟨gb527, 3, none⟩) (qa (p := ⟨gb527, 2, none⟩) (qa (p := ⟨gb527, 1, none⟩) (qa (p := ⟨gb527, 0, none⟩) (Kd.R_types HO505.out BK527.out (by decide)) (fun _ hk => hk.2) (.int .i64 t513)) (fun _ hk => hk.2) (.int .i64 t514)) (fun _ hk => hk.2) (.int .i64 t515)) (fun _ hk => hk.2) (.int .i64 t516)) (fun _ hk => hk.2) (.bool t517)) (fun _ hk => hk.2) (.slice Ao26 t518.length co26)) (fun _ hk => hk.2) (.slice Ao27 t521.length co27)) (fun _ hk => hk.2) (.slice Ao28 t524.length co28)) (fun _ h_ => h_.1))) (Kd.R_base ho0) hb); have n2_ := qm (qf (by (with_reducible repeat (first | apply qb | apply qc | apply qd)); exact (qg (qa (p := ⟨gb527, 7, none⟩) (qa (p := ⟨gb527, 6, none⟩) (qa (p := ⟨gb527, 5, none⟩) (qa (p := ⟨gb527, 4, none⟩) (qa (p := ⟨gb527, 3, none⟩) (qa (p := ⟨gb527, 2, none⟩) (qa (p := ⟨gb527, 1, none⟩) (qa (p := ⟨gb527, 0, none⟩) (Kd.R_types HO508.out BK527.out (by decide)) (fun _ hk => hk.2) (.int .i64 t513)) (fun _ hk => hk.2) (.int .i64 t514)) (fun _ hk => hk.2) (.int .i64 t515)) (fun _ hk => hk.2) (.int .i64 t516)) (fun _ hk => hk.2) (.bool t517)) (fun _ hk => hk.2) (.slice Ao26 t518.length co26)) (fun _ hk => hk.2) (.slice Ao27 t521.length co27)) (fun _ hk => hk.2) (.slice Ao28 t524.length co28)) (fun _ h_ => h_.1))) hb); have n3_ := qm (Kd.R_elder' (by (with_reducible repeat (first | apply qb | apply qc | apply qd)); exact (qg (qa (p := ⟨gb527, 7, none⟩) (qa (p := ⟨gb527, 6, none⟩) (qa (p := ⟨gb527, 5, none⟩) (qa (p := ⟨gb527, 4, none⟩) (qa (p := ⟨gb527, 3, none⟩) (qa (p := ⟨gb527, 2, none⟩) (qa (p := ⟨gb527, 1, none⟩) (qa (p := ⟨gb527, 0, none⟩) (Kd.R_types HO511.out BK527.out (by decide)) (fun _ hk => hk.2) (.int .i64 t513)) (fun _ hk => hk.2) (.int .i64 t514)) (fun _ hk => hk.2) (.int .i64 t515)) (fun _ hk => hk.2) (.int .i64 t516)) (fun _ hk => hk.2) (.bool t517)) (fun _ hk => hk.2) (.slice Ao26 t518.length co26)) (fun _ hk => hk.2) (.slice Ao27 t521.length co27)) (fun _ hk => hk.2) (.slice Ao28 t524.length co28)) (fun _ h_ => h_.1))) (Kd.R_base ho0) hb); have n4_ := qm (Kd.R_elder' (by (with_reducible repeat (first | apply qb | apply qc | apply qd)); exact (qg (qa (p := ⟨gb527, 7, none⟩) (qa (p := ⟨gb527, 6, none⟩) (qa (p := ⟨gb527, 5, none⟩) (qa (p := ⟨gb527, 4, none⟩) (qa (p := ⟨gb527, 3, none⟩) (qa (p := ⟨gb527, 2, none⟩) (qa (p := ⟨gb527, 1, none⟩) (qa (p := ⟨gb527, 0, none⟩) (Kd.R_types HO520.out BK527.out (by decide)) (fun _ hk => hk.2) (.int .i64 t513)) (fun _ hk => hk.2) (.int .i64 t514)) (fun _ hk => hk.2) (.int .i64 t515)) (fun _ hk => hk.2) (.int .i64 t516)) (fun _ hk => hk.2) (.bool t517)) (fun _ hk => hk.2) (.slice Ao26 t518.length co26)) (fun _ hk => hk.2) (.slice Ao27 t521.length co27)) (fun _ hk => hk.2) (.slice Ao28 t524.length co28)) (fun _ h_ => h_.1))) (Kd.R_base ho0) hb); have n5_ := qm (Kd.R_elder' (by (with_reducible repeat (first | apply qb | apply qc | apply qd)); exact (qg (qa (p := ⟨gb527, 7, none⟩) (qa (p := ⟨gb527, 6, none⟩) (qa (p := ⟨gb527, 5, none⟩) (qa (p := ⟨gb527, 4, none⟩) (qa (p := ⟨gb527, 3, none⟩) (qa (p := ⟨gb527, 2, none⟩) (qa (p := ⟨gb527, 1, none⟩) (qa (p := ⟨gb527, 0, none⟩) (Kd.R_types HO523.out BK527.out (by decide)) (fun _ hk => hk.2) (.int .i64 t513)) (fun _ hk => hk.2) (.int .i64 t514)) (fun _ hk => hk.2) (.int .i64 t515)) (fun _ hk => hk.2) (.int .i64 t516)) (fun _ hk => hk.2) (.bool t517)) (fun _ hk => hk.2) (.slice Ao26 t518.length co26)) (fun _ hk => hk.2) (.slice Ao27 t521.length co27)) (fun _ hk => hk.2) (.slice Ao28 t524.length co28)) (fun _ h_ => h_.1))) (Kd.R_base ho0) hb); have n6_ := qm (qf (by (with_reducible repeat (first | apply qb | apply qc | apply qd)); exact (qg (qa (p := ⟨gb527, 7, none⟩) (qa (p := ⟨gb527, 6, none⟩) (qa (p := ⟨gb527, 5, none⟩) (qa (p := ⟨gb527, 4, none⟩) (qa (p := ⟨gb527, 3, none⟩) (qa (p := ⟨gb527, 2, none⟩) (qa (p := ⟨gb527, 1, none⟩) (qa (p := ⟨gb527, 0, none⟩) (Kd.R_types HO526.out BK527.out (by decide)) (fun _ hk => hk.2) (.int .i64 t513)) (fun _ hk => hk.2) (.int .i64 t514)) (fun _ hk => hk.2) (.int .i64 t515)) (fun _ hk => hk.2) (.int .i64 t516)) (fun _ hk => hk.2) (.bool t517)) (fun _ hk => hk.2) (.slice Ao26 t518.length co26)) (fun _ hk => hk.2) (.slice Ao27 t521.length co27)) (fun _ hk => hk.2) (.slice Ao28 t524.length co28)) (fun _ h_ => h_.1))) hb); have n7_ := qm (Kd.R_lower (Kd.R_new' (Kd.R_new' (Kd.R_new' (Kd.R_new' (Kd.R_new' ho0 (Kd.R_lt (by (with_reducible repeat (first | apply qb | apply qc | apply qd)); exact (qg (qa (p := ⟨gb527, 7, none⟩) (qa (p := ⟨gb527, 6, none⟩) (qa (p := ⟨gb527, 5, none⟩) (qa (p := ⟨gb527, 4, none⟩) (qa (p := ⟨gb527, 3, none⟩) (qa (p := ⟨gb527, 2, none⟩) (qa (p := ⟨gb527, 1, none⟩) (qa (p := ⟨gb527, 0, none⟩) (Kd.R_types HO502.out BK527.out (by decide)) (fun _ hk => hk.2) (.int .i64 t513)) (fun _ hk => hk.2) (.int .i64 t514)) (fun _ hk => hk.2) (.int .i64 t515)) (fun _ hk => hk.2) (.int .i64 t516)) (fun _ hk => hk.2) (.bool t517)) (fun _ hk => hk.2) (.slice Ao26 t518.length co26)) (fun _ hk => hk.2) (.slice Ao27 t521.length co27)) (fun _ hk => hk.2) (.slice Ao28 t524.length co28)) (fun _ h_ => h_.1))))) (Kd.R_lt (by (with_reducible repeat (first | apply qb | apply qc | apply qd)); exact (qg (qa (p := ⟨gb527, 7, none⟩) (qa (p := ⟨gb527, 6, none⟩) (qa (p := ⟨gb527, 5, none⟩) (qa (p := ⟨gb527, 4, none⟩) (qa (p := ⟨gb527, 3, none⟩) (qa (p := ⟨gb527, 2, none⟩) (qa (p := ⟨gb527, 1, none⟩) (qa (p := ⟨gb527, 0, none⟩) (Kd.R_types HO505.out BK527.out (by decide)) (fun _ hk => hk.2) (.int .i64 t513)) (fun _ hk => hk.2) (.int .i64 t514)) (fun _ hk => hk.2) (.int .i64 t515)) (fun _ hk => hk.2) (.int .i64 t516)) (fun _ hk => hk.2) (.bool t517)) (fun _ hk => hk.2) (.slice Ao26 t518.length co26)) (fun _ hk => hk.2) (.slice Ao27 t521.length co27)) (fun _ hk => hk.2) (.slice Ao28 t524.length co28)) (fun _ h_ => h_.1))))) (Kd.R_lt (by (with_reducible repeat (first | apply qb | apply qc | apply qd)); exact (qg (qa (p := ⟨gb527, 7, none⟩) (qa (p := ⟨gb527, 6, none⟩) (qa (p := ⟨gb527, 5, none⟩) (qa (p := ⟨gb527, 4, none⟩) (qa (p := ⟨gb527, 3, none⟩) (qa (p := ⟨gb527, 2, none⟩) (qa (p := ⟨gb527, 1, none⟩) (qa (p := ⟨gb527, 0, none⟩) (Kd.R_types HO511.out BK527.out (by decide)) (fun _ hk => hk.2) (.int .i64 t513)) (fun _ hk => hk.2) (.int .i64 t514)) (fun _ hk => hk.2) (.int .i64 t515)) (fun _ hk => hk.2) (.int .i64 t516)) (fun _ hk => hk.2) (.bool t517)) (fun _ hk => hk.2) (.slice Ao26 t518.length co26)) (fun _ hk => hk.2) (.slice Ao27 t521.length co27)) (fun _ hk => hk.2) (.slice Ao28 t524.length co28)) (fun _ h_ => h_.1))))) (Kd.R_lt (by (with_reducible repeat (first | apply qb | apply qc | apply qd)); exact (qg (qa (p := ⟨gb527, 7, none⟩) (qa (p := ⟨gb527, 6, none⟩) (qa (p := ⟨gb527, 5, none⟩) (qa (p := ⟨gb527, 4, none⟩) (qa (p := ⟨gb527, 3, none⟩) (qa (p := ⟨gb527, 2, none⟩) (qa (p := ⟨gb527, 1, none⟩) (qa (p := ⟨gb527, 0, none⟩) (Kd.R_types HO520.out BK527.out (by decide)) (fun _ hk => hk.2) (.int .i64 t513)) (fun _ hk => hk.2) (.int .i64 t514)) (fun _ hk => hk.2) (.int .i64 t515)) (fun _ hk => hk.2) (.int .i64 t516)) (fun _ hk => hk.2) (.bool t517)) (fun _ hk => hk.2) (.slice Ao26 t518.length co26)) (fun _ hk => hk.2) (.slice Ao27 t521.length co27)) (fun _ hk => hk.2) (.slice Ao28 t524.length co28)) (fun _ h_ => h_.1))))) (Kd.R_lt (by (with_reducible repeat (first | apply qb | apply qc | apply qd)); exact (qg (qa (p := ⟨gb527, 7, none⟩) (qa (p := ⟨gb527, 6, none⟩) (qa (p := ⟨gb527, 5, none⟩) (qa (p := ⟨gb527, 4, none⟩) (qa (p := ⟨gb527, 3, none⟩) (qa (p := ⟨gb527, 2, none⟩) (qa (p := ⟨gb527, 1, none⟩) (qa (p := ⟨gb527, 0, none⟩) (Kd.R_types HO523.out BK527.out (by decide)) (fun _ hk => hk.2) (.int .i64 t513)) (fun _ hk => hk.2) (.int .i64 t514)) (fun _ hk => hk.2) (.int .i64 t515)) (fun _ hk => hk.2) (.int .i64 t516)) (fun _ hk => hk.2) (.bool t517)) (fun _ hk => hk.2) (.slice Ao26 t518.length co26)) (fun _ hk => hk.2) (.slice Ao27 t521.length co27)) (fun _ hk => hk.2) (.slice Ao28 t524.length co28)) (fun _ h_ => h_.1))))) (qs (by repeat (first | (with_reducible first | exact HB.out | apply qh | apply qi | apply qj | refine qk ?_ GE493.out | refine qk ?_ GE527.out) | exact HB.out)))); have n8_ := qm (qv (g := gb493) (o := .cells #[.int .i64 a0_0, .int .i64 a0_1, .int .i64 a0_2, .int .i64 a0_3, .bool a0_4, .slice A0_5 l0_5.length c0_5, .slice A0_6 l0_6.length c0_6, .slice A0_7 l0_7.length c0_7] 50 (0, 0)) (by (with_reducible repeat (first | refine ql ?_ _ | refine qn ?_ | refine qo ?_ _)); refine qr ?_ NB493_527.out _; (with_reducible repeat (first | refine ql ?_ _ | refine qn ?_ | refine qo ?_ _)); refine qr ?_ NB493_527.out _; (with_reducible repeat (first | refine ql ?_ _ | refine qn ?_ | refine qo ?_ _)); refine qr ?_ NB493_527.out _; (with_reducible repeat (first | refine ql ?_ _ | refine qn ?_ | refine qo ?_ _)); refine qr ?_ NB493_527.out _; (with_reducible repeat (first | refine ql ?_ _ | refine qn ?_ | refine qo ?_ _)); refine qr ?_ NB493_527.out _; (with_reducible repeat (first | refine ql ?_ _ | refine qn ?_ | refine qo ?_ _)); refine qr ?_ NB493_527.out _; (with_reducible repeat (first | refine ql ?_ _ | refine qn ?_ | refine qo ?_ _)); refine qr ?_ NB493_527.out _; (with_reducible repeat (first | refine ql ?_ _ | refine qn ?_ | refine qo ?_ _)); refine qr ?_ NB493_527.out _; (with_reducible repeat (first | refine ql ?_ _ | refine qn ?_ | refine qo ?_ _)); exact BK493.out) hb); have n9_ := qm (qv (g := gb527) (o := .cells #[.int .i64 t513, .int .i64 t514, .int .i64 t515, .int .i64 t516, .bool t517, .slice Ao26 t518.length co26, .slice Ao27 t521.length co27, .slice Ao28 t524.length co28] 55 (0, 0)) (by (with_reducible repeat (first | refine ql ?_ _ | refine qn ?_ | refine qo ?_ _)); refine qp (cs := #[.int .i64 t513, .int .i64 t514, .int .i64 t515, .int .i64 t516, .bool t517, .slice Ao26 t518.length co26, .slice Ao27 t521.length co27, .slice none 0 0]) ?_ 7 _ rfl; (with_reducible repeat (first | refine ql ?_ _ | refine qn ?_ | refine qo ?_ _)); refine qp (cs := #[.int .i64 t513, .int .i64 t514, .int .i64 t515, .int .i64 t516, .bool t517, .slice Ao26 t518.length co26, .slice none 0 0, .slice none 0 0]) ?_ 6 _ rfl; (with_reducible repeat (first | refine ql ?_ _ | refine qn ?_ | refine qo ?_ _)); refine qp (cs := #[.int .i64 t513, .int .i64 t514, .int .i64 t515, .int .i64 t516, .bool t517, .slice none 0 0, .slice none 0 0, .slice none 0 0]) ?_ 5 _ rfl; (with_reducible repeat (first | refine ql ?_ _ | refine qn ?_ | refine qo ?_ _)); refine qp (cs := #[.int .i64 t513, .int .i64 t514, .int .i64 t515, .int .i64 t516, .bool false, .slice none 0 0, .slice none 0 0, .slice none 0 0]) ?_ 4 _ rfl; (with_reducible repeat (first | refine ql ?_ _ | refine qn ?_ | refine qo ?_ _)); refine qp (cs := #[.int .i64 t513, .int .i64 t514, .int .i64 t515, .int .i64 0, .bool false, .slice none 0 0, .slice none 0 0, .slice none 0 0]) ?_ 3 _ rfl; (with_reducible repeat (first | refine ql ?_ _ | refine qn ?_ | refine qo ?_ _)); refine qp (cs := #[.int .i64 t513, .int .i64 t514, .int .i64 0, .int .i64 0, .bool false, .slice none 0 0, .slice none 0 0, .slice none 0 0]) ?_ 2 _ rfl; (with_reducible repeat (first | refine ql ?_ _ | refine qn ?_ | refine qo ?_ _)); refine qp (cs := #[.int .i64 t513, .int .i64 0, .int .i64 0, .int .i64 0, .bool false, .slice none 0 0, .slice none 0 0, .slice none 0 0]) ?_ 1 _ rfl; (with_reducible repeat (first | refine ql ?_ _ | refine qn ?_ | refine qo ?_ _)); refine qp (cs := #[.int .i64 0, .int .i64 0, .int .i64 0, .int .i64 0, .bool false, .slice none 0 0, .slice none 0 0, .slice none 0 0]) ?_ 0 _ rfl; (with_reducible repeat (first | refine ql ?_ _ | refine qn ?_ | refine qo ?_ _)); exact BK527.out) hb); have n10_ := qm (qt (by repeat (first | (with_reducible first | exact HB.out | apply qh | apply qi | apply qj | refine qk ?_ GE493.out | refine qk ?_ GE527.out) | exact HB.out)) hb); clear HO502; clear HO505; clear HO508; clear HO511; clear HO520; clear HO523; clear HO526; clear BK493; clear BK527; clear HB; have HO502 := n0_; have HO505 := n1_; have HO508 := n2_; have HO511 := n3_; have HO520 := n4_; have HO523 := n5_; have HO526 := n6_; have HO530 := n7_; have BK493 := n8_; have BK527 := n9_; have HB := n10_; clear n0_ n1_ n2_ n3_ n4_ n5_ n6_ n7_ n8_ n9_ n10_; (try clear hb); (try clear hb2); (try clear hk); (try clear hi); (try clear ho0)))
 (try simp only [Act.put, s1, s2, s3])
 go_cut [40] (fun v40 wc => ∃ (kq : Nat) (x40_10 : Bool), v40 = .bool x40_10 ∧ Aside0 (laws_FnExactFrameBytes.j0 kq t509 t512 t528 t531 x40_10 a0_0 a0_1 a0_2 a0_3 a0_4 l0_5 l0_6 l0_7 t513 t514 t515 t516 t517 t518 t521 t524 = some true) ∧ Aside0 (kq ≤ k) ∧ Aside0 (Kd.R (Kd.int .u8) 5 wc w.heap.size (fun k_ => some k_ ≠ (v529 : Value).ownBlock ∧ some k_ ≠ ((.slice Ao26 t518.length co26) : Value).ownBlock ∧ some k_ ≠ ((.slice Ao27 t521.length co27) : Value).ownBlock) v510 t509) ∧ Aside0 (Kd.R (Kd.int .u8) 5 wc w.heap.size (fun k_ => some k_ ≠ (v510 : Value).ownBlock ∧ some k_ ≠ ((.slice Ao26 t518.length co26) : Value).ownBlock ∧ some k_ ≠ ((.slice Ao27 t521.length co27) : Value).ownBlock) v529 t528) ∧ Aside0 (Kd.R (Kd.int .u8) 5 wc w.heap.size (fun k_ => some k_ ≠ (v510 : Value).ownBlock ∧ some k_ ≠ (v529 : Value).ownBlock ∧ some k_ ≠ ((.slice Ao27 t521.length co27) : Value).ownBlock) (.slice Ao26 t518.length co26) t518) ∧ Aside0 (Kd.R (Kd.int .u8) 5 wc w.heap.size (fun k_ => some k_ ≠ (v510 : Value).ownBlock ∧ some k_ ≠ (v529 : Value).ownBlock ∧ some k_ ≠ ((.slice Ao26 t518.length co26) : Value).ownBlock) (.slice Ao27 t521.length co27) t521) ∧ Aside0 (Kd.R k105 105 wc w.heap.size (fun _ => True) (.slice Ao28 t524.length co28) t524) ∧ Aside0 (wc.heap[gb493]? = some (.cells #[.int .i64 a0_0, .int .i64 a0_1, .int .i64 a0_2, .int .i64 a0_3, .bool a0_4, (.slice A0_5 l0_5.length c0_5), (.slice A0_6 l0_6.length c0_6), (.slice A0_7 l0_7.length c0_7)] 50 (0, 0))) ∧ Aside0 (wc.heap[gb527]? = some (.cells #[.int .i64 t513, .int .i64 t514, .int .i64 t515, .int .i64 t516, .bool t517, (.slice Ao26 t518.length co26), (.slice Ao27 t521.length co27), (.slice Ao28 t524.length co28)] 55 (0, 0))) ∧ Aside0 (Below w.heap.size w wc))
 case first =>
  have H := HC11.out
  clear HC11
  replace H := Option.bind_eq_some_iff.mp H
  obtain ⟨t532, A300, H⟩ := H
  try dsimp only at H
  have A30 := qm A300
  clear A300
  by_cases c31 : t532 = true
  ·subst c31
   rw [if_pos rfl] at H
   have H' := qm H
   clear H
   obtain ⟨Ao32, co32, eo32⟩ := Kd.R_slice HO530.out
   subst eo32
   obtain ⟨Ao33, co33, eo33⟩ := Kd.R_slice HO511.out
   subst eo33
   go_wp2_with (first | ((with_reducible refine gate_callee (f := 16) rfl ?_); refine goesL_ (some 34) rfl rfl Try.func16 (by kernel_rfl) rfl #[.slice Ao32 t528.length co32, .slice Ao33 t509.length co33] rfl (by (try simp only [m1, m2, m3]); first | done | rfl) ?_; (with_reducible refine (laws_eqByteS.calls k _ _ t528 _ _ t509 true _ ?side1 ?side2 ?side3 ?side4 A30.out).mono ?_); (case side1 => repeat (first | exact (qe HO530.out).2.2 | (with_reducible refine Kd.C_alloc ?_ _) | (with_reducible refine Kd.C_drewN ?_ _) | (with_reducible refine Kd.C_drew ?_))); (case side2 => exact (qe HO530.out).2.1); (case side3 => repeat (first | exact (qe HO511.out).2.2 | (with_reducible refine Kd.C_alloc ?_ _) | (with_reducible refine Kd.C_drewN ?_ _) | (with_reducible refine Kd.C_drew ?_))); (case side4 => exact (qe HO511.out).2.1); rintro e w' ⟨rfl, ⟨nd, rfl⟩⟩; refine ⟨_, rfl, ?_⟩))
   go_meet
   case rel => exact ⟨_, ((t531 != t512)), rfl, H', ⟨by first | omega | exact Nat.le_refl _⟩, ⟨by (with_reducible repeat (first | apply qb | apply qc | apply qd)); exact qg HO511.out (fun _ hk => ⟨hk.2, ⟨hk.1.1.2, hk.1.2⟩⟩)⟩, ⟨by (with_reducible repeat (first | apply qb | apply qc | apply qd)); exact qg HO530.out (fun _ hk => ⟨hk.1.1.2, ⟨hk.1.2, hk.2⟩⟩)⟩, ⟨by (with_reducible repeat (first | apply qb | apply qc | apply qd)); exact qg HO520.out (fun _ hk => ⟨hk.1.2, ⟨hk.2, hk.1.1.1.1⟩⟩)⟩, ⟨by (with_reducible repeat (first | apply qb | apply qc | apply qd)); exact qg HO523.out (fun _ hk => ⟨hk.1.2, ⟨hk.2, hk.1.1.1.1⟩⟩)⟩, ⟨by (with_reducible repeat (first | apply qb | apply qc | apply qd)); exact qg HO526.out (fun _ hk => trivial)⟩, ⟨BK493.out⟩, ⟨BK527.out⟩, ⟨by repeat (first | (with_reducible first | exact HB.out | apply qh | apply qi | apply qj | refine qk ?_ GE493.out | refine qk ?_ GE527.out) | exact HB.out)⟩⟩
  replace c31 := Bool.eq_false_iff.mpr c31
  subst c31
  rw [if_neg nt] at H
  have H' := qm H
  clear H
  obtain ⟨Ao34, co34, eo34⟩ := Kd.R_slice HO530.out
  subst eo34
  obtain ⟨Ao35, co35, eo35⟩ := Kd.R_slice HO511.out
  subst eo35
  go_wp2_with (first | ((with_reducible refine gate_callee (f := 16) rfl ?_); refine goesL_ (some 34) rfl rfl Try.func16 (by kernel_rfl) rfl #[.slice Ao34 t528.length co34, .slice Ao35 t509.length co35] rfl (by (try simp only [m1, m2, m3]); first | done | rfl) ?_; (with_reducible refine (laws_eqByteS.calls k _ _ t528 _ _ t509 false _ ?side1 ?side2 ?side3 ?side4 A30.out).mono ?_); (case side1 => repeat (first | exact (qe HO530.out).2.2 | (with_reducible refine Kd.C_alloc ?_ _) | (with_reducible refine Kd.C_drewN ?_ _) | (with_reducible refine Kd.C_drew ?_))); (case side2 => exact (qe HO530.out).2.1); (case side3 => repeat (first | exact (qe HO511.out).2.2 | (with_reducible refine Kd.C_alloc ?_ _) | (with_reducible refine Kd.C_drewN ?_ _) | (with_reducible refine Kd.C_drew ?_))); (case side4 => exact (qe HO511.out).2.1); rintro e w' ⟨rfl, ⟨nd, rfl⟩⟩; refine ⟨_, rfl, ?_⟩))
  go_meet
  case rel => exact ⟨_, (true), rfl, H', ⟨by first | omega | exact Nat.le_refl _⟩, ⟨by (with_reducible repeat (first | apply qb | apply qc | apply qd)); exact qg HO511.out (fun _ hk => ⟨hk.2, ⟨hk.1.1.2, hk.1.2⟩⟩)⟩, ⟨by (with_reducible repeat (first | apply qb | apply qc | apply qd)); exact qg HO530.out (fun _ hk => ⟨hk.1.1.2, ⟨hk.1.2, hk.2⟩⟩)⟩, ⟨by (with_reducible repeat (first | apply qb | apply qc | apply qd)); exact qg HO520.out (fun _ hk => ⟨hk.1.2, ⟨hk.2, hk.1.1.1.1⟩⟩)⟩, ⟨by (with_reducible repeat (first | apply qb | apply qc | apply qd)); exact qg HO523.out (fun _ hk => ⟨hk.1.2, ⟨hk.2, hk.1.1.1.1⟩⟩)⟩, ⟨by (with_reducible repeat (first | apply qb | apply qc | apply qd)); exact qg HO526.out (fun _ hk => trivial)⟩, ⟨BK493.out⟩, ⟨BK527.out⟩, ⟨by repeat (first | (with_reducible first | exact HB.out | apply qh | apply qi | apply qj | refine qk ?_ GE493.out | refine qk ?_ GE527.out) | exact HB.out)⟩⟩
 clear HC11
 try clear c3
 try clear c3b0
 obtain ⟨kq, x40_10, rfl, HA, HJ10, HO_4, HO_7, HO_528005, HO_528006, HO_528007, BK493, BK527, HB⟩ := hcut
 cases kq with
 | zero => exact absurd HA.out (by simp [laws_FnExactFrameBytes.j0])
 | succ kj10 => ?_
 have H := HA.out
 clear HA
 simp only [laws_FnExactFrameBytes.j0] at H
 by_cases c36 : x40_10 = true
 ·subst c36
  have H1 : (some false) = some true := by rw [if_pos rfl] at H; exact H
  exact absurd H1 (by simp)
 replace c36 := Bool.eq_false_iff.mpr c36
 subst c36
 rw [if_neg nt] at H
 replace H := Option.bind_eq_some_iff.mp H
 obtain ⟨⟨t533, t534, t535, t536, t537, t538, t541, t544⟩, A370, H⟩ := H
 try dsimp only at H
 have A37 := qm A370
 clear A370
 replace H := Option.bind_eq_some_iff.mp H
 obtain ⟨t547, A380, H⟩ := H
 try dsimp only at H
 have A38 := qm A380
 clear A380
 by_cases c39 : t547 = true
 ·subst c39
  rw [if_pos rfl] at H
  replace H := Option.bind_eq_some_iff.mp H
  obtain ⟨⟨t548, t549, t550, t551⟩, A400, H⟩ := H
  try dsimp only at H
  have A40 := qm A400
  clear A400
  have HC41 := qm H
  clear H
  try go_wp2
  have n0_ := qm (qd HO_4.out)
  have n1_ := qm (qd HO_7.out)
  have n2_ := qm (qd HO_528005.out)
  have n3_ := qm (qd HO_528006.out)
  have n4_ := qm (qd HO_528007.out)
  have n5_ := qm (qn BK493.out)
  have n6_ := qm (qn BK527.out)
  have n7_ := qm (qj HB.out)
  clear HO_4
  clear HO_7
  clear HO_528005
  clear HO_528006
  clear HO_528007
  clear BK493
  clear BK527
  clear HB
  have HO_4 := n0_
  have HO_7 := n1_
  have HO_528005 := n2_
  have HO_528006 := n3_
  have HO_528007 := n4_
  have BK493 := n5_
  have BK527 := n6_
  have HB := n7_
  clear n0_ n1_ n2_ n3_ n4_ n5_ n6_ n7_
  refine start_ (n := 5) (S := fun w' => w'.cell? ⟨gb527, 0, none⟩ = some (.int .i64 t513) ∧ w'.cell? ⟨gb527, 1, none⟩ = some (.int .i64 t514) ∧ w'.cell? ⟨gb527, 2, none⟩ = some (.int .i64 t515) ∧ w'.cell? ⟨gb527, 3, none⟩ = some (.int .i64 t516) ∧ w'.cell? ⟨gb527, 4, none⟩ = some (.bool t517) ∧ w'.cell? ⟨gb527, 5, none⟩ = some (.slice Ao26 t518.length co26) ∧ w'.cell? ⟨gb527, 6, none⟩ = some (.slice Ao27 t521.length co27) ∧ w'.cell? ⟨gb527, 7, none⟩ = some (.slice Ao28 t524.length co28) ∧ w'.cell? ⟨gb493, 0, none⟩ = some (.int .i64 a0_0) ∧ w'.cell? ⟨gb493, 1, none⟩ = some (.int .i64 a0_1) ∧ w'.cell? ⟨gb493, 2, none⟩ = some (.int .i64 a0_2) ∧ w'.cell? ⟨gb493, 3, none⟩ = some (.int .i64 a0_3) ∧ w'.cell? ⟨gb493, 4, none⟩ = some (.bool a0_4) ∧ w'.cell? ⟨gb493, 5, none⟩ = some (.slice A0_5 l0_5.length c0_5) ∧ w'.cell? ⟨gb493, 6, none⟩ = some (.slice A0_6 l0_6.length c0_6) ∧ w'.cell? ⟨gb493, 7, none⟩ = some (.slice A0_7 l0_7.length c0_7)) (ds := []) (bm 0 5) (by kernel_rfl) rfl rfl ⟨(qu BK527.out 0).trans rfl, (qu BK527.out 1).trans rfl, (qu BK527.out 2).trans rfl, (qu BK527.out 3).trans rfl, (qu BK527.out 4).trans rfl, (qu BK527.out 5).trans rfl, (qu BK527.out 6).trans rfl, (qu BK527.out 7).trans rfl, (qu BK493.out 0).trans rfl, (qu BK493.out 1).trans rfl, (qu BK493.out 2).trans rfl, (qu BK493.out 3).trans rfl, (qu BK493.out 4).trans rfl, (qu BK493.out 5).trans rfl, (qu BK493.out 6).trans rfl, (qu BK493.out 7).trans rfl⟩ (fun hHeld => ?_)
  generalize wc.drew = w42 at HO_4 HO_7 HO_528005 HO_528006 HO_528007 BK493 BK527 HB hHeld ⊢
  refine take_ (i := 0) (N := some 41) (v := ?_) (a' := ?_) (bm 1 5) rfl rfl (by kernel_rfl) (fun _ _ _ h => h) (Or.inl ⟨by rfl, ?_⟩) hHeld ?_ ?_
  rotate_left
  ·rintro w' ⟨s0, s1, s2, s3, s4, s5, s6, s7, s8, s9, s10, s11, s12, s13, s14, s15⟩
   go_simp
   with_reducible rfl
  rotate_left
  ·simp only [Act.put, s1, s2, s3, i64_w, i32_w]
   rfl
  refine take_ (i := 1) (N := some 42) (v := ?_) (a' := ?_) (bm 2 5) rfl rfl (by kernel_rfl) (fun _ _ _ h => h) (Or.inl ⟨by rfl, ?_⟩) hHeld ?_ ?_
  rotate_left
  ·rintro w' ⟨s0, s1, s2, s3, s4, s5, s6, s7, s8, s9, s10, s11, s12, s13, s14, s15⟩
   go_simp
   with_reducible rfl
  rotate_left
  ·simp only [Act.put, s1, s2, s3, i64_w, i32_w]
   rfl
  refine one_ (i := 2) (N := some 43) (bm 3 5) rfl rfl (by kernel_rfl) (by decide) (fun K hK => ?_)
  refine goes_ Try.func40 (by kernel_rfl) rfl #[.agg #[.int .i64 a0_0, .int .i64 a0_1, .int .i64 a0_2, .int .i64 a0_3, .bool a0_4, .slice A0_5 l0_5.length c0_5, .slice A0_6 l0_6.length c0_6, .slice A0_7 l0_7.length c0_7]] (by rfl) rfl rfl (by (try simp only [m1, m2, m3]); first | done | rfl) ?_
  with_reducible refine (laws_toFrame.calls kj10 a0_0 a0_1 a0_2 a0_3 a0_4 _ _ l0_5 _ _ l0_6 _ _ l0_7 t533 t534 t535 t536 t537 t538 t541 t544 _ ?side1 ?side2 ?side3 ?side4 ?side5 ?side6 A37.out).mono ?_
  (case side1 => repeat (first | exact (Kd.C_below HR0_5.out HB.out) | (with_reducible refine Kd.C_alloc ?_ _) | (with_reducible refine Kd.C_drewN ?_ _) | (with_reducible refine Kd.C_drew ?_)))
  (case side2 => exact HC0_5.out)
  (case side3 => repeat (first | exact (Kd.C_below HR0_6.out HB.out) | (with_reducible refine Kd.C_alloc ?_ _) | (with_reducible refine Kd.C_drewN ?_ _) | (with_reducible refine Kd.C_drew ?_)))
  (case side4 => exact HC0_6.out)
  (case side5 => repeat (first | exact (Kd.C_below HR0_7.out HB.out) | (with_reducible refine Kd.C_alloc ?_ _) | (with_reducible refine Kd.C_drewN ?_ _) | (with_reducible refine Kd.C_drew ?_)))
  (case side6 => exact HC0_7.out)
  rintro e w43 ⟨v539, v542, v545, rfl, ho0, ho1, ho2, hb⟩
  refine ⟨_, rfl, ?_⟩
  have n0_ := qm (qg (Kd.R_told (Kd.R_told (Kd.R_old HO_4.out hb) (Kd.R_base ho0)) (Kd.R_base ho1)) (fun _ h_ => h_.1))
  have n1_ := qm (qg (Kd.R_told (Kd.R_told (Kd.R_old HO_7.out hb) (Kd.R_base ho0)) (Kd.R_base ho1)) (fun _ h_ => h_.1))
  have n2_ := qm (qg (Kd.R_told (Kd.R_told (Kd.R_old HO_528005.out hb) (Kd.R_base ho0)) (Kd.R_base ho1)) (fun _ h_ => h_.1))
  have n3_ := qm (qg (Kd.R_told (Kd.R_told (Kd.R_old HO_528006.out hb) (Kd.R_base ho0)) (Kd.R_base ho1)) (fun _ h_ => h_.1))
  have n4_ := qm (Kd.R_elder' HO_528007.out (Kd.R_base ho2) hb)
  have n5_ := qm (Kd.R_lower (Kd.R_new' (Kd.R_new' (Kd.R_new' (Kd.R_new' ho0 (Kd.R_lt HO_4.out)) (Kd.R_lt HO_7.out)) (Kd.R_lt HO_528005.out)) (Kd.R_lt HO_528006.out)) (qs (by repeat (first | (with_reducible first | exact HB.out | apply qh | apply qi | apply qj | refine qk ?_ GE493.out | refine qk ?_ GE527.out) | exact HB.out))))
  have n6_ := qm (Kd.R_lower (Kd.R_new' (Kd.R_new' (Kd.R_new' (Kd.R_new' ho1 (Kd.R_lt HO_4.out)) (Kd.R_lt HO_7.out)) (Kd.R_lt HO_528005.out)) (Kd.R_lt HO_528006.out)) (qs (by repeat (first | (with_reducible first | exact HB.out | apply qh | apply qi | apply qj | refine qk ?_ GE493.out | refine qk ?_ GE527.out) | exact HB.out))))
  have n7_ := qm (Kd.R_lower (Kd.R_new' ho2 (Kd.R_lt HO_528007.out)) (qs (by repeat (first | (with_reducible first | exact HB.out | apply qh | apply qi | apply qj | refine qk ?_ GE493.out | refine qk ?_ GE527.out) | exact HB.out))))
  have n8_ := qm (qv (g := gb493) BK493.out hb)
  have n9_ := qm (qv (g := gb527) BK527.out hb)
  have n10_ := qm (qt (by repeat (first | (with_reducible first | exact HB.out | apply qh | apply qi | apply qj | refine qk ?_ GE493.out | refine qk ?_ GE527.out) | exact HB.out)) hb)
  clear HO_4
  clear HO_7
  clear HO_528005
  clear HO_528006
  clear HO_528007
  clear BK493
  clear BK527
  clear HB
  have HO_4 := n0_
  have HO_7 := n1_
  have HO_528005 := n2_
  have HO_528006 := n3_
  have HO_528007 := n4_
  have HO540 := n5_
  have HO543 := n6_
  have HO546 := n7_
  have BK493 := n8_
  have BK527 := n9_
  have HB := n10_
  clear n0_ n1_ n2_ n3_ n4_ n5_ n6_ n7_ n8_ n9_ n10_
  (try clear hb)
  (try clear hb2)
  (try clear hk)
  (try clear hi)
  (try clear ho0)
  (try clear ho1)
  (try clear ho2)
  obtain ⟨Ao44, co44, eo44⟩ := Kd.R_slice HO540.out
  (first | subst eo44 | (injection eo44 with f1_ f2_ f3_; have f4_ := f1_.symm; have f5_ := f3_.symm; clear f1_ f2_ f3_; subst f4_; subst f5_))
  obtain ⟨Ao45, co45, eo45⟩ := Kd.R_slice HO543.out
  (first | subst eo45 | (injection eo45 with f1_ f2_ f3_; have f4_ := f1_.symm; have f5_ := f3_.symm; clear f1_ f2_ f3_; subst f4_; subst f5_))
  obtain ⟨Ao46, co46, eo46⟩ := Kd.R_slice HO546.out
  (first | subst eo46 | (injection eo46 with f1_ f2_ f3_; have f4_ := f1_.symm; have f5_ := f3_.symm; clear f1_ f2_ f3_; subst f4_; subst f5_))
  refine hK.out _ _ ⟨(qu BK527.out 0).trans rfl, (qu BK527.out 1).trans rfl, (qu BK527.out 2).trans rfl, (qu BK527.out 3).trans rfl, (qu BK527.out 4).trans rfl, (qu BK527.out 5).trans rfl, (qu BK527.out 6).trans rfl, (qu BK527.out 7).trans rfl, (qu BK493.out 0).trans rfl, (qu BK493.out 1).trans rfl, (qu BK493.out 2).trans rfl, (qu BK493.out 3).trans rfl, (qu BK493.out 4).trans rfl, (qu BK493.out 5).trans rfl, (qu BK493.out 6).trans rfl, (qu BK493.out 7).trans rfl⟩ (fun hHeld => ?_)
  clear hK K
  refine norm_ (a' := ?_) ?_ ?_
  rotate_left
  ·show Act.put _ (some 43) _ = _
   simp only [Act.put, s1, s2, s3, i64_w, i32_w]
   rfl
  refine one_ (i := 3) (N := some 44) (bm 4 5) rfl rfl (by kernel_rfl) (by decide) (fun K hK => ?_)
  refine goes_ Try.func42 (by kernel_rfl) rfl #[.agg #[.int .i64 t513, .int .i64 t514, .int .i64 t515, .int .i64 t516, .bool t517, .slice Ao26 t518.length co26, .slice Ao27 t521.length co27, .slice Ao28 t524.length co28], .agg #[.int .i64 t533, .int .i64 t534, .int .i64 t535, .int .i64 t536, .bool t537, .slice Ao44 t538.length co44, .slice Ao45 t541.length co45, .slice Ao46 t544.length co46]] (by rfl) rfl rfl (by (try simp only [m1, m2, m3]); first | done | rfl) ?_
  with_reducible refine (laws_eqFrame.calls kj10 t513 t514 t515 t516 t517 _ _ t518 _ _ t521 _ _ t524 t533 t534 t535 t536 t537 _ _ t538 _ _ t541 _ _ t544 true _ ?side1 ?side2 ?side3 ?side4 ?side5 ?side6 ?side7 ?side8 ?side9 ?side10 ?side11 ?side12 A38.out).mono ?_
  (case side1 => repeat (first | exact (qe HO_528005.out).2.2 | (with_reducible refine Kd.C_alloc ?_ _) | (with_reducible refine Kd.C_drewN ?_ _) | (with_reducible refine Kd.C_drew ?_)))
  (case side2 => exact (qe HO_528005.out).2.1)
  (case side3 => repeat (first | exact (qe HO_528006.out).2.2 | (with_reducible refine Kd.C_alloc ?_ _) | (with_reducible refine Kd.C_drewN ?_ _) | (with_reducible refine Kd.C_drew ?_)))
  (case side4 => exact (qe HO_528006.out).2.1)
  (case side5 => repeat (first | exact (qe HO_528007.out).2.2 | (with_reducible refine Kd.C_alloc ?_ _) | (with_reducible refine Kd.C_drewN ?_ _) | (with_reducible refine Kd.C_drew ?_)))
  (case side6 => exact (qe HO_528007.out).2.1)
  (case side7 => repeat (first | exact (qe HO540.out).2.2 | (with_reducible refine Kd.C_alloc ?_ _) | (with_reducible refine Kd.C_drewN ?_ _) | (with_reducible refine Kd.C_drew ?_)))
  (case side8 => exact (qe HO540.out).2.1)
  (case side9 => repeat (first | exact (qe HO543.out).2.2 | (with_reducible refine Kd.C_alloc ?_ _) | (with_reducible refine Kd.C_drewN ?_ _) | (with_reducible refine Kd.C_drew ?_)))
  (case side10 => exact (qe HO543.out).2.1)
  (case side11 => repeat (first | exact (qe HO546.out).2.2 | (with_reducible refine Kd.C_alloc ?_ _) | (with_reducible refine Kd.C_drewN ?_ _) | (with_reducible refine Kd.C_drew ?_)))
  (case side12 => exact (qe HO546.out).2.1)
  rintro e w47 ⟨rfl, hb⟩
  refine ⟨_, rfl, ?_⟩
  have n0_ := qm (qf HO_4.out hb)
  have n1_ := qm (qf HO_7.out hb)
  have n2_ := qm (qf HO_528005.out hb)
  have n3_ := qm (qf HO_528006.out hb)
  have n4_ := qm (qf HO_528007.out hb)
  have n5_ := qm (qf HO540.out hb)
  have n6_ := qm (qf HO543.out hb)
  have n7_ := qm (qf HO546.out hb)
  have n8_ := qm (qv (g := gb493) BK493.out hb)
  have n9_ := qm (qv (g := gb527) BK527.out hb)
  have n10_ := qm (qt (by repeat (first | (with_reducible first | exact HB.out | apply qh | apply qi | apply qj | refine qk ?_ GE493.out | refine qk ?_ GE527.out) | exact HB.out)) hb)
  clear HO_4
  clear HO_7
  clear HO_528005
  clear HO_528006
  clear HO_528007
  clear HO540
  clear HO543
  clear HO546
  clear BK493
  clear BK527
  clear HB
  have HO_4 := n0_
  have HO_7 := n1_
  have HO_528005 := n2_
  have HO_528006 := n3_
  have HO_528007 := n4_
  have HO540 := n5_
  have HO543 := n6_
  have HO546 := n7_
  have BK493 := n8_
  have BK527 := n9_
  have HB := n10_
  clear n0_ n1_ n2_ n3_ n4_ n5_ n6_ n7_ n8_ n9_ n10_
  (try clear hb)
  (try clear hb2)
  (try clear hk)
  (try clear hi)
  refine hK.out _ _ ⟨(qu BK527.out 0).trans rfl, (qu BK527.out 1).trans rfl, (qu BK527.out 2).trans rfl, (qu BK527.out 3).trans rfl, (qu BK527.out 4).trans rfl, (qu BK527.out 5).trans rfl, (qu BK527.out 6).trans rfl, (qu BK527.out 7).trans rfl, (qu BK493.out 0).trans rfl, (qu BK493.out 1).trans rfl, (qu BK493.out 2).trans rfl, (qu BK493.out 3).trans rfl, (qu BK493.out 4).trans rfl, (qu BK493.out 5).trans rfl, (qu BK493.out 6).trans rfl, (qu BK493.out 7).trans rfl⟩ (fun hHeld => ?_)
  clear hK K
  refine norm_ (a' := ?_) ?_ ?_
  rotate_left
  ·show Act.put _ (some 44) _ = _
   simp only [Act.put, s1, s2, s3, i64_w, i32_w]
   rfl
  refine pure_ (i := 4) (N := some 45) (v := ?_) (a' := ?_) (bm 5 5) rfl rfl (by kernel_rfl) (fun _ _ _ h => h) (Or.inl ⟨by rfl, ?_⟩) ?_ ?_
  rotate_left
  ·intro w'
   go_simp
   with_reducible rfl
  rotate_left
  ·simp only [Act.put, s1, s2, s3, i64_w, i32_w]
   rfl
  refine done_ (by kernel_rfl) ?_
  have hnb48 := NB527_493.out
  have hnc48 := NB493_527.out
  obtain ⟨_, _, _, _, _, _, _, _, _, _, _, _, _, _, _, _⟩ := fc8 BK527.out
  go_upto_region 14 with (first | ((with_reducible refine gate_callee (f := 45) rfl ?_); refine goesL_ (some 48) rfl rfl Try.func45 (by kernel_rfl) rfl #[.agg #[.int .i64 t513, .int .i64 t514, .int .i64 t515, .int .i64 t516, .bool t517, .slice Ao26 t518.length co26, .slice Ao27 t521.length co27, .slice Ao28 t524.length co28], .int .i64 1] rfl (by (try simp only [m1, m2, m3]); first | done | rfl) ?_; (with_reducible refine (laws_markFrame.calls kj10 t513 t514 t515 t516 t517 (fun k_ => some k_ = (.slice Ao26 t518.length co26 : Value).ownBlock) (.slice Ao26 t518.length co26) t518 (fun k_ => some k_ = (.slice Ao27 t521.length co27 : Value).ownBlock) (.slice Ao27 t521.length co27) t521 (fun k_ => some k_ = (.slice Ao28 t524.length co28 : Value).ownBlock) (.slice Ao28 t524.length co28) t524 1 t548 t549 t550 t551 w _ ?side1 ?side2 ?side3 ?side4 ?side5 ?side6 A40.out).mono ?_); (case side1 => repeat (first | (with_reducible first | exact HB.out | apply qh | apply qi | apply qj | refine qk ?_ GE493.out | refine qk ?_ GE527.out) | exact HB.out)); (case side2 => exact Kd.R_tight rfl HO_528005.out); (case side3 => exact fun k_ e_ => (HO_528005.out.1 k_ e_.symm).1.1.2.2); (case side4 => exact Kd.R_tight rfl HO_528006.out); (case side5 => exact fun k_ e_ => (HO_528006.out.1 k_ e_.symm).1.1.2.2); (case side6 => exact Kd.R_tight rfl HO_528007.out); rintro e w50 ⟨rfl, hy0, hy1, hy2, hb, hkp⟩; refine ⟨_, rfl, ?_⟩; have n0_ := qm (qg (ok' := fun k_ => some k_ ≠ (v529 : Value).ownBlock ∧ some k_ ≠ (.slice Ao26 t518.length co26 : Value).ownBlock ∧ some k_ ≠ (.slice Ao27 t521.length co27 : Value).ownBlock ∧ some k_ ≠ (.slice Ao44 t538.length co44 : Value).ownBlock ∧ some k_ ≠ (.slice Ao45 t541.length co45 : Value).ownBlock) (Kd.R_keptB ((Kd.R_apart' HO_4.out (Kd.R_typed HO_528007.out) (by decide))) hkp (fun k_ hk_ hs_ => Or.elim hs_ (fun e_ => (hk_.1.1.1.2.1) e_) (fun e_ => Or.elim e_ (fun e_ => (hk_.1.1.1.2.2) e_) (fun e_ => (hk_.2) e_)))) (fun k_ hk_ => ⟨hk_.1.1.1.1.1, hk_.1.1.1.1.2.1, hk_.1.1.1.1.2.2, hk_.1.1.1.2, hk_.1.1.2⟩)); have n1_ := qm (qg (ok' := fun k_ => some k_ ≠ (v510 : Value).ownBlock ∧ some k_ ≠ (.slice Ao26 t518.length co26 : Value).ownBlock ∧ some k_ ≠ (.slice Ao27 t521.length co27 : Value).ownBlock ∧ some k_ ≠ (.slice Ao44 t538.length co44 : Value).ownBlock ∧ some k_ ≠ (.slice Ao45 t541.length co45 : Value).ownBlock) (Kd.R_keptB ((Kd.R_apart' HO_7.out (Kd.R_typed HO_528007.out) (by decide))) hkp (fun k_ hk_ hs_ => Or.elim hs_ (fun e_ => (hk_.1.1.1.2.1) e_) (fun e_ => Or.elim e_ (fun e_ => (hk_.1.1.1.2.2) e_) (fun e_ => (hk_.2) e_)))) (fun k_ hk_ => ⟨hk_.1.1.1.1.1, hk_.1.1.1.1.2.1, hk_.1.1.1.1.2.2, hk_.1.1.1.2, hk_.1.1.2⟩)); have n2_ := qm (Kd.R_reok rfl hy0 (fun k_ e_ => HO_528005.out.1 k_ e_)); have n3_ := qm (Kd.R_reok rfl hy1 (fun k_ e_ => HO_528006.out.1 k_ e_)); have n4_ := qm (Kd.R_reok rfl hy2 (fun k_ e_ => HO_528007.out.1 k_ e_)); have n5_ := qm (blk_kept BK493.out hkp (fun hs_ => Or.elim hs_ (fun e_ => (fun e_ => (Kd.R_ne HO_528005.out BK493.out (by decide)) e_) e_) (fun e_ => Or.elim e_ (fun e_ => (fun e_ => (Kd.R_ne HO_528006.out BK493.out (by decide)) e_) e_) (fun e_ => (fun e_ => (Kd.R_ne HO_528007.out BK493.out (by decide)) e_) e_)))); have n6_ := qm (blk_kept BK527.out hkp (fun hs_ => Or.elim hs_ (fun e_ => (fun e_ => (Kd.R_ne HO_528005.out BK527.out (by decide)) e_) e_) (fun e_ => Or.elim e_ (fun e_ => (fun e_ => (Kd.R_ne HO_528006.out BK527.out (by decide)) e_) e_) (fun e_ => (fun e_ => (Kd.R_ne HO_528007.out BK527.out (by decide)) e_) e_)))); have n7_ := qm (qg (ok' := fun k_ => some k_ ≠ (v510 : Value).ownBlock ∧ some k_ ≠ (v529 : Value).ownBlock ∧ some k_ ≠ (.slice Ao26 t518.length co26 : Value).ownBlock ∧ some k_ ≠ (.slice Ao27 t521.length co27 : Value).ownBlock ∧ some k_ ≠ (.slice Ao45 t541.length co45 : Value).ownBlock) (Kd.R_keptB ((Kd.R_apart' HO540.out (Kd.R_typed HO_528007.out) (by decide))) hkp (fun k_ hk_ hs_ => Or.elim hs_ (fun e_ => (hk_.1.1.2) e_) (fun e_ => Or.elim e_ (fun e_ => (hk_.1.2) e_) (fun e_ => (hk_.2) e_)))) (fun k_ hk_ => ⟨hk_.1.1.1.1.1.2, hk_.1.1.1.1.2, hk_.1.1.1.2, hk_.1.1.2, hk_.1.1.1.1.1.1⟩)); have n8_ := qm (qg (ok' := fun k_ => some k_ ≠ (v510 : Value).ownBlock ∧ some k_ ≠ (v529 : Value).ownBlock ∧ some k_ ≠ (.slice Ao26 t518.length co26 : Value).ownBlock ∧ some k_ ≠ (.slice Ao27 t521.length co27 : Value).ownBlock ∧ some k_ ≠ (.slice Ao44 t538.length co44 : Value).ownBlock) (Kd.R_keptB ((Kd.R_apart' HO543.out (Kd.R_typed HO_528007.out) (by decide))) hkp (fun k_ hk_ hs_ => Or.elim hs_ (fun e_ => (hk_.1.1.2) e_) (fun e_ => Or.elim e_ (fun e_ => (hk_.1.2) e_) (fun e_ => (hk_.2) e_)))) (fun k_ hk_ => ⟨hk_.1.1.1.1.1.2, hk_.1.1.1.1.2, hk_.1.1.1.2, hk_.1.1.2, hk_.1.1.1.1.1.1⟩)); have n9_ := qm (qg (ok' := fun k_ => some k_ ≠ (.slice Ao28 t524.length co28 : Value).ownBlock) (Kd.R_keptB ((Kd.R_apart' (Kd.R_apart' HO546.out (Kd.R_typed HO_528005.out) (by decide)) (Kd.R_typed HO_528006.out) (by decide))) hkp (fun k_ hk_ hs_ => Or.elim hs_ (fun e_ => (hk_.1.2) e_) (fun e_ => Or.elim e_ (fun e_ => (hk_.2) e_) (fun e_ => (hk_.1.1.2) e_)))) (fun k_ hk_ => hk_.1.1.1.2)); have n10_ := qm (hb); clear HO_4; clear HO_7; clear HO_528005; clear HO_528006; clear HO_528007; clear BK493; clear BK527; clear HO540; clear HO543; clear HO546; clear HB; have HO_4 := n0_; have HO_7 := n1_; have HO_528005 := n2_; have HO_528006 := n3_; have HO_528007 := n4_; have BK493 := n5_; have BK527 := n6_; have HO540 := n7_; have HO543 := n8_; have HO546 := n9_; have HB := n10_; (try clear hy0); (try clear hy1); (try clear hy2)))
  (try simp only [Act.put, s1, s2, s3])
  go_cut [61] (fun v61 wc => ∃ (kq : Nat) (x61_40 : Bool), v61 = .bool x61_40 ∧ Aside0 (laws_FnExactFrameBytes.j1 kq t509 t512 t528 x61_40 a0_0 a0_1 a0_2 a0_3 a0_4 l0_5 l0_6 l0_7 = some true) ∧ Aside0 (kq ≤ kj10) ∧ Aside0 (Kd.R (Kd.int .u8) 5 wc w.heap.size (fun k_ => some k_ ≠ (v529 : Value).ownBlock ∧ some k_ ≠ ((.slice Ao26 t518.length co26) : Value).ownBlock ∧ some k_ ≠ ((.slice Ao27 t521.length co27) : Value).ownBlock) v510 t509) ∧ Aside0 (Kd.R (Kd.int .u8) 5 wc w.heap.size (fun k_ => some k_ ≠ (v510 : Value).ownBlock ∧ some k_ ≠ ((.slice Ao26 t518.length co26) : Value).ownBlock ∧ some k_ ≠ ((.slice Ao27 t521.length co27) : Value).ownBlock) v529 t528) ∧ Aside0 (Kd.R (Kd.int .u8) 5 wc w.heap.size (fun k_ => some k_ ≠ (v510 : Value).ownBlock ∧ some k_ ≠ (v529 : Value).ownBlock ∧ some k_ ≠ ((.slice Ao27 t521.length co27) : Value).ownBlock) (.slice Ao26 t518.length co26) t549) ∧ Aside0 (Kd.R (Kd.int .u8) 5 wc w.heap.size (fun k_ => some k_ ≠ (v510 : Value).ownBlock ∧ some k_ ≠ (v529 : Value).ownBlock ∧ some k_ ≠ ((.slice Ao26 t518.length co26) : Value).ownBlock) (.slice Ao27 t521.length co27) t550) ∧ Aside0 (Kd.R k105 105 wc w.heap.size (fun _ => True) (.slice Ao28 t524.length co28) t551) ∧ Aside0 (wc.heap[gb493]? = some (.cells #[.int .i64 a0_0, .int .i64 a0_1, .int .i64 a0_2, .int .i64 a0_3, .bool a0_4, (.slice A0_5 l0_5.length c0_5), (.slice A0_6 l0_6.length c0_6), (.slice A0_7 l0_7.length c0_7)] 50 (0, 0))) ∧ Aside0 (wc.heap[gb527]? = some (.cells #[.int .i64 t513, .int .i64 t514, .int .i64 t515, .int .i64 t516, .bool t517, (.slice Ao26 t518.length co26), (.slice Ao27 t521.length co27), (.slice Ao28 t524.length co28)] 55 (0, 0))) ∧ Aside0 (Below w.heap.size w wc))
  case first =>
   have H := HC41.out
   clear HC41
   by_cases c51 : t548 < 0
   ·rw [if_pos c51] at H
    have c51b0 : decide (t548 < 0) = true := decide_eq_true c51
    clear c51
    (first | rw [c51b0] | (simp only [i64_w, i32_w]; rw [c51b0]) | skip)
    have H' := qm H
    clear H
    go_wp2
    go_meet
    case rel => exact ⟨_, (true), rfl, H', ⟨by have := HJ10.out; omega⟩, ⟨by (with_reducible repeat (first | apply qb | apply qc | apply qd)); exact qg HO_4.out (fun _ hk => ⟨hk.1, ⟨hk.2.1, hk.2.2.1⟩⟩)⟩, ⟨by (with_reducible repeat (first | apply qb | apply qc | apply qd)); exact qg HO_7.out (fun _ hk => ⟨hk.1, ⟨hk.2.1, hk.2.2.1⟩⟩)⟩, ⟨by (with_reducible repeat (first | apply qb | apply qc | apply qd)); exact qg HO_528005.out (fun _ hk => ⟨hk.1.1.1, ⟨hk.1.1.2.1, hk.1.1.2.2⟩⟩)⟩, ⟨by (with_reducible repeat (first | apply qb | apply qc | apply qd)); exact qg HO_528006.out (fun _ hk => ⟨hk.1.1.1, ⟨hk.1.1.2.1, hk.1.1.2.2⟩⟩)⟩, ⟨by (with_reducible repeat (first | apply qb | apply qc | apply qd)); exact qg HO_528007.out (fun _ hk => trivial)⟩, ⟨BK493.out⟩, ⟨BK527.out⟩, ⟨by repeat (first | (with_reducible first | exact HB.out | apply qh | apply qi | apply qj | refine qk ?_ GE493.out | refine qk ?_ GE527.out) | exact HB.out)⟩⟩
   rw [if_neg c51] at H
   have c51b0 : decide (t548 < 0) = false := decide_eq_false c51
   clear c51
   (first | rw [c51b0] | (simp only [i64_w, i32_w]; rw [c51b0]) | skip)
   replace H := Option.bind_eq_some_iff.mp H
   obtain ⟨t552, A520, H⟩ := H
   try dsimp only at H
   have A52 := qm A520
   clear A520
   by_cases c53 : t552 = true
   ·subst c53
    rw [if_pos rfl] at H
    have H' := qm H
    clear H
    obtain ⟨Ao54, co54, eo54⟩ := Kd.R_slice HO_7.out
    subst eo54
    obtain ⟨Ao55, co55, eo55⟩ := Kd.R_slice HO_4.out
    subst eo55
    go_wp2_with (first | (go_at_call 16; (with_reducible refine (laws_eqByteS.calls kj10 _ _ t528 _ _ t509 true _ ?side1 ?side2 ?side3 ?side4 A52.out).mono ?_); (case side1 => repeat (first | exact (qe HO_7.out).2.2 | (with_reducible refine Kd.C_alloc ?_ _) | (with_reducible refine Kd.C_drewN ?_ _) | (with_reducible refine Kd.C_drew ?_))); (case side2 => exact (qe HO_7.out).2.1); (case side3 => repeat (first | exact (qe HO_4.out).2.2 | (with_reducible refine Kd.C_alloc ?_ _) | (with_reducible refine Kd.C_drewN ?_ _) | (with_reducible refine Kd.C_drew ?_))); (case side4 => exact (qe HO_4.out).2.1); rintro e w' ⟨rfl, ⟨nd, rfl⟩⟩))
    go_meet
    case rel => exact ⟨_, ((t531 != t512)), rfl, H', ⟨by have := HJ10.out; omega⟩, ⟨by (with_reducible repeat (first | apply qb | apply qc | apply qd)); exact qg HO_4.out (fun _ hk => ⟨hk.1, ⟨hk.2.1, hk.2.2.1⟩⟩)⟩, ⟨by (with_reducible repeat (first | apply qb | apply qc | apply qd)); exact qg HO_7.out (fun _ hk => ⟨hk.1, ⟨hk.2.1, hk.2.2.1⟩⟩)⟩, ⟨by (with_reducible repeat (first | apply qb | apply qc | apply qd)); exact qg HO_528005.out (fun _ hk => ⟨hk.1.1.1, ⟨hk.1.1.2.1, hk.1.1.2.2⟩⟩)⟩, ⟨by (with_reducible repeat (first | apply qb | apply qc | apply qd)); exact qg HO_528006.out (fun _ hk => ⟨hk.1.1.1, ⟨hk.1.1.2.1, hk.1.1.2.2⟩⟩)⟩, ⟨by (with_reducible repeat (first | apply qb | apply qc | apply qd)); exact qg HO_528007.out (fun _ hk => trivial)⟩, ⟨BK493.out⟩, ⟨BK527.out⟩, ⟨by repeat (first | (with_reducible first | exact HB.out | apply qh | apply qi | apply qj | refine qk ?_ GE493.out | refine qk ?_ GE527.out) | exact HB.out)⟩⟩
   replace c53 := Bool.eq_false_iff.mpr c53
   subst c53
   rw [if_neg nt] at H
   have H' := qm H
   clear H
   obtain ⟨Ao56, co56, eo56⟩ := Kd.R_slice HO_7.out
   subst eo56
   obtain ⟨Ao57, co57, eo57⟩ := Kd.R_slice HO_4.out
   subst eo57
   go_wp2_with (first | (go_at_call 16; (with_reducible refine (laws_eqByteS.calls kj10 _ _ t528 _ _ t509 false _ ?side1 ?side2 ?side3 ?side4 A52.out).mono ?_); (case side1 => repeat (first | exact (qe HO_7.out).2.2 | (with_reducible refine Kd.C_alloc ?_ _) | (with_reducible refine Kd.C_drewN ?_ _) | (with_reducible refine Kd.C_drew ?_))); (case side2 => exact (qe HO_7.out).2.1); (case side3 => repeat (first | exact (qe HO_4.out).2.2 | (with_reducible refine Kd.C_alloc ?_ _) | (with_reducible refine Kd.C_drewN ?_ _) | (with_reducible refine Kd.C_drew ?_))); (case side4 => exact (qe HO_4.out).2.1); rintro e w' ⟨rfl, ⟨nd, rfl⟩⟩))
   go_meet
   case rel => exact ⟨_, (true), rfl, H', ⟨by have := HJ10.out; omega⟩, ⟨by (with_reducible repeat (first | apply qb | apply qc | apply qd)); exact qg HO_4.out (fun _ hk => ⟨hk.1, ⟨hk.2.1, hk.2.2.1⟩⟩)⟩, ⟨by (with_reducible repeat (first | apply qb | apply qc | apply qd)); exact qg HO_7.out (fun _ hk => ⟨hk.1, ⟨hk.2.1, hk.2.2.1⟩⟩)⟩, ⟨by (with_reducible repeat (first | apply qb | apply qc | apply qd)); exact qg HO_528005.out (fun _ hk => ⟨hk.1.1.1, ⟨hk.1.1.2.1, hk.1.1.2.2⟩⟩)⟩, ⟨by (with_reducible repeat (first | apply qb | apply qc | apply qd)); exact qg HO_528006.out (fun _ hk => ⟨hk.1.1.1, ⟨hk.1.1.2.1, hk.1.1.2.2⟩⟩)⟩, ⟨by (with_reducible repeat (first | apply qb | apply qc | apply qd)); exact qg HO_528007.out (fun _ hk => trivial)⟩, ⟨BK493.out⟩, ⟨BK527.out⟩, ⟨by repeat (first | (with_reducible first | exact HB.out | apply qh | apply qi | apply qj | refine qk ?_ GE493.out | refine qk ?_ GE527.out) | exact HB.out)⟩⟩
  clear HC41
  try clear c3
  try clear c3b0
  try clear c36
  try clear c39
  obtain ⟨kq, x61_40, rfl, HA, HJ40, HO_4, HO_7, HO_528005, HO_528006, HO_528007, BK493, BK527, HB⟩ := hcut
  have hl528005_40 := (qe HO_528005.out).1
  rw [hl528005_40] at HO_528005
  (try simp only [hl528005_40])
  (try simp only [hl528005_40] at BK493)
  (try simp only [hl528005_40] at BK527)
  (try simp only [hl528005_40] at HO_4)
  (try simp only [hl528005_40] at HO_7)
  (try simp only [hl528005_40] at HO_528006)
  (try simp only [hl528005_40] at HO_528007)
  have hl528006_40 := (qe HO_528006.out).1
  rw [hl528006_40] at HO_528006
  (try simp only [hl528006_40])
  (try simp only [hl528006_40] at BK493)
  (try simp only [hl528006_40] at BK527)
  (try simp only [hl528006_40] at HO_4)
  (try simp only [hl528006_40] at HO_7)
  (try simp only [hl528006_40] at HO_528005)
  (try simp only [hl528006_40] at HO_528007)
  have hl528007_40 := (qe HO_528007.out).1
  rw [hl528007_40] at HO_528007
  (try simp only [hl528007_40])
  (try simp only [hl528007_40] at BK493)
  (try simp only [hl528007_40] at BK527)
  (try simp only [hl528007_40] at HO_4)
  (try simp only [hl528007_40] at HO_7)
  (try simp only [hl528007_40] at HO_528005)
  (try simp only [hl528007_40] at HO_528006)
  cases kq with
  | zero => exact absurd HA.out (by simp [laws_FnExactFrameBytes.j1])
  | succ kj40 => ?_
  have H := HA.out
  clear HA
  simp only [laws_FnExactFrameBytes.j1] at H
  by_cases c58 : x61_40 = true
  ·subst c58
   have H1 : (some false) = some true := by rw [if_pos rfl] at H; exact H
   exact absurd H1 (by simp)
  replace c58 := Bool.eq_false_iff.mpr c58
  subst c58
  rw [if_neg nt] at H
  replace H := Option.bind_eq_some_iff.mp H
  obtain ⟨⟨t553, t554⟩, A590, H⟩ := H
  try dsimp only at H
  have A59 := qm A590
  clear A590
  replace H := Option.bind_eq_some_iff.mp H
  obtain ⟨t555, A600, H⟩ := H
  try dsimp only at H
  have A60 := qm A600
  clear A600
  by_cases c61 : t555 < 0
  ·rw [if_pos c61] at H
   exact absurd H (by simp)
  rw [if_neg c61] at H
  have c61b0 : decide (t555 < 0) = false := decide_eq_false c61
  clear c61
  by_cases c64 : t555 = t553
  ·rw [if_pos c64] at H
   have c64b0 : (t555 == t553) = true := beq_iff_eq.mpr c64
   have c64b1 : (t555 != t553) = false := bne_eq_false_iff_eq.mpr c64
   clear c64
   replace H := Option.bind_eq_some_iff.mp H
   obtain ⟨⟨t556, t557, t558, t559, t560, t561, t564, t567⟩, A650, H⟩ := H
   try dsimp only at H
   have A65 := qm A650
   clear A650
   replace H := Option.bind_eq_some_iff.mp H
   obtain ⟨⟨t570, t573⟩, A660, H⟩ := H
   try dsimp only at H
   have A66 := qm A660
   clear A660
   have HC67 := qm H
   clear H
   obtain ⟨Ao68, co68, eo68⟩ := Kd.R_slice HO_7.out
   subst eo68
   go_upto_region 25 with (first | ((with_reducible refine gate_callee (f := 17) rfl ?_); refine goesL_ (some 64) rfl rfl Try.func17 (by kernel_rfl) rfl #[.slice Ao68 t528.length co68, .int .i64 1] rfl (by (try simp only [m1, m2, m3]); first | done | rfl) ?_; (with_reducible refine (laws_markByteS.calls kj40 (fun k_ => some k_ = (.slice Ao68 t528.length co68 : Value).ownBlock) (.slice Ao68 t528.length co68) t528 1 t553 t554 w _ ?side1 ?side2 A59.out).mono ?_); (case side1 => repeat (first | (with_reducible first | exact HB.out | apply qh | apply qi | apply qj | refine qk ?_ GE493.out | refine qk ?_ GE527.out) | exact HB.out)); (case side2 => exact Kd.R_tight rfl HO_7.out); rintro e w69 ⟨rfl, hy0, hb, hkp⟩; refine ⟨_, rfl, ?_⟩; have n0_ := qm (qg (ok' := fun k_ => some k_ ≠ (.slice Ao68 t528.length co68 : Value).ownBlock ∧ some k_ ≠ (.slice Ao26 t549.length co26 : Value).ownBlock ∧ some k_ ≠ (.slice Ao27 t550.length co27 : Value).ownBlock) (Kd.R_keptB (HO_4.out) hkp (fun k_ hk_ hs_ => (hk_.1) hs_)) (fun k_ hk_ => ⟨hk_.1.1, hk_.1.2.1, hk_.1.2.2⟩)); have n1_ := qm (Kd.R_reok rfl hy0 (fun k_ e_ => HO_7.out.1 k_ e_)); have n2_ := qm (qg (ok' := fun k_ => some k_ ≠ (v510 : Value).ownBlock ∧ some k_ ≠ (.slice Ao68 t528.length co68 : Value).ownBlock ∧ some k_ ≠ (.slice Ao27 t550.length co27 : Value).ownBlock) (Kd.R_keptB (HO_528005.out) hkp (fun k_ hk_ hs_ => (hk_.2.1) hs_)) (fun k_ hk_ => ⟨hk_.1.1, hk_.1.2.1, hk_.1.2.2⟩)); have n3_ := qm (qg (ok' := fun k_ => some k_ ≠ (v510 : Value).ownBlock ∧ some k_ ≠ (.slice Ao68 t528.length co68 : Value).ownBlock ∧ some k_ ≠ (.slice Ao26 t549.length co26 : Value).ownBlock) (Kd.R_keptB (HO_528006.out) hkp (fun k_ hk_ hs_ => (hk_.2.1) hs_)) (fun k_ hk_ => ⟨hk_.1.1, hk_.1.2.1, hk_.1.2.2⟩)); have n4_ := qm (qg (ok' := fun k_ => True) (Kd.R_keptB ((Kd.R_apart' HO_528007.out (Kd.R_typed HO_7.out) (by decide))) hkp (fun k_ hk_ hs_ => (hk_.2) hs_)) (fun k_ hk_ => trivial)); have n5_ := qm (blk_kept (by (with_reducible repeat (first | refine ql ?_ _ | refine qn ?_ | refine qo ?_ _)); exact BK493.out) hkp (fun hs_ => (fun e_ => (Kd.R_ne HO_7.out BK493.out (by decide)) e_) hs_)); have n6_ := qm (blk_kept (by (with_reducible repeat (first | refine ql ?_ _ | refine qn ?_ | refine qo ?_ _)); exact BK527.out) hkp (fun hs_ => (fun e_ => (Kd.R_ne HO_7.out BK527.out (by decide)) e_) hs_)); have n7_ := qm (hb); clear HO_4; clear HO_7; clear HO_528005; clear HO_528006; clear HO_528007; clear BK493; clear BK527; clear HB; have HO_4 := n0_; have HO_7 := n1_; have HO_528005 := n2_; have HO_528006 := n3_; have HO_528007 := n4_; have BK493 := n5_; have BK527 := n6_; have HB := n7_; clear n0_ n1_ n2_ n3_ n4_ n5_ n6_ n7_; (try clear hb); (try clear hkp); (try clear hy0)) | ((with_reducible refine gate_callee (f := 18) rfl ?_); refine goesL_ (some 67) rfl rfl Try.func18 (by kernel_rfl) rfl #[.slice Ao68 t554.length co68, .int .i64 1] rfl (by (try simp only [List.map_toArray, List.map_cons, List.map_nil]); first | done | (rw [show t554.length = t528.length from (qe HO_7.out).1.symm] <;> rfl) | rfl | (simp only [List.length_drop, List.length_take]; rfl)) ?_; (with_reducible refine (laws_heldByteS.calls kj40 _ _ t554 1 t555 _ ?side1 ?side2 A60.out).mono ?_); (case side1 => repeat (first | exact (qe HO_7.out).2.2 | (with_reducible refine Kd.C_alloc ?_ _) | (with_reducible refine Kd.C_drewN ?_ _) | (with_reducible refine Kd.C_drew ?_))); (case side2 => rw [show t554.length = t528.length from (qe HO_7.out).1.symm]; exact (qe HO_7.out).2.1); rintro e w' ⟨rfl, ⟨nd, rfl⟩⟩; refine ⟨_, rfl, ?_⟩; have hnb70 := NB493_527.out; have hnc70 := NB527_493.out; obtain ⟨z8_0, z8_1, z8_2, z8_3, z8_4, z8_5, z8_6, z8_7, z8_8, z8_9, z8_10, z8_11, z8_12, z8_13, z8_14, z8_15⟩ := fc8 BK493.out) | ((with_reducible refine gate_callee (f := 40) rfl ?_); refine goesL_ (some 75) rfl rfl Try.func40 (by kernel_rfl) rfl #[.agg #[.int .i64 a0_0, .int .i64 a0_1, .int .i64 a0_2, .int .i64 a0_3, .bool a0_4, .slice A0_5 l0_5.length c0_5, .slice A0_6 l0_6.length c0_6, .slice A0_7 l0_7.length c0_7]] rfl (by (try simp only [m1, m2, m3]); first | done | rfl) ?_; (with_reducible refine (laws_toFrame.calls kj40 a0_0 a0_1 a0_2 a0_3 a0_4 _ _ l0_5 _ _ l0_6 _ _ l0_7 t556 t557 t558 t559 t560 t561 t564 t567 _ ?side1 ?side2 ?side3 ?side4 ?side5 ?side6 A65.out).mono ?_); (case side1 => repeat (first | exact (Kd.C_below HR0_5.out (by repeat (first | (with_reducible first | exact HB.out | apply qh | apply qi | apply qj | refine qk ?_ GE493.out | refine qk ?_ GE527.out) | exact HB.out))) | (with_reducible refine Kd.C_alloc ?_ _) | (with_reducible refine Kd.C_drewN ?_ _) | (with_reducible refine Kd.C_drew ?_))); (case side2 => exact HC0_5.out); (case side3 => repeat (first | exact (Kd.C_below HR0_6.out (by repeat (first | (with_reducible first | exact HB.out | apply qh | apply qi | apply qj | refine qk ?_ GE493.out | refine qk ?_ GE527.out) | exact HB.out))) | (with_reducible refine Kd.C_alloc ?_ _) | (with_reducible refine Kd.C_drewN ?_ _) | (with_reducible refine Kd.C_drew ?_))); (case side4 => exact HC0_6.out); (case side5 => repeat (first | exact (Kd.C_below HR0_7.out (by repeat (first | (with_reducible first | exact HB.out | apply qh | apply qi | apply qj | refine qk ?_ GE493.out | refine qk ?_ GE527.out) | exact HB.out))) | (with_reducible refine Kd.C_alloc ?_ _) | (with_reducible refine Kd.C_drewN ?_ _) | (with_reducible refine Kd.C_drew ?_))); (case side6 => exact HC0_7.out); rintro e w72 ⟨v562, v565, v568, rfl, ho0, ho1, ho2, hb⟩; refine ⟨_, rfl, ?_⟩; have n0_ := qm (qg (Kd.R_told (Kd.R_told (Kd.R_old (by (with_reducible repeat (first | apply qb | apply qc | apply qd)); exact HO_4.out) hb) (Kd.R_base ho0)) (Kd.R_base ho1)) (fun _ h_ => h_.1)); have n1_ := qm (qg (Kd.R_told (Kd.R_told (Kd.R_old (by (with_reducible repeat (first | apply qb | apply qc | apply qd)); exact HO_7.out) hb) (Kd.R_base ho0)) (Kd.R_base ho1)) (fun _ h_ => h_.1)); have n2_ := qm (qg (Kd.R_told (Kd.R_told (Kd.R_old (by (with_reducible repeat (first | apply qb | apply qc | apply qd)); exact HO_528005.out) hb) (Kd.R_base ho0)) (Kd.R_base ho1)) (fun _ h_ => h_.1)); have n3_ := qm (qg (Kd.R_told (Kd.R_told (Kd.R_old (by (with_reducible repeat (first | apply qb | apply qc | apply qd)); exact HO_528006.out) hb) (Kd.R_base ho0)) (Kd.R_base ho1)) (fun _ h_ => h_.1)); have n4_ := qm (Kd.R_elder' (by (with_reducible repeat (first | apply qb | apply qc | apply qd)); exact HO_528007.out) (Kd.R_base ho2) hb); have n5_ := qm (Kd.R_lower (Kd.R_new' (Kd.R_new' (Kd.R_new' (Kd.R_new' ho0 (Kd.R_lt (by (with_reducible repeat (first | apply qb | apply qc | apply qd)); exact HO_4.out))) (Kd.R_lt (by (with_reducible repeat (first | apply qb | apply qc | apply qd)); exact HO_7.out))) (Kd.R_lt (by (with_reducible repeat (first | apply qb | apply qc | apply qd)); exact HO_528005.out))) (Kd.R_lt (by (with_reducible repeat (first | apply qb | apply qc | apply qd)); exact HO_528006.out))) (qs (by repeat (first | (with_reducible first | exact HB.out | apply qh | apply qi | apply qj | refine qk ?_ GE493.out | refine qk ?_ GE527.out) | exact HB.out)))); have n6_ := qm (Kd.R_lower (Kd.R_new' (Kd.R_new' (Kd.R_new' (Kd.R_new' ho1 (Kd.R_lt (by (with_reducible repeat (first | apply qb | apply qc | apply qd)); exact HO_4.out))) (Kd.R_lt (by (with_reducible repeat (first | apply qb | apply qc | apply qd)); exact HO_7.out))) (Kd.R_lt (by (with_reducible repeat (first | apply qb | apply qc | apply qd)); exact HO_528005.out))) (Kd.R_lt (by (with_reducible repeat (first | apply qb | apply qc | apply qd)); exact HO_528006.out))) (qs (by repeat (first | (with_reducible first | exact HB.out | apply qh | apply qi | apply qj | refine qk ?_ GE493.out | refine qk ?_ GE527.out) | exact HB.out)))); have n7_ := qm (Kd.R_lower (Kd.R_new' ho2 (Kd.R_lt (by (with_reducible repeat (first | apply qb | apply qc | apply qd)); exact HO_528007.out))) (qs (by repeat (first | (with_reducible first | exact HB.out | apply qh | apply qi | apply qj | refine qk ?_ GE493.out | refine qk ?_ GE527.out) | exact HB.out)))); have n8_ := qm (qv (g := gb493) (o := .cells #[.int .i64 a0_0, .int .i64 a0_1, .int .i64 a0_2, .int .i64 a0_3, .bool a0_4, .slice A0_5 l0_5.length c0_5, .slice A0_6 l0_6.length c0_6, .slice A0_7 l0_7.length c0_7] 50 (0, 0)) (by (with_reducible repeat (first | refine ql ?_ _ | refine qn ?_ | refine qo ?_ _)); exact BK493.out) hb); have n9_ := qm (qv (g := gb527) (o := .cells #[.int .i64 t513, .int .i64 t514, .int .i64 t515, .int .i64 t516, .bool t517, .slice Ao26 t549.length co26, .slice Ao27 t550.length co27, .slice Ao28 t551.length co28] 55 (0, 0)) (by (with_reducible repeat (first | refine ql ?_ _ | refine qn ?_ | refine qo ?_ _)); exact BK527.out) hb); have n10_ := qm (qt (by repeat (first | (with_reducible first | exact HB.out | apply qh | apply qi | apply qj | refine qk ?_ GE493.out | refine qk ?_ GE527.out) | exact HB.out)) hb); clear HO_4; clear HO_7; clear HO_528005; clear HO_528006; clear HO_528007; clear BK493; clear BK527; clear HB; have HO_4 := n0_; have HO_7 := n1_; have HO_528005 := n2_; have HO_528006 := n3_; have HO_528007 := n4_; have HO563 := n5_; have HO566 := n6_; have HO569 := n7_; have BK493 := n8_; have BK527 := n9_; have HB := n10_; clear n0_ n1_ n2_ n3_ n4_ n5_ n6_ n7_ n8_ n9_ n10_; (try clear hb); (try clear hb2); (try clear hk); (try clear hi); (try clear ho0); (try clear ho1); (try clear ho2); obtain ⟨Ao73, co73, eo73⟩ := Kd.R_slice HO563.out; subst eo73; obtain ⟨Ao74, co74, eo74⟩ := Kd.R_slice HO566.out; subst eo74; obtain ⟨Ao75, co75, eo75⟩ := Kd.R_slice HO569.out; subst eo75) | ((with_reducible refine gate_callee (f := 44) rfl ?_); refine goesL_ (some 76) rfl rfl Try.func44 (by kernel_rfl) rfl #[.agg #[.int .i64 t556, .int .i64 t557, .int .i64 t558, .int .i64 t559, .bool t560, .slice Ao73 t561.length co73, .slice Ao74 t564.length co74, .slice Ao75 t567.length co75]] rfl (by (try simp only [m1, m2, m3]); first | done | rfl) ?_; (with_reducible refine (impl_FrameBytes.calls kj40 t556 t557 t558 t559 t560 _ _ t561 _ _ t564 _ _ t567 t570 t573 _ ?side1 ?side2 ?side3 ?side4 ?side5 ?side6 A66.out).mono ?_); (case side1 => repeat (first | exact (qe HO563.out).2.2 | (with_reducible refine Kd.C_alloc ?_ _) | (with_reducible refine Kd.C_drewN ?_ _) | (with_reducible refine Kd.C_drew ?_))); (case side2 => exact (qe HO563.out).2.1); (case side3 => repeat (first | exact (qe HO566.out).2.2 | (with_reducible refine Kd.C_alloc ?_ _) | (with_reducible refine Kd.C_drewN ?_ _) | (with_reducible refine Kd.C_drew ?_))); (case side4 => exact (qe HO566.out).2.1); (case side5 => repeat (first | exact (qe HO569.out).2.2 | (with_reducible refine Kd.C_alloc ?_ _) | (with_reducible refine Kd.C_drewN ?_ _) | (with_reducible refine Kd.C_drew ?_))); (case side6 => exact (qe HO569.out).2.1); rintro e w76 ⟨v571, rfl, ho0, hb⟩; refine ⟨_, rfl, ?_⟩; have n0_ := qm (Kd.R_elder' (by (with_reducible repeat (first | apply qb | apply qc | apply qd)); exact HO_4.out) (Kd.R_base ho0) hb); have n1_ := qm (Kd.R_elder' (by (with_reducible repeat (first | apply qb | apply qc | apply qd)); exact HO_7.out) (Kd.R_base ho0) hb); have n2_ := qm (Kd.R_elder' (by (with_reducible repeat (first | apply qb | apply qc | apply qd)); exact HO_528005.out) (Kd.R_base ho0) hb); have n3_ := qm (Kd.R_elder' (by (with_reducible repeat (first | apply qb | apply qc | apply qd)); exact HO_528006.out) (Kd.R_base ho0) hb); have n4_ := qm (qf (by (with_reducible repeat (first | apply qb | apply qc | apply qd)); exact HO_528007.out) hb); have n5_ := qm (Kd.R_elder' (by (with_reducible repeat (first | apply qb | apply qc | apply qd)); exact HO563.out) (Kd.R_base ho0) hb); have n6_ := qm (Kd.R_elder' (by (with_reducible repeat (first | apply qb | apply qc | apply qd)); exact HO566.out) (Kd.R_base ho0) hb); have n7_ := qm (qf (by (with_reducible repeat (first | apply qb | apply qc | apply qd)); exact HO569.out) hb); have n8_ := qm (Kd.R_lower (Kd.R_new' (Kd.R_new' (Kd.R_new' (Kd.R_new' (Kd.R_new' (Kd.R_new' ho0 (Kd.R_lt (by (with_reducible repeat (first | apply qb | apply qc | apply qd)); exact HO_4.out))) (Kd.R_lt (by (with_reducible repeat (first | apply qb | apply qc | apply qd)); exact HO_7.out))) (Kd.R_lt (by (with_reducible repeat (first | apply qb | apply qc | apply qd)); exact HO_528005.out))) (Kd.R_lt (by (with_reducible repeat (first | apply qb | apply qc | apply qd)); exact HO_528006.out))) (Kd.R_lt (by (with_reducible repeat (first | apply qb | apply qc | apply qd)); exact HO563.out))) (Kd.R_lt (by (with_reducible repeat (first | apply qb | apply qc | apply qd)); exact HO566.out))) (qs (by repeat (first | (with_reducible first | exact HB.out | apply qh | apply qi | apply qj | refine qk ?_ GE493.out | refine qk ?_ GE527.out) | exact HB.out)))); have n9_ := qm (qv (g := gb493) (o := .cells #[.int .i64 a0_0, .int .i64 a0_1, .int .i64 a0_2, .int .i64 a0_3, .bool a0_4, .slice A0_5 l0_5.length c0_5, .slice A0_6 l0_6.length c0_6, .slice A0_7 l0_7.length c0_7] 50 (0, 0)) (by (with_reducible repeat (first | refine ql ?_ _ | refine qn ?_ | refine qo ?_ _)); exact BK493.out) hb); have n10_ := qm (qv (g := gb527) (o := .cells #[.int .i64 t513, .int .i64 t514, .int .i64 t515, .int .i64 t516, .bool t517, .slice Ao26 t549.length co26, .slice Ao27 t550.length co27, .slice Ao28 t551.length co28] 55 (0, 0)) (by (with_reducible repeat (first | refine ql ?_ _ | refine qn ?_ | refine qo ?_ _)); exact BK527.out) hb); have n11_ := qm (qt (by repeat (first | (with_reducible first | exact HB.out | apply qh | apply qi | apply qj | refine qk ?_ GE493.out | refine qk ?_ GE527.out) | exact HB.out)) hb); clear HO_4; clear HO_7; clear HO_528005; clear HO_528006; clear HO_528007; clear HO563; clear HO566; clear HO569; clear BK493; clear BK527; clear HB; have HO_4 := n0_; have HO_7 := n1_; have HO_528005 := n2_; have HO_528006 := n3_; have HO_528007 := n4_; have HO563 := n5_; have HO566 := n6_; have HO569 := n7_; have HO572 := n8_; have BK493 := n9_; have BK527 := n10_; have HB := n11_; clear n0_ n1_ n2_ n3_ n4_ n5_ n6_ n7_ n8_ n9_ n10_ n11_; (try clear hb); (try clear hb2); (try clear hk); (try clear hi); (try clear ho0)))
   (try simp only [Act.put, s1, s2, s3])
   go_cut [87] (fun v87 wc => ∃ (kq : Nat) (x87_66 : Bool), v87 = .bool x87_66 ∧ Aside0 (laws_FnExactFrameBytes.j2 kq t554 t553 x87_66 = some true) ∧ Aside0 (kq ≤ kj40) ∧ Aside0 (Kd.R (Kd.int .u8) 5 wc w.heap.size (fun k_ => some k_ ≠ ((.slice Ao26 t549.length co26) : Value).ownBlock ∧ some k_ ≠ ((.slice Ao27 t550.length co27) : Value).ownBlock) (.slice Ao68 t528.length co68) t554) ∧ Aside0 (Kd.R (Kd.int .u8) 5 wc w.heap.size (fun k_ => some k_ ≠ ((.slice Ao68 t528.length co68) : Value).ownBlock ∧ some k_ ≠ ((.slice Ao27 t550.length co27) : Value).ownBlock) (.slice Ao26 t549.length co26) t549) ∧ Aside0 (Kd.R (Kd.int .u8) 5 wc w.heap.size (fun k_ => some k_ ≠ ((.slice Ao68 t528.length co68) : Value).ownBlock ∧ some k_ ≠ ((.slice Ao26 t549.length co26) : Value).ownBlock) (.slice Ao27 t550.length co27) t550) ∧ Aside0 (Kd.R k105 105 wc w.heap.size (fun _ => True) (.slice Ao28 t551.length co28) t551) ∧ Aside0 (wc.heap[gb493]? = some (.cells #[.int .i64 a0_0, .int .i64 a0_1, .int .i64 a0_2, .int .i64 a0_3, .bool a0_4, (.slice A0_5 l0_5.length c0_5), (.slice A0_6 l0_6.length c0_6), (.slice A0_7 l0_7.length c0_7)] 50 (0, 0))) ∧ Aside0 (wc.heap[gb527]? = some (.cells #[.int .i64 t513, .int .i64 t514, .int .i64 t515, .int .i64 t516, .bool t517, (.slice Ao26 t549.length co26), (.slice Ao27 t550.length co27), (.slice Ao28 t551.length co28)] 55 (0, 0))) ∧ Aside0 (Below w.heap.size w wc))
   case first =>
    have H := HC67.out
    clear HC67
    replace H := Option.bind_eq_some_iff.mp H
    obtain ⟨t574, A770, H⟩ := H
    try dsimp only at H
    have A77 := qm A770
    clear A770
    by_cases c78 : t574 = true
    ·subst c78
     rw [if_pos rfl] at H
     have H' := qm H
     clear H
     obtain ⟨Ao79, co79, eo79⟩ := Kd.R_slice HO572.out
     subst eo79
     obtain ⟨Ao80, co80, eo80⟩ := Kd.R_slice HO_4.out
     subst eo80
     go_wp2_with (first | ((with_reducible refine gate_callee (f := 16) rfl ?_); refine goesL_ (some 81) rfl rfl Try.func16 (by kernel_rfl) rfl #[.slice Ao79 t570.length co79, .slice Ao80 t509.length co80] rfl (by (try simp only [m1, m2, m3]); first | done | rfl) ?_; (with_reducible refine (laws_eqByteS.calls kj40 _ _ t570 _ _ t509 true _ ?side1 ?side2 ?side3 ?side4 A77.out).mono ?_); (case side1 => repeat (first | exact (qe HO572.out).2.2 | (with_reducible refine Kd.C_alloc ?_ _) | (with_reducible refine Kd.C_drewN ?_ _) | (with_reducible refine Kd.C_drew ?_))); (case side2 => exact (qe HO572.out).2.1); (case side3 => repeat (first | exact (qe HO_4.out).2.2 | (with_reducible refine Kd.C_alloc ?_ _) | (with_reducible refine Kd.C_drewN ?_ _) | (with_reducible refine Kd.C_drew ?_))); (case side4 => exact (qe HO_4.out).2.1); rintro e w' ⟨rfl, ⟨nd, rfl⟩⟩; refine ⟨_, rfl, ?_⟩))
     go_meet
     case rel => exact ⟨_, ((t573 != t512)), rfl, H', ⟨by have := HJ10.out; have := HJ40.out; omega⟩, ⟨by (try simp only [hl528005_40]); (try simp only [hl528006_40]); (try simp only [hl528007_40]); (with_reducible repeat (first | apply qb | apply qc | apply qd)); exact qg HO_7.out (fun _ hk => ⟨hk.1.1.1.2.1, hk.1.1.1.2.2⟩)⟩, ⟨by (try simp only [hl528005_40]); (try simp only [hl528006_40]); (try simp only [hl528007_40]); (with_reducible repeat (first | apply qb | apply qc | apply qd)); exact qg HO_528005.out (fun _ hk => ⟨hk.1.1.1.2.1, hk.1.1.1.2.2⟩)⟩, ⟨by (try simp only [hl528005_40]); (try simp only [hl528006_40]); (try simp only [hl528007_40]); (with_reducible repeat (first | apply qb | apply qc | apply qd)); exact qg HO_528006.out (fun _ hk => ⟨hk.1.1.1.2.1, hk.1.1.1.2.2⟩)⟩, ⟨by (try simp only [hl528005_40]); (try simp only [hl528006_40]); (try simp only [hl528007_40]); (with_reducible repeat (first | apply qb | apply qc | apply qd)); exact qg HO_528007.out (fun _ hk => trivial)⟩, ⟨by (try simp only [hl528005_40]); (try simp only [hl528006_40]); (try simp only [hl528007_40]); (with_reducible repeat (first | refine ql ?_ _ | refine qn ?_ | refine qo ?_ _)); exact BK493.out⟩, ⟨by (try simp only [hl528005_40]); (try simp only [hl528006_40]); (try simp only [hl528007_40]); (with_reducible repeat (first | refine ql ?_ _ | refine qn ?_ | refine qo ?_ _)); exact BK527.out⟩, ⟨by repeat (first | (with_reducible first | exact HB.out | apply qh | apply qi | apply qj | refine qk ?_ GE493.out | refine qk ?_ GE527.out) | exact HB.out)⟩⟩
    replace c78 := Bool.eq_false_iff.mpr c78
    subst c78
    rw [if_neg nt] at H
    have H' := qm H
    clear H
    obtain ⟨Ao81, co81, eo81⟩ := Kd.R_slice HO572.out
    subst eo81
    obtain ⟨Ao82, co82, eo82⟩ := Kd.R_slice HO_4.out
    subst eo82
    go_wp2_with (first | ((with_reducible refine gate_callee (f := 16) rfl ?_); refine goesL_ (some 81) rfl rfl Try.func16 (by kernel_rfl) rfl #[.slice Ao81 t570.length co81, .slice Ao82 t509.length co82] rfl (by (try simp only [m1, m2, m3]); first | done | rfl) ?_; (with_reducible refine (laws_eqByteS.calls kj40 _ _ t570 _ _ t509 false _ ?side1 ?side2 ?side3 ?side4 A77.out).mono ?_); (case side1 => repeat (first | exact (qe HO572.out).2.2 | (with_reducible refine Kd.C_alloc ?_ _) | (with_reducible refine Kd.C_drewN ?_ _) | (with_reducible refine Kd.C_drew ?_))); (case side2 => exact (qe HO572.out).2.1); (case side3 => repeat (first | exact (qe HO_4.out).2.2 | (with_reducible refine Kd.C_alloc ?_ _) | (with_reducible refine Kd.C_drewN ?_ _) | (with_reducible refine Kd.C_drew ?_))); (case side4 => exact (qe HO_4.out).2.1); rintro e w' ⟨rfl, ⟨nd, rfl⟩⟩; refine ⟨_, rfl, ?_⟩))
    go_meet
    case rel => exact ⟨_, (true), rfl, H', ⟨by have := HJ10.out; have := HJ40.out; omega⟩, ⟨by (try simp only [hl528005_40]); (try simp only [hl528006_40]); (try simp only [hl528007_40]); (with_reducible repeat (first | apply qb | apply qc | apply qd)); exact qg HO_7.out (fun _ hk => ⟨hk.1.1.1.2.1, hk.1.1.1.2.2⟩)⟩, ⟨by (try simp only [hl528005_40]); (try simp only [hl528006_40]); (try simp only [hl528007_40]); (with_reducible repeat (first | apply qb | apply qc | apply qd)); exact qg HO_528005.out (fun _ hk => ⟨hk.1.1.1.2.1, hk.1.1.1.2.2⟩)⟩, ⟨by (try simp only [hl528005_40]); (try simp only [hl528006_40]); (try simp only [hl528007_40]); (with_reducible repeat (first | apply qb | apply qc | apply qd)); exact qg HO_528006.out (fun _ hk => ⟨hk.1.1.1.2.1, hk.1.1.1.2.2⟩)⟩, ⟨by (try simp only [hl528005_40]); (try simp only [hl528006_40]); (try simp only [hl528007_40]); (with_reducible repeat (first | apply qb | apply qc | apply qd)); exact qg HO_528007.out (fun _ hk => trivial)⟩, ⟨by (try simp only [hl528005_40]); (try simp only [hl528006_40]); (try simp only [hl528007_40]); (with_reducible repeat (first | refine ql ?_ _ | refine qn ?_ | refine qo ?_ _)); exact BK493.out⟩, ⟨by (try simp only [hl528005_40]); (try simp only [hl528006_40]); (try simp only [hl528007_40]); (with_reducible repeat (first | refine ql ?_ _ | refine qn ?_ | refine qo ?_ _)); exact BK527.out⟩, ⟨by repeat (first | (with_reducible first | exact HB.out | apply qh | apply qi | apply qj | refine qk ?_ GE493.out | refine qk ?_ GE527.out) | exact HB.out)⟩⟩
   clear HC67
   try clear c3
   try clear c3b0
   try clear c36
   try clear c39
   try clear c58
   try clear c61
   try clear c61b0
   try clear c64
   try clear c64b0
   try clear c64b1
   obtain ⟨kq, x87_66, rfl, HA, HJ66, HO_7, HO_528005, HO_528006, HO_528007, BK493, BK527, HB⟩ := hcut
   have hl7_66 := (qe HO_7.out).1
   rw [hl7_66] at HO_7
   (try simp only [hl7_66])
   (try simp only [hl7_66] at BK493)
   (try simp only [hl7_66] at BK527)
   (try simp only [hl7_66] at HO_528005)
   (try simp only [hl7_66] at HO_528006)
   (try simp only [hl7_66] at HO_528007)
   cases kq with
   | zero => exact absurd HA.out (by simp [laws_FnExactFrameBytes.j2])
   | succ kj66 => ?_
   have H := HA.out
   clear HA
   simp only [laws_FnExactFrameBytes.j2] at H
   by_cases c83 : x87_66 = true
   ·subst c83
    have H1 : (some false) = some true := by rw [if_pos rfl] at H; exact H
    exact absurd H1 (by simp)
   replace c83 := Bool.eq_false_iff.mpr c83
   subst c83
   rw [if_neg nt] at H
   replace H := Option.bind_eq_some_iff.mp H
   obtain ⟨t575, A840, H⟩ := H
   try dsimp only at H
   have A84 := qm A840
   clear A840
   by_cases c85 : t575 < 0
   ·rw [if_pos c85] at H
    exact absurd H (by simp)
   rw [if_neg c85] at H
   have c85b0 : decide (t575 < 0) = false := decide_eq_false c85
   clear c85
   by_cases c86 : t575 = t553
   ·rw [if_pos c86] at H
    have c86b0 : (t575 == t553) = true := beq_iff_eq.mpr c86
    have c86b1 : (t575 != t553) = false := bne_eq_false_iff_eq.mpr c86
    clear c86
    clear H
    go_wp2_with (first | ((with_reducible refine gate_callee (f := 18) rfl ?_); refine goesL_ (some 90) rfl rfl Try.func18 (by kernel_rfl) rfl #[.slice Ao68 t554.length co68, .int .i64 1] rfl (by (try simp only [m1, m2, m3]); first | done | rfl) ?_; (with_reducible refine (laws_heldByteS.calls kj66 _ _ t554 1 t575 _ ?side1 ?side2 A84.out).mono ?_); (case side1 => repeat (first | exact (qe HO_7.out).2.2 | (with_reducible refine Kd.C_alloc ?_ _) | (with_reducible refine Kd.C_drewN ?_ _) | (with_reducible refine Kd.C_drew ?_))); (case side2 => exact (qe HO_7.out).2.1); rintro e w' ⟨rfl, ⟨nd, rfl⟩⟩; refine ⟨_, rfl, ?_⟩))
    go_ret
    exact ⟨by first | rfl | (simp <;> rfl) | (simp [*] <;> rfl), by repeat (first | (with_reducible first | exact HB.out | apply qh | apply qi | apply qj | refine qk ?_ GE493.out | refine qk ?_ GE527.out) | exact HB.out)⟩
   rw [if_neg c86] at H
   exact absurd H (by simp)
  rw [if_neg c64] at H
  exact absurd H (by simp)
 replace c39 := Bool.eq_false_iff.mpr c39
 subst c39
 have H1 : (some false) = some true := by rw [if_neg nt] at H; exact H
 exact absurd H1 (by simp)
end Go.Proofs.Ytdojcdhlcnlohaa.SFnExactFrameBytes
