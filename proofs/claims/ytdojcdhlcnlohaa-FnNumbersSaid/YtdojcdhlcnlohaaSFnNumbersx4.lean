/- The walk of functions that the law FnNumbers uses, written by program. -/
import Derived.Test.YtdojcdhlcnlohaaSFnNumbersx0
import Derived.Test.YtdojcdhlcnlohaaSFnNumbersx2
import Derived.Test.YtdojcdhlcnlohaaSFnNumbersx3
namespace Go.Proofs.Ytdojcdhlcnlohaa.SFnNumbers
open Go.RowKit Go.Proofs.YtdojcdhlcnlohaaW.PrintWords Go.Proofs.YtdojcdhlcnlohaaW.PrintLast Go.Proofs.YtdojcdhlcnlohaaW.PrintMore
attribute [local go_sem] max2_int min2_int max_two min_two max_three min_three max_four min_four   -- for this text's walks alone
set_option linter.unusedVariables false
set_option linter.unusedSimpArgs false

/-! ### laws_FnNumbers: function 13 -/
mutual
def laws_FnNumbers.j0 : Nat → List Int → List Int → Bool → Option (Bool)
  | 0, _, _, _ => none
  | k + 1, x0, x1, x21 => if x21 = true then (some true) else ((spec_DrawNumBytes.f k x0).bind fun bt182 => ((impl_NumBytes.f k bt182.1 bt182.2).bind fun t184 => ((spec_NumBytes.f k bt182.1 bt182.2).bind fun t185 => (if t184 = t185 then (if t184 = 0 then (some true) else (laws_FnNumbers.l0 k x1 bt182.1 bt182.2 t184 1 0)) else (some false)))))
def laws_FnNumbers.l0 : Nat → List Int → Int → Int → Int → Int → Int → Option (Bool)
  | 0, _, _, _, _, _, _ => none
  | k + 1, x1, x5, x6, x7, x8, x9 => if x9 < x7 then (laws_FnNumbers.l0 k x1 x5 x6 x7 (wrap64 (x8 * 256)) (wrap64 (x9 + 1))) else ((impl_CutNum.f x5 x7).bind fun t186 => (if x8 = 0 then (none) else (if t186 = (Int.tmod x5 x8) then (laws_FnNumbers.l1 k x1 x5 x6 x7 x8 t186 0) else (some false))))
def laws_FnNumbers.l1 : Nat → List Int → Int → Int → Int → Int → Int → Int → Option (Bool)
  | 0, _, _, _, _, _, _, _ => none
  | k + 1, x1, x5, x6, x7, x8, x10, x11 => if x11 < 8 then ((laws_at.f x1 x11 1000).bind fun t187 => (if x11 = 0 then (laws_FnNumbers.j3 k x1 x5 x6 x7 x8 x10 x11 x6) else (laws_FnNumbers.j3 k x1 x5 x6 x7 x8 x10 x11 (wrap64 (x6 + (wrap64 (Int.tdiv (wrap64 (t187 * (wrap64 ((wrap64 ((wrap64 (x5 + (wrap64 (Int.tdiv x8 2)))) - 2)) - x6)))) 1000))))))) else (some true)
def laws_FnNumbers.j3 : Nat → List Int → Int → Int → Int → Int → Int → Int → Int → Option (Bool)
  | 0, _, _, _, _, _, _, _, _ => none
  | k + 1, x1, x5, x6, x7, x8, x10, x11, x13 => if x11 = 1 then (laws_FnNumbers.j4 k x1 x5 x6 x7 x8 x10 x11 (wrap64 ((wrap64 (x5 + (wrap64 (Int.tdiv x8 2)))) - 2))) else (laws_FnNumbers.j4 k x1 x5 x6 x7 x8 x10 x11 x13)
def laws_FnNumbers.j4 : Nat → List Int → Int → Int → Int → Int → Int → Int → Int → Option (Bool)
  | 0, _, _, _, _, _, _, _, _ => none
  | k + 1, x1, x5, x6, x7, x8, x10, x11, x13 => if x13 < x6 then (laws_FnNumbers.j5 k x1 x5 x6 x7 x8 x10 x11 x13 true) else (if x13 > (wrap64 ((wrap64 (x5 + (wrap64 (Int.tdiv x8 2)))) - 2)) then (laws_FnNumbers.j5 k x1 x5 x6 x7 x8 x10 x11 x13 true) else (laws_FnNumbers.j5 k x1 x5 x6 x7 x8 x10 x11 x13 (decide (x13 > 4611686018427387903))))
def laws_FnNumbers.j5 : Nat → List Int → Int → Int → Int → Int → Int → Int → Int → Bool → Option (Bool)
  | 0, _, _, _, _, _, _, _, _, _ => none
  | k + 1, x1, x5, x6, x7, x8, x10, x11, x13, x96 => if x96 = true then (laws_FnNumbers.l1 k x1 x5 x6 x7 x8 x10 (wrap64 (x11 + 1))) else ((impl_ExpandNum.f k x13 x10 x7).bind fun t188 => (if t188 = x5 then (laws_FnNumbers.l1 k x1 x5 x6 x7 x8 x10 (wrap64 (x11 + 1))) else (some false)))
end
def laws_FnNumbers.f (k : Nat) (l0 : List Int) (l1 : List Int) : Option (Bool) := if (l0.length : Int) > 1048576 then (laws_FnNumbers.j0 k l0 l1 true) else (laws_FnNumbers.j0 k l0 l1 (decide ((l1.length : Int) > 1048576)))
theorem laws_FnNumbers.mono_l : ∀ k, (∀ y0 y1 y2, LeO (laws_FnNumbers.j0 k y0 y1 y2) (laws_FnNumbers.j0 (k + 1) y0 y1 y2)) ∧ (∀ y0 y1 y2 y3 y4 y5, LeO (laws_FnNumbers.l0 k y0 y1 y2 y3 y4 y5) (laws_FnNumbers.l0 (k + 1) y0 y1 y2 y3 y4 y5)) ∧ (∀ y0 y1 y2 y3 y4 y5 y6, LeO (laws_FnNumbers.l1 k y0 y1 y2 y3 y4 y5 y6) (laws_FnNumbers.l1 (k + 1) y0 y1 y2 y3 y4 y5 y6)) ∧ (∀ y0 y1 y2 y3 y4 y5 y6 y7, LeO (laws_FnNumbers.j3 k y0 y1 y2 y3 y4 y5 y6 y7) (laws_FnNumbers.j3 (k + 1) y0 y1 y2 y3 y4 y5 y6 y7)) ∧ (∀ y0 y1 y2 y3 y4 y5 y6 y7, LeO (laws_FnNumbers.j4 k y0 y1 y2 y3 y4 y5 y6 y7) (laws_FnNumbers.j4 (k + 1) y0 y1 y2 y3 y4 y5 y6 y7)) ∧ (∀ y0 y1 y2 y3 y4 y5 y6 y7 y8, LeO (laws_FnNumbers.j5 k y0 y1 y2 y3 y4 y5 y6 y7 y8) (laws_FnNumbers.j5 (k + 1) y0 y1 y2 y3 y4 y5 y6 y7 y8))
  | 0 => ⟨fun _ _ _ r h => by simp [laws_FnNumbers.j0] at h, fun _ _ _ _ _ _ r h => by simp [laws_FnNumbers.l0] at h, fun _ _ _ _ _ _ _ r h => by simp [laws_FnNumbers.l1] at h, fun _ _ _ _ _ _ _ _ r h => by simp [laws_FnNumbers.j3] at h, fun _ _ _ _ _ _ _ _ r h => by simp [laws_FnNumbers.j4] at h, fun _ _ _ _ _ _ _ _ _ r h => by simp [laws_FnNumbers.j5] at h⟩
  | k + 1 => by
    obtain ⟨ih0, ih1, ih2, ih3, ih4, ih5⟩ := laws_FnNumbers.mono_l k
    refine ⟨?_, ?_, ?_, ?_, ?_, ?_⟩
    · intro y0 y1 y2
      unfold laws_FnNumbers.j0
      repeat' first
      | (with_reducible exact ih0 _ _ _)
      | (with_reducible exact ih1 _ _ _ _ _ _)
      | (with_reducible exact ih2 _ _ _ _ _ _ _)
      | (with_reducible exact ih3 _ _ _ _ _ _ _ _)
      | (with_reducible exact ih4 _ _ _ _ _ _ _ _)
      | (with_reducible exact ih5 _ _ _ _ _ _ _ _ _)
      | (with_reducible exact impl_ExpandNum.mono _ _ _ _)
      | (with_reducible exact impl_NumBytes.mono _ _ _)
      | (with_reducible exact spec_DrawNumBytes.mono _ _)
      | (with_reducible exact spec_NumBytes.mono _ _ _)
      | (with_reducible exact LeO.refl _)
      | (with_reducible exact LeO.none _)
      | (with_reducible refine LeO.ite ?_ ?_)
      | (with_reducible refine LeO.bind ?_ (fun _ => ?_))
      | exact ih0 _ _ _
      | exact ih1 _ _ _ _ _ _
      | exact ih2 _ _ _ _ _ _ _
      | exact ih3 _ _ _ _ _ _ _ _
      | exact ih4 _ _ _ _ _ _ _ _
      | exact ih5 _ _ _ _ _ _ _ _ _
      | exact impl_ExpandNum.mono _ _ _ _
      | exact impl_NumBytes.mono _ _ _
      | exact spec_DrawNumBytes.mono _ _
      | exact spec_NumBytes.mono _ _ _
      | exact LeO.none _
      | refine LeO.ite ?_ ?_
      | refine LeO.bind ?_ (fun _ => ?_)
    · intro y0 y1 y2 y3 y4 y5
      unfold laws_FnNumbers.l0
      repeat' first
      | (with_reducible exact ih0 _ _ _)
      | (with_reducible exact ih1 _ _ _ _ _ _)
      | (with_reducible exact ih2 _ _ _ _ _ _ _)
      | (with_reducible exact ih3 _ _ _ _ _ _ _ _)
      | (with_reducible exact ih4 _ _ _ _ _ _ _ _)
      | (with_reducible exact ih5 _ _ _ _ _ _ _ _ _)
      | (with_reducible exact impl_ExpandNum.mono _ _ _ _)
      | (with_reducible exact impl_NumBytes.mono _ _ _)
      | (with_reducible exact spec_DrawNumBytes.mono _ _)
      | (with_reducible exact spec_NumBytes.mono _ _ _)
      | (with_reducible exact LeO.refl _)
      | (with_reducible exact LeO.none _)
      | (with_reducible refine LeO.ite ?_ ?_)
      | (with_reducible refine LeO.bind ?_ (fun _ => ?_))
      | exact ih0 _ _ _
      | exact ih1 _ _ _ _ _ _
      | exact ih2 _ _ _ _ _ _ _
      | exact ih3 _ _ _ _ _ _ _ _
      | exact ih4 _ _ _ _ _ _ _ _
      | exact ih5 _ _ _ _ _ _ _ _ _
      | exact impl_ExpandNum.mono _ _ _ _
      | exact impl_NumBytes.mono _ _ _
      | exact spec_DrawNumBytes.mono _ _
      | exact spec_NumBytes.mono _ _ _
      | exact LeO.none _
      | refine LeO.ite ?_ ?_
      | refine LeO.bind ?_ (fun _ => ?_)
    · intro y0 y1 y2 y3 y4 y5 y6
      unfold laws_FnNumbers.l1
      repeat' first
      | (with_reducible exact ih0 _ _ _)
      | (with_reducible exact ih1 _ _ _ _ _ _)
      | (with_reducible exact ih2 _ _ _ _ _ _ _)
      | (with_reducible exact ih3 _ _ _ _ _ _ _ _)
      | (with_reducible exact ih4 _ _ _ _ _ _ _ _)
      | (with_reducible exact ih5 _ _ _ _ _ _ _ _ _)
      | (with_reducible exact impl_ExpandNum.mono _ _ _ _)
      | (with_reducible exact impl_NumBytes.mono _ _ _)
      | (with_reducible exact spec_DrawNumBytes.mono _ _)
      | (with_reducible exact spec_NumBytes.mono _ _ _)
      | (with_reducible exact LeO.refl _)
      | (with_reducible exact LeO.none _)
      | (with_reducible refine LeO.ite ?_ ?_)
      | (with_reducible refine LeO.bind ?_ (fun _ => ?_))
      | exact ih0 _ _ _
      | exact ih1 _ _ _ _ _ _
      | exact ih2 _ _ _ _ _ _ _
      | exact ih3 _ _ _ _ _ _ _ _
      | exact ih4 _ _ _ _ _ _ _ _
      | exact ih5 _ _ _ _ _ _ _ _ _
      | exact impl_ExpandNum.mono _ _ _ _
      | exact impl_NumBytes.mono _ _ _
      | exact spec_DrawNumBytes.mono _ _
      | exact spec_NumBytes.mono _ _ _
      | exact LeO.none _
      | refine LeO.ite ?_ ?_
      | refine LeO.bind ?_ (fun _ => ?_)
    · intro y0 y1 y2 y3 y4 y5 y6 y7
      unfold laws_FnNumbers.j3
      repeat' first
      | (with_reducible exact ih0 _ _ _)
      | (with_reducible exact ih1 _ _ _ _ _ _)
      | (with_reducible exact ih2 _ _ _ _ _ _ _)
      | (with_reducible exact ih3 _ _ _ _ _ _ _ _)
      | (with_reducible exact ih4 _ _ _ _ _ _ _ _)
      | (with_reducible exact ih5 _ _ _ _ _ _ _ _ _)
      | (with_reducible exact impl_ExpandNum.mono _ _ _ _)
      | (with_reducible exact impl_NumBytes.mono _ _ _)
      | (with_reducible exact spec_DrawNumBytes.mono _ _)
      | (with_reducible exact spec_NumBytes.mono _ _ _)
      | (with_reducible exact LeO.refl _)
      | (with_reducible exact LeO.none _)
      | (with_reducible refine LeO.ite ?_ ?_)
      | (with_reducible refine LeO.bind ?_ (fun _ => ?_))
      | exact ih0 _ _ _
      | exact ih1 _ _ _ _ _ _
      | exact ih2 _ _ _ _ _ _ _
      | exact ih3 _ _ _ _ _ _ _ _
      | exact ih4 _ _ _ _ _ _ _ _
      | exact ih5 _ _ _ _ _ _ _ _ _
      | exact impl_ExpandNum.mono _ _ _ _
      | exact impl_NumBytes.mono _ _ _
      | exact spec_DrawNumBytes.mono _ _
      | exact spec_NumBytes.mono _ _ _
      | exact LeO.none _
      | refine LeO.ite ?_ ?_
      | refine LeO.bind ?_ (fun _ => ?_)
    · intro y0 y1 y2 y3 y4 y5 y6 y7
      unfold laws_FnNumbers.j4
      repeat' first
      | (with_reducible exact ih0 _ _ _)
      | (with_reducible exact ih1 _ _ _ _ _ _)
      | (with_reducible exact ih2 _ _ _ _ _ _ _)
      | (with_reducible exact ih3 _ _ _ _ _ _ _ _)
      | (with_reducible exact ih4 _ _ _ _ _ _ _ _)
      | (with_reducible exact ih5 _ _ _ _ _ _ _ _ _)
      | (with_reducible exact impl_ExpandNum.mono _ _ _ _)
      | (with_reducible exact impl_NumBytes.mono _ _ _)
      | (with_reducible exact spec_DrawNumBytes.mono _ _)
      | (with_reducible exact spec_NumBytes.mono _ _ _)
      | (with_reducible exact LeO.refl _)
      | (with_reducible exact LeO.none _)
      | (with_reducible refine LeO.ite ?_ ?_)
      | (with_reducible refine LeO.bind ?_ (fun _ => ?_))
      | exact ih0 _ _ _
      | exact ih1 _ _ _ _ _ _
      | exact ih2 _ _ _ _ _ _ _
      | exact ih3 _ _ _ _ _ _ _ _
      | exact ih4 _ _ _ _ _ _ _ _
      | exact ih5 _ _ _ _ _ _ _ _ _
      | exact impl_ExpandNum.mono _ _ _ _
      | exact impl_NumBytes.mono _ _ _
      | exact spec_DrawNumBytes.mono _ _
      | exact spec_NumBytes.mono _ _ _
      | exact LeO.none _
      | refine LeO.ite ?_ ?_
      | refine LeO.bind ?_ (fun _ => ?_)
    · intro y0 y1 y2 y3 y4 y5 y6 y7 y8
      unfold laws_FnNumbers.j5
      repeat' first
      | (with_reducible exact ih0 _ _ _)
      | (with_reducible exact ih1 _ _ _ _ _ _)
      | (with_reducible exact ih2 _ _ _ _ _ _ _)
      | (with_reducible exact ih3 _ _ _ _ _ _ _ _)
      | (with_reducible exact ih4 _ _ _ _ _ _ _ _)
      | (with_reducible exact ih5 _ _ _ _ _ _ _ _ _)
      | (with_reducible exact impl_ExpandNum.mono _ _ _ _)
      | (with_reducible exact impl_NumBytes.mono _ _ _)
      | (with_reducible exact spec_DrawNumBytes.mono _ _)
      | (with_reducible exact spec_NumBytes.mono _ _ _)
      | (with_reducible exact LeO.refl _)
      | (with_reducible exact LeO.none _)
      | (with_reducible refine LeO.ite ?_ ?_)
      | (with_reducible refine LeO.bind ?_ (fun _ => ?_))
      | exact ih0 _ _ _
      | exact ih1 _ _ _ _ _ _
      | exact ih2 _ _ _ _ _ _ _
      | exact ih3 _ _ _ _ _ _ _ _
      | exact ih4 _ _ _ _ _ _ _ _
      | exact ih5 _ _ _ _ _ _ _ _ _
      | exact impl_ExpandNum.mono _ _ _ _
      | exact impl_NumBytes.mono _ _ _
      | exact spec_DrawNumBytes.mono _ _
      | exact spec_NumBytes.mono _ _ _
      | exact LeO.none _
      | refine LeO.ite ?_ ?_
      | refine LeO.bind ?_ (fun _ => ?_)
theorem laws_FnNumbers.mono : ∀ a0 a1 k, LeO (laws_FnNumbers.f k a0 a1) (laws_FnNumbers.f (k + 1) a0 a1) := by
  intro a0 a1 k
  obtain ⟨ih0, ih1, ih2, ih3, ih4, ih5⟩ := laws_FnNumbers.mono_l k
  unfold laws_FnNumbers.f
  repeat' first
      | (with_reducible exact ih0 _ _ _)
      | (with_reducible exact ih1 _ _ _ _ _ _)
      | (with_reducible exact ih2 _ _ _ _ _ _ _)
      | (with_reducible exact ih3 _ _ _ _ _ _ _ _)
      | (with_reducible exact ih4 _ _ _ _ _ _ _ _)
      | (with_reducible exact ih5 _ _ _ _ _ _ _ _ _)
      | (with_reducible exact impl_ExpandNum.mono _ _ _ _)
      | (with_reducible exact impl_NumBytes.mono _ _ _)
      | (with_reducible exact spec_DrawNumBytes.mono _ _)
      | (with_reducible exact spec_NumBytes.mono _ _ _)
      | (with_reducible exact LeO.refl _)
      | (with_reducible exact LeO.none _)
      | (with_reducible refine LeO.ite ?_ ?_)
      | (with_reducible refine LeO.bind ?_ (fun _ => ?_))
      | exact ih0 _ _ _
      | exact ih1 _ _ _ _ _ _
      | exact ih2 _ _ _ _ _ _ _
      | exact ih3 _ _ _ _ _ _ _ _
      | exact ih4 _ _ _ _ _ _ _ _
      | exact ih5 _ _ _ _ _ _ _ _ _
      | exact impl_ExpandNum.mono _ _ _ _
      | exact impl_NumBytes.mono _ _ _
      | exact spec_DrawNumBytes.mono _ _
      | exact spec_NumBytes.mono _ _ _
      | exact LeO.none _
      | refine LeO.ite ?_ ?_
      | refine LeO.bind ?_ (fun _ => ?_)
set_option maxHeartbeats 8000000 in
set_option maxRecDepth 100000 in
theorem laws_FnNumbers.calls (k : Nat) (A0 : Option Addr) (c0 : Nat) (l0 : List Int) (A1 : Option Addr) (c1 : Nat) (l1 : List Int) (w : World) (hr0 : Kd.C (Kd.int .u8) w A0 l0.length l0) (hc0 : l0.length ≤ c0) (hr1 : Kd.C (Kd.int .u8) w A1 l1.length l1) (hc1 : l1.length ≤ c1) (h : laws_FnNumbers.f k l0 l1 = some true) :
    Calls Try.prog 13 #[.slice A0 l0.length c0, .slice A1 l1.length c1] w fun e w' => e = .returned (.bool true) ∧ Below w.heap.size w w' := by
  have HR0 := Aside0.mk hr0
  have HC0 := Aside0.mk hc0
  clear hr0 hc0
  have HR1 := Aside0.mk hr1
  have HC1 := Aside0.mk hc1
  clear hr1 hc1
  have HB := Aside0.mk (Below.refl w.heap.size w)
  have H : (if (l0.length : Int) > 1048576 then (laws_FnNumbers.j0 k l0 l1 true) else (laws_FnNumbers.j0 k l0 l1 (decide ((l1.length : Int) > 1048576)))) = some true := h
  clear h
  have HC3 := Aside0.mk H
  clear H
  go_enter Try.func13, Try.ntmps13
  go_upto_region 1 with (fail)
  go_cut [21] (fun v21 wc => ∃ (kq : Nat) (x21_2 : Bool), v21 = .bool x21_2 ∧ Aside0 (laws_FnNumbers.j0 kq l0 l1 x21_2 = some true) ∧ Aside0 (kq ≤ k) ∧ Aside0 (Below w.heap.size w wc))
  case first =>
    have H := HC3.out
    clear HC3
    by_cases c4 : (l0.length : Int) > 1048576
    · rw [if_pos c4] at H
      have c4b0 : decide (1048576 < (l0.length : Int)) = true := decide_eq_true c4
      have c4b1 : decide (1048576 < l0.length) = true := decide_eq_true (by omega)
      clear c4
      (first | rw [c4b0] | (simp only [i64_w, i32_w]; rw [c4b0]) | skip)
      have H' := Aside0.mk H
      clear H
      go_wp2
      go_meet
      case rel => exact ⟨_, (true), (by first | rfl | (simp; done) | (simp [*]; done)), H', ⟨by first | omega | exact Nat.le_refl _⟩, ⟨by repeat (first | (with_reducible first | exact HB.out | apply below_alloc | apply pw_below_drewN | apply below_drew1) | exact HB.out)⟩⟩
    · rw [if_neg c4] at H
      have c4b0 : decide (1048576 < (l0.length : Int)) = false := decide_eq_false c4
      have c4b1 : decide (1048576 < l0.length) = false := decide_eq_false (by omega)
      clear c4
      (first | rw [c4b0] | (simp only [i64_w, i32_w]; rw [c4b0]) | skip)
      have H' := Aside0.mk H
      clear H
      go_wp2
      go_meet
      case rel => exact ⟨_, (decide ((l1.length : Int) > 1048576)), (by first | rfl | (simp; done) | (simp [*]; done)), H', ⟨by first | omega | exact Nat.le_refl _⟩, ⟨by repeat (first | (with_reducible first | exact HB.out | apply below_alloc | apply pw_below_drewN | apply below_drew1) | exact HB.out)⟩⟩
  case rest =>
    clear HC3
    try clear c1
    try clear p2
    try clear c4
    try clear c4b0
    try clear c4b1
    obtain ⟨kq, x21_2, rfl, HA, HJ2, HB⟩ := hcut
    cases kq with
    | zero => exact absurd HA.out (by simp [laws_FnNumbers.j0])
    | succ kj2 =>
      have H := HA.out
      clear HA
      simp only [laws_FnNumbers.j0] at H
      by_cases c5 : x21_2 = true
      · subst c5
        have H1 : (some true) = some true := rfl
        clear H
        have H := H1
        clear H1
        clear H
        go_wp2
        go_ret
        exact ⟨by first | rfl | (simp [errW_none, errW_some] <;> rfl) | (simp [*, errW_none, errW_some] <;> rfl), by repeat (first | (with_reducible first | exact HB.out | apply below_alloc | apply pw_below_drewN | apply below_drew1) | exact HB.out)⟩
      · replace c5 := Bool.eq_false_iff.mpr c5
        subst c5
        have H1 : ((spec_DrawNumBytes.f kj2 l0).bind fun bt182 => ((impl_NumBytes.f kj2 bt182.1 bt182.2).bind fun t184 => ((spec_NumBytes.f kj2 bt182.1 bt182.2).bind fun t185 => (if t184 = t185 then (if t184 = 0 then (some true) else (laws_FnNumbers.l0 kj2 l1 bt182.1 bt182.2 t184 1 0)) else (some false))))) = some true := by rw [if_neg (show ¬ (false = true) by decide)] at H; exact H
        clear H
        have H := H1
        clear H1
        replace H := Option.bind_eq_some_iff.mp H
        obtain ⟨⟨t182, t183⟩, A60, H⟩ := H
        replace H : ((impl_NumBytes.f kj2 t182 t183).bind fun t184 => ((spec_NumBytes.f kj2 t182 t183).bind fun t185 => (if t184 = t185 then (if t184 = 0 then (some true) else (laws_FnNumbers.l0 kj2 l1 t182 t183 t184 1 0)) else (some false)))) = some true := H
        have A6 := Aside0.mk A60
        clear A60
        replace H := Option.bind_eq_some_iff.mp H
        obtain ⟨t184, A70, H⟩ := H
        replace H : ((spec_NumBytes.f kj2 t182 t183).bind fun t185 => (if t184 = t185 then (if t184 = 0 then (some true) else (laws_FnNumbers.l0 kj2 l1 t182 t183 t184 1 0)) else (some false))) = some true := H
        have A7 := Aside0.mk A70
        clear A70
        replace H := Option.bind_eq_some_iff.mp H
        obtain ⟨t185, A80, H⟩ := H
        replace H : (if t184 = t185 then (if t184 = 0 then (some true) else (laws_FnNumbers.l0 kj2 l1 t182 t183 t184 1 0)) else (some false)) = some true := H
        have A8 := Aside0.mk A80
        clear A80
        by_cases c9 : t184 = t185
        · rw [if_pos c9] at H
          have c9b0 : (t184 == t185) = true := beq_iff_eq.mpr c9
          have c9b1 : (t184 != t185) = false := bne_eq_false_iff_eq.mpr c9
          clear c9
          by_cases c10 : t184 = 0
          · rw [if_pos c10] at H
            have c10b0 : (t184 == 0) = true := beq_iff_eq.mpr c10
            have c10b1 : (t184 != 0) = false := bne_eq_false_iff_eq.mpr c10
            clear c10
            clear H
            go_wp2_with (first | ((with_reducible refine gate_callee (f := 50) rfl ?_); refine goesL_ (some 24) rfl rfl Try.func50 (by kernel_rfl) rfl #[.slice A0 l0.length c0] rfl (by (try simp only [List.map_toArray, List.map_cons, List.map_nil]); first | done | rfl | (simp only [List.length_drop, List.length_take]; rfl)) ?_; (with_reducible refine (spec_DrawNumBytes.calls kj2 _ _ l0 t182 t183 _ ?side1 ?side2 A6.out).mono ?_); (case side1 => repeat (first | exact (Kd.C_below HR0.out HB.out) | (with_reducible refine Kd.C_alloc ?_ _) | (with_reducible refine Kd.C_drewN ?_ _) | (with_reducible refine Kd.C_drew ?_))); (case side2 => exact HC0.out); rintro e w11 ⟨rfl, hb⟩; refine ⟨_, rfl, ?_⟩; have n0_ := Aside0.mk (below_step (by repeat (first | (with_reducible first | exact HB.out | apply below_alloc | apply pw_below_drewN | apply below_drew1) | exact HB.out)) hb); clear HB; have HB := n0_; clear n0_; (try clear hb); (try clear hb2); (try clear hk); (try clear hi)) | ((with_reducible refine gate_callee (f := 51) rfl ?_); refine goesL_ (some 29) rfl rfl Try.func51 (by kernel_rfl) rfl #[.int .i64 t182, .int .i64 t183] rfl (by (try simp only [List.map_toArray, List.map_cons, List.map_nil]); first | done | rfl | (simp only [List.length_drop, List.length_take]; rfl)) ?_; (with_reducible refine (impl_NumBytes.calls kj2 t182 t183 t184 _ A7.out).mono ?_); rintro e w' ⟨rfl, ⟨nd, rfl⟩⟩; refine ⟨_, rfl, ?_⟩) | ((with_reducible refine gate_callee (f := 52) rfl ?_); refine goesL_ (some 33) rfl rfl Try.func52 (by kernel_rfl) rfl #[.int .i64 t182, .int .i64 t183] rfl (by (try simp only [List.map_toArray, List.map_cons, List.map_nil]); first | done | rfl | (simp only [List.length_drop, List.length_take]; rfl)) ?_; (with_reducible refine (spec_NumBytes.calls kj2 t182 t183 t185 _ A8.out).mono ?_); rintro e w' ⟨rfl, ⟨nd, rfl⟩⟩; refine ⟨_, rfl, ?_⟩))
            go_ret
            exact ⟨by first | rfl | (simp [errW_none, errW_some] <;> rfl) | (simp [*, errW_none, errW_some] <;> rfl), by repeat (first | (with_reducible first | exact HB.out | apply below_alloc | apply pw_below_drewN | apply below_drew1) | exact HB.out)⟩
          · rw [if_neg c10] at H
            have c10b0 : (t184 == 0) = false := beq_eq_false_iff_ne.mpr c10
            have c10b1 : (t184 != 0) = true := bne_iff_ne.mpr c10
            have H' := Aside0.mk H
            clear H
            go_wp2_with (first | ((with_reducible refine gate_callee (f := 50) rfl ?_); refine goesL_ (some 24) rfl rfl Try.func50 (by kernel_rfl) rfl #[.slice A0 l0.length c0] rfl (by (try simp only [List.map_toArray, List.map_cons, List.map_nil]); first | done | rfl | (simp only [List.length_drop, List.length_take]; rfl)) ?_; (with_reducible refine (spec_DrawNumBytes.calls kj2 _ _ l0 t182 t183 _ ?side1 ?side2 A6.out).mono ?_); (case side1 => repeat (first | exact (Kd.C_below HR0.out HB.out) | (with_reducible refine Kd.C_alloc ?_ _) | (with_reducible refine Kd.C_drewN ?_ _) | (with_reducible refine Kd.C_drew ?_))); (case side2 => exact HC0.out); rintro e w12 ⟨rfl, hb⟩; refine ⟨_, rfl, ?_⟩; have n0_ := Aside0.mk (below_step (by repeat (first | (with_reducible first | exact HB.out | apply below_alloc | apply pw_below_drewN | apply below_drew1) | exact HB.out)) hb); clear HB; have HB := n0_; clear n0_; (try clear hb); (try clear hb2); (try clear hk); (try clear hi)) | ((with_reducible refine gate_callee (f := 51) rfl ?_); refine goesL_ (some 29) rfl rfl Try.func51 (by kernel_rfl) rfl #[.int .i64 t182, .int .i64 t183] rfl (by (try simp only [List.map_toArray, List.map_cons, List.map_nil]); first | done | rfl | (simp only [List.length_drop, List.length_take]; rfl)) ?_; (with_reducible refine (impl_NumBytes.calls kj2 t182 t183 t184 _ A7.out).mono ?_); rintro e w' ⟨rfl, ⟨nd, rfl⟩⟩; refine ⟨_, rfl, ?_⟩) | ((with_reducible refine gate_callee (f := 52) rfl ?_); refine goesL_ (some 33) rfl rfl Try.func52 (by kernel_rfl) rfl #[.int .i64 t182, .int .i64 t183] rfl (by (try simp only [List.map_toArray, List.map_cons, List.map_nil]); first | done | rfl | (simp only [List.length_drop, List.length_take]; rfl)) ?_; (with_reducible refine (spec_NumBytes.calls kj2 t182 t183 t185 _ A8.out).mono ?_); rintro e w' ⟨rfl, ⟨nd, rfl⟩⟩; refine ⟨_, rfl, ?_⟩))
            go_loopg [8, 9] kj2 (fun kq v8 v9 w' => ∃ (x8_2 : Int) (x9_2 : Int), v8 = .int .i64 x8_2 ∧ v9 = .int .i64 x9_2 ∧ Aside0 (laws_FnNumbers.l0 kq l1 t182 t183 t184 x8_2 x9_2 = some true) ∧ Aside0 (kq ≤ kj2) ∧ Aside0 (Below w.heap.size w w'))
            case atStart => exact ⟨(1), (0), (by first | rfl | (simp; done) | (simp [*]; done)), (by first | rfl | (simp; done) | (simp [*]; done)), H', ⟨Nat.le_refl _⟩, ⟨by repeat (first | (with_reducible first | exact HB.out | apply below_alloc | apply pw_below_drewN | apply below_drew1) | exact HB.out)⟩⟩
            case round =>
              clear H'
              try clear c1
              try clear p2
              try clear c4
              try clear c4b0
              try clear c4b1
              try clear c5
              try clear c9
              try clear c9b0
              try clear c9b1
              try clear c10
              try clear c10b0
              try clear c10b1
              try clear p2
              obtain ⟨x8_2, x9_2, rfl, rfl, HA, HK2, HB⟩ := hrel
              cases gk with
              | zero => exact absurd HA.out (by simp [laws_FnNumbers.l0])
              | succ k2 =>
                have H := HA.out
                clear HA
                simp only [laws_FnNumbers.l0] at H
                by_cases c13 : x9_2 < t184
                · rw [if_pos c13] at H
                  have c13b0 : decide (x9_2 < t184) = true := decide_eq_true c13
                  clear c13
                  have H' := Aside0.mk H
                  clear H
                  go_wp2
                  go_roundg k2
                  case measure => have := HJ2.out; have := HK2.out; omega
                  case rel => exact ⟨(wrap64 (x8_2 * 256)), (wrap64 (x9_2 + 1)), (by first | rfl | (simp; done) | (simp [*]; done)), (by first | rfl | (simp; done) | (simp [*]; done)), H', ⟨by have := HJ2.out; have := HK2.out; omega⟩, ⟨by repeat (first | (with_reducible first | exact HB.out | apply below_alloc | apply pw_below_drewN | apply below_drew1) | exact HB.out)⟩⟩
                · rw [if_neg c13] at H
                  have c13b0 : decide (x9_2 < t184) = false := decide_eq_false c13
                  clear c13
                  replace H := Option.bind_eq_some_iff.mp H
                  obtain ⟨t186, A140, H⟩ := H
                  replace H : (if x8_2 = 0 then (none) else (if t186 = (Int.tmod t182 x8_2) then (laws_FnNumbers.l1 k2 l1 t182 t183 t184 x8_2 t186 0) else (some false))) = some true := H
                  have A14 := Aside0.mk A140
                  clear A140
                  by_cases c15 : x8_2 = 0
                  · rw [if_pos c15] at H
                    exact absurd H (by simp)
                  · rw [if_neg c15] at H
                    have c15b0 : (x8_2 == 0) = false := beq_eq_false_iff_ne.mpr c15
                    have c15b1 : (x8_2 != 0) = true := bne_iff_ne.mpr c15
                    by_cases c16 : t186 = (Int.tmod t182 x8_2)
                    · rw [if_pos c16] at H
                      have c16b0 : (t186 == (Int.tmod t182 x8_2)) = true := beq_iff_eq.mpr c16
                      have c16b1 : (t186 != (Int.tmod t182 x8_2)) = false := bne_eq_false_iff_eq.mpr c16
                      clear c16
                      have H' := Aside0.mk H
                      clear H
                      go_wp2_with (first | ((with_reducible refine gate_callee (f := 53) rfl ?_); refine goesL_ (some 46) rfl rfl Try.func53 (by kernel_rfl) rfl #[.int .i64 t182, .int .i64 t184] rfl (by (try simp only [List.map_toArray, List.map_cons, List.map_nil]); first | done | rfl | (simp only [List.length_drop, List.length_take]; rfl)) ?_; (with_reducible refine (impl_CutNum.calls t182 t184 t186 _ A14.out).mono ?_); rintro e w' ⟨rfl, ⟨nd, rfl⟩⟩; refine ⟨_, rfl, ?_⟩))
                      go_loopg [11] k2 (fun kq v11 w' => ∃ (x11_3 : Int), v11 = .int .i64 x11_3 ∧ Aside0 (laws_FnNumbers.l1 kq l1 t182 t183 t184 x8_2 t186 x11_3 = some true) ∧ Aside0 (kq ≤ k2) ∧ Aside0 (Below w.heap.size w w'))
                      case atStart => exact ⟨(0), (by first | rfl | (simp; done) | (simp [*]; done)), H', ⟨Nat.le_refl _⟩, ⟨by repeat (first | (with_reducible first | exact HB.out | apply below_alloc | apply pw_below_drewN | apply below_drew1) | exact HB.out)⟩⟩
                      case round =>
                        clear H'
                        try clear c1
                        try clear p2
                        try clear c4
                        try clear c4b0
                        try clear c4b1
                        try clear c5
                        try clear p6
                        try clear c9
                        try clear c9b0
                        try clear c9b1
                        try clear c10
                        try clear c10b0
                        try clear c10b1
                        try clear c13
                        try clear c13b0
                        try clear c15
                        try clear c15b0
                        try clear c15b1
                        try clear c16
                        try clear c16b0
                        try clear c16b1
                        try clear p2
                        obtain ⟨x11_3, rfl, HA, HK3, HB⟩ := hrel
                        cases gk with
                        | zero => exact absurd HA.out (by simp [laws_FnNumbers.l1])
                        | succ k3 =>
                          have H := HA.out
                          clear HA
                          simp only [laws_FnNumbers.l1] at H
                          by_cases c17 : x11_3 < 8
                          · rw [if_pos c17] at H
                            have c17b0 : decide (x11_3 < 8) = true := decide_eq_true c17
                            clear c17
                            replace H := Option.bind_eq_some_iff.mp H
                            obtain ⟨t187, A180, H⟩ := H
                            replace H : (if x11_3 = 0 then (laws_FnNumbers.j3 k3 l1 t182 t183 t184 x8_2 t186 x11_3 t183) else (laws_FnNumbers.j3 k3 l1 t182 t183 t184 x8_2 t186 x11_3 (wrap64 (t183 + (wrap64 (Int.tdiv (wrap64 (t187 * (wrap64 ((wrap64 ((wrap64 (t182 + (wrap64 (Int.tdiv x8_2 2)))) - 2)) - t183)))) 1000)))))) = some true := H
                            have A18 := Aside0.mk A180
                            clear A180
                            have HC19 := Aside0.mk H
                            clear H
                            go_upto_if 72 with (first | ((with_reducible refine gate_callee (f := 54) rfl ?_); refine goesL_ (some 66) rfl rfl Try.func54 (by kernel_rfl) rfl #[.slice A1 l1.length c1, .int .i64 x11_3, .int .i64 1000] rfl (by (try simp only [List.map_toArray, List.map_cons, List.map_nil]); first | done | rfl | (simp only [List.length_drop, List.length_take]; rfl)) ?_; (with_reducible refine (laws_at.calls _ _ l1 x11_3 1000 t187 _ ?side1 ?side2 A18.out).mono ?_); (case side1 => repeat (first | exact (Kd.C_below HR1.out HB.out) | (with_reducible refine Kd.C_alloc ?_ _) | (with_reducible refine Kd.C_drewN ?_ _) | (with_reducible refine Kd.C_drew ?_))); (case side2 => exact HC1.out); rintro e w' ⟨rfl, ⟨nd, rfl⟩⟩; refine ⟨_, rfl, ?_⟩))
                            (try simp only [Act.put, List.setIfInBounds_toArray, List.set_cons_zero, List.set_cons_succ])
                            go_cut [13] (fun v13 wc => ∃ (kq : Nat) (x13_18 : Int), v13 = .int .i64 x13_18 ∧ Aside0 (laws_FnNumbers.j3 kq l1 t182 t183 t184 x8_2 t186 x11_3 x13_18 = some true) ∧ Aside0 (kq ≤ k3) ∧ Aside0 (Below w.heap.size w wc))
                            case first =>
                              have H := HC19.out
                              clear HC19
                              by_cases c20 : x11_3 = 0
                              · rw [if_pos c20] at H
                                have c20b0 : (x11_3 == 0) = true := beq_iff_eq.mpr c20
                                have c20b1 : (x11_3 != 0) = false := bne_eq_false_iff_eq.mpr c20
                                clear c20
                                (first | rw [c20b0] | (simp only [i64_w, i32_w]; rw [c20b0]) | skip)
                                have H' := Aside0.mk H
                                clear H
                                go_wp2
                                go_meet
                                case rel => exact ⟨_, (t183), (by first | rfl | (simp; done) | (simp [*]; done)), H', ⟨by have := HJ2.out; have := HK2.out; have := HK3.out; first | omega | exact Nat.le_refl _⟩, ⟨by repeat (first | (with_reducible first | exact HB.out | apply below_alloc | apply pw_below_drewN | apply below_drew1) | exact HB.out)⟩⟩
                              · rw [if_neg c20] at H
                                have c20b0 : (x11_3 == 0) = false := beq_eq_false_iff_ne.mpr c20
                                have c20b1 : (x11_3 != 0) = true := bne_iff_ne.mpr c20
                                (first | rw [c20b0] | (simp only [i64_w, i32_w]; rw [c20b0]) | skip)
                                have H' := Aside0.mk H
                                clear H
                                go_wp2
                                go_meet
                                case rel => exact ⟨_, (wrap64 (t183 + (wrap64 (Int.tdiv (wrap64 (t187 * (wrap64 ((wrap64 ((wrap64 (t182 + (wrap64 (Int.tdiv x8_2 2)))) - 2)) - t183)))) 1000)))), (by first | rfl | (simp; done) | (simp [*]; done)), H', ⟨by have := HJ2.out; have := HK2.out; have := HK3.out; first | omega | exact Nat.le_refl _⟩, ⟨by repeat (first | (with_reducible first | exact HB.out | apply below_alloc | apply pw_below_drewN | apply below_drew1) | exact HB.out)⟩⟩
                            case rest =>
                              clear HC19
                              try clear c1
                              try clear c2
                              try clear p2
                              try clear c4
                              try clear c4b0
                              try clear c4b1
                              try clear c5
                              try clear p6
                              try clear c9
                              try clear c9b0
                              try clear c9b1
                              try clear c10
                              try clear c10b0
                              try clear c10b1
                              try clear c13
                              try clear c13b0
                              try clear c15
                              try clear c15b0
                              try clear c15b1
                              try clear c16
                              try clear c16b0
                              try clear c16b1
                              try clear c17
                              try clear c17b0
                              try clear c20
                              try clear c20b0
                              try clear c20b1
                              try clear p2
                              try clear p6
                              obtain ⟨kq, x13_18, rfl, HA, HJ18, HB⟩ := hcut
                              cases kq with
                              | zero => exact absurd HA.out (by simp [laws_FnNumbers.j3])
                              | succ kj18 =>
                                have H := HA.out
                                clear HA
                                simp only [laws_FnNumbers.j3] at H
                                have HC21 := Aside0.mk H
                                clear H
                                go_upto_if 75 with (fail)
                                go_cut [13] (fun v13 wc => ∃ (kq : Nat) (x13_20 : Int), v13 = .int .i64 x13_20 ∧ Aside0 (laws_FnNumbers.j4 kq l1 t182 t183 t184 x8_2 t186 x11_3 x13_20 = some true) ∧ Aside0 (kq ≤ kj18) ∧ Aside0 (Below w.heap.size w wc))
                                case first =>
                                  have H := HC21.out
                                  clear HC21
                                  by_cases c22 : x11_3 = 1
                                  · rw [if_pos c22] at H
                                    have c22b0 : (x11_3 == 1) = true := beq_iff_eq.mpr c22
                                    have c22b1 : (x11_3 != 1) = false := bne_eq_false_iff_eq.mpr c22
                                    clear c22
                                    (first | rw [c22b0] | (simp only [i64_w, i32_w]; rw [c22b0]) | skip)
                                    have H' := Aside0.mk H
                                    clear H
                                    go_wp2
                                    go_meet
                                    case rel => exact ⟨_, (wrap64 ((wrap64 (t182 + (wrap64 (Int.tdiv x8_2 2)))) - 2)), (by first | rfl | (simp; done) | (simp [*]; done)), H', ⟨by have := HJ2.out; have := HK2.out; have := HK3.out; have := HJ18.out; first | omega | exact Nat.le_refl _⟩, ⟨by repeat (first | (with_reducible first | exact HB.out | apply below_alloc | apply pw_below_drewN | apply below_drew1) | exact HB.out)⟩⟩
                                  · rw [if_neg c22] at H
                                    have c22b0 : (x11_3 == 1) = false := beq_eq_false_iff_ne.mpr c22
                                    have c22b1 : (x11_3 != 1) = true := bne_iff_ne.mpr c22
                                    (first | rw [c22b0] | (simp only [i64_w, i32_w]; rw [c22b0]) | skip)
                                    have H' := Aside0.mk H
                                    clear H
                                    go_wp2
                                    go_meet
                                    case rel => exact ⟨_, (x13_18), (by first | rfl | (simp; done) | (simp [*]; done)), H', ⟨by have := HJ2.out; have := HK2.out; have := HK3.out; have := HJ18.out; first | omega | exact Nat.le_refl _⟩, ⟨by repeat (first | (with_reducible first | exact HB.out | apply below_alloc | apply pw_below_drewN | apply below_drew1) | exact HB.out)⟩⟩
                                case rest =>
                                  clear HC21
                                  try clear c1
                                  try clear c2
                                  try clear p2
                                  try clear c4
                                  try clear c4b0
                                  try clear c4b1
                                  try clear c5
                                  try clear p6
                                  try clear c9
                                  try clear c9b0
                                  try clear c9b1
                                  try clear c10
                                  try clear c10b0
                                  try clear c10b1
                                  try clear c13
                                  try clear c13b0
                                  try clear c15
                                  try clear c15b0
                                  try clear c15b1
                                  try clear c16
                                  try clear c16b0
                                  try clear c16b1
                                  try clear c17
                                  try clear c17b0
                                  try clear c20
                                  try clear c20b0
                                  try clear c20b1
                                  try clear c22
                                  try clear c22b0
                                  try clear c22b1
                                  try clear p2
                                  try clear p6
                                  obtain ⟨kq, x13_20, rfl, HA, HJ20, HB⟩ := hcut
                                  cases kq with
                                  | zero => exact absurd HA.out (by simp [laws_FnNumbers.j4])
                                  | succ kj20 =>
                                    have H := HA.out
                                    clear HA
                                    simp only [laws_FnNumbers.j4] at H
                                    have HC23 := Aside0.mk H
                                    clear H
                                    go_upto_region 26 with (fail)
                                    go_cut [96] (fun v96 wc => ∃ (kq : Nat) (x96_22 : Bool), v96 = .bool x96_22 ∧ Aside0 (laws_FnNumbers.j5 kq l1 t182 t183 t184 x8_2 t186 x11_3 x13_20 x96_22 = some true) ∧ Aside0 (kq ≤ kj20) ∧ Aside0 (Below w.heap.size w wc))
                                    case first =>
                                      have H := HC23.out
                                      clear HC23
                                      by_cases c24 : x13_20 < t183
                                      · rw [if_pos c24] at H
                                        have c24b0 : decide (x13_20 < t183) = true := decide_eq_true c24
                                        clear c24
                                        (first | rw [c24b0] | (simp only [i64_w, i32_w]; rw [c24b0]) | skip)
                                        have H' := Aside0.mk H
                                        clear H
                                        go_wp2
                                        go_meet
                                        case rel => exact ⟨_, (true), (by first | rfl | (simp; done) | (simp [*]; done)), H', ⟨by have := HJ2.out; have := HK2.out; have := HK3.out; have := HJ18.out; have := HJ20.out; first | omega | exact Nat.le_refl _⟩, ⟨by repeat (first | (with_reducible first | exact HB.out | apply below_alloc | apply pw_below_drewN | apply below_drew1) | exact HB.out)⟩⟩
                                      · rw [if_neg c24] at H
                                        have c24b0 : decide (x13_20 < t183) = false := decide_eq_false c24
                                        clear c24
                                        (first | rw [c24b0] | (simp only [i64_w, i32_w]; rw [c24b0]) | skip)
                                        by_cases c25 : x13_20 > (wrap64 ((wrap64 (t182 + (wrap64 (Int.tdiv x8_2 2)))) - 2))
                                        · rw [if_pos c25] at H
                                          have c25b0 : decide ((wrap64 ((wrap64 (t182 + (wrap64 (Int.tdiv x8_2 2)))) - 2)) < x13_20) = true := decide_eq_true c25
                                          clear c25
                                          have H' := Aside0.mk H
                                          clear H
                                          go_wp2
                                          go_meet
                                          case rel => exact ⟨_, (true), (by first | rfl | (simp; done) | (simp [*]; done)), H', ⟨by have := HJ2.out; have := HK2.out; have := HK3.out; have := HJ18.out; have := HJ20.out; first | omega | exact Nat.le_refl _⟩, ⟨by repeat (first | (with_reducible first | exact HB.out | apply below_alloc | apply pw_below_drewN | apply below_drew1) | exact HB.out)⟩⟩
                                        · rw [if_neg c25] at H
                                          have c25b0 : decide ((wrap64 ((wrap64 (t182 + (wrap64 (Int.tdiv x8_2 2)))) - 2)) < x13_20) = false := decide_eq_false c25
                                          clear c25
                                          have H' := Aside0.mk H
                                          clear H
                                          go_wp2
                                          go_meet
                                          case rel => exact ⟨_, (decide (x13_20 > 4611686018427387903)), (by first | rfl | (simp; done) | (simp [*]; done)), H', ⟨by have := HJ2.out; have := HK2.out; have := HK3.out; have := HJ18.out; have := HJ20.out; first | omega | exact Nat.le_refl _⟩, ⟨by repeat (first | (with_reducible first | exact HB.out | apply below_alloc | apply pw_below_drewN | apply below_drew1) | exact HB.out)⟩⟩
                                    case rest =>
                                      clear HC23
                                      try clear c1
                                      try clear c2
                                      try clear p2
                                      try clear c4
                                      try clear c4b0
                                      try clear c4b1
                                      try clear c5
                                      try clear p6
                                      try clear c9
                                      try clear c9b0
                                      try clear c9b1
                                      try clear c10
                                      try clear c10b0
                                      try clear c10b1
                                      try clear c13
                                      try clear c13b0
                                      try clear c15
                                      try clear c15b0
                                      try clear c15b1
                                      try clear c16
                                      try clear c16b0
                                      try clear c16b1
                                      try clear c17
                                      try clear c17b0
                                      try clear c20
                                      try clear c20b0
                                      try clear c20b1
                                      try clear c22
                                      try clear c22b0
                                      try clear c22b1
                                      try clear c24
                                      try clear c24b0
                                      try clear c25
                                      try clear c25b0
                                      try clear p2
                                      try clear p6
                                      obtain ⟨kq, x96_22, rfl, HA, HJ22, HB⟩ := hcut
                                      cases kq with
                                      | zero => exact absurd HA.out (by simp [laws_FnNumbers.j5])
                                      | succ kj22 =>
                                        have H := HA.out
                                        clear HA
                                        simp only [laws_FnNumbers.j5] at H
                                        by_cases c26 : x96_22 = true
                                        · subst c26
                                          have H1 : (laws_FnNumbers.l1 kj22 l1 t182 t183 t184 x8_2 t186 (wrap64 (x11_3 + 1))) = some true := by rw [if_pos rfl] at H; exact H
                                          clear H
                                          have H := H1
                                          clear H1
                                          have H' := Aside0.mk H
                                          clear H
                                          go_wp2
                                          go_roundg kj22
                                          case measure => have := HJ2.out; have := HK2.out; have := HK3.out; have := HJ18.out; have := HJ20.out; have := HJ22.out; omega
                                          case rel => exact ⟨(wrap64 (x11_3 + 1)), (by first | rfl | (simp; done) | (simp [*]; done)), H', ⟨by have := HJ2.out; have := HK2.out; have := HK3.out; have := HJ18.out; have := HJ20.out; have := HJ22.out; omega⟩, ⟨by repeat (first | (with_reducible first | exact HB.out | apply below_alloc | apply pw_below_drewN | apply below_drew1) | exact HB.out)⟩⟩
                                        · replace c26 := Bool.eq_false_iff.mpr c26
                                          subst c26
                                          have H1 : ((impl_ExpandNum.f kj22 x13_20 t186 t184).bind fun t188 => (if t188 = t182 then (laws_FnNumbers.l1 kj22 l1 t182 t183 t184 x8_2 t186 (wrap64 (x11_3 + 1))) else (some false))) = some true := by rw [if_neg (show ¬ (false = true) by decide)] at H; exact H
                                          clear H
                                          have H := H1
                                          clear H1
                                          replace H := Option.bind_eq_some_iff.mp H
                                          obtain ⟨t188, A270, H⟩ := H
                                          replace H : (if t188 = t182 then (laws_FnNumbers.l1 kj22 l1 t182 t183 t184 x8_2 t186 (wrap64 (x11_3 + 1))) else (some false)) = some true := H
                                          have A27 := Aside0.mk A270
                                          clear A270
                                          by_cases c28 : t188 = t182
                                          · rw [if_pos c28] at H
                                            have c28b0 : (t188 == t182) = true := beq_iff_eq.mpr c28
                                            have c28b1 : (t188 != t182) = false := bne_eq_false_iff_eq.mpr c28
                                            clear c28
                                            have H' := Aside0.mk H
                                            clear H
                                            go_wp2_with (first | ((with_reducible refine gate_callee (f := 55) rfl ?_); refine goesL_ (some 100) rfl rfl Try.func55 (by kernel_rfl) rfl #[.int .i64 x13_20, .int .i64 t186, .int .i64 t184] rfl (by (try simp only [List.map_toArray, List.map_cons, List.map_nil]); first | done | rfl | (simp only [List.length_drop, List.length_take]; rfl)) ?_; (with_reducible refine (impl_ExpandNum.calls kj22 x13_20 t186 t184 t188 _ A27.out).mono ?_); rintro e w' ⟨rfl, ⟨nd, rfl⟩⟩; refine ⟨_, rfl, ?_⟩))
                                            go_roundg kj22
                                            case measure => have := HJ2.out; have := HK2.out; have := HK3.out; have := HJ18.out; have := HJ20.out; have := HJ22.out; omega
                                            case rel => exact ⟨(wrap64 (x11_3 + 1)), (by first | rfl | (simp; done) | (simp [*]; done)), H', ⟨by have := HJ2.out; have := HK2.out; have := HK3.out; have := HJ18.out; have := HJ20.out; have := HJ22.out; omega⟩, ⟨by repeat (first | (with_reducible first | exact HB.out | apply below_alloc | apply pw_below_drewN | apply below_drew1) | exact HB.out)⟩⟩
                                          · rw [if_neg c28] at H
                                            exact absurd H (by simp)
                          · rw [if_neg c17] at H
                            have c17b0 : decide (x11_3 < 8) = false := decide_eq_false c17
                            clear c17
                            first | (obtain rfl := Option.some.inj H) | clear H
                            go_wp2
                            go_ret
                            exact ⟨by first | rfl | (simp [errW_none, errW_some] <;> rfl) | (simp [*, errW_none, errW_some] <;> rfl), by repeat (first | (with_reducible first | exact HB.out | apply below_alloc | apply pw_below_drewN | apply below_drew1) | exact HB.out)⟩
                    · rw [if_neg c16] at H
                      exact absurd H (by simp)
        · rw [if_neg c9] at H
          exact absurd H (by simp)

end Go.Proofs.Ytdojcdhlcnlohaa.SFnNumbers
