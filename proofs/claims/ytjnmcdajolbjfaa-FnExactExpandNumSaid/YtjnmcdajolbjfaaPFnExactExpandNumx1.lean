-- PRINTED BY print.sh 35421559b90ae4d0a3588c463048766b98c2df88dd9212a6774a882060cdf62d: not written by this session
import Derived.Test.YtjnmcdajolbjfaaPFnExactExpandNumx0
namespace Go.Proofs.Ytjnmcdajolbjfaa.PFnExactExpandNum
open Go.RowKit Go.Proofs.YtjnmcdajolbjfaaW.PrintWords Go.Proofs.YtjnmcdajolbjfaaW.PrintLast Go.Proofs.YtjnmcdajolbjfaaW.PrintMore
attribute [local go_sem] max2_int min2_int max_two min_two max_three min_three max_four min_four   -- for this text's walks alone
set_option linter.unusedVariables false
set_option linter.unusedSimpArgs false

/-! ### spec_l01Power: function 39 -/
def spec_l01Power.l0 : Nat → Int → Int → Int → Option (Int)
  | 0, _, _, _ => none
  | k + 1, x0, x3, x4 => if x4 < x0 then (spec_l01Power.l0 k x0 (wrap64 (x3 * 256)) (wrap64 (x4 + 1))) else (some x3)
def spec_l01Power.f (k : Nat) (a0 : Int) : Option (Int) := spec_l01Power.l0 k a0 1 0
theorem spec_l01Power.mono_l : ∀ k, (∀ y0 y1 y2, LeO (spec_l01Power.l0 k y0 y1 y2) (spec_l01Power.l0 (k + 1) y0 y1 y2))
  | 0 => fun _ _ _ r h => by simp [spec_l01Power.l0] at h
  | k + 1 => by
    have ih0 := spec_l01Power.mono_l k
    · intro y0 y1 y2
      unfold spec_l01Power.l0
      repeat' first
      | (with_reducible exact ih0 _ _ _)
      | (with_reducible exact LeO.refl _)
      | (with_reducible exact LeO.none _)
      | (with_reducible refine LeO.ite ?_ ?_)
      | (with_reducible refine LeO.bind ?_ (fun _ => ?_))
      | exact ih0 _ _ _
      | exact LeO.none _
      | refine LeO.ite ?_ ?_
      | refine LeO.bind ?_ (fun _ => ?_)
theorem spec_l01Power.mono : ∀ a0 k, LeO (spec_l01Power.f k a0) (spec_l01Power.f (k + 1) a0) := by
  intro a0 k
  have ih0 := spec_l01Power.mono_l k
  unfold spec_l01Power.f
  repeat' first
      | (with_reducible exact ih0 _ _ _)
      | (with_reducible exact LeO.refl _)
      | (with_reducible exact LeO.none _)
      | (with_reducible refine LeO.ite ?_ ?_)
      | (with_reducible refine LeO.bind ?_ (fun _ => ?_))
      | exact ih0 _ _ _
      | exact LeO.none _
      | refine LeO.ite ?_ ?_
      | refine LeO.bind ?_ (fun _ => ?_)
set_option maxHeartbeats 8000000 in
set_option maxRecDepth 100000 in
theorem spec_l01Power.calls (k : Nat) (a0 : Int) (r : Int) (w : World) (h : spec_l01Power.f k a0 = some r) :
    Calls Try.prog 39 #[.int .i64 a0] w fun e w' => e = .returned (.int .i64 r) ∧ Drawn0 w w' := by
  have H : (spec_l01Power.l0 k a0 1 0) = some r := h
  clear h
  have H' := Aside0.mk H
  clear H
  go_enter Try.func39, Try.ntmps39
  go_wp2
  go_loopg [3, 4] k (fun kq v3 v4 w' => ∃ (x3_1 : Int) (x4_1 : Int), v3 = .int .i64 x3_1 ∧ v4 = .int .i64 x4_1 ∧ Aside0 (spec_l01Power.l0 kq a0 x3_1 x4_1 = some r) ∧ Aside0 (kq ≤ k) ∧ Drawn0 w w')
  case atStart => exact ⟨(1), (0), (by first | rfl | (simp; done) | (simp [*]; done)), (by first | rfl | (simp; done) | (simp [*]; done)), H', ⟨Nat.le_refl _⟩, by repeat (first | exact Drawn0.refl _ | apply Drawn0.step)⟩
  case round =>
    clear H'
    obtain ⟨x3_1, x4_1, rfl, rfl, HA, HK1, ⟨m1, rfl⟩⟩ := hrel
    cases gk with
    | zero => exact absurd HA.out (by simp [spec_l01Power.l0])
    | succ k1 =>
      have H := HA.out
      clear HA
      simp only [spec_l01Power.l0] at H
      by_cases c2 : x4_1 < a0
      · rw [if_pos c2] at H
        have c2b0 : decide (x4_1 < a0) = true := decide_eq_true c2
        clear c2
        have H' := Aside0.mk H
        clear H
        go_wp2
        go_roundg k1
        case measure => have := HK1.out; omega
        case rel => exact ⟨(wrap64 (x3_1 * 256)), (wrap64 (x4_1 + 1)), (by first | rfl | (simp; done) | (simp [*]; done)), (by first | rfl | (simp; done) | (simp [*]; done)), H', ⟨by have := HK1.out; omega⟩, by repeat (first | exact Drawn0.refl _ | apply Drawn0.step)⟩
      · rw [if_neg c2] at H
        have c2b0 : decide (x4_1 < a0) = false := decide_eq_false c2
        clear c2
        obtain rfl := Option.some.inj H
        go_wp2
        go_ret
        exact ⟨by first | rfl | (simp; done) | (simp [*]; done), by repeat (first | exact Drawn0.refl _ | apply Drawn0.step)⟩

/-! ### spec_ExpandNum: function 32 -/
mutual
def spec_ExpandNum.j0 : Nat → Int → Int → Int → Bool → Option (Int)
  | 0, _, _, _, _ => none
  | k + 1, x0, x1, x2, x23 => if x23 = true then (some (-1)) else ((spec_l01Power.f k x2).bind fun t101 => (if x1 < 0 then (spec_ExpandNum.j1 k x0 x1 t101 true) else (spec_ExpandNum.j1 k x0 x1 t101 (decide (x1 ≥ t101)))))
def spec_ExpandNum.j1 : Nat → Int → Int → Int → Bool → Option (Int)
  | 0, _, _, _, _ => none
  | k + 1, x0, x1, x7, x32 => if x32 = true then (some (-1)) else (if x7 = 0 then (none) else (if (wrap64 ((wrap64 ((wrap64 (x0 + 1)) - (Int.tmod (wrap64 (x0 + 1)) x7))) + x1)) ≤ (wrap64 ((wrap64 (x0 + 1)) - (wrap64 (Int.tdiv x7 2)))) then (spec_ExpandNum.j2 k x7 (wrap64 (x0 + 1)) (wrap64 ((wrap64 ((wrap64 (x0 + 1)) - (Int.tmod (wrap64 (x0 + 1)) x7))) + x1)) (decide ((wrap64 ((wrap64 ((wrap64 ((wrap64 (x0 + 1)) - (Int.tmod (wrap64 (x0 + 1)) x7))) + x1)) + x7)) ≤ 4611686018427387903))) else (spec_ExpandNum.j2 k x7 (wrap64 (x0 + 1)) (wrap64 ((wrap64 ((wrap64 (x0 + 1)) - (Int.tmod (wrap64 (x0 + 1)) x7))) + x1)) false)))
def spec_ExpandNum.j2 : Nat → Int → Int → Int → Bool → Option (Int)
  | 0, _, _, _, _ => none
  | k + 1, x7, x8, x9, x53 => if x53 = true then (some (wrap64 (x9 + x7))) else (if x9 > (wrap64 (x8 + (wrap64 (Int.tdiv x7 2)))) then (spec_ExpandNum.j3 k x7 x9 (decide (x9 ≥ x7))) else (spec_ExpandNum.j3 k x7 x9 false))
def spec_ExpandNum.j3 : Nat → Int → Int → Bool → Option (Int)
  | 0, _, _, _ => none
  | k + 1, x7, x9, x67 => if x67 = true then (if (wrap64 (x9 - x7)) > 4611686018427387903 then (some (-1)) else (some (wrap64 (x9 - x7)))) else (if x9 > 4611686018427387903 then (some (-1)) else (some x9))
end
def spec_ExpandNum.f (k : Nat) (a0 : Int) (a1 : Int) (a2 : Int) : Option (Int) := if a0 < (-1) then (spec_ExpandNum.j0 k a0 a1 a2 true) else (if a0 > 4611686018427387903 then (spec_ExpandNum.j0 k a0 a1 a2 true) else (if a2 < 1 then (spec_ExpandNum.j0 k a0 a1 a2 true) else (spec_ExpandNum.j0 k a0 a1 a2 (decide (a2 > 4)))))
theorem spec_ExpandNum.mono_l : ∀ k, (∀ y0 y1 y2 y3, LeO (spec_ExpandNum.j0 k y0 y1 y2 y3) (spec_ExpandNum.j0 (k + 1) y0 y1 y2 y3)) ∧ (∀ y0 y1 y2 y3, LeO (spec_ExpandNum.j1 k y0 y1 y2 y3) (spec_ExpandNum.j1 (k + 1) y0 y1 y2 y3)) ∧ (∀ y0 y1 y2 y3, LeO (spec_ExpandNum.j2 k y0 y1 y2 y3) (spec_ExpandNum.j2 (k + 1) y0 y1 y2 y3)) ∧ (∀ y0 y1 y2, LeO (spec_ExpandNum.j3 k y0 y1 y2) (spec_ExpandNum.j3 (k + 1) y0 y1 y2))
  | 0 => ⟨fun _ _ _ _ r h => by simp [spec_ExpandNum.j0] at h, fun _ _ _ _ r h => by simp [spec_ExpandNum.j1] at h, fun _ _ _ _ r h => by simp [spec_ExpandNum.j2] at h, fun _ _ _ r h => by simp [spec_ExpandNum.j3] at h⟩
  | k + 1 => by
    obtain ⟨ih0, ih1, ih2, ih3⟩ := spec_ExpandNum.mono_l k
    refine ⟨?_, ?_, ?_, ?_⟩
    · intro y0 y1 y2 y3
      unfold spec_ExpandNum.j0
      repeat' first
      | (with_reducible exact ih0 _ _ _ _)
      | (with_reducible exact ih1 _ _ _ _)
      | (with_reducible exact ih2 _ _ _ _)
      | (with_reducible exact ih3 _ _ _)
      | (with_reducible exact spec_l01Power.mono _ _)
      | (with_reducible exact LeO.refl _)
      | (with_reducible exact LeO.none _)
      | (with_reducible refine LeO.ite ?_ ?_)
      | (with_reducible refine LeO.bind ?_ (fun _ => ?_))
      | exact ih0 _ _ _ _
      | exact ih1 _ _ _ _
      | exact ih2 _ _ _ _
      | exact ih3 _ _ _
      | exact spec_l01Power.mono _ _
      | exact LeO.none _
      | refine LeO.ite ?_ ?_
      | refine LeO.bind ?_ (fun _ => ?_)
    · intro y0 y1 y2 y3
      unfold spec_ExpandNum.j1
      repeat' first
      | (with_reducible exact ih0 _ _ _ _)
      | (with_reducible exact ih1 _ _ _ _)
      | (with_reducible exact ih2 _ _ _ _)
      | (with_reducible exact ih3 _ _ _)
      | (with_reducible exact spec_l01Power.mono _ _)
      | (with_reducible exact LeO.refl _)
      | (with_reducible exact LeO.none _)
      | (with_reducible refine LeO.ite ?_ ?_)
      | (with_reducible refine LeO.bind ?_ (fun _ => ?_))
      | exact ih0 _ _ _ _
      | exact ih1 _ _ _ _
      | exact ih2 _ _ _ _
      | exact ih3 _ _ _
      | exact spec_l01Power.mono _ _
      | exact LeO.none _
      | refine LeO.ite ?_ ?_
      | refine LeO.bind ?_ (fun _ => ?_)
    · intro y0 y1 y2 y3
      unfold spec_ExpandNum.j2
      repeat' first
      | (with_reducible exact ih0 _ _ _ _)
      | (with_reducible exact ih1 _ _ _ _)
      | (with_reducible exact ih2 _ _ _ _)
      | (with_reducible exact ih3 _ _ _)
      | (with_reducible exact spec_l01Power.mono _ _)
      | (with_reducible exact LeO.refl _)
      | (with_reducible exact LeO.none _)
      | (with_reducible refine LeO.ite ?_ ?_)
      | (with_reducible refine LeO.bind ?_ (fun _ => ?_))
      | exact ih0 _ _ _ _
      | exact ih1 _ _ _ _
      | exact ih2 _ _ _ _
      | exact ih3 _ _ _
      | exact spec_l01Power.mono _ _
      | exact LeO.none _
      | refine LeO.ite ?_ ?_
      | refine LeO.bind ?_ (fun _ => ?_)
    · intro y0 y1 y2
      unfold spec_ExpandNum.j3
      repeat' first
      | (with_reducible exact ih0 _ _ _ _)
      | (with_reducible exact ih1 _ _ _ _)
      | (with_reducible exact ih2 _ _ _ _)
      | (with_reducible exact ih3 _ _ _)
      | (with_reducible exact spec_l01Power.mono _ _)
      | (with_reducible exact LeO.refl _)
      | (with_reducible exact LeO.none _)
      | (with_reducible refine LeO.ite ?_ ?_)
      | (with_reducible refine LeO.bind ?_ (fun _ => ?_))
      | exact ih0 _ _ _ _
      | exact ih1 _ _ _ _
      | exact ih2 _ _ _ _
      | exact ih3 _ _ _
      | exact spec_l01Power.mono _ _
      | exact LeO.none _
      | refine LeO.ite ?_ ?_
      | refine LeO.bind ?_ (fun _ => ?_)
theorem spec_ExpandNum.mono : ∀ a0 a1 a2 k, LeO (spec_ExpandNum.f k a0 a1 a2) (spec_ExpandNum.f (k + 1) a0 a1 a2) := by
  intro a0 a1 a2 k
  obtain ⟨ih0, ih1, ih2, ih3⟩ := spec_ExpandNum.mono_l k
  unfold spec_ExpandNum.f
  repeat' first
      | (with_reducible exact ih0 _ _ _ _)
      | (with_reducible exact ih1 _ _ _ _)
      | (with_reducible exact ih2 _ _ _ _)
      | (with_reducible exact ih3 _ _ _)
      | (with_reducible exact spec_l01Power.mono _ _)
      | (with_reducible exact LeO.refl _)
      | (with_reducible exact LeO.none _)
      | (with_reducible refine LeO.ite ?_ ?_)
      | (with_reducible refine LeO.bind ?_ (fun _ => ?_))
      | exact ih0 _ _ _ _
      | exact ih1 _ _ _ _
      | exact ih2 _ _ _ _
      | exact ih3 _ _ _
      | exact spec_l01Power.mono _ _
      | exact LeO.none _
      | refine LeO.ite ?_ ?_
      | refine LeO.bind ?_ (fun _ => ?_)
set_option maxHeartbeats 8000000 in
set_option maxRecDepth 100000 in
theorem spec_ExpandNum.calls (k : Nat) (a0 : Int) (a1 : Int) (a2 : Int) (r : Int) (w : World) (h : spec_ExpandNum.f k a0 a1 a2 = some r) :
    Calls Try.prog 32 #[.int .i64 a0, .int .i64 a1, .int .i64 a2] w fun e w' => e = .returned (.int .i64 r) ∧ Drawn0 w w' := by
  have H : (if a0 < (-1) then (spec_ExpandNum.j0 k a0 a1 a2 true) else (if a0 > 4611686018427387903 then (spec_ExpandNum.j0 k a0 a1 a2 true) else (if a2 < 1 then (spec_ExpandNum.j0 k a0 a1 a2 true) else (spec_ExpandNum.j0 k a0 a1 a2 (decide (a2 > 4)))))) = some r := h
  clear h
  have HC4 := Aside0.mk H
  clear H
  go_enter Try.func32, Try.ntmps32
  go_upto_region 1 with (fail)
  go_cut [23] (fun v23 wc => ∃ (kq : Nat) (x23_3 : Bool), v23 = .bool x23_3 ∧ Aside0 (spec_ExpandNum.j0 kq a0 a1 a2 x23_3 = some r) ∧ Aside0 (kq ≤ k) ∧ Drawn0 w wc)
  case first =>
    have H := HC4.out
    clear HC4
    by_cases c5 : a0 < (-1)
    · rw [if_pos c5] at H
      have c5b0 : decide (a0 < (-1)) = true := decide_eq_true c5
      clear c5
      (first | rw [c5b0] | (simp only [i64_w, i32_w]; rw [c5b0]) | skip)
      have H' := Aside0.mk H
      clear H
      go_wp2
      go_meet
      case rel => exact ⟨_, (true), (by first | rfl | (simp; done) | (simp [*]; done)), H', ⟨by first | omega | exact Nat.le_refl _⟩, by repeat (first | exact Drawn0.refl _ | apply Drawn0.step)⟩
    · rw [if_neg c5] at H
      have c5b0 : decide (a0 < (-1)) = false := decide_eq_false c5
      clear c5
      (first | rw [c5b0] | (simp only [i64_w, i32_w]; rw [c5b0]) | skip)
      by_cases c6 : a0 > 4611686018427387903
      · rw [if_pos c6] at H
        have c6b0 : decide (4611686018427387903 < a0) = true := decide_eq_true c6
        clear c6
        have H' := Aside0.mk H
        clear H
        go_wp2
        go_meet
        case rel => exact ⟨_, (true), (by first | rfl | (simp; done) | (simp [*]; done)), H', ⟨by first | omega | exact Nat.le_refl _⟩, by repeat (first | exact Drawn0.refl _ | apply Drawn0.step)⟩
      · rw [if_neg c6] at H
        have c6b0 : decide (4611686018427387903 < a0) = false := decide_eq_false c6
        clear c6
        by_cases c7 : a2 < 1
        · rw [if_pos c7] at H
          have c7b0 : decide (a2 < 1) = true := decide_eq_true c7
          clear c7
          have H' := Aside0.mk H
          clear H
          go_wp2
          go_meet
          case rel => exact ⟨_, (true), (by first | rfl | (simp; done) | (simp [*]; done)), H', ⟨by first | omega | exact Nat.le_refl _⟩, by repeat (first | exact Drawn0.refl _ | apply Drawn0.step)⟩
        · rw [if_neg c7] at H
          have c7b0 : decide (a2 < 1) = false := decide_eq_false c7
          clear c7
          have H' := Aside0.mk H
          clear H
          go_wp2
          go_meet
          case rel => exact ⟨_, (decide (a2 > 4)), (by first | rfl | (simp; done) | (simp [*]; done)), H', ⟨by first | omega | exact Nat.le_refl _⟩, by repeat (first | exact Drawn0.refl _ | apply Drawn0.step)⟩
  case rest =>
    clear HC4
    try clear p2
    try clear c3
    try clear c5
    try clear c5b0
    try clear c6
    try clear c6b0
    try clear c7
    try clear c7b0
    obtain ⟨kq, x23_3, rfl, HA, HJ3, ⟨mc3, rfl⟩⟩ := hcut
    cases kq with
    | zero => exact absurd HA.out (by simp [spec_ExpandNum.j0])
    | succ kj3 =>
      have H := HA.out
      clear HA
      simp only [spec_ExpandNum.j0] at H
      by_cases c8 : x23_3 = true
      · subst c8
        have H1 : (some (-1)) = some r := by rw [if_pos rfl] at H; exact H
        clear H
        have H := H1
        clear H1
        obtain rfl := Option.some.inj H
        go_wp2
        go_ret
        exact ⟨by first | rfl | (simp; done) | (simp [*]; done), by repeat (first | exact Drawn0.refl _ | apply Drawn0.step)⟩
      · replace c8 := Bool.eq_false_iff.mpr c8
        subst c8
        have H1 : ((spec_l01Power.f kj3 a2).bind fun t101 => (if a1 < 0 then (spec_ExpandNum.j1 kj3 a0 a1 t101 true) else (spec_ExpandNum.j1 kj3 a0 a1 t101 (decide (a1 ≥ t101))))) = some r := by rw [if_neg (show ¬ (false = true) by decide)] at H; exact H
        clear H
        have H := H1
        clear H1
        replace H := Option.bind_eq_some_iff.mp H
        obtain ⟨t101, A90, H⟩ := H
        replace H : (if a1 < 0 then (spec_ExpandNum.j1 kj3 a0 a1 t101 true) else (spec_ExpandNum.j1 kj3 a0 a1 t101 (decide (a1 ≥ t101)))) = some r := H
        have A9 := Aside0.mk A90
        clear A90
        have HC10 := Aside0.mk H
        clear H
        go_upto_region 4 with (first | ((with_reducible refine gate_callee (f := 39) rfl ?_); refine goesL_ (some 25) rfl rfl Try.func39 (by kernel_rfl) rfl #[.int .i64 a2] rfl (by (try simp only [List.map_toArray, List.map_cons, List.map_nil]); first | done | rfl | (simp only [List.length_drop, List.length_take]; rfl)) ?_; (with_reducible refine (spec_l01Power.calls kj3 a2 t101 _ A9.out).mono ?_); rintro e w' ⟨rfl, ⟨nd, rfl⟩⟩; refine ⟨_, rfl, ?_⟩))
        (try simp only [Act.put, List.setIfInBounds_toArray, List.set_cons_zero, List.set_cons_succ])
        go_cut [32] (fun v32 wc => ∃ (kq : Nat) (x32_9 : Bool), v32 = .bool x32_9 ∧ Aside0 (spec_ExpandNum.j1 kq a0 a1 t101 x32_9 = some r) ∧ Aside0 (kq ≤ kj3) ∧ Drawn0 w wc)
        case first =>
          have H := HC10.out
          clear HC10
          by_cases c11 : a1 < 0
          · rw [if_pos c11] at H
            have c11b0 : decide (a1 < 0) = true := decide_eq_true c11
            clear c11
            (first | rw [c11b0] | (simp only [i64_w, i32_w]; rw [c11b0]) | skip)
            have H' := Aside0.mk H
            clear H
            go_wp2
            go_meet
            case rel => exact ⟨_, (true), (by first | rfl | (simp; done) | (simp [*]; done)), H', ⟨by have := HJ3.out; first | omega | exact Nat.le_refl _⟩, by repeat (first | exact Drawn0.refl _ | apply Drawn0.step)⟩
          · rw [if_neg c11] at H
            have c11b0 : decide (a1 < 0) = false := decide_eq_false c11
            clear c11
            (first | rw [c11b0] | (simp only [i64_w, i32_w]; rw [c11b0]) | skip)
            have H' := Aside0.mk H
            clear H
            go_wp2
            go_meet
            case rel => exact ⟨_, (decide (a1 ≥ t101)), (by first | rfl | (simp; done) | (simp [*]; done)), H', ⟨by have := HJ3.out; first | omega | exact Nat.le_refl _⟩, by repeat (first | exact Drawn0.refl _ | apply Drawn0.step)⟩
        case rest =>
          clear HC10
          try clear c1
          try clear p2
          try clear c3
          try clear c5
          try clear c5b0
          try clear c6
          try clear c6b0
          try clear c7
          try clear c7b0
          try clear c8
          try clear c11
          try clear c11b0
          try clear p2
          obtain ⟨kq, x32_9, rfl, HA, HJ9, ⟨mc9, rfl⟩⟩ := hcut
          cases kq with
          | zero => exact absurd HA.out (by simp [spec_ExpandNum.j1])
          | succ kj9 =>
            have H := HA.out
            clear HA
            simp only [spec_ExpandNum.j1] at H
            by_cases c12 : x32_9 = true
            · subst c12
              have H1 : (some (-1)) = some r := by rw [if_pos rfl] at H; exact H
              clear H
              have H := H1
              clear H1
              obtain rfl := Option.some.inj H
              go_wp2
              go_ret
              exact ⟨by first | rfl | (simp; done) | (simp [*]; done), by repeat (first | exact Drawn0.refl _ | apply Drawn0.step)⟩
            · replace c12 := Bool.eq_false_iff.mpr c12
              subst c12
              have H1 : (if t101 = 0 then (none) else (if (wrap64 ((wrap64 ((wrap64 (a0 + 1)) - (Int.tmod (wrap64 (a0 + 1)) t101))) + a1)) ≤ (wrap64 ((wrap64 (a0 + 1)) - (wrap64 (Int.tdiv t101 2)))) then (spec_ExpandNum.j2 kj9 t101 (wrap64 (a0 + 1)) (wrap64 ((wrap64 ((wrap64 (a0 + 1)) - (Int.tmod (wrap64 (a0 + 1)) t101))) + a1)) (decide ((wrap64 ((wrap64 ((wrap64 ((wrap64 (a0 + 1)) - (Int.tmod (wrap64 (a0 + 1)) t101))) + a1)) + t101)) ≤ 4611686018427387903))) else (spec_ExpandNum.j2 kj9 t101 (wrap64 (a0 + 1)) (wrap64 ((wrap64 ((wrap64 (a0 + 1)) - (Int.tmod (wrap64 (a0 + 1)) t101))) + a1)) false))) = some r := by rw [if_neg (show ¬ (false = true) by decide)] at H; exact H
              clear H
              have H := H1
              clear H1
              by_cases c13 : t101 = 0
              · rw [if_pos c13] at H
                exact absurd H (by simp)
              · rw [if_neg c13] at H
                have c13b0 : (t101 == 0) = false := beq_eq_false_iff_ne.mpr c13
                have c13b1 : (t101 != 0) = true := bne_iff_ne.mpr c13
                have HC14 := Aside0.mk H
                clear H
                go_upto_region 8 with (fail)
                go_cut [53] (fun v53 wc => ∃ (kq : Nat) (x53_13 : Bool), v53 = .bool x53_13 ∧ Aside0 (spec_ExpandNum.j2 kq t101 (wrap64 (a0 + 1)) (wrap64 ((wrap64 ((wrap64 (a0 + 1)) - (Int.tmod (wrap64 (a0 + 1)) t101))) + a1)) x53_13 = some r) ∧ Aside0 (kq ≤ kj9) ∧ Drawn0 w wc)
                case first =>
                  have H := HC14.out
                  clear HC14
                  by_cases c15 : (wrap64 ((wrap64 ((wrap64 (a0 + 1)) - (Int.tmod (wrap64 (a0 + 1)) t101))) + a1)) ≤ (wrap64 ((wrap64 (a0 + 1)) - (wrap64 (Int.tdiv t101 2))))
                  · rw [if_pos c15] at H
                    have c15b0 : decide ((wrap64 ((wrap64 ((wrap64 (a0 + 1)) - (Int.tmod (wrap64 (a0 + 1)) t101))) + a1)) ≤ (wrap64 ((wrap64 (a0 + 1)) - (wrap64 (Int.tdiv t101 2))))) = true := decide_eq_true c15
                    clear c15
                    (first | rw [c15b0] | (simp only [i64_w, i32_w]; rw [c15b0]) | skip)
                    have H' := Aside0.mk H
                    clear H
                    go_wp2
                    go_meet
                    case rel => exact ⟨_, (decide ((wrap64 ((wrap64 ((wrap64 ((wrap64 (a0 + 1)) - (Int.tmod (wrap64 (a0 + 1)) t101))) + a1)) + t101)) ≤ 4611686018427387903)), (by first | rfl | (simp; done) | (simp [*]; done)), H', ⟨by have := HJ3.out; have := HJ9.out; first | omega | exact Nat.le_refl _⟩, by repeat (first | exact Drawn0.refl _ | apply Drawn0.step)⟩
                  · rw [if_neg c15] at H
                    have c15b0 : decide ((wrap64 ((wrap64 ((wrap64 (a0 + 1)) - (Int.tmod (wrap64 (a0 + 1)) t101))) + a1)) ≤ (wrap64 ((wrap64 (a0 + 1)) - (wrap64 (Int.tdiv t101 2))))) = false := decide_eq_false c15
                    clear c15
                    (first | rw [c15b0] | (simp only [i64_w, i32_w]; rw [c15b0]) | skip)
                    have H' := Aside0.mk H
                    clear H
                    go_wp2
                    go_meet
                    case rel => exact ⟨_, (false), (by first | rfl | (simp; done) | (simp [*]; done)), H', ⟨by have := HJ3.out; have := HJ9.out; first | omega | exact Nat.le_refl _⟩, by repeat (first | exact Drawn0.refl _ | apply Drawn0.step)⟩
                case rest =>
                  clear HC14
                  try clear c1
                  try clear p2
                  try clear c3
                  try clear c5
                  try clear c5b0
                  try clear c6
                  try clear c6b0
                  try clear p6
                  try clear c7
                  try clear c7b0
                  try clear c8
                  try clear c9
                  try clear c11
                  try clear c11b0
                  try clear c12
                  try clear c13
                  try clear c13b0
                  try clear c13b1
                  try clear c15
                  try clear c15b0
                  try clear p2
                  obtain ⟨kq, x53_13, rfl, HA, HJ13, ⟨mc13, rfl⟩⟩ := hcut
                  cases kq with
                  | zero => exact absurd HA.out (by simp [spec_ExpandNum.j2])
                  | succ kj13 =>
                    have H := HA.out
                    clear HA
                    simp only [spec_ExpandNum.j2] at H
                    by_cases c16 : x53_13 = true
                    · subst c16
                      have H1 : (some (wrap64 ((wrap64 ((wrap64 ((wrap64 (a0 + 1)) - (Int.tmod (wrap64 (a0 + 1)) t101))) + a1)) + t101))) = some r := by rw [if_pos rfl] at H; exact H
                      clear H
                      have H := H1
                      clear H1
                      obtain rfl := Option.some.inj H
                      go_wp2
                      go_ret
                      exact ⟨by first | rfl | (simp; done) | (simp [*]; done), by repeat (first | exact Drawn0.refl _ | apply Drawn0.step)⟩
                    · replace c16 := Bool.eq_false_iff.mpr c16
                      subst c16
                      have H1 : (if (wrap64 ((wrap64 ((wrap64 (a0 + 1)) - (Int.tmod (wrap64 (a0 + 1)) t101))) + a1)) > (wrap64 ((wrap64 (a0 + 1)) + (wrap64 (Int.tdiv t101 2)))) then (spec_ExpandNum.j3 kj13 t101 (wrap64 ((wrap64 ((wrap64 (a0 + 1)) - (Int.tmod (wrap64 (a0 + 1)) t101))) + a1)) (decide ((wrap64 ((wrap64 ((wrap64 (a0 + 1)) - (Int.tmod (wrap64 (a0 + 1)) t101))) + a1)) ≥ t101))) else (spec_ExpandNum.j3 kj13 t101 (wrap64 ((wrap64 ((wrap64 (a0 + 1)) - (Int.tmod (wrap64 (a0 + 1)) t101))) + a1)) false)) = some r := by rw [if_neg (show ¬ (false = true) by decide)] at H; exact H
                      clear H
                      have H := H1
                      clear H1
                      have HC17 := Aside0.mk H
                      clear H
                      go_upto_region 10 with (fail)
                      go_cut [67] (fun v67 wc => ∃ (kq : Nat) (x67_16 : Bool), v67 = .bool x67_16 ∧ Aside0 (spec_ExpandNum.j3 kq t101 (wrap64 ((wrap64 ((wrap64 (a0 + 1)) - (Int.tmod (wrap64 (a0 + 1)) t101))) + a1)) x67_16 = some r) ∧ Aside0 (kq ≤ kj13) ∧ Drawn0 w wc)
                      case first =>
                        have H := HC17.out
                        clear HC17
                        by_cases c18 : (wrap64 ((wrap64 ((wrap64 (a0 + 1)) - (Int.tmod (wrap64 (a0 + 1)) t101))) + a1)) > (wrap64 ((wrap64 (a0 + 1)) + (wrap64 (Int.tdiv t101 2))))
                        · rw [if_pos c18] at H
                          have c18b0 : decide ((wrap64 ((wrap64 (a0 + 1)) + (wrap64 (Int.tdiv t101 2)))) < (wrap64 ((wrap64 ((wrap64 (a0 + 1)) - (Int.tmod (wrap64 (a0 + 1)) t101))) + a1))) = true := decide_eq_true c18
                          clear c18
                          (first | rw [c18b0] | (simp only [i64_w, i32_w]; rw [c18b0]) | skip)
                          have H' := Aside0.mk H
                          clear H
                          go_wp2
                          go_meet
                          case rel => exact ⟨_, (decide ((wrap64 ((wrap64 ((wrap64 (a0 + 1)) - (Int.tmod (wrap64 (a0 + 1)) t101))) + a1)) ≥ t101)), (by first | rfl | (simp; done) | (simp [*]; done)), H', ⟨by have := HJ3.out; have := HJ9.out; have := HJ13.out; first | omega | exact Nat.le_refl _⟩, by repeat (first | exact Drawn0.refl _ | apply Drawn0.step)⟩
                        · rw [if_neg c18] at H
                          have c18b0 : decide ((wrap64 ((wrap64 (a0 + 1)) + (wrap64 (Int.tdiv t101 2)))) < (wrap64 ((wrap64 ((wrap64 (a0 + 1)) - (Int.tmod (wrap64 (a0 + 1)) t101))) + a1))) = false := decide_eq_false c18
                          clear c18
                          (first | rw [c18b0] | (simp only [i64_w, i32_w]; rw [c18b0]) | skip)
                          have H' := Aside0.mk H
                          clear H
                          go_wp2
                          go_meet
                          case rel => exact ⟨_, (false), (by first | rfl | (simp; done) | (simp [*]; done)), H', ⟨by have := HJ3.out; have := HJ9.out; have := HJ13.out; first | omega | exact Nat.le_refl _⟩, by repeat (first | exact Drawn0.refl _ | apply Drawn0.step)⟩
                      case rest =>
                        clear HC17
                        try clear c1
                        try clear p2
                        try clear c3
                        try clear c5
                        try clear c5b0
                        try clear c6
                        try clear c6b0
                        try clear p6
                        try clear c7
                        try clear c7b0
                        try clear c8
                        try clear c9
                        try clear c11
                        try clear c11b0
                        try clear c12
                        try clear c13
                        try clear c13b0
                        try clear c13b1
                        try clear c15
                        try clear c15b0
                        try clear c16
                        try clear c18
                        try clear c18b0
                        try clear p2
                        try clear p6
                        obtain ⟨kq, x67_16, rfl, HA, HJ16, ⟨mc16, rfl⟩⟩ := hcut
                        cases kq with
                        | zero => exact absurd HA.out (by simp [spec_ExpandNum.j3])
                        | succ kj16 =>
                          have H := HA.out
                          clear HA
                          simp only [spec_ExpandNum.j3] at H
                          by_cases c19 : x67_16 = true
                          · subst c19
                            have H1 : (if (wrap64 ((wrap64 ((wrap64 ((wrap64 (a0 + 1)) - (Int.tmod (wrap64 (a0 + 1)) t101))) + a1)) - t101)) > 4611686018427387903 then (some (-1)) else (some (wrap64 ((wrap64 ((wrap64 ((wrap64 (a0 + 1)) - (Int.tmod (wrap64 (a0 + 1)) t101))) + a1)) - t101)))) = some r := by rw [if_pos rfl] at H; exact H
                            clear H
                            have H := H1
                            clear H1
                            by_cases c20 : (wrap64 ((wrap64 ((wrap64 ((wrap64 (a0 + 1)) - (Int.tmod (wrap64 (a0 + 1)) t101))) + a1)) - t101)) > 4611686018427387903
                            · rw [if_pos c20] at H
                              have c20b0 : decide (4611686018427387903 < (wrap64 ((wrap64 ((wrap64 ((wrap64 (a0 + 1)) - (Int.tmod (wrap64 (a0 + 1)) t101))) + a1)) - t101))) = true := decide_eq_true c20
                              clear c20
                              obtain rfl := Option.some.inj H
                              go_wp2
                              go_ret
                              exact ⟨by first | rfl | (simp; done) | (simp [*]; done), by repeat (first | exact Drawn0.refl _ | apply Drawn0.step)⟩
                            · rw [if_neg c20] at H
                              have c20b0 : decide (4611686018427387903 < (wrap64 ((wrap64 ((wrap64 ((wrap64 (a0 + 1)) - (Int.tmod (wrap64 (a0 + 1)) t101))) + a1)) - t101))) = false := decide_eq_false c20
                              clear c20
                              obtain rfl := Option.some.inj H
                              go_wp2
                              go_ret
                              exact ⟨by first | rfl | (simp; done) | (simp [*]; done), by repeat (first | exact Drawn0.refl _ | apply Drawn0.step)⟩
                          · replace c19 := Bool.eq_false_iff.mpr c19
                            subst c19
                            have H1 : (if (wrap64 ((wrap64 ((wrap64 (a0 + 1)) - (Int.tmod (wrap64 (a0 + 1)) t101))) + a1)) > 4611686018427387903 then (some (-1)) else (some (wrap64 ((wrap64 ((wrap64 (a0 + 1)) - (Int.tmod (wrap64 (a0 + 1)) t101))) + a1)))) = some r := by rw [if_neg (show ¬ (false = true) by decide)] at H; exact H
                            clear H
                            have H := H1
                            clear H1
                            by_cases c21 : (wrap64 ((wrap64 ((wrap64 (a0 + 1)) - (Int.tmod (wrap64 (a0 + 1)) t101))) + a1)) > 4611686018427387903
                            · rw [if_pos c21] at H
                              have c21b0 : decide (4611686018427387903 < (wrap64 ((wrap64 ((wrap64 (a0 + 1)) - (Int.tmod (wrap64 (a0 + 1)) t101))) + a1))) = true := decide_eq_true c21
                              clear c21
                              obtain rfl := Option.some.inj H
                              go_wp2
                              go_ret
                              exact ⟨by first | rfl | (simp; done) | (simp [*]; done), by repeat (first | exact Drawn0.refl _ | apply Drawn0.step)⟩
                            · rw [if_neg c21] at H
                              have c21b0 : decide (4611686018427387903 < (wrap64 ((wrap64 ((wrap64 (a0 + 1)) - (Int.tmod (wrap64 (a0 + 1)) t101))) + a1))) = false := decide_eq_false c21
                              clear c21
                              obtain rfl := Option.some.inj H
                              go_wp2
                              go_ret
                              exact ⟨by first | rfl | (simp; done) | (simp [*]; done), by repeat (first | exact Drawn0.refl _ | apply Drawn0.step)⟩

end Go.Proofs.Ytjnmcdajolbjfaa.PFnExactExpandNum
