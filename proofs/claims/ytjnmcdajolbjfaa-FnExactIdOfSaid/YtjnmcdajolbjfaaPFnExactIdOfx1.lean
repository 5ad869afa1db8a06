-- PRINTED BY print.sh 35421559b90ae4d0a3588c463048766b98c2df88dd9212a6774a882060cdf62d: not written by this session
import Derived.Test.YtjnmcdajolbjfaaPFnExactIdOfx0
namespace Go.Proofs.Ytjnmcdajolbjfaa.PFnExactIdOf
open Go.RowKit Go.Proofs.YtjnmcdajolbjfaaW.PrintWords Go.Proofs.YtjnmcdajolbjfaaW.PrintLast Go.Proofs.YtjnmcdajolbjfaaW.PrintMore
attribute [local go_sem] max2_int min2_int max_two min_two max_three min_three max_four min_four   -- for this text's walks alone
set_option linter.unusedVariables false
set_option linter.unusedSimpArgs false

/-! ### spec_IdOf: function 23 -/
def spec_IdOf.j0 : Nat → Bool → Bool → Int → Bool → Option (Int)
  | 0, _, _, _, _ => none
  | k + 1, x0, x1, x2, x13 => if x13 = true then (some (-1)) else (if x0 = true then (if x1 = true then (some (wrap64 ((wrap64 ((wrap64 (4 * x2)) + 1)) + 2))) else (some (wrap64 ((wrap64 (4 * x2)) + 1)))) else (if x1 = true then (some (wrap64 ((wrap64 (4 * x2)) + 2))) else (some (wrap64 (4 * x2)))))
def spec_IdOf.f (k : Nat) (a0 : Bool) (a1 : Bool) (a2 : Int) : Option (Int) := if a2 < 0 then (spec_IdOf.j0 k a0 a1 a2 true) else (spec_IdOf.j0 k a0 a1 a2 (decide (a2 ≥ 1152921504606846976)))
theorem spec_IdOf.mono_l : ∀ k, (∀ y0 y1 y2 y3, LeO (spec_IdOf.j0 k y0 y1 y2 y3) (spec_IdOf.j0 (k + 1) y0 y1 y2 y3))
  | 0 => fun _ _ _ _ r h => by simp [spec_IdOf.j0] at h
  | k + 1 => by
    have ih0 := spec_IdOf.mono_l k
    · intro y0 y1 y2 y3
      unfold spec_IdOf.j0
      repeat' first
      | (with_reducible exact ih0 _ _ _ _)
      | (with_reducible exact LeO.refl _)
      | (with_reducible exact LeO.none _)
      | (with_reducible refine LeO.ite ?_ ?_)
      | (with_reducible refine LeO.bind ?_ (fun _ => ?_))
      | exact ih0 _ _ _ _
      | exact LeO.none _
      | refine LeO.ite ?_ ?_
      | refine LeO.bind ?_ (fun _ => ?_)
theorem spec_IdOf.mono : ∀ a0 a1 a2 k, LeO (spec_IdOf.f k a0 a1 a2) (spec_IdOf.f (k + 1) a0 a1 a2) := by
  intro a0 a1 a2 k
  have ih0 := spec_IdOf.mono_l k
  unfold spec_IdOf.f
  repeat' first
      | (with_reducible exact ih0 _ _ _ _)
      | (with_reducible exact LeO.refl _)
      | (with_reducible exact LeO.none _)
      | (with_reducible refine LeO.ite ?_ ?_)
      | (with_reducible refine LeO.bind ?_ (fun _ => ?_))
      | exact ih0 _ _ _ _
      | exact LeO.none _
      | refine LeO.ite ?_ ?_
      | refine LeO.bind ?_ (fun _ => ?_)
set_option maxHeartbeats 8000000 in
set_option maxRecDepth 100000 in
theorem spec_IdOf.calls (k : Nat) (a0 : Bool) (a1 : Bool) (a2 : Int) (r : Int) (w : World) (h : spec_IdOf.f k a0 a1 a2 = some r) :
    Calls Try.prog 23 #[.bool a0, .bool a1, .int .i64 a2] w fun e w' => e = .returned (.int .i64 r) ∧ Drawn0 w w' := by
  have H : (if a2 < 0 then (spec_IdOf.j0 k a0 a1 a2 true) else (spec_IdOf.j0 k a0 a1 a2 (decide (a2 ≥ 1152921504606846976)))) = some r := h
  clear h
  have HC4 := Aside0.mk H
  clear H
  go_enter Try.func23, Try.ntmps23
  go_upto_region 1 with (fail)
  go_cut [13] (fun v13 wc => ∃ (kq : Nat) (x13_3 : Bool), v13 = .bool x13_3 ∧ Aside0 (spec_IdOf.j0 kq a0 a1 a2 x13_3 = some r) ∧ Aside0 (kq ≤ k) ∧ Drawn0 w wc)
  case first =>
    have H := HC4.out
    clear HC4
    by_cases c5 : a2 < 0
    · rw [if_pos c5] at H
      have c5b0 : decide (a2 < 0) = true := decide_eq_true c5
      clear c5
      (first | rw [c5b0] | (simp only [i64_w, i32_w]; rw [c5b0]) | skip)
      have H' := Aside0.mk H
      clear H
      go_wp2
      go_meet
      case rel => exact ⟨_, (true), (by first | rfl | (simp; done) | (simp [*]; done)), H', ⟨by first | omega | exact Nat.le_refl _⟩, by repeat (first | exact Drawn0.refl _ | apply Drawn0.step)⟩
    · rw [if_neg c5] at H
      have c5b0 : decide (a2 < 0) = false := decide_eq_false c5
      clear c5
      (first | rw [c5b0] | (simp only [i64_w, i32_w]; rw [c5b0]) | skip)
      have H' := Aside0.mk H
      clear H
      go_wp2
      go_meet
      case rel => exact ⟨_, (decide (a2 ≥ 1152921504606846976)), (by first | rfl | (simp; done) | (simp [*]; done)), H', ⟨by first | omega | exact Nat.le_refl _⟩, by repeat (first | exact Drawn0.refl _ | apply Drawn0.step)⟩
  case rest =>
    clear HC4
    try clear c2
    try clear p2
    try clear c5
    try clear c5b0
    obtain ⟨kq, x13_3, rfl, HA, HJ3, ⟨mc3, rfl⟩⟩ := hcut
    cases kq with
    | zero => exact absurd HA.out (by simp [spec_IdOf.j0])
    | succ kj3 =>
      have H := HA.out
      clear HA
      simp only [spec_IdOf.j0] at H
      by_cases c6 : x13_3 = true
      · subst c6
        have H1 : (some (-1)) = some r := by rw [if_pos rfl] at H; exact H
        clear H
        have H := H1
        clear H1
        obtain rfl := Option.some.inj H
        go_wp2
        go_ret
        exact ⟨by first | rfl | (simp; done) | (simp [*]; done), by repeat (first | exact Drawn0.refl _ | apply Drawn0.step)⟩
      · replace c6 := Bool.eq_false_iff.mpr c6
        subst c6
        have H1 : (if a0 = true then (if a1 = true then (some (wrap64 ((wrap64 ((wrap64 (4 * a2)) + 1)) + 2))) else (some (wrap64 ((wrap64 (4 * a2)) + 1)))) else (if a1 = true then (some (wrap64 ((wrap64 (4 * a2)) + 2))) else (some (wrap64 (4 * a2))))) = some r := by rw [if_neg (show ¬ (false = true) by decide)] at H; exact H
        clear H
        have H := H1
        clear H1
        by_cases c7 : a0 = true
        · subst c7
          have H1 : (if a1 = true then (some (wrap64 ((wrap64 ((wrap64 (4 * a2)) + 1)) + 2))) else (some (wrap64 ((wrap64 (4 * a2)) + 1)))) = some r := by rw [if_pos rfl] at H; exact H
          clear H
          have H := H1
          clear H1
          by_cases c8 : a1 = true
          · subst c8
            have H1 : (some (wrap64 ((wrap64 ((wrap64 (4 * a2)) + 1)) + 2))) = some r := by rw [if_pos rfl] at H; exact H
            clear H
            have H := H1
            clear H1
            obtain rfl := Option.some.inj H
            go_wp2
            go_ret
            exact ⟨by first | rfl | (simp; done) | (simp [*]; done), by repeat (first | exact Drawn0.refl _ | apply Drawn0.step)⟩
          · replace c8 := Bool.eq_false_iff.mpr c8
            subst c8
            have H1 : (some (wrap64 ((wrap64 (4 * a2)) + 1))) = some r := by rw [if_neg (show ¬ (false = true) by decide)] at H; exact H
            clear H
            have H := H1
            clear H1
            obtain rfl := Option.some.inj H
            go_wp2
            go_ret
            exact ⟨by first | rfl | (simp; done) | (simp [*]; done), by repeat (first | exact Drawn0.refl _ | apply Drawn0.step)⟩
        · replace c7 := Bool.eq_false_iff.mpr c7
          subst c7
          have H1 : (if a1 = true then (some (wrap64 ((wrap64 (4 * a2)) + 2))) else (some (wrap64 (4 * a2)))) = some r := by rw [if_neg (show ¬ (false = true) by decide)] at H; exact H
          clear H
          have H := H1
          clear H1
          by_cases c9 : a1 = true
          · subst c9
            have H1 : (some (wrap64 ((wrap64 (4 * a2)) + 2))) = some r := by rw [if_pos rfl] at H; exact H
            clear H
            have H := H1
            clear H1
            obtain rfl := Option.some.inj H
            go_wp2
            go_ret
            exact ⟨by first | rfl | (simp; done) | (simp [*]; done), by repeat (first | exact Drawn0.refl _ | apply Drawn0.step)⟩
          · replace c9 := Bool.eq_false_iff.mpr c9
            subst c9
            have H1 : (some (wrap64 (4 * a2))) = some r := by rw [if_neg (show ¬ (false = true) by decide)] at H; exact H
            clear H
            have H := H1
            clear H1
            obtain rfl := Option.some.inj H
            go_wp2
            go_ret
            exact ⟨by first | rfl | (simp; done) | (simp [*]; done), by repeat (first | exact Drawn0.refl _ | apply Drawn0.step)⟩

/-! ### impl_IdOf: function 24 -/
def impl_IdOf.j0 : Nat → Bool → Bool → Int → Bool → Option (Int)
  | 0, _, _, _, _ => none
  | k + 1, x0, x1, x2, x13 => if x13 = true then (some (-1)) else (if x0 = true then (if x1 = true then (some (wrap64 ((wrap64 ((wrap64 (4 * x2)) + 1)) + 2))) else (some (wrap64 ((wrap64 (4 * x2)) + 1)))) else (if x1 = true then (some (wrap64 ((wrap64 (4 * x2)) + 2))) else (some (wrap64 (4 * x2)))))
def impl_IdOf.f (k : Nat) (a0 : Bool) (a1 : Bool) (a2 : Int) : Option (Int) := if a2 < 0 then (impl_IdOf.j0 k a0 a1 a2 true) else (impl_IdOf.j0 k a0 a1 a2 (decide (a2 ≥ 1152921504606846976)))
theorem impl_IdOf.mono_l : ∀ k, (∀ y0 y1 y2 y3, LeO (impl_IdOf.j0 k y0 y1 y2 y3) (impl_IdOf.j0 (k + 1) y0 y1 y2 y3))
  | 0 => fun _ _ _ _ r h => by simp [impl_IdOf.j0] at h
  | k + 1 => by
    have ih0 := impl_IdOf.mono_l k
    · intro y0 y1 y2 y3
      unfold impl_IdOf.j0
      repeat' first
      | (with_reducible exact ih0 _ _ _ _)
      | (with_reducible exact LeO.refl _)
      | (with_reducible exact LeO.none _)
      | (with_reducible refine LeO.ite ?_ ?_)
      | (with_reducible refine LeO.bind ?_ (fun _ => ?_))
      | exact ih0 _ _ _ _
      | exact LeO.none _
      | refine LeO.ite ?_ ?_
      | refine LeO.bind ?_ (fun _ => ?_)
theorem impl_IdOf.mono : ∀ a0 a1 a2 k, LeO (impl_IdOf.f k a0 a1 a2) (impl_IdOf.f (k + 1) a0 a1 a2) := by
  intro a0 a1 a2 k
  have ih0 := impl_IdOf.mono_l k
  unfold impl_IdOf.f
  repeat' first
      | (with_reducible exact ih0 _ _ _ _)
      | (with_reducible exact LeO.refl _)
      | (with_reducible exact LeO.none _)
      | (with_reducible refine LeO.ite ?_ ?_)
      | (with_reducible refine LeO.bind ?_ (fun _ => ?_))
      | exact ih0 _ _ _ _
      | exact LeO.none _
      | refine LeO.ite ?_ ?_
      | refine LeO.bind ?_ (fun _ => ?_)
set_option maxHeartbeats 8000000 in
set_option maxRecDepth 100000 in
theorem impl_IdOf.calls (k : Nat) (a0 : Bool) (a1 : Bool) (a2 : Int) (r : Int) (w : World) (h : impl_IdOf.f k a0 a1 a2 = some r) :
    Calls Try.prog 24 #[.bool a0, .bool a1, .int .i64 a2] w fun e w' => e = .returned (.int .i64 r) ∧ Drawn0 w w' := by
  have H : (if a2 < 0 then (impl_IdOf.j0 k a0 a1 a2 true) else (impl_IdOf.j0 k a0 a1 a2 (decide (a2 ≥ 1152921504606846976)))) = some r := h
  clear h
  have HC4 := Aside0.mk H
  clear H
  go_enter Try.func24, Try.ntmps24
  go_upto_region 1 with (fail)
  go_cut [13] (fun v13 wc => ∃ (kq : Nat) (x13_3 : Bool), v13 = .bool x13_3 ∧ Aside0 (impl_IdOf.j0 kq a0 a1 a2 x13_3 = some r) ∧ Aside0 (kq ≤ k) ∧ Drawn0 w wc)
  case first =>
    have H := HC4.out
    clear HC4
    by_cases c5 : a2 < 0
    · rw [if_pos c5] at H
      have c5b0 : decide (a2 < 0) = true := decide_eq_true c5
      clear c5
      (first | rw [c5b0] | (simp only [i64_w, i32_w]; rw [c5b0]) | skip)
      have H' := Aside0.mk H
      clear H
      go_wp2
      go_meet
      case rel => exact ⟨_, (true), (by first | rfl | (simp; done) | (simp [*]; done)), H', ⟨by first | omega | exact Nat.le_refl _⟩, by repeat (first | exact Drawn0.refl _ | apply Drawn0.step)⟩
    · rw [if_neg c5] at H
      have c5b0 : decide (a2 < 0) = false := decide_eq_false c5
      clear c5
      (first | rw [c5b0] | (simp only [i64_w, i32_w]; rw [c5b0]) | skip)
      have H' := Aside0.mk H
      clear H
      go_wp2
      go_meet
      case rel => exact ⟨_, (decide (a2 ≥ 1152921504606846976)), (by first | rfl | (simp; done) | (simp [*]; done)), H', ⟨by first | omega | exact Nat.le_refl _⟩, by repeat (first | exact Drawn0.refl _ | apply Drawn0.step)⟩
  case rest =>
    clear HC4
    try clear c2
    try clear p2
    try clear c5
    try clear c5b0
    obtain ⟨kq, x13_3, rfl, HA, HJ3, ⟨mc3, rfl⟩⟩ := hcut
    cases kq with
    | zero => exact absurd HA.out (by simp [impl_IdOf.j0])
    | succ kj3 =>
      have H := HA.out
      clear HA
      simp only [impl_IdOf.j0] at H
      by_cases c6 : x13_3 = true
      · subst c6
        have H1 : (some (-1)) = some r := by rw [if_pos rfl] at H; exact H
        clear H
        have H := H1
        clear H1
        obtain rfl := Option.some.inj H
        go_wp2
        go_ret
        exact ⟨by first | rfl | (simp; done) | (simp [*]; done), by repeat (first | exact Drawn0.refl _ | apply Drawn0.step)⟩
      · replace c6 := Bool.eq_false_iff.mpr c6
        subst c6
        have H1 : (if a0 = true then (if a1 = true then (some (wrap64 ((wrap64 ((wrap64 (4 * a2)) + 1)) + 2))) else (some (wrap64 ((wrap64 (4 * a2)) + 1)))) else (if a1 = true then (some (wrap64 ((wrap64 (4 * a2)) + 2))) else (some (wrap64 (4 * a2))))) = some r := by rw [if_neg (show ¬ (false = true) by decide)] at H; exact H
        clear H
        have H := H1
        clear H1
        by_cases c7 : a0 = true
        · subst c7
          have H1 : (if a1 = true then (some (wrap64 ((wrap64 ((wrap64 (4 * a2)) + 1)) + 2))) else (some (wrap64 ((wrap64 (4 * a2)) + 1)))) = some r := by rw [if_pos rfl] at H; exact H
          clear H
          have H := H1
          clear H1
          by_cases c8 : a1 = true
          · subst c8
            have H1 : (some (wrap64 ((wrap64 ((wrap64 (4 * a2)) + 1)) + 2))) = some r := by rw [if_pos rfl] at H; exact H
            clear H
            have H := H1
            clear H1
            obtain rfl := Option.some.inj H
            go_wp2
            go_ret
            exact ⟨by first | rfl | (simp; done) | (simp [*]; done), by repeat (first | exact Drawn0.refl _ | apply Drawn0.step)⟩
          · replace c8 := Bool.eq_false_iff.mpr c8
            subst c8
            have H1 : (some (wrap64 ((wrap64 (4 * a2)) + 1))) = some r := by rw [if_neg (show ¬ (false = true) by decide)] at H; exact H
            clear H
            have H := H1
            clear H1
            obtain rfl := Option.some.inj H
            go_wp2
            go_ret
            exact ⟨by first | rfl | (simp; done) | (simp [*]; done), by repeat (first | exact Drawn0.refl _ | apply Drawn0.step)⟩
        · replace c7 := Bool.eq_false_iff.mpr c7
          subst c7
          have H1 : (if a1 = true then (some (wrap64 ((wrap64 (4 * a2)) + 2))) else (some (wrap64 (4 * a2)))) = some r := by rw [if_neg (show ¬ (false = true) by decide)] at H; exact H
          clear H
          have H := H1
          clear H1
          by_cases c9 : a1 = true
          · subst c9
            have H1 : (some (wrap64 ((wrap64 (4 * a2)) + 2))) = some r := by rw [if_pos rfl] at H; exact H
            clear H
            have H := H1
            clear H1
            obtain rfl := Option.some.inj H
            go_wp2
            go_ret
            exact ⟨by first | rfl | (simp; done) | (simp [*]; done), by repeat (first | exact Drawn0.refl _ | apply Drawn0.step)⟩
          · replace c9 := Bool.eq_false_iff.mpr c9
            subst c9
            have H1 : (some (wrap64 (4 * a2))) = some r := by rw [if_neg (show ¬ (false = true) by decide)] at H; exact H
            clear H
            have H := H1
            clear H1
            obtain rfl := Option.some.inj H
            go_wp2
            go_ret
            exact ⟨by first | rfl | (simp; done) | (simp [*]; done), by repeat (first | exact Drawn0.refl _ | apply Drawn0.step)⟩

/-! ### laws_FnExactIdOf: function 8 -/
def laws_FnExactIdOf.f (k : Nat) (a0 : Bool) (a1 : Bool) (a2 : Int) : Option (Bool) := (spec_IdOf.f k a0 a1 a2).bind fun t101 => ((impl_IdOf.f k a0 a1 a2).bind fun t102 => (if t102 = t101 then (some true) else (some false)))
theorem laws_FnExactIdOf.mono : ∀ a0 a1 a2 k, LeO (laws_FnExactIdOf.f k a0 a1 a2) (laws_FnExactIdOf.f (k + 1) a0 a1 a2) := by
  intro a0 a1 a2 k
  unfold laws_FnExactIdOf.f
  repeat' first
      | (with_reducible exact impl_IdOf.mono _ _ _ _)
      | (with_reducible exact spec_IdOf.mono _ _ _ _)
      | (with_reducible exact LeO.refl _)
      | (with_reducible exact LeO.none _)
      | (with_reducible refine LeO.ite ?_ ?_)
      | (with_reducible refine LeO.bind ?_ (fun _ => ?_))
      | exact impl_IdOf.mono _ _ _ _
      | exact spec_IdOf.mono _ _ _ _
      | exact LeO.none _
      | refine LeO.ite ?_ ?_
      | refine LeO.bind ?_ (fun _ => ?_)
set_option maxHeartbeats 8000000 in
set_option maxRecDepth 100000 in
theorem laws_FnExactIdOf.calls (k : Nat) (a0 : Bool) (a1 : Bool) (a2 : Int) (r : Bool) (w : World) (h : laws_FnExactIdOf.f k a0 a1 a2 = some r) :
    Calls Try.prog 8 #[.bool a0, .bool a1, .int .i64 a2] w fun e w' => e = .returned (.bool r) ∧ Drawn0 w w' := by
  have H : ((spec_IdOf.f k a0 a1 a2).bind fun t101 => ((impl_IdOf.f k a0 a1 a2).bind fun t102 => (if t102 = t101 then (some true) else (some false)))) = some r := h
  clear h
  replace H := Option.bind_eq_some_iff.mp H
  obtain ⟨t101, A40, H⟩ := H
  replace H : ((impl_IdOf.f k a0 a1 a2).bind fun t102 => (if t102 = t101 then (some true) else (some false))) = some r := H
  have A4 := Aside0.mk A40
  clear A40
  replace H := Option.bind_eq_some_iff.mp H
  obtain ⟨t102, A50, H⟩ := H
  replace H : (if t102 = t101 then (some true) else (some false)) = some r := H
  have A5 := Aside0.mk A50
  clear A50
  by_cases c6 : t102 = t101
  · rw [if_pos c6] at H
    have c6b0 : (t102 == t101) = true := beq_iff_eq.mpr c6
    have c6b1 : (t102 != t101) = false := bne_eq_false_iff_eq.mpr c6
    clear c6
    obtain rfl := Option.some.inj H
    go_enter Try.func8, Try.ntmps8
    go_wp2_with (first | ((with_reducible refine gate_callee (f := 23) rfl ?_); refine goesL_ (some 12) rfl rfl Try.func23 (by kernel_rfl) rfl #[.bool a0, .bool a1, .int .i64 a2] rfl (by (try simp only [List.map_toArray, List.map_cons, List.map_nil]); first | done | rfl | (simp only [List.length_drop, List.length_take]; rfl)) ?_; (with_reducible refine (spec_IdOf.calls k a0 a1 a2 t101 _ A4.out).mono ?_); rintro e w' ⟨rfl, ⟨nd, rfl⟩⟩; refine ⟨_, rfl, ?_⟩) | ((with_reducible refine gate_callee (f := 24) rfl ?_); refine goesL_ (some 16) rfl rfl Try.func24 (by kernel_rfl) rfl #[.bool a0, .bool a1, .int .i64 a2] rfl (by (try simp only [List.map_toArray, List.map_cons, List.map_nil]); first | done | rfl | (simp only [List.length_drop, List.length_take]; rfl)) ?_; (with_reducible refine (impl_IdOf.calls k a0 a1 a2 t102 _ A5.out).mono ?_); rintro e w' ⟨rfl, ⟨nd, rfl⟩⟩; refine ⟨_, rfl, ?_⟩))
    go_ret
    exact ⟨by first | rfl | (simp; done) | (simp [*]; done), by repeat (first | exact Drawn0.refl _ | apply Drawn0.step)⟩
  · rw [if_neg c6] at H
    have c6b0 : (t102 == t101) = false := beq_eq_false_iff_ne.mpr c6
    have c6b1 : (t102 != t101) = true := bne_iff_ne.mpr c6
    obtain rfl := Option.some.inj H
    go_enter Try.func8, Try.ntmps8
    go_wp2_with (first | ((with_reducible refine gate_callee (f := 23) rfl ?_); refine goesL_ (some 12) rfl rfl Try.func23 (by kernel_rfl) rfl #[.bool a0, .bool a1, .int .i64 a2] rfl (by (try simp only [List.map_toArray, List.map_cons, List.map_nil]); first | done | rfl | (simp only [List.length_drop, List.length_take]; rfl)) ?_; (with_reducible refine (spec_IdOf.calls k a0 a1 a2 t101 _ A4.out).mono ?_); rintro e w' ⟨rfl, ⟨nd, rfl⟩⟩; refine ⟨_, rfl, ?_⟩) | ((with_reducible refine gate_callee (f := 24) rfl ?_); refine goesL_ (some 16) rfl rfl Try.func24 (by kernel_rfl) rfl #[.bool a0, .bool a1, .int .i64 a2] rfl (by (try simp only [List.map_toArray, List.map_cons, List.map_nil]); first | done | rfl | (simp only [List.length_drop, List.length_take]; rfl)) ?_; (with_reducible refine (impl_IdOf.calls k a0 a1 a2 t102 _ A5.out).mono ?_); rintro e w' ⟨rfl, ⟨nd, rfl⟩⟩; refine ⟨_, rfl, ?_⟩))
    go_ret
    exact ⟨by first | rfl | (simp; done) | (simp [*]; done), by repeat (first | exact Drawn0.refl _ | apply Drawn0.step)⟩

/-- THE ONE PURE STATEMENT of laws_FnExactIdOf: yours. -/
def laws_FnExactIdOf.Pure : Prop := ∀ (a0 : Bool) (a1 : Bool) (a2 : Int), (Lit.int .i64 a2).wf = true → ∃ k, laws_FnExactIdOf.f k a0 a1 a2 = some true
theorem laws_FnExactIdOf.walk (P : laws_FnExactIdOf.Pure) (a0 : Bool) (a1 : Bool) (a2 : Int) (w : World) (w2 : (Lit.int .i64 a2).wf = true) :
    Calls Try.prog 8 #[.bool a0, .bool a1, .int .i64 a2] w fun e w' => e = .returned (.bool true) ∧ Below w.heap.size w w' := by
  obtain ⟨k, h⟩ := P a0 a1 a2 w2
  refine (laws_FnExactIdOf.calls k a0 a1 a2 true w h).mono ?_
  rintro e w' ⟨rfl, hd⟩
  exact ⟨rfl, hd.below⟩

end Go.Proofs.Ytjnmcdajolbjfaa.PFnExactIdOf
