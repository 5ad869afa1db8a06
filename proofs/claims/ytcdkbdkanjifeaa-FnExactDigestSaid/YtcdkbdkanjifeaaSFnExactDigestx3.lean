/- The walk of functions that the law FnExactDigest uses, written by program. -/
import Derived.Test.YtcdkbdkanjifeaaSFnExactDigestx0
import Derived.Test.YtcdkbdkanjifeaaSFnExactDigestx2
namespace Go.Proofs.Ytcdkbdkanjifeaa.SFnExactDigest
open Go.RowKit Go.Proofs.YtcdkbdkanjifeaaW.PrintWords Go.Proofs.YtcdkbdkanjifeaaW.PrintLast Go.Proofs.YtcdkbdkanjifeaaW.PrintMore
attribute [local go_sem] max2_int min2_int max_two min_two max_three min_three max_four min_four   -- for this text's walks alone
set_option linter.unusedVariables false
set_option linter.unusedSimpArgs false

/-! ### laws_markByteS: function 18 -/
def laws_markByteS.l0 : Nat → List Int → Int → Int → Option (Int × List Int)
  | 0, _, _, _ => none
  | k + 1, x0, x1, x5 => if x5 < (x0.length : Int) then (if 0 ≤ x5 then (laws_markByteS.l0 k (x0.set (x5 : Int).toNat ((x1) % 256)) (wrap64 (x1 + 1)) (wrap64 (x5 + 1))) else (none)) else (some (x1, x0))
def laws_markByteS.f (k : Nat) (l0 : List Int) (a1 : Int) : Option (Int × List Int) := laws_markByteS.l0 k l0 a1 0
theorem laws_markByteS.mono_l : ∀ k, (∀ y0 y1 y2, LeO (laws_markByteS.l0 k y0 y1 y2) (laws_markByteS.l0 (k + 1) y0 y1 y2))
  | 0 => fun _ _ _ r h => by simp [laws_markByteS.l0] at h
  | k + 1 => by
    have ih0 := laws_markByteS.mono_l k
    · intro y0 y1 y2
      unfold laws_markByteS.l0
      repeat' first
      | (with_reducible exact ih0 _ _ _)
      | (with_reducible exact LeO.refl _)
      | (with_reducible exact LeO.none _)
      | (with_reducible refine LeO.ite ?_ ?_)
      | (with_reducible refine LeO.bind ?_ (fun _ => ?_))
      | exact ih0 _ _ _
      | exact LeO.none _
      | refine LeO.ite ?_ ?_
      | refine LeO.bind ?_ (fun _ => ?_)
theorem laws_markByteS.mono : ∀ a0 a1 k, LeO (laws_markByteS.f k a0 a1) (laws_markByteS.f (k + 1) a0 a1) := by
  intro a0 a1 k
  have ih0 := laws_markByteS.mono_l k
  unfold laws_markByteS.f
  repeat' first
      | (with_reducible exact ih0 _ _ _)
      | (with_reducible exact LeO.refl _)
      | (with_reducible exact LeO.none _)
      | (with_reducible refine LeO.ite ?_ ?_)
      | (with_reducible refine LeO.bind ?_ (fun _ => ?_))
      | exact ih0 _ _ _
      | exact LeO.none _
      | refine LeO.ite ?_ ?_
      | refine LeO.bind ?_ (fun _ => ?_)
set_option maxHeartbeats 8000000 in
set_option maxRecDepth 100000 in
theorem laws_markByteS.calls (k : Nat) (P0_ : Nat → Prop) (u9000_ : Value) (l0 : List Int) (a1 : Int) (r1 : Int) (r2 : List Int) (w0 w : World) (hB : Below w0.heap.size w0 w) (ho0 : Kd.R (Kd.int .u8) 5 w w0.heap.size P0_ u9000_ l0) (h : laws_markByteS.f k l0 a1 = some (r1, r2)) :
    Calls Try.prog 18 #[u9000_, .int .i64 a1] w fun e w' => e = .returned (.int .i64 r1) ∧ Kd.R (Kd.int .u8) 5 w' w0.heap.size (fun k_ => (P0_ k_ ∨ w.heap.size ≤ k_)) u9000_ r2 ∧ Below w0.heap.size w0 w' ∧ Kept w w' (fun k_ => P0_ k_) := by
  have HO0 := Aside0.mk (show Kd.R (Kd.int .u8) 5 w w0.heap.size (fun k_ => (P0_ k_ ∨ w.heap.size ≤ k_)) u9000_ l0 from Kd.R_mono ho0 (fun k_ hk => (.inl hk)))
  have HK := Aside0.mk (Kept.refl w (fun k_ => P0_ k_))
  have HW0 := Aside0.mk hB.size
  have HB := Aside0.mk hB
  clear hB
  have H : (laws_markByteS.l0 k l0 a1 0) = some (r1, r2) := h
  clear h
  have H' := Aside0.mk H
  clear H
  go_enter Try.func18, Try.ntmps18
  go_wp2
  go_loopg [1, 5] k (fun kq v1 v5 w' => ∃ (x0_1 : List Int) (x1_1 : Int) (x5_1 : Int), v1 = .int .i64 x1_1 ∧ v5 = .int .i64 x5_1 ∧ Aside0 (laws_markByteS.l0 kq x0_1 x1_1 x5_1 = some (r1, r2)) ∧ Aside0 (kq ≤ k) ∧ Aside0 (Kd.R (Kd.int .u8) 5 w' w0.heap.size (fun k_ => (P0_ k_ ∨ w.heap.size ≤ k_)) u9000_ x0_1) ∧ Aside0 (Kept w w' (fun k_ => P0_ k_)) ∧ Aside0 (Below w0.heap.size w0 w'))
  case atStart => exact ⟨(l0), (a1), (0), (by first | rfl | (simp; done) | (simp [*]; done)), (by first | rfl | (simp; done) | (simp [*]; done)), H', ⟨Nat.le_refl _⟩, ⟨by (with_reducible repeat (first | apply Kd.R_alloc | apply Kd.R_drewN | apply Kd.R_drew)); exact HO0.out⟩, ⟨by repeat (first | (with_reducible first | exact HK.out | apply Kept.alloc | apply Kept.drewN | apply Kept.drew) | exact HK.out)⟩, ⟨by repeat (first | (with_reducible first | exact HB.out | apply below_alloc | apply pw_below_drewN | apply below_drew1) | exact HB.out)⟩⟩
  case round =>
    clear H'
    try clear c1
    try clear p2
    obtain ⟨x0_1, x1_1, x5_1, rfl, rfl, HA, HK1, HO_0, HK, HB⟩ := hrel
    cases gk with
    | zero => exact absurd HA.out (by simp [laws_markByteS.l0])
    | succ k1 =>
      have H := HA.out
      clear HA
      simp only [laws_markByteS.l0] at H
      by_cases c3 : x5_1 < (x0_1.length : Int)
      · rw [if_pos c3] at H
        have c3b0 : decide (x5_1 < (x0_1.length : Int)) = true := decide_eq_true c3
        clear c3
        by_cases c4 : 0 ≤ x5_1
        · rw [if_pos c4] at H
          have c4b0 : decide (0 ≤ x5_1) = true := decide_eq_true c4
          clear c4
          obtain ⟨y201, hy201⟩ : ∃ y_ : List Int, y_ = (x0_1.set (x5_1 : Int).toNat ((x1_1) % 256)) := ⟨_, rfl⟩
          replace H : (laws_markByteS.l0 k1 y201 (wrap64 (x1_1 + 1)) (wrap64 (x5_1 + 1))) = some (r1, r2) := by first | (rw [hy201]; with_reducible exact H) | (have H2_ := (Option.bind_some _ _).symm.trans H; rw [hy201]; with_reducible exact H2_) | (have H2_ := (Option.bind_some _ _).symm.trans H; with_reducible exact H2_) | with_reducible exact H | (rw [hy201]; exact H) | exact H
          have Ny201 := Aside0.mk hy201
          clear hy201
          have H' := Aside0.mk H
          clear H
          obtain ⟨Ao6, co6, eo6⟩ := Kd.R_slice HO_0.out
          subst eo6
          have p5 : 0 ≤ (x5_1 : Int) := of_decide_eq_true (by first | (with_reducible assumption) | assumption)
          have q5 : (x5_1 : Int) < ((x0_1.length : Int) : Int) := of_decide_eq_true (by first | (with_reducible assumption) | assumption)
          obtain ⟨go5, co5, eo5, gb5, gl5, cl5, HG5⟩ := Kd.R_form HO_0.out (by omega)
          (first | cases eo5 | (injection eo5 with ea_ en_ ec_; (first | subst ea_ | (injection ea_ with ea_; subst ea_)); subst ec_; clear en_))
          have GB5 := Aside0.mk gb5
          have GG5 := Aside0.mk HG5
          clear gb5 gl5 HG5
          have HMgo5 := Aside0.mk (show (P0_ go5 ∨ w.heap.size ≤ go5) from (HO_0.out.1 _ rfl))
          obtain ⟨hx5_0, hf5_0⟩ := Kd.R_celln 0 HO_0.out (x5_1 : Int) p5 q5
          replace p5 := eq_true p5
          replace q5 := eq_true q5
          have HP7 := Kd.R_putg HO_0.out (x5_1 : Int) ((x1_1) % 256)
          go_wp2_with (first | ((with_reducible refine gate_store (t := 5) (p := 16) rfl ?_); refine store_event (t := 5) (p := 16) (v := ?vo_w8) (w1 := (wr.setCell ⟨go5, (x5_1 : Int).toNat, none⟩ (.int .u8 ((x1_1) % 256)))) ?hg ?ho ?hn ?hr ?_; (case ho => rfl); (case hg => rfl); (case hn => rfl); (case hr => first | (go_simp; done) | (go_simp; rfl)); intro w8 hw; have hg : wr.grownBy w8 (some go5) := (by rw [hw]; exact HP7.2); have hp_ : Kd.R (Kd.int .u8) 5 w8 w0.heap.size (fun k_ => (P0_ k_ ∨ w.heap.size ≤ k_)) (.slice (some ⟨go5, 0, none⟩) x0_1.length co6) y201 := (by rw [hw, Ny201.out]; exact HP7.1); clear HP7; have n0_ := Aside0.mk (hp_); have n1_ := Aside0.mk ((by rw [hw]; exact below_set (HB.out) GB5.out : Below w0.heap.size w0 w8)); have n2_ := Aside0.mk (Kept.of_grown (S := (fun k_ => P0_ k_)) hg (by repeat (first | (with_reducible first | exact HK.out | apply Kept.alloc | apply Kept.drewN | apply Kept.drew) | exact HK.out)) (fun k_ e_ => (HO_0.out.1 k_ e_))); clear HO_0; clear HB; clear HK; have HO_0 := n0_; have HB := n1_; have HK := n2_; clear n0_ n1_ n2_; clear hg hw hp_))
          go_roundg k1
          case measure => have := HK1.out; omega
          case rel => exact ⟨(y201), (wrap64 (x1_1 + 1)), (wrap64 (x5_1 + 1)), (by first | rfl | (simp; done) | (simp [*]; done)), (by first | rfl | (simp; done) | (simp [*]; done)), H', ⟨by have := HK1.out; omega⟩, ⟨by (with_reducible repeat (first | apply Kd.R_alloc | apply Kd.R_drewN | apply Kd.R_drew)); exact HO_0.out⟩, ⟨by repeat (first | (with_reducible first | exact HK.out | apply Kept.alloc | apply Kept.drewN | apply Kept.drew) | exact HK.out)⟩, ⟨by repeat (first | (with_reducible first | exact HB.out | apply below_alloc | apply pw_below_drewN | apply below_drew1) | exact HB.out)⟩⟩
        · rw [if_neg c4] at H
          exact absurd H (by simp)
      · rw [if_neg c3] at H
        have c3b0 : decide (x5_1 < (x0_1.length : Int)) = false := decide_eq_false c3
        clear c3
        simp only [Option.some.injEq, Prod.mk.injEq] at H
        obtain ⟨rfl, rfl⟩ := H
        obtain ⟨Ao9, co9, eo9⟩ := Kd.R_slice HO_0.out
        subst eo9
        go_wp2
        go_ret
        exact ⟨by first | rfl | (simp [errW_none, errW_some] <;> rfl) | (simp [*, errW_none, errW_some] <;> rfl), by (with_reducible repeat (first | apply Kd.R_alloc | apply Kd.R_drewN | apply Kd.R_drew)); exact HO_0.out, by repeat (first | (with_reducible first | exact HB.out | apply below_alloc | apply pw_below_drewN | apply below_drew1) | exact HB.out), by repeat (first | (with_reducible first | exact HK.out | apply Kept.alloc | apply Kept.drewN | apply Kept.drew) | exact HK.out)⟩

/-! ### laws_heldByteS: function 19 -/
def laws_heldByteS.l0 : Nat → List Int → Int → Int → Option (Int)
  | 0, _, _, _ => none
  | k + 1, x0, x1, x5 => if x5 < (x0.length : Int) then (if 0 ≤ x5 then (if (rd x0 x5) = ((x1) % 256) then (laws_heldByteS.l0 k x0 (wrap64 (x1 + 1)) (wrap64 (x5 + 1))) else (some (-1))) else (none)) else (some x1)
def laws_heldByteS.f (k : Nat) (l0 : List Int) (a1 : Int) : Option (Int) := laws_heldByteS.l0 k l0 a1 0
theorem laws_heldByteS.mono_l : ∀ k, (∀ y0 y1 y2, LeO (laws_heldByteS.l0 k y0 y1 y2) (laws_heldByteS.l0 (k + 1) y0 y1 y2))
  | 0 => fun _ _ _ r h => by simp [laws_heldByteS.l0] at h
  | k + 1 => by
    have ih0 := laws_heldByteS.mono_l k
    · intro y0 y1 y2
      unfold laws_heldByteS.l0
      repeat' first
      | (with_reducible exact ih0 _ _ _)
      | (with_reducible exact LeO.refl _)
      | (with_reducible exact LeO.none _)
      | (with_reducible refine LeO.ite ?_ ?_)
      | (with_reducible refine LeO.bind ?_ (fun _ => ?_))
      | exact ih0 _ _ _
      | exact LeO.none _
      | refine LeO.ite ?_ ?_
      | refine LeO.bind ?_ (fun _ => ?_)
theorem laws_heldByteS.mono : ∀ a0 a1 k, LeO (laws_heldByteS.f k a0 a1) (laws_heldByteS.f (k + 1) a0 a1) := by
  intro a0 a1 k
  have ih0 := laws_heldByteS.mono_l k
  unfold laws_heldByteS.f
  repeat' first
      | (with_reducible exact ih0 _ _ _)
      | (with_reducible exact LeO.refl _)
      | (with_reducible exact LeO.none _)
      | (with_reducible refine LeO.ite ?_ ?_)
      | (with_reducible refine LeO.bind ?_ (fun _ => ?_))
      | exact ih0 _ _ _
      | exact LeO.none _
      | refine LeO.ite ?_ ?_
      | refine LeO.bind ?_ (fun _ => ?_)
set_option maxHeartbeats 8000000 in
set_option maxRecDepth 100000 in
theorem laws_heldByteS.calls (k : Nat) (A0 : Option Addr) (c0 : Nat) (l0 : List Int) (a1 : Int) (r : Int) (w : World) (hr0 : Kd.C (Kd.int .u8) w A0 l0.length l0) (hc0 : l0.length ≤ c0) (h : laws_heldByteS.f k l0 a1 = some r) :
    Calls Try.prog 19 #[.slice A0 l0.length c0, .int .i64 a1] w fun e w' => e = .returned (.int .i64 r) ∧ Drawn0 w w' := by
  have HR0 := Aside0.mk hr0
  have HC0 := Aside0.mk hc0
  clear hr0 hc0
  have H : (laws_heldByteS.l0 k l0 a1 0) = some r := h
  clear h
  have H' := Aside0.mk H
  clear H
  go_enter Try.func19, Try.ntmps19
  go_wp2
  go_loopg [1, 5] k (fun kq v1 v5 w' => ∃ (x1_1 : Int) (x5_1 : Int), v1 = .int .i64 x1_1 ∧ v5 = .int .i64 x5_1 ∧ Aside0 (laws_heldByteS.l0 kq l0 x1_1 x5_1 = some r) ∧ Aside0 (kq ≤ k) ∧ Drawn0 w w')
  case atStart => exact ⟨(a1), (0), (by first | rfl | (simp; done) | (simp [*]; done)), (by first | rfl | (simp; done) | (simp [*]; done)), H', ⟨Nat.le_refl _⟩, by repeat (first | exact Drawn0.refl _ | apply Drawn0.step)⟩
  case round =>
    clear H'
    try clear c1
    try clear p2
    obtain ⟨x1_1, x5_1, rfl, rfl, HA, HK1, ⟨m1, rfl⟩⟩ := hrel
    cases gk with
    | zero => exact absurd HA.out (by simp [laws_heldByteS.l0])
    | succ k1 =>
      have H := HA.out
      clear HA
      simp only [laws_heldByteS.l0] at H
      by_cases c3 : x5_1 < (l0.length : Int)
      · rw [if_pos c3] at H
        have c3b0 : decide (x5_1 < (l0.length : Int)) = true := decide_eq_true c3
        clear c3
        by_cases c4 : 0 ≤ x5_1
        · rw [if_pos c4] at H
          have c4b0 : decide (0 ≤ x5_1) = true := decide_eq_true c4
          clear c4
          by_cases c5 : (rd l0 x5_1) = ((x1_1) % 256)
          · rw [if_pos c5] at H
            have c5b0 : ((rd l0 x5_1) == ((x1_1) % 256)) = true := beq_iff_eq.mpr c5
            have c5b1 : ((rd l0 x5_1) != ((x1_1) % 256)) = false := bne_eq_false_iff_eq.mpr c5
            clear c5
            have H' := Aside0.mk H
            clear H
            have p202 : 0 ≤ (x5_1 : Int) := of_decide_eq_true (by first | (with_reducible assumption) | assumption)
            have q202 : x5_1 < (l0.length : Int) := of_decide_eq_true (by first | (with_reducible assumption) | assumption)
            obtain ⟨ad202, e202, hx202_0⟩ := Kd.at_int HR0.out x5_1 p202 q202
            cases e202
            replace p202 := eq_true p202
            replace q202 := eq_true q202
            go_wp2
            go_roundg k1
            case measure => have := HK1.out; omega
            case rel => exact ⟨(wrap64 (x1_1 + 1)), (wrap64 (x5_1 + 1)), (by first | rfl | (simp; done) | (simp [*]; done)), (by first | rfl | (simp; done) | (simp [*]; done)), H', ⟨by have := HK1.out; omega⟩, by repeat (first | exact Drawn0.refl _ | apply Drawn0.step)⟩
          · rw [if_neg c5] at H
            have c5b0 : ((rd l0 x5_1) == ((x1_1) % 256)) = false := beq_eq_false_iff_ne.mpr c5
            have c5b1 : ((rd l0 x5_1) != ((x1_1) % 256)) = true := bne_iff_ne.mpr c5
            obtain rfl := Option.some.inj H
            have p202 : 0 ≤ (x5_1 : Int) := of_decide_eq_true (by first | (with_reducible assumption) | assumption)
            have q202 : x5_1 < (l0.length : Int) := of_decide_eq_true (by first | (with_reducible assumption) | assumption)
            obtain ⟨ad202, e202, hx202_0⟩ := Kd.at_int HR0.out x5_1 p202 q202
            cases e202
            replace p202 := eq_true p202
            replace q202 := eq_true q202
            go_wp2
            go_ret
            exact ⟨by first | rfl | (simp; done) | (simp [*]; done), by repeat (first | exact Drawn0.refl _ | apply Drawn0.step)⟩
        · rw [if_neg c4] at H
          exact absurd H (by simp)
      · rw [if_neg c3] at H
        have c3b0 : decide (x5_1 < (l0.length : Int)) = false := decide_eq_false c3
        clear c3
        obtain rfl := Option.some.inj H
        go_wp2
        go_ret
        exact ⟨by first | rfl | (simp; done) | (simp [*]; done), by repeat (first | exact Drawn0.refl _ | apply Drawn0.step)⟩

/-! ### laws_FnExactDigest: function 3 -/
def laws_FnExactDigest.j0 : Nat → List Int → List Int → List Int → List Int → Bool → Option (Bool)
  | 0, _, _, _, _, _ => none
  | k + 1, x0, x1, x5, x8, x58 => if x58 = true then (some false) else ((laws_markByteS.f k x8 1).bind fun bt235 => ((laws_heldByteS.f k bt235.2 1).bind fun t237 => (if t237 < 0 then (some false) else (if t237 = bt235.1 then ((laws_toByteS.f k x0).bind fun t238 => ((laws_toByteS.f k x1).bind fun t241 => ((impl_Digest.f k t238 t241).bind fun t244 => ((laws_eqByteS.f k t244 x5).bind fun t247 => (if t247 = true then ((laws_heldByteS.f k bt235.2 1).bind fun t248 => (if t248 < 0 then (some false) else (if t248 = bt235.1 then (some true) else (some false)))) else (some false)))))) else (some false)))))
def laws_FnExactDigest.f (k : Nat) (l0 : List Int) (l1 : List Int) : Option (Bool) := if (l0.length : Int) > 1048576 then (some true) else (if (l1.length : Int) > 1048576 then (some true) else ((laws_toByteS.f k l0).bind fun t203 => ((laws_toByteS.f k l1).bind fun t206 => ((spec_Digest.f k t203 t206).bind fun t209 => ((laws_toByteS.f k l0).bind fun t212 => ((laws_toByteS.f k l1).bind fun t215 => ((impl_Digest.f k t212 t215).bind fun t218 => ((laws_eqByteS.f k t218 t209).bind fun t221 => (if t221 = true then ((laws_toByteS.f k l0).bind fun t222 => ((laws_eqByteS.f k t212 t222).bind fun t225 => (if t225 = true then ((laws_toByteS.f k l1).bind fun t226 => ((laws_eqByteS.f k t215 t226).bind fun t229 => (if t229 = true then ((laws_markByteS.f k t212 1).bind fun bt230 => ((laws_markByteS.f k t215 bt230.1).bind fun bt232 => (if bt232.1 < 0 then (laws_FnExactDigest.j0 k l0 l1 t209 t218 true) else ((laws_eqByteS.f k t218 t209).bind fun t234 => (laws_FnExactDigest.j0 k l0 l1 t209 t218 (!t234)))))) else (some false)))) else (some false)))) else (some false))))))))))
theorem laws_FnExactDigest.mono_l : ∀ k, (∀ y0 y1 y2 y3 y4, LeO (laws_FnExactDigest.j0 k y0 y1 y2 y3 y4) (laws_FnExactDigest.j0 (k + 1) y0 y1 y2 y3 y4))
  | 0 => fun _ _ _ _ _ r h => by simp [laws_FnExactDigest.j0] at h
  | k + 1 => by
    have ih0 := laws_FnExactDigest.mono_l k
    · intro y0 y1 y2 y3 y4
      unfold laws_FnExactDigest.j0
      repeat' first
      | (with_reducible exact ih0 _ _ _ _ _)
      | (with_reducible exact impl_Digest.mono _ _ _)
      | (with_reducible exact laws_eqByteS.mono _ _ _)
      | (with_reducible exact laws_heldByteS.mono _ _ _)
      | (with_reducible exact laws_markByteS.mono _ _ _)
      | (with_reducible exact laws_toByteS.mono _ _)
      | (with_reducible exact spec_Digest.mono _ _ _)
      | (with_reducible exact LeO.refl _)
      | (with_reducible exact LeO.none _)
      | (with_reducible refine LeO.ite ?_ ?_)
      | (with_reducible refine LeO.bind ?_ (fun _ => ?_))
      | exact ih0 _ _ _ _ _
      | exact impl_Digest.mono _ _ _
      | exact laws_eqByteS.mono _ _ _
      | exact laws_heldByteS.mono _ _ _
      | exact laws_markByteS.mono _ _ _
      | exact laws_toByteS.mono _ _
      | exact spec_Digest.mono _ _ _
      | exact LeO.none _
      | refine LeO.ite ?_ ?_
      | refine LeO.bind ?_ (fun _ => ?_)
theorem laws_FnExactDigest.mono : ∀ a0 a1 k, LeO (laws_FnExactDigest.f k a0 a1) (laws_FnExactDigest.f (k + 1) a0 a1) := by
  intro a0 a1 k
  have ih0 := laws_FnExactDigest.mono_l k
  unfold laws_FnExactDigest.f
  repeat' first
      | (with_reducible exact ih0 _ _ _ _ _)
      | (with_reducible exact impl_Digest.mono _ _ _)
      | (with_reducible exact laws_eqByteS.mono _ _ _)
      | (with_reducible exact laws_heldByteS.mono _ _ _)
      | (with_reducible exact laws_markByteS.mono _ _ _)
      | (with_reducible exact laws_toByteS.mono _ _)
      | (with_reducible exact spec_Digest.mono _ _ _)
      | (with_reducible exact LeO.refl _)
      | (with_reducible exact LeO.none _)
      | (with_reducible refine LeO.ite ?_ ?_)
      | (with_reducible refine LeO.bind ?_ (fun _ => ?_))
      | exact ih0 _ _ _ _ _
      | exact impl_Digest.mono _ _ _
      | exact laws_eqByteS.mono _ _ _
      | exact laws_heldByteS.mono _ _ _
      | exact laws_markByteS.mono _ _ _
      | exact laws_toByteS.mono _ _
      | exact spec_Digest.mono _ _ _
      | exact LeO.none _
      | refine LeO.ite ?_ ?_
      | refine LeO.bind ?_ (fun _ => ?_)
set_option maxHeartbeats 8000000 in
set_option maxRecDepth 100000 in
theorem laws_FnExactDigest.calls (k : Nat) (A0 : Option Addr) (c0 : Nat) (l0 : List Int) (A1 : Option Addr) (c1 : Nat) (l1 : List Int) (w : World) (hr0 : Kd.C (Kd.int .u8) w A0 l0.length l0) (hc0 : l0.length ≤ c0) (hr1 : Kd.C (Kd.int .u8) w A1 l1.length l1) (hc1 : l1.length ≤ c1) (h : laws_FnExactDigest.f k l0 l1 = some true) :
    Calls Try.prog 3 #[.slice A0 l0.length c0, .slice A1 l1.length c1] w fun e w' => e = .returned (.bool true) ∧ Below w.heap.size w w' := by
  have HR0 := Aside0.mk hr0
  have HC0 := Aside0.mk hc0
  clear hr0 hc0
  have HR1 := Aside0.mk hr1
  have HC1 := Aside0.mk hc1
  clear hr1 hc1
  have HB := Aside0.mk (Below.refl w.heap.size w)
  have H : (if (l0.length : Int) > 1048576 then (some true) else (if (l1.length : Int) > 1048576 then (some true) else ((laws_toByteS.f k l0).bind fun t203 => ((laws_toByteS.f k l1).bind fun t206 => ((spec_Digest.f k t203 t206).bind fun t209 => ((laws_toByteS.f k l0).bind fun t212 => ((laws_toByteS.f k l1).bind fun t215 => ((impl_Digest.f k t212 t215).bind fun t218 => ((laws_eqByteS.f k t218 t209).bind fun t221 => (if t221 = true then ((laws_toByteS.f k l0).bind fun t222 => ((laws_eqByteS.f k t212 t222).bind fun t225 => (if t225 = true then ((laws_toByteS.f k l1).bind fun t226 => ((laws_eqByteS.f k t215 t226).bind fun t229 => (if t229 = true then ((laws_markByteS.f k t212 1).bind fun bt230 => ((laws_markByteS.f k t215 bt230.1).bind fun bt232 => (if bt232.1 < 0 then (laws_FnExactDigest.j0 k l0 l1 t209 t218 true) else ((laws_eqByteS.f k t218 t209).bind fun t234 => (laws_FnExactDigest.j0 k l0 l1 t209 t218 (!t234)))))) else (some false)))) else (some false)))) else (some false))))))))))) = some true := h
  clear h
  by_cases c3 : (l0.length : Int) > 1048576
  · rw [if_pos c3] at H
    have c3b0 : decide (1048576 < (l0.length : Int)) = true := decide_eq_true c3
    have c3b1 : decide (1048576 < l0.length) = true := decide_eq_true (by omega)
    clear c3
    clear H
    go_enter Try.func3, Try.ntmps3
    go_wp2
    go_ret
    exact ⟨by first | rfl | (simp [errW_none, errW_some] <;> rfl) | (simp [*, errW_none, errW_some] <;> rfl), by repeat (first | (with_reducible first | exact HB.out | apply below_alloc | apply pw_below_drewN | apply below_drew1) | exact HB.out)⟩
  · rw [if_neg c3] at H
    have c3b0 : decide (1048576 < (l0.length : Int)) = false := decide_eq_false c3
    have c3b1 : decide (1048576 < l0.length) = false := decide_eq_false (by omega)
    clear c3
    by_cases c4 : (l1.length : Int) > 1048576
    · rw [if_pos c4] at H
      have c4b0 : decide (1048576 < (l1.length : Int)) = true := decide_eq_true c4
      have c4b1 : decide (1048576 < l1.length) = true := decide_eq_true (by omega)
      clear c4
      clear H
      go_enter Try.func3, Try.ntmps3
      go_wp2
      go_ret
      exact ⟨by first | rfl | (simp [errW_none, errW_some] <;> rfl) | (simp [*, errW_none, errW_some] <;> rfl), by repeat (first | (with_reducible first | exact HB.out | apply below_alloc | apply pw_below_drewN | apply below_drew1) | exact HB.out)⟩
    · rw [if_neg c4] at H
      have c4b0 : decide (1048576 < (l1.length : Int)) = false := decide_eq_false c4
      have c4b1 : decide (1048576 < l1.length) = false := decide_eq_false (by omega)
      clear c4
      replace H := Option.bind_eq_some_iff.mp H
      obtain ⟨t203, A50, H⟩ := H
      replace H : ((laws_toByteS.f k l1).bind fun t206 => ((spec_Digest.f k t203 t206).bind fun t209 => ((laws_toByteS.f k l0).bind fun t212 => ((laws_toByteS.f k l1).bind fun t215 => ((impl_Digest.f k t212 t215).bind fun t218 => ((laws_eqByteS.f k t218 t209).bind fun t221 => (if t221 = true then ((laws_toByteS.f k l0).bind fun t222 => ((laws_eqByteS.f k t212 t222).bind fun t225 => (if t225 = true then ((laws_toByteS.f k l1).bind fun t226 => ((laws_eqByteS.f k t215 t226).bind fun t229 => (if t229 = true then ((laws_markByteS.f k t212 1).bind fun bt230 => ((laws_markByteS.f k t215 bt230.1).bind fun bt232 => (if bt232.1 < 0 then (laws_FnExactDigest.j0 k l0 l1 t209 t218 true) else ((laws_eqByteS.f k t218 t209).bind fun t234 => (laws_FnExactDigest.j0 k l0 l1 t209 t218 (!t234)))))) else (some false)))) else (some false)))) else (some false)))))))) = some true := H
      have A5 := Aside0.mk A50
      clear A50
      replace H := Option.bind_eq_some_iff.mp H
      obtain ⟨t206, A60, H⟩ := H
      replace H : ((spec_Digest.f k t203 t206).bind fun t209 => ((laws_toByteS.f k l0).bind fun t212 => ((laws_toByteS.f k l1).bind fun t215 => ((impl_Digest.f k t212 t215).bind fun t218 => ((laws_eqByteS.f k t218 t209).bind fun t221 => (if t221 = true then ((laws_toByteS.f k l0).bind fun t222 => ((laws_eqByteS.f k t212 t222).bind fun t225 => (if t225 = true then ((laws_toByteS.f k l1).bind fun t226 => ((laws_eqByteS.f k t215 t226).bind fun t229 => (if t229 = true then ((laws_markByteS.f k t212 1).bind fun bt230 => ((laws_markByteS.f k t215 bt230.1).bind fun bt232 => (if bt232.1 < 0 then (laws_FnExactDigest.j0 k l0 l1 t209 t218 true) else ((laws_eqByteS.f k t218 t209).bind fun t234 => (laws_FnExactDigest.j0 k l0 l1 t209 t218 (!t234)))))) else (some false)))) else (some false)))) else (some false))))))) = some true := H
      have A6 := Aside0.mk A60
      clear A60
      replace H := Option.bind_eq_some_iff.mp H
      obtain ⟨t209, A70, H⟩ := H
      replace H : ((laws_toByteS.f k l0).bind fun t212 => ((laws_toByteS.f k l1).bind fun t215 => ((impl_Digest.f k t212 t215).bind fun t218 => ((laws_eqByteS.f k t218 t209).bind fun t221 => (if t221 = true then ((laws_toByteS.f k l0).bind fun t222 => ((laws_eqByteS.f k t212 t222).bind fun t225 => (if t225 = true then ((laws_toByteS.f k l1).bind fun t226 => ((laws_eqByteS.f k t215 t226).bind fun t229 => (if t229 = true then ((laws_markByteS.f k t212 1).bind fun bt230 => ((laws_markByteS.f k t215 bt230.1).bind fun bt232 => (if bt232.1 < 0 then (laws_FnExactDigest.j0 k l0 l1 t209 t218 true) else ((laws_eqByteS.f k t218 t209).bind fun t234 => (laws_FnExactDigest.j0 k l0 l1 t209 t218 (!t234)))))) else (some false)))) else (some false)))) else (some false)))))) = some true := H
      have A7 := Aside0.mk A70
      clear A70
      replace H := Option.bind_eq_some_iff.mp H
      obtain ⟨t212, A80, H⟩ := H
      replace H : ((laws_toByteS.f k l1).bind fun t215 => ((impl_Digest.f k t212 t215).bind fun t218 => ((laws_eqByteS.f k t218 t209).bind fun t221 => (if t221 = true then ((laws_toByteS.f k l0).bind fun t222 => ((laws_eqByteS.f k t212 t222).bind fun t225 => (if t225 = true then ((laws_toByteS.f k l1).bind fun t226 => ((laws_eqByteS.f k t215 t226).bind fun t229 => (if t229 = true then ((laws_markByteS.f k t212 1).bind fun bt230 => ((laws_markByteS.f k t215 bt230.1).bind fun bt232 => (if bt232.1 < 0 then (laws_FnExactDigest.j0 k l0 l1 t209 t218 true) else ((laws_eqByteS.f k t218 t209).bind fun t234 => (laws_FnExactDigest.j0 k l0 l1 t209 t218 (!t234)))))) else (some false)))) else (some false)))) else (some false))))) = some true := H
      have A8 := Aside0.mk A80
      clear A80
      replace H := Option.bind_eq_some_iff.mp H
      obtain ⟨t215, A90, H⟩ := H
      replace H : ((impl_Digest.f k t212 t215).bind fun t218 => ((laws_eqByteS.f k t218 t209).bind fun t221 => (if t221 = true then ((laws_toByteS.f k l0).bind fun t222 => ((laws_eqByteS.f k t212 t222).bind fun t225 => (if t225 = true then ((laws_toByteS.f k l1).bind fun t226 => ((laws_eqByteS.f k t215 t226).bind fun t229 => (if t229 = true then ((laws_markByteS.f k t212 1).bind fun bt230 => ((laws_markByteS.f k t215 bt230.1).bind fun bt232 => (if bt232.1 < 0 then (laws_FnExactDigest.j0 k l0 l1 t209 t218 true) else ((laws_eqByteS.f k t218 t209).bind fun t234 => (laws_FnExactDigest.j0 k l0 l1 t209 t218 (!t234)))))) else (some false)))) else (some false)))) else (some false)))) = some true := H
      have A9 := Aside0.mk A90
      clear A90
      replace H := Option.bind_eq_some_iff.mp H
      obtain ⟨t218, A100, H⟩ := H
      replace H : ((laws_eqByteS.f k t218 t209).bind fun t221 => (if t221 = true then ((laws_toByteS.f k l0).bind fun t222 => ((laws_eqByteS.f k t212 t222).bind fun t225 => (if t225 = true then ((laws_toByteS.f k l1).bind fun t226 => ((laws_eqByteS.f k t215 t226).bind fun t229 => (if t229 = true then ((laws_markByteS.f k t212 1).bind fun bt230 => ((laws_markByteS.f k t215 bt230.1).bind fun bt232 => (if bt232.1 < 0 then (laws_FnExactDigest.j0 k l0 l1 t209 t218 true) else ((laws_eqByteS.f k t218 t209).bind fun t234 => (laws_FnExactDigest.j0 k l0 l1 t209 t218 (!t234)))))) else (some false)))) else (some false)))) else (some false))) = some true := H
      have A10 := Aside0.mk A100
      clear A100
      replace H := Option.bind_eq_some_iff.mp H
      obtain ⟨t221, A110, H⟩ := H
      replace H : (if t221 = true then ((laws_toByteS.f k l0).bind fun t222 => ((laws_eqByteS.f k t212 t222).bind fun t225 => (if t225 = true then ((laws_toByteS.f k l1).bind fun t226 => ((laws_eqByteS.f k t215 t226).bind fun t229 => (if t229 = true then ((laws_markByteS.f k t212 1).bind fun bt230 => ((laws_markByteS.f k t215 bt230.1).bind fun bt232 => (if bt232.1 < 0 then (laws_FnExactDigest.j0 k l0 l1 t209 t218 true) else ((laws_eqByteS.f k t218 t209).bind fun t234 => (laws_FnExactDigest.j0 k l0 l1 t209 t218 (!t234)))))) else (some false)))) else (some false)))) else (some false)) = some true := H
      have A11 := Aside0.mk A110
      clear A110
      by_cases c12 : t221 = true
      · subst c12
        have H1 : ((laws_toByteS.f k l0).bind fun t222 => ((laws_eqByteS.f k t212 t222).bind fun t225 => (if t225 = true then ((laws_toByteS.f k l1).bind fun t226 => ((laws_eqByteS.f k t215 t226).bind fun t229 => (if t229 = true then ((laws_markByteS.f k t212 1).bind fun bt230 => ((laws_markByteS.f k t215 bt230.1).bind fun bt232 => (if bt232.1 < 0 then (laws_FnExactDigest.j0 k l0 l1 t209 t218 true) else ((laws_eqByteS.f k t218 t209).bind fun t234 => (laws_FnExactDigest.j0 k l0 l1 t209 t218 (!t234)))))) else (some false)))) else (some false)))) = some true := by rw [if_pos rfl] at H; exact H
        clear H
        have H := H1
        clear H1
        replace H := Option.bind_eq_some_iff.mp H
        obtain ⟨t222, A130, H⟩ := H
        replace H : ((laws_eqByteS.f k t212 t222).bind fun t225 => (if t225 = true then ((laws_toByteS.f k l1).bind fun t226 => ((laws_eqByteS.f k t215 t226).bind fun t229 => (if t229 = true then ((laws_markByteS.f k t212 1).bind fun bt230 => ((laws_markByteS.f k t215 bt230.1).bind fun bt232 => (if bt232.1 < 0 then (laws_FnExactDigest.j0 k l0 l1 t209 t218 true) else ((laws_eqByteS.f k t218 t209).bind fun t234 => (laws_FnExactDigest.j0 k l0 l1 t209 t218 (!t234)))))) else (some false)))) else (some false))) = some true := H
        have A13 := Aside0.mk A130
        clear A130
        replace H := Option.bind_eq_some_iff.mp H
        obtain ⟨t225, A140, H⟩ := H
        replace H : (if t225 = true then ((laws_toByteS.f k l1).bind fun t226 => ((laws_eqByteS.f k t215 t226).bind fun t229 => (if t229 = true then ((laws_markByteS.f k t212 1).bind fun bt230 => ((laws_markByteS.f k t215 bt230.1).bind fun bt232 => (if bt232.1 < 0 then (laws_FnExactDigest.j0 k l0 l1 t209 t218 true) else ((laws_eqByteS.f k t218 t209).bind fun t234 => (laws_FnExactDigest.j0 k l0 l1 t209 t218 (!t234)))))) else (some false)))) else (some false)) = some true := H
        have A14 := Aside0.mk A140
        clear A140
        by_cases c15 : t225 = true
        · subst c15
          have H1 : ((laws_toByteS.f k l1).bind fun t226 => ((laws_eqByteS.f k t215 t226).bind fun t229 => (if t229 = true then ((laws_markByteS.f k t212 1).bind fun bt230 => ((laws_markByteS.f k t215 bt230.1).bind fun bt232 => (if bt232.1 < 0 then (laws_FnExactDigest.j0 k l0 l1 t209 t218 true) else ((laws_eqByteS.f k t218 t209).bind fun t234 => (laws_FnExactDigest.j0 k l0 l1 t209 t218 (!t234)))))) else (some false)))) = some true := by rw [if_pos rfl] at H; exact H
          clear H
          have H := H1
          clear H1
          replace H := Option.bind_eq_some_iff.mp H
          obtain ⟨t226, A160, H⟩ := H
          replace H : ((laws_eqByteS.f k t215 t226).bind fun t229 => (if t229 = true then ((laws_markByteS.f k t212 1).bind fun bt230 => ((laws_markByteS.f k t215 bt230.1).bind fun bt232 => (if bt232.1 < 0 then (laws_FnExactDigest.j0 k l0 l1 t209 t218 true) else ((laws_eqByteS.f k t218 t209).bind fun t234 => (laws_FnExactDigest.j0 k l0 l1 t209 t218 (!t234)))))) else (some false))) = some true := H
          have A16 := Aside0.mk A160
          clear A160
          replace H := Option.bind_eq_some_iff.mp H
          obtain ⟨t229, A170, H⟩ := H
          replace H : (if t229 = true then ((laws_markByteS.f k t212 1).bind fun bt230 => ((laws_markByteS.f k t215 bt230.1).bind fun bt232 => (if bt232.1 < 0 then (laws_FnExactDigest.j0 k l0 l1 t209 t218 true) else ((laws_eqByteS.f k t218 t209).bind fun t234 => (laws_FnExactDigest.j0 k l0 l1 t209 t218 (!t234)))))) else (some false)) = some true := H
          have A17 := Aside0.mk A170
          clear A170
          by_cases c18 : t229 = true
          · subst c18
            have H1 : ((laws_markByteS.f k t212 1).bind fun bt230 => ((laws_markByteS.f k t215 bt230.1).bind fun bt232 => (if bt232.1 < 0 then (laws_FnExactDigest.j0 k l0 l1 t209 t218 true) else ((laws_eqByteS.f k t218 t209).bind fun t234 => (laws_FnExactDigest.j0 k l0 l1 t209 t218 (!t234)))))) = some true := by rw [if_pos rfl] at H; exact H
            clear H
            have H := H1
            clear H1
            replace H := Option.bind_eq_some_iff.mp H
            obtain ⟨⟨t230, t231⟩, A190, H⟩ := H
            replace H : ((laws_markByteS.f k t215 t230).bind fun bt232 => (if bt232.1 < 0 then (laws_FnExactDigest.j0 k l0 l1 t209 t218 true) else ((laws_eqByteS.f k t218 t209).bind fun t234 => (laws_FnExactDigest.j0 k l0 l1 t209 t218 (!t234))))) = some true := H
            have A19 := Aside0.mk A190
            clear A190
            replace H := Option.bind_eq_some_iff.mp H
            obtain ⟨⟨t232, t233⟩, A200, H⟩ := H
            replace H : (if t232 < 0 then (laws_FnExactDigest.j0 k l0 l1 t209 t218 true) else ((laws_eqByteS.f k t218 t209).bind fun t234 => (laws_FnExactDigest.j0 k l0 l1 t209 t218 (!t234)))) = some true := H
            have A20 := Aside0.mk A200
            clear A200
            have HC21 := Aside0.mk H
            clear H
            go_enter Try.func3, Try.ntmps3
            go_upto_region 18 with (first | ((with_reducible refine gate_callee (f := 15) rfl ?_); refine goesL_ (some 20) rfl rfl Try.func15 (by kernel_rfl) rfl #[.slice A0 l0.length c0] rfl (by (try simp only [List.map_toArray, List.map_cons, List.map_nil]); first | done | rfl | (simp only [List.length_drop, List.length_take]; rfl)) ?_; (with_reducible refine (laws_toByteS.calls k _ _ l0 t203 _ ?side1 ?side2 A5.out).mono ?_); (case side1 => repeat (first | exact HR0.out | (with_reducible refine Kd.C_alloc ?_ _) | (with_reducible refine Kd.C_drewN ?_ _) | (with_reducible refine Kd.C_drew ?_))); (case side2 => exact HC0.out); rintro e w22 ⟨v204, rfl, ho0, hb⟩; refine ⟨_, rfl, ?_⟩; have n0_ := Aside0.mk (Kd.R_lower ho0 (below_size (by repeat (first | (with_reducible first | exact HB.out | apply below_alloc | apply pw_below_drewN | apply below_drew1) | exact HB.out)))); have n1_ := Aside0.mk (below_step (by repeat (first | (with_reducible first | exact HB.out | apply below_alloc | apply pw_below_drewN | apply below_drew1) | exact HB.out)) hb); clear HB; have HO205 := n0_; have HB := n1_; clear n0_ n1_; (try clear hb); (try clear hb2); (try clear hk); (try clear hi); (try clear ho0)) | ((with_reducible refine gate_callee (f := 15) rfl ?_); refine goesL_ (some 22) rfl rfl Try.func15 (by kernel_rfl) rfl #[.slice A1 l1.length c1] rfl (by (try simp only [List.map_toArray, List.map_cons, List.map_nil]); first | done | rfl | (simp only [List.length_drop, List.length_take]; rfl)) ?_; (with_reducible refine (laws_toByteS.calls k _ _ l1 t206 _ ?side1 ?side2 A6.out).mono ?_); (case side1 => repeat (first | exact (Kd.C_below HR1.out HB.out) | (with_reducible refine Kd.C_alloc ?_ _) | (with_reducible refine Kd.C_drewN ?_ _) | (with_reducible refine Kd.C_drew ?_))); (case side2 => exact HC1.out); rintro e w23 ⟨v207, rfl, ho0, hb⟩; refine ⟨_, rfl, ?_⟩; have n0_ := Aside0.mk (Kd.R_elder' (by (with_reducible repeat (first | apply Kd.R_alloc | apply Kd.R_drewN | apply Kd.R_drew)); exact HO205.out) (Kd.R_base ho0) hb); have n1_ := Aside0.mk (Kd.R_lower (Kd.R_new' ho0 (Kd.R_lt (by (with_reducible repeat (first | apply Kd.R_alloc | apply Kd.R_drewN | apply Kd.R_drew)); exact HO205.out))) (below_size (by repeat (first | (with_reducible first | exact HB.out | apply below_alloc | apply pw_below_drewN | apply below_drew1) | exact HB.out)))); have n2_ := Aside0.mk (below_step (by repeat (first | (with_reducible first | exact HB.out | apply below_alloc | apply pw_below_drewN | apply below_drew1) | exact HB.out)) hb); clear HO205; clear HB; have HO205 := n0_; have HO208 := n1_; have HB := n2_; clear n0_ n1_ n2_; (try clear hb); (try clear hb2); (try clear hk); (try clear hi); (try clear ho0); obtain ⟨Ao24, co24, eo24⟩ := Kd.R_slice HO205.out; subst eo24; obtain ⟨Ao25, co25, eo25⟩ := Kd.R_slice HO208.out; subst eo25) | ((with_reducible refine gate_callee (f := 14) rfl ?_); refine goesL_ (some 23) rfl rfl Try.func14 (by kernel_rfl) rfl #[.slice Ao24 t203.length co24, .slice Ao25 t206.length co25] rfl (by (try simp only [List.map_toArray, List.map_cons, List.map_nil]); first | done | rfl | (simp only [List.length_drop, List.length_take]; rfl)) ?_; (with_reducible refine (spec_Digest.calls k _ _ t203 _ _ t206 t209 _ ?side1 ?side2 ?side3 ?side4 A7.out).mono ?_); (case side1 => repeat (first | exact (Kd.R_reads' HO205.out).2.2 | (with_reducible refine Kd.C_alloc ?_ _) | (with_reducible refine Kd.C_drewN ?_ _) | (with_reducible refine Kd.C_drew ?_))); (case side2 => exact (Kd.R_reads' HO205.out).2.1); (case side3 => repeat (first | exact (Kd.R_reads' HO208.out).2.2 | (with_reducible refine Kd.C_alloc ?_ _) | (with_reducible refine Kd.C_drewN ?_ _) | (with_reducible refine Kd.C_drew ?_))); (case side4 => exact (Kd.R_reads' HO208.out).2.1); rintro e w26 ⟨v210, rfl, ho0, hb⟩; refine ⟨_, rfl, ?_⟩; have n0_ := Aside0.mk (Kd.R_elder' (by (with_reducible repeat (first | apply Kd.R_alloc | apply Kd.R_drewN | apply Kd.R_drew)); exact HO205.out) (Kd.R_base ho0) hb); have n1_ := Aside0.mk (Kd.R_elder' (by (with_reducible repeat (first | apply Kd.R_alloc | apply Kd.R_drewN | apply Kd.R_drew)); exact HO208.out) (Kd.R_base ho0) hb); have n2_ := Aside0.mk (Kd.R_lower (Kd.R_new' (Kd.R_new' ho0 (Kd.R_lt (by (with_reducible repeat (first | apply Kd.R_alloc | apply Kd.R_drewN | apply Kd.R_drew)); exact HO205.out))) (Kd.R_lt (by (with_reducible repeat (first | apply Kd.R_alloc | apply Kd.R_drewN | apply Kd.R_drew)); exact HO208.out))) (below_size (by repeat (first | (with_reducible first | exact HB.out | apply below_alloc | apply pw_below_drewN | apply below_drew1) | exact HB.out)))); have n3_ := Aside0.mk (below_step (by repeat (first | (with_reducible first | exact HB.out | apply below_alloc | apply pw_below_drewN | apply below_drew1) | exact HB.out)) hb); clear HO205; clear HO208; clear HB; have HO205 := n0_; have HO208 := n1_; have HO211 := n2_; have HB := n3_; clear n0_ n1_ n2_ n3_; (try clear hb); (try clear hb2); (try clear hk); (try clear hi); (try clear ho0)) | ((with_reducible refine gate_callee (f := 15) rfl ?_); refine goesL_ (some 25) rfl rfl Try.func15 (by kernel_rfl) rfl #[.slice A0 l0.length c0] rfl (by (try simp only [List.map_toArray, List.map_cons, List.map_nil]); first | done | rfl | (simp only [List.length_drop, List.length_take]; rfl)) ?_; (with_reducible refine (laws_toByteS.calls k _ _ l0 t212 _ ?side1 ?side2 A8.out).mono ?_); (case side1 => repeat (first | exact (Kd.C_below HR0.out HB.out) | (with_reducible refine Kd.C_alloc ?_ _) | (with_reducible refine Kd.C_drewN ?_ _) | (with_reducible refine Kd.C_drew ?_))); (case side2 => exact HC0.out); rintro e w27 ⟨v213, rfl, ho0, hb⟩; refine ⟨_, rfl, ?_⟩; have n0_ := Aside0.mk (Kd.R_elder' (by (with_reducible repeat (first | apply Kd.R_alloc | apply Kd.R_drewN | apply Kd.R_drew)); exact HO205.out) (Kd.R_base ho0) hb); have n1_ := Aside0.mk (Kd.R_elder' (by (with_reducible repeat (first | apply Kd.R_alloc | apply Kd.R_drewN | apply Kd.R_drew)); exact HO208.out) (Kd.R_base ho0) hb); have n2_ := Aside0.mk (Kd.R_elder' (by (with_reducible repeat (first | apply Kd.R_alloc | apply Kd.R_drewN | apply Kd.R_drew)); exact HO211.out) (Kd.R_base ho0) hb); have n3_ := Aside0.mk (Kd.R_lower (Kd.R_new' (Kd.R_new' (Kd.R_new' ho0 (Kd.R_lt (by (with_reducible repeat (first | apply Kd.R_alloc | apply Kd.R_drewN | apply Kd.R_drew)); exact HO205.out))) (Kd.R_lt (by (with_reducible repeat (first | apply Kd.R_alloc | apply Kd.R_drewN | apply Kd.R_drew)); exact HO208.out))) (Kd.R_lt (by (with_reducible repeat (first | apply Kd.R_alloc | apply Kd.R_drewN | apply Kd.R_drew)); exact HO211.out))) (below_size (by repeat (first | (with_reducible first | exact HB.out | apply below_alloc | apply pw_below_drewN | apply below_drew1) | exact HB.out)))); have n4_ := Aside0.mk (below_step (by repeat (first | (with_reducible first | exact HB.out | apply below_alloc | apply pw_below_drewN | apply below_drew1) | exact HB.out)) hb); clear HO205; clear HO208; clear HO211; clear HB; have HO205 := n0_; have HO208 := n1_; have HO211 := n2_; have HO214 := n3_; have HB := n4_; clear n0_ n1_ n2_ n3_ n4_; (try clear hb); (try clear hb2); (try clear hk); (try clear hi); (try clear ho0)) | ((with_reducible refine gate_callee (f := 15) rfl ?_); refine goesL_ (some 27) rfl rfl Try.func15 (by kernel_rfl) rfl #[.slice A1 l1.length c1] rfl (by (try simp only [List.map_toArray, List.map_cons, List.map_nil]); first | done | rfl | (simp only [List.length_drop, List.length_take]; rfl)) ?_; (with_reducible refine (laws_toByteS.calls k _ _ l1 t215 _ ?side1 ?side2 A9.out).mono ?_); (case side1 => repeat (first | exact (Kd.C_below HR1.out HB.out) | (with_reducible refine Kd.C_alloc ?_ _) | (with_reducible refine Kd.C_drewN ?_ _) | (with_reducible refine Kd.C_drew ?_))); (case side2 => exact HC1.out); rintro e w28 ⟨v216, rfl, ho0, hb⟩; refine ⟨_, rfl, ?_⟩; have n0_ := Aside0.mk (Kd.R_elder' (by (with_reducible repeat (first | apply Kd.R_alloc | apply Kd.R_drewN | apply Kd.R_drew)); exact HO205.out) (Kd.R_base ho0) hb); have n1_ := Aside0.mk (Kd.R_elder' (by (with_reducible repeat (first | apply Kd.R_alloc | apply Kd.R_drewN | apply Kd.R_drew)); exact HO208.out) (Kd.R_base ho0) hb); have n2_ := Aside0.mk (Kd.R_elder' (by (with_reducible repeat (first | apply Kd.R_alloc | apply Kd.R_drewN | apply Kd.R_drew)); exact HO211.out) (Kd.R_base ho0) hb); have n3_ := Aside0.mk (Kd.R_elder' (by (with_reducible repeat (first | apply Kd.R_alloc | apply Kd.R_drewN | apply Kd.R_drew)); exact HO214.out) (Kd.R_base ho0) hb); have n4_ := Aside0.mk (Kd.R_lower (Kd.R_new' (Kd.R_new' (Kd.R_new' (Kd.R_new' ho0 (Kd.R_lt (by (with_reducible repeat (first | apply Kd.R_alloc | apply Kd.R_drewN | apply Kd.R_drew)); exact HO205.out))) (Kd.R_lt (by (with_reducible repeat (first | apply Kd.R_alloc | apply Kd.R_drewN | apply Kd.R_drew)); exact HO208.out))) (Kd.R_lt (by (with_reducible repeat (first | apply Kd.R_alloc | apply Kd.R_drewN | apply Kd.R_drew)); exact HO211.out))) (Kd.R_lt (by (with_reducible repeat (first | apply Kd.R_alloc | apply Kd.R_drewN | apply Kd.R_drew)); exact HO214.out))) (below_size (by repeat (first | (with_reducible first | exact HB.out | apply below_alloc | apply pw_below_drewN | apply below_drew1) | exact HB.out)))); have n5_ := Aside0.mk (below_step (by repeat (first | (with_reducible first | exact HB.out | apply below_alloc | apply pw_below_drewN | apply below_drew1) | exact HB.out)) hb); clear HO205; clear HO208; clear HO211; clear HO214; clear HB; have HO205 := n0_; have HO208 := n1_; have HO211 := n2_; have HO214 := n3_; have HO217 := n4_; have HB := n5_; clear n0_ n1_ n2_ n3_ n4_ n5_; (try clear hb); (try clear hb2); (try clear hk); (try clear hi); (try clear ho0); obtain ⟨Ao29, co29, eo29⟩ := Kd.R_slice HO214.out; subst eo29; obtain ⟨Ao30, co30, eo30⟩ := Kd.R_slice HO217.out; subst eo30) | ((with_reducible refine gate_callee (f := 16) rfl ?_); refine goesL_ (some 30) rfl rfl Try.func16 (by kernel_rfl) rfl #[.slice Ao29 t212.length co29, .slice Ao30 t215.length co30] rfl (by (try simp only [List.map_toArray, List.map_cons, List.map_nil]); first | done | rfl | (simp only [List.length_drop, List.length_take]; rfl)) ?_; (with_reducible refine (impl_Digest.calls k _ _ t212 _ _ t215 t218 _ ?side1 ?side2 ?side3 ?side4 A10.out).mono ?_); (case side1 => repeat (first | exact (Kd.R_reads' HO214.out).2.2 | (with_reducible refine Kd.C_alloc ?_ _) | (with_reducible refine Kd.C_drewN ?_ _) | (with_reducible refine Kd.C_drew ?_))); (case side2 => exact (Kd.R_reads' HO214.out).2.1); (case side3 => repeat (first | exact (Kd.R_reads' HO217.out).2.2 | (with_reducible refine Kd.C_alloc ?_ _) | (with_reducible refine Kd.C_drewN ?_ _) | (with_reducible refine Kd.C_drew ?_))); (case side4 => exact (Kd.R_reads' HO217.out).2.1); rintro e w31 ⟨v219, rfl, ho0, hb⟩; refine ⟨_, rfl, ?_⟩; have n0_ := Aside0.mk (Kd.R_elder' (by (with_reducible repeat (first | apply Kd.R_alloc | apply Kd.R_drewN | apply Kd.R_drew)); exact HO205.out) (Kd.R_base ho0) hb); have n1_ := Aside0.mk (Kd.R_elder' (by (with_reducible repeat (first | apply Kd.R_alloc | apply Kd.R_drewN | apply Kd.R_drew)); exact HO208.out) (Kd.R_base ho0) hb); have n2_ := Aside0.mk (Kd.R_elder' (by (with_reducible repeat (first | apply Kd.R_alloc | apply Kd.R_drewN | apply Kd.R_drew)); exact HO211.out) (Kd.R_base ho0) hb); have n3_ := Aside0.mk (Kd.R_elder' (by (with_reducible repeat (first | apply Kd.R_alloc | apply Kd.R_drewN | apply Kd.R_drew)); exact HO214.out) (Kd.R_base ho0) hb); have n4_ := Aside0.mk (Kd.R_elder' (by (with_reducible repeat (first | apply Kd.R_alloc | apply Kd.R_drewN | apply Kd.R_drew)); exact HO217.out) (Kd.R_base ho0) hb); have n5_ := Aside0.mk (Kd.R_lower (Kd.R_new' (Kd.R_new' (Kd.R_new' (Kd.R_new' (Kd.R_new' ho0 (Kd.R_lt (by (with_reducible repeat (first | apply Kd.R_alloc | apply Kd.R_drewN | apply Kd.R_drew)); exact HO205.out))) (Kd.R_lt (by (with_reducible repeat (first | apply Kd.R_alloc | apply Kd.R_drewN | apply Kd.R_drew)); exact HO208.out))) (Kd.R_lt (by (with_reducible repeat (first | apply Kd.R_alloc | apply Kd.R_drewN | apply Kd.R_drew)); exact HO211.out))) (Kd.R_lt (by (with_reducible repeat (first | apply Kd.R_alloc | apply Kd.R_drewN | apply Kd.R_drew)); exact HO214.out))) (Kd.R_lt (by (with_reducible repeat (first | apply Kd.R_alloc | apply Kd.R_drewN | apply Kd.R_drew)); exact HO217.out))) (below_size (by repeat (first | (with_reducible first | exact HB.out | apply below_alloc | apply pw_below_drewN | apply below_drew1) | exact HB.out)))); have n6_ := Aside0.mk (below_step (by repeat (first | (with_reducible first | exact HB.out | apply below_alloc | apply pw_below_drewN | apply below_drew1) | exact HB.out)) hb); clear HO205; clear HO208; clear HO211; clear HO214; clear HO217; clear HB; have HO205 := n0_; have HO208 := n1_; have HO211 := n2_; have HO214 := n3_; have HO217 := n4_; have HO220 := n5_; have HB := n6_; clear n0_ n1_ n2_ n3_ n4_ n5_ n6_; (try clear hb); (try clear hb2); (try clear hk); (try clear hi); (try clear ho0); obtain ⟨Ao32, co32, eo32⟩ := Kd.R_slice HO220.out; subst eo32; obtain ⟨Ao33, co33, eo33⟩ := Kd.R_slice HO211.out; subst eo33) | ((with_reducible refine gate_callee (f := 17) rfl ?_); refine goesL_ (some 33) rfl rfl Try.func17 (by kernel_rfl) rfl #[.slice Ao32 t218.length co32, .slice Ao33 t209.length co33] rfl (by (try simp only [List.map_toArray, List.map_cons, List.map_nil]); first | done | rfl | (simp only [List.length_drop, List.length_take]; rfl)) ?_; (with_reducible refine (laws_eqByteS.calls k _ _ t218 _ _ t209 true _ ?side1 ?side2 ?side3 ?side4 A11.out).mono ?_); (case side1 => repeat (first | exact (Kd.R_reads' HO220.out).2.2 | (with_reducible refine Kd.C_alloc ?_ _) | (with_reducible refine Kd.C_drewN ?_ _) | (with_reducible refine Kd.C_drew ?_))); (case side2 => exact (Kd.R_reads' HO220.out).2.1); (case side3 => repeat (first | exact (Kd.R_reads' HO211.out).2.2 | (with_reducible refine Kd.C_alloc ?_ _) | (with_reducible refine Kd.C_drewN ?_ _) | (with_reducible refine Kd.C_drew ?_))); (case side4 => exact (Kd.R_reads' HO211.out).2.1); rintro e w' ⟨rfl, ⟨nd, rfl⟩⟩; refine ⟨_, rfl, ?_⟩) | ((with_reducible refine gate_callee (f := 15) rfl ?_); refine goesL_ (some 37) rfl rfl Try.func15 (by kernel_rfl) rfl #[.slice A0 l0.length c0] rfl (by (try simp only [List.map_toArray, List.map_cons, List.map_nil]); first | done | rfl | (simp only [List.length_drop, List.length_take]; rfl)) ?_; (with_reducible refine (laws_toByteS.calls k _ _ l0 t222 _ ?side1 ?side2 A13.out).mono ?_); (case side1 => repeat (first | exact (Kd.C_below HR0.out (by repeat (first | (with_reducible first | exact HB.out | apply below_alloc | apply pw_below_drewN | apply below_drew1) | exact HB.out))) | (with_reducible refine Kd.C_alloc ?_ _) | (with_reducible refine Kd.C_drewN ?_ _) | (with_reducible refine Kd.C_drew ?_))); (case side2 => exact HC0.out); rintro e w34 ⟨v223, rfl, ho0, hb⟩; refine ⟨_, rfl, ?_⟩; have n0_ := Aside0.mk (Kd.R_elder' (by (with_reducible repeat (first | apply Kd.R_alloc | apply Kd.R_drewN | apply Kd.R_drew)); exact HO205.out) (Kd.R_base ho0) hb); have n1_ := Aside0.mk (Kd.R_elder' (by (with_reducible repeat (first | apply Kd.R_alloc | apply Kd.R_drewN | apply Kd.R_drew)); exact HO208.out) (Kd.R_base ho0) hb); have n2_ := Aside0.mk (Kd.R_elder' (by (with_reducible repeat (first | apply Kd.R_alloc | apply Kd.R_drewN | apply Kd.R_drew)); exact HO211.out) (Kd.R_base ho0) hb); have n3_ := Aside0.mk (Kd.R_elder' (by (with_reducible repeat (first | apply Kd.R_alloc | apply Kd.R_drewN | apply Kd.R_drew)); exact HO214.out) (Kd.R_base ho0) hb); have n4_ := Aside0.mk (Kd.R_elder' (by (with_reducible repeat (first | apply Kd.R_alloc | apply Kd.R_drewN | apply Kd.R_drew)); exact HO217.out) (Kd.R_base ho0) hb); have n5_ := Aside0.mk (Kd.R_elder' (by (with_reducible repeat (first | apply Kd.R_alloc | apply Kd.R_drewN | apply Kd.R_drew)); exact HO220.out) (Kd.R_base ho0) hb); have n6_ := Aside0.mk (Kd.R_lower (Kd.R_new' (Kd.R_new' (Kd.R_new' (Kd.R_new' (Kd.R_new' (Kd.R_new' ho0 (Kd.R_lt (by (with_reducible repeat (first | apply Kd.R_alloc | apply Kd.R_drewN | apply Kd.R_drew)); exact HO205.out))) (Kd.R_lt (by (with_reducible repeat (first | apply Kd.R_alloc | apply Kd.R_drewN | apply Kd.R_drew)); exact HO208.out))) (Kd.R_lt (by (with_reducible repeat (first | apply Kd.R_alloc | apply Kd.R_drewN | apply Kd.R_drew)); exact HO211.out))) (Kd.R_lt (by (with_reducible repeat (first | apply Kd.R_alloc | apply Kd.R_drewN | apply Kd.R_drew)); exact HO214.out))) (Kd.R_lt (by (with_reducible repeat (first | apply Kd.R_alloc | apply Kd.R_drewN | apply Kd.R_drew)); exact HO217.out))) (Kd.R_lt (by (with_reducible repeat (first | apply Kd.R_alloc | apply Kd.R_drewN | apply Kd.R_drew)); exact HO220.out))) (below_size (by repeat (first | (with_reducible first | exact HB.out | apply below_alloc | apply pw_below_drewN | apply below_drew1) | exact HB.out)))); have n7_ := Aside0.mk (below_step (by repeat (first | (with_reducible first | exact HB.out | apply below_alloc | apply pw_below_drewN | apply below_drew1) | exact HB.out)) hb); clear HO205; clear HO208; clear HO211; clear HO214; clear HO217; clear HO220; clear HB; have HO205 := n0_; have HO208 := n1_; have HO211 := n2_; have HO214 := n3_; have HO217 := n4_; have HO220 := n5_; have HO224 := n6_; have HB := n7_; clear n0_ n1_ n2_ n3_ n4_ n5_ n6_ n7_; (try clear hb); (try clear hb2); (try clear hk); (try clear hi); (try clear ho0); obtain ⟨Ao35, co35, eo35⟩ := Kd.R_slice HO224.out; subst eo35) | ((with_reducible refine gate_callee (f := 17) rfl ?_); refine goesL_ (some 38) rfl rfl Try.func17 (by kernel_rfl) rfl #[.slice Ao29 t212.length co29, .slice Ao35 t222.length co35] rfl (by (try simp only [List.map_toArray, List.map_cons, List.map_nil]); first | done | rfl | (simp only [List.length_drop, List.length_take]; rfl)) ?_; (with_reducible refine (laws_eqByteS.calls k _ _ t212 _ _ t222 true _ ?side1 ?side2 ?side3 ?side4 A14.out).mono ?_); (case side1 => repeat (first | exact (Kd.R_reads' HO214.out).2.2 | (with_reducible refine Kd.C_alloc ?_ _) | (with_reducible refine Kd.C_drewN ?_ _) | (with_reducible refine Kd.C_drew ?_))); (case side2 => exact (Kd.R_reads' HO214.out).2.1); (case side3 => repeat (first | exact (Kd.R_reads' HO224.out).2.2 | (with_reducible refine Kd.C_alloc ?_ _) | (with_reducible refine Kd.C_drewN ?_ _) | (with_reducible refine Kd.C_drew ?_))); (case side4 => exact (Kd.R_reads' HO224.out).2.1); rintro e w' ⟨rfl, ⟨nd, rfl⟩⟩; refine ⟨_, rfl, ?_⟩) | ((with_reducible refine gate_callee (f := 15) rfl ?_); refine goesL_ (some 42) rfl rfl Try.func15 (by kernel_rfl) rfl #[.slice A1 l1.length c1] rfl (by (try simp only [List.map_toArray, List.map_cons, List.map_nil]); first | done | rfl | (simp only [List.length_drop, List.length_take]; rfl)) ?_; (with_reducible refine (laws_toByteS.calls k _ _ l1 t226 _ ?side1 ?side2 A16.out).mono ?_); (case side1 => repeat (first | exact (Kd.C_below HR1.out (by repeat (first | (with_reducible first | exact HB.out | apply below_alloc | apply pw_below_drewN | apply below_drew1) | exact HB.out))) | (with_reducible refine Kd.C_alloc ?_ _) | (with_reducible refine Kd.C_drewN ?_ _) | (with_reducible refine Kd.C_drew ?_))); (case side2 => exact HC1.out); rintro e w36 ⟨v227, rfl, ho0, hb⟩; refine ⟨_, rfl, ?_⟩; have n0_ := Aside0.mk (Kd.R_elder' (by (with_reducible repeat (first | apply Kd.R_alloc | apply Kd.R_drewN | apply Kd.R_drew)); exact HO205.out) (Kd.R_base ho0) hb); have n1_ := Aside0.mk (Kd.R_elder' (by (with_reducible repeat (first | apply Kd.R_alloc | apply Kd.R_drewN | apply Kd.R_drew)); exact HO208.out) (Kd.R_base ho0) hb); have n2_ := Aside0.mk (Kd.R_elder' (by (with_reducible repeat (first | apply Kd.R_alloc | apply Kd.R_drewN | apply Kd.R_drew)); exact HO211.out) (Kd.R_base ho0) hb); have n3_ := Aside0.mk (Kd.R_elder' (by (with_reducible repeat (first | apply Kd.R_alloc | apply Kd.R_drewN | apply Kd.R_drew)); exact HO214.out) (Kd.R_base ho0) hb); have n4_ := Aside0.mk (Kd.R_elder' (by (with_reducible repeat (first | apply Kd.R_alloc | apply Kd.R_drewN | apply Kd.R_drew)); exact HO217.out) (Kd.R_base ho0) hb); have n5_ := Aside0.mk (Kd.R_elder' (by (with_reducible repeat (first | apply Kd.R_alloc | apply Kd.R_drewN | apply Kd.R_drew)); exact HO220.out) (Kd.R_base ho0) hb); have n6_ := Aside0.mk (Kd.R_elder' (by (with_reducible repeat (first | apply Kd.R_alloc | apply Kd.R_drewN | apply Kd.R_drew)); exact HO224.out) (Kd.R_base ho0) hb); have n7_ := Aside0.mk (Kd.R_lower (Kd.R_new' (Kd.R_new' (Kd.R_new' (Kd.R_new' (Kd.R_new' (Kd.R_new' (Kd.R_new' ho0 (Kd.R_lt (by (with_reducible repeat (first | apply Kd.R_alloc | apply Kd.R_drewN | apply Kd.R_drew)); exact HO205.out))) (Kd.R_lt (by (with_reducible repeat (first | apply Kd.R_alloc | apply Kd.R_drewN | apply Kd.R_drew)); exact HO208.out))) (Kd.R_lt (by (with_reducible repeat (first | apply Kd.R_alloc | apply Kd.R_drewN | apply Kd.R_drew)); exact HO211.out))) (Kd.R_lt (by (with_reducible repeat (first | apply Kd.R_alloc | apply Kd.R_drewN | apply Kd.R_drew)); exact HO214.out))) (Kd.R_lt (by (with_reducible repeat (first | apply Kd.R_alloc | apply Kd.R_drewN | apply Kd.R_drew)); exact HO217.out))) (Kd.R_lt (by (with_reducible repeat (first | apply Kd.R_alloc | apply Kd.R_drewN | apply Kd.R_drew)); exact HO220.out))) (Kd.R_lt (by (with_reducible repeat (first | apply Kd.R_alloc | apply Kd.R_drewN | apply Kd.R_drew)); exact HO224.out))) (below_size (by repeat (first | (with_reducible first | exact HB.out | apply below_alloc | apply pw_below_drewN | apply below_drew1) | exact HB.out)))); have n8_ := Aside0.mk (below_step (by repeat (first | (with_reducible first | exact HB.out | apply below_alloc | apply pw_below_drewN | apply below_drew1) | exact HB.out)) hb); clear HO205; clear HO208; clear HO211; clear HO214; clear HO217; clear HO220; clear HO224; clear HB; have HO205 := n0_; have HO208 := n1_; have HO211 := n2_; have HO214 := n3_; have HO217 := n4_; have HO220 := n5_; have HO224 := n6_; have HO228 := n7_; have HB := n8_; clear n0_ n1_ n2_ n3_ n4_ n5_ n6_ n7_ n8_; (try clear hb); (try clear hb2); (try clear hk); (try clear hi); (try clear ho0); obtain ⟨Ao37, co37, eo37⟩ := Kd.R_slice HO228.out; subst eo37) | ((with_reducible refine gate_callee (f := 17) rfl ?_); refine goesL_ (some 43) rfl rfl Try.func17 (by kernel_rfl) rfl #[.slice Ao30 t215.length co30, .slice Ao37 t226.length co37] rfl (by (try simp only [List.map_toArray, List.map_cons, List.map_nil]); first | done | rfl | (simp only [List.length_drop, List.length_take]; rfl)) ?_; (with_reducible refine (laws_eqByteS.calls k _ _ t215 _ _ t226 true _ ?side1 ?side2 ?side3 ?side4 A17.out).mono ?_); (case side1 => repeat (first | exact (Kd.R_reads' HO217.out).2.2 | (with_reducible refine Kd.C_alloc ?_ _) | (with_reducible refine Kd.C_drewN ?_ _) | (with_reducible refine Kd.C_drew ?_))); (case side2 => exact (Kd.R_reads' HO217.out).2.1); (case side3 => repeat (first | exact (Kd.R_reads' HO228.out).2.2 | (with_reducible refine Kd.C_alloc ?_ _) | (with_reducible refine Kd.C_drewN ?_ _) | (with_reducible refine Kd.C_drew ?_))); (case side4 => exact (Kd.R_reads' HO228.out).2.1); rintro e w' ⟨rfl, ⟨nd, rfl⟩⟩; refine ⟨_, rfl, ?_⟩) | ((with_reducible refine gate_callee (f := 18) rfl ?_); refine goesL_ (some 47) rfl rfl Try.func18 (by kernel_rfl) rfl #[.slice Ao29 t212.length co29, .int .i64 1] rfl (by (try simp only [List.map_toArray, List.map_cons, List.map_nil]); first | done | rfl | (simp only [List.length_drop, List.length_take]; rfl)) ?_; (with_reducible refine (laws_markByteS.calls k (fun k_ => some k_ = (.slice Ao29 t212.length co29 : Value).ownBlock) (.slice Ao29 t212.length co29) t212 1 t230 t231 w _ ?side1 ?side2 A19.out).mono ?_); (case side1 => repeat (first | (with_reducible first | exact HB.out | apply below_alloc | apply pw_below_drewN | apply below_drew1) | exact HB.out)); (case side2 => exact Kd.R_tight rfl HO214.out); rintro e w38 ⟨rfl, hy0, hb, hkp⟩; refine ⟨_, rfl, ?_⟩; have n0_ := Aside0.mk (Kd.R_mono (ok' := fun k_ => some k_ ≠ (.slice Ao25 t206.length co25 : Value).ownBlock ∧ some k_ ≠ (.slice Ao33 t209.length co33 : Value).ownBlock ∧ some k_ ≠ (.slice Ao29 t212.length co29 : Value).ownBlock ∧ some k_ ≠ (.slice Ao30 t215.length co30 : Value).ownBlock ∧ some k_ ≠ (.slice Ao32 t218.length co32 : Value).ownBlock ∧ some k_ ≠ (.slice Ao35 t222.length co35 : Value).ownBlock ∧ some k_ ≠ (.slice Ao37 t226.length co37 : Value).ownBlock) (Kd.R_keptB (HO205.out) hkp (fun k_ hk_ hs_ => (hk_.1.1.1.1.2) hs_)) (fun k_ hk_ => ⟨hk_.1.1.1.1.1.1.1.2, hk_.1.1.1.1.1.1.2, hk_.1.1.1.1.1.2, hk_.1.1.1.1.2, hk_.1.1.1.2, hk_.1.1.2, hk_.1.2⟩)); have n1_ := Aside0.mk (Kd.R_mono (ok' := fun k_ => some k_ ≠ (.slice Ao24 t203.length co24 : Value).ownBlock ∧ some k_ ≠ (.slice Ao33 t209.length co33 : Value).ownBlock ∧ some k_ ≠ (.slice Ao29 t212.length co29 : Value).ownBlock ∧ some k_ ≠ (.slice Ao30 t215.length co30 : Value).ownBlock ∧ some k_ ≠ (.slice Ao32 t218.length co32 : Value).ownBlock ∧ some k_ ≠ (.slice Ao35 t222.length co35 : Value).ownBlock ∧ some k_ ≠ (.slice Ao37 t226.length co37 : Value).ownBlock) (Kd.R_keptB (HO208.out) hkp (fun k_ hk_ hs_ => (hk_.1.1.1.1.2) hs_)) (fun k_ hk_ => ⟨hk_.1.1.1.1.1.1.1.2, hk_.1.1.1.1.1.1.2, hk_.1.1.1.1.1.2, hk_.1.1.1.1.2, hk_.1.1.1.2, hk_.1.1.2, hk_.1.2⟩)); have n2_ := Aside0.mk (Kd.R_mono (ok' := fun k_ => some k_ ≠ (.slice Ao24 t203.length co24 : Value).ownBlock ∧ some k_ ≠ (.slice Ao25 t206.length co25 : Value).ownBlock ∧ some k_ ≠ (.slice Ao29 t212.length co29 : Value).ownBlock ∧ some k_ ≠ (.slice Ao30 t215.length co30 : Value).ownBlock ∧ some k_ ≠ (.slice Ao32 t218.length co32 : Value).ownBlock ∧ some k_ ≠ (.slice Ao35 t222.length co35 : Value).ownBlock ∧ some k_ ≠ (.slice Ao37 t226.length co37 : Value).ownBlock) (Kd.R_keptB (HO211.out) hkp (fun k_ hk_ hs_ => (hk_.1.1.1.1.2) hs_)) (fun k_ hk_ => ⟨hk_.1.1.1.1.1.1.1.2, hk_.1.1.1.1.1.1.2, hk_.1.1.1.1.1.2, hk_.1.1.1.1.2, hk_.1.1.1.2, hk_.1.1.2, hk_.1.2⟩)); have n3_ := Aside0.mk (Kd.R_reok rfl hy0 (fun k_ e_ => HO214.out.1 k_ e_)); have n4_ := Aside0.mk (Kd.R_mono (ok' := fun k_ => some k_ ≠ (.slice Ao24 t203.length co24 : Value).ownBlock ∧ some k_ ≠ (.slice Ao25 t206.length co25 : Value).ownBlock ∧ some k_ ≠ (.slice Ao33 t209.length co33 : Value).ownBlock ∧ some k_ ≠ (.slice Ao29 t212.length co29 : Value).ownBlock ∧ some k_ ≠ (.slice Ao32 t218.length co32 : Value).ownBlock ∧ some k_ ≠ (.slice Ao35 t222.length co35 : Value).ownBlock ∧ some k_ ≠ (.slice Ao37 t226.length co37 : Value).ownBlock) (Kd.R_keptB (HO217.out) hkp (fun k_ hk_ hs_ => (hk_.1.1.1.2) hs_)) (fun k_ hk_ => ⟨hk_.1.1.1.1.1.1.1.2, hk_.1.1.1.1.1.1.2, hk_.1.1.1.1.1.2, hk_.1.1.1.1.2, hk_.1.1.1.2, hk_.1.1.2, hk_.1.2⟩)); have n5_ := Aside0.mk (Kd.R_mono (ok' := fun k_ => some k_ ≠ (.slice Ao24 t203.length co24 : Value).ownBlock ∧ some k_ ≠ (.slice Ao25 t206.length co25 : Value).ownBlock ∧ some k_ ≠ (.slice Ao33 t209.length co33 : Value).ownBlock ∧ some k_ ≠ (.slice Ao29 t212.length co29 : Value).ownBlock ∧ some k_ ≠ (.slice Ao30 t215.length co30 : Value).ownBlock ∧ some k_ ≠ (.slice Ao35 t222.length co35 : Value).ownBlock ∧ some k_ ≠ (.slice Ao37 t226.length co37 : Value).ownBlock) (Kd.R_keptB (HO220.out) hkp (fun k_ hk_ hs_ => (hk_.1.1.1.2) hs_)) (fun k_ hk_ => ⟨hk_.1.1.1.1.1.1.1.2, hk_.1.1.1.1.1.1.2, hk_.1.1.1.1.1.2, hk_.1.1.1.1.2, hk_.1.1.1.2, hk_.1.1.2, hk_.1.2⟩)); have n6_ := Aside0.mk (Kd.R_mono (ok' := fun k_ => some k_ ≠ (.slice Ao24 t203.length co24 : Value).ownBlock ∧ some k_ ≠ (.slice Ao25 t206.length co25 : Value).ownBlock ∧ some k_ ≠ (.slice Ao33 t209.length co33 : Value).ownBlock ∧ some k_ ≠ (.slice Ao29 t212.length co29 : Value).ownBlock ∧ some k_ ≠ (.slice Ao30 t215.length co30 : Value).ownBlock ∧ some k_ ≠ (.slice Ao32 t218.length co32 : Value).ownBlock ∧ some k_ ≠ (.slice Ao37 t226.length co37 : Value).ownBlock) (Kd.R_keptB (HO224.out) hkp (fun k_ hk_ hs_ => (hk_.1.1.1.2) hs_)) (fun k_ hk_ => ⟨hk_.1.1.1.1.1.1.1.2, hk_.1.1.1.1.1.1.2, hk_.1.1.1.1.1.2, hk_.1.1.1.1.2, hk_.1.1.1.2, hk_.1.1.2, hk_.1.2⟩)); have n7_ := Aside0.mk (Kd.R_mono (ok' := fun k_ => some k_ ≠ (.slice Ao24 t203.length co24 : Value).ownBlock ∧ some k_ ≠ (.slice Ao25 t206.length co25 : Value).ownBlock ∧ some k_ ≠ (.slice Ao33 t209.length co33 : Value).ownBlock ∧ some k_ ≠ (.slice Ao29 t212.length co29 : Value).ownBlock ∧ some k_ ≠ (.slice Ao30 t215.length co30 : Value).ownBlock ∧ some k_ ≠ (.slice Ao32 t218.length co32 : Value).ownBlock ∧ some k_ ≠ (.slice Ao35 t222.length co35 : Value).ownBlock) (Kd.R_keptB (HO228.out) hkp (fun k_ hk_ hs_ => (hk_.1.1.1.2) hs_)) (fun k_ hk_ => ⟨hk_.1.1.1.1.1.1.1.2, hk_.1.1.1.1.1.1.2, hk_.1.1.1.1.1.2, hk_.1.1.1.1.2, hk_.1.1.1.2, hk_.1.1.2, hk_.1.2⟩)); have n8_ := Aside0.mk (hb); clear HO205; clear HO208; clear HO211; clear HO214; clear HO217; clear HO220; clear HO224; clear HO228; clear HB; have HO205 := n0_; have HO208 := n1_; have HO211 := n2_; have HO214 := n3_; have HO217 := n4_; have HO220 := n5_; have HO224 := n6_; have HO228 := n7_; have HB := n8_; clear n0_ n1_ n2_ n3_ n4_ n5_ n6_ n7_ n8_; (try clear hb); (try clear hkp); (try clear hy0)) | ((with_reducible refine gate_callee (f := 18) rfl ?_); refine goesL_ (some 50) rfl rfl Try.func18 (by kernel_rfl) rfl #[.slice Ao30 t215.length co30, .int .i64 t230] rfl (by (try simp only [List.map_toArray, List.map_cons, List.map_nil]); first | done | rfl | (simp only [List.length_drop, List.length_take]; rfl)) ?_; (with_reducible refine (laws_markByteS.calls k (fun k_ => some k_ = (.slice Ao30 t215.length co30 : Value).ownBlock) (.slice Ao30 t215.length co30) t215 t230 t232 t233 w _ ?side1 ?side2 A20.out).mono ?_); (case side1 => repeat (first | (with_reducible first | exact HB.out | apply below_alloc | apply pw_below_drewN | apply below_drew1) | exact HB.out)); (case side2 => exact Kd.R_tight rfl HO217.out); rintro e w39 ⟨rfl, hy0, hb, hkp⟩; refine ⟨_, rfl, ?_⟩; have n0_ := Aside0.mk (Kd.R_mono (ok' := fun k_ => some k_ ≠ (.slice Ao25 t206.length co25 : Value).ownBlock ∧ some k_ ≠ (.slice Ao33 t209.length co33 : Value).ownBlock ∧ some k_ ≠ (.slice Ao29 t212.length co29 : Value).ownBlock ∧ some k_ ≠ (.slice Ao30 t215.length co30 : Value).ownBlock ∧ some k_ ≠ (.slice Ao32 t218.length co32 : Value).ownBlock ∧ some k_ ≠ (.slice Ao35 t222.length co35 : Value).ownBlock ∧ some k_ ≠ (.slice Ao37 t226.length co37 : Value).ownBlock) (Kd.R_keptB (HO205.out) hkp (fun k_ hk_ hs_ => (hk_.2.2.2.1) hs_)) (fun k_ hk_ => ⟨hk_.1.1, hk_.1.2.1, hk_.1.2.2.1, hk_.1.2.2.2.1, hk_.1.2.2.2.2.1, hk_.1.2.2.2.2.2.1, hk_.1.2.2.2.2.2.2⟩)); have n1_ := Aside0.mk (Kd.R_mono (ok' := fun k_ => some k_ ≠ (.slice Ao24 t203.length co24 : Value).ownBlock ∧ some k_ ≠ (.slice Ao33 t209.length co33 : Value).ownBlock ∧ some k_ ≠ (.slice Ao29 t212.length co29 : Value).ownBlock ∧ some k_ ≠ (.slice Ao30 t215.length co30 : Value).ownBlock ∧ some k_ ≠ (.slice Ao32 t218.length co32 : Value).ownBlock ∧ some k_ ≠ (.slice Ao35 t222.length co35 : Value).ownBlock ∧ some k_ ≠ (.slice Ao37 t226.length co37 : Value).ownBlock) (Kd.R_keptB (HO208.out) hkp (fun k_ hk_ hs_ => (hk_.2.2.2.1) hs_)) (fun k_ hk_ => ⟨hk_.1.1, hk_.1.2.1, hk_.1.2.2.1, hk_.1.2.2.2.1, hk_.1.2.2.2.2.1, hk_.1.2.2.2.2.2.1, hk_.1.2.2.2.2.2.2⟩)); have n2_ := Aside0.mk (Kd.R_mono (ok' := fun k_ => some k_ ≠ (.slice Ao24 t203.length co24 : Value).ownBlock ∧ some k_ ≠ (.slice Ao25 t206.length co25 : Value).ownBlock ∧ some k_ ≠ (.slice Ao29 t212.length co29 : Value).ownBlock ∧ some k_ ≠ (.slice Ao30 t215.length co30 : Value).ownBlock ∧ some k_ ≠ (.slice Ao32 t218.length co32 : Value).ownBlock ∧ some k_ ≠ (.slice Ao35 t222.length co35 : Value).ownBlock ∧ some k_ ≠ (.slice Ao37 t226.length co37 : Value).ownBlock) (Kd.R_keptB (HO211.out) hkp (fun k_ hk_ hs_ => (hk_.2.2.2.1) hs_)) (fun k_ hk_ => ⟨hk_.1.1, hk_.1.2.1, hk_.1.2.2.1, hk_.1.2.2.2.1, hk_.1.2.2.2.2.1, hk_.1.2.2.2.2.2.1, hk_.1.2.2.2.2.2.2⟩)); have n3_ := Aside0.mk (Kd.R_mono (ok' := fun k_ => some k_ ≠ (.slice Ao24 t203.length co24 : Value).ownBlock ∧ some k_ ≠ (.slice Ao25 t206.length co25 : Value).ownBlock ∧ some k_ ≠ (.slice Ao33 t209.length co33 : Value).ownBlock ∧ some k_ ≠ (.slice Ao30 t215.length co30 : Value).ownBlock ∧ some k_ ≠ (.slice Ao32 t218.length co32 : Value).ownBlock ∧ some k_ ≠ (.slice Ao35 t222.length co35 : Value).ownBlock ∧ some k_ ≠ (.slice Ao37 t226.length co37 : Value).ownBlock) (Kd.R_keptB (HO214.out) hkp (fun k_ hk_ hs_ => (hk_.1.1.1.2) hs_)) (fun k_ hk_ => ⟨hk_.1.1.1.1.1.1.1.2, hk_.1.1.1.1.1.1.2, hk_.1.1.1.1.1.2, hk_.1.1.1.1.2, hk_.1.1.1.2, hk_.1.1.2, hk_.1.2⟩)); have n4_ := Aside0.mk (Kd.R_reok rfl hy0 (fun k_ e_ => HO217.out.1 k_ e_)); have n5_ := Aside0.mk (Kd.R_mono (ok' := fun k_ => some k_ ≠ (.slice Ao24 t203.length co24 : Value).ownBlock ∧ some k_ ≠ (.slice Ao25 t206.length co25 : Value).ownBlock ∧ some k_ ≠ (.slice Ao33 t209.length co33 : Value).ownBlock ∧ some k_ ≠ (.slice Ao29 t212.length co29 : Value).ownBlock ∧ some k_ ≠ (.slice Ao30 t215.length co30 : Value).ownBlock ∧ some k_ ≠ (.slice Ao35 t222.length co35 : Value).ownBlock ∧ some k_ ≠ (.slice Ao37 t226.length co37 : Value).ownBlock) (Kd.R_keptB (HO220.out) hkp (fun k_ hk_ hs_ => (hk_.2.2.2.2.1) hs_)) (fun k_ hk_ => ⟨hk_.1.1, hk_.1.2.1, hk_.1.2.2.1, hk_.1.2.2.2.1, hk_.1.2.2.2.2.1, hk_.1.2.2.2.2.2.1, hk_.1.2.2.2.2.2.2⟩)); have n6_ := Aside0.mk (Kd.R_mono (ok' := fun k_ => some k_ ≠ (.slice Ao24 t203.length co24 : Value).ownBlock ∧ some k_ ≠ (.slice Ao25 t206.length co25 : Value).ownBlock ∧ some k_ ≠ (.slice Ao33 t209.length co33 : Value).ownBlock ∧ some k_ ≠ (.slice Ao29 t212.length co29 : Value).ownBlock ∧ some k_ ≠ (.slice Ao30 t215.length co30 : Value).ownBlock ∧ some k_ ≠ (.slice Ao32 t218.length co32 : Value).ownBlock ∧ some k_ ≠ (.slice Ao37 t226.length co37 : Value).ownBlock) (Kd.R_keptB (HO224.out) hkp (fun k_ hk_ hs_ => (hk_.2.2.2.2.1) hs_)) (fun k_ hk_ => ⟨hk_.1.1, hk_.1.2.1, hk_.1.2.2.1, hk_.1.2.2.2.1, hk_.1.2.2.2.2.1, hk_.1.2.2.2.2.2.1, hk_.1.2.2.2.2.2.2⟩)); have n7_ := Aside0.mk (Kd.R_mono (ok' := fun k_ => some k_ ≠ (.slice Ao24 t203.length co24 : Value).ownBlock ∧ some k_ ≠ (.slice Ao25 t206.length co25 : Value).ownBlock ∧ some k_ ≠ (.slice Ao33 t209.length co33 : Value).ownBlock ∧ some k_ ≠ (.slice Ao29 t212.length co29 : Value).ownBlock ∧ some k_ ≠ (.slice Ao30 t215.length co30 : Value).ownBlock ∧ some k_ ≠ (.slice Ao32 t218.length co32 : Value).ownBlock ∧ some k_ ≠ (.slice Ao35 t222.length co35 : Value).ownBlock) (Kd.R_keptB (HO228.out) hkp (fun k_ hk_ hs_ => (hk_.2.2.2.2.1) hs_)) (fun k_ hk_ => ⟨hk_.1.1, hk_.1.2.1, hk_.1.2.2.1, hk_.1.2.2.2.1, hk_.1.2.2.2.2.1, hk_.1.2.2.2.2.2.1, hk_.1.2.2.2.2.2.2⟩)); have n8_ := Aside0.mk (hb); clear HO205; clear HO208; clear HO211; clear HO214; clear HO217; clear HO220; clear HO224; clear HO228; clear HB; have HO205 := n0_; have HO208 := n1_; have HO211 := n2_; have HO214 := n3_; have HO217 := n4_; have HO220 := n5_; have HO224 := n6_; have HO228 := n7_; have HB := n8_; clear n0_ n1_ n2_ n3_ n4_ n5_ n6_ n7_ n8_; (try clear hb); (try clear hkp); (try clear hy0)))
            (try simp only [Act.put, List.setIfInBounds_toArray, List.set_cons_zero, List.set_cons_succ])
            go_cut [58] (fun v58 wc => ∃ (kq : Nat) (x58_20 : Bool), v58 = .bool x58_20 ∧ Aside0 (laws_FnExactDigest.j0 kq l0 l1 t209 t218 x58_20 = some true) ∧ Aside0 (kq ≤ k) ∧ Aside0 (Kd.R (Kd.int .u8) 5 wc w.heap.size (fun k_ => some k_ ≠ ((.slice Ao32 t218.length co32) : Value).ownBlock) (.slice Ao33 t209.length co33) t209) ∧ Aside0 (Kd.R (Kd.int .u8) 5 wc w.heap.size (fun k_ => some k_ ≠ ((.slice Ao33 t209.length co33) : Value).ownBlock) (.slice Ao32 t218.length co32) t218) ∧ Aside0 (Below w.heap.size w wc))
            case first =>
              have H := HC21.out
              clear HC21
              by_cases c40 : t232 < 0
              · rw [if_pos c40] at H
                have c40b0 : decide (t232 < 0) = true := decide_eq_true c40
                clear c40
                (first | rw [c40b0] | (simp only [i64_w, i32_w]; rw [c40b0]) | skip)
                have H' := Aside0.mk H
                clear H
                go_wp2
                go_meet
                case rel => exact ⟨_, (true), (by first | rfl | (simp; done) | (simp [*]; done)), H', ⟨by first | omega | exact Nat.le_refl _⟩, ⟨by (with_reducible repeat (first | apply Kd.R_alloc | apply Kd.R_drewN | apply Kd.R_drew)); exact Kd.R_mono HO211.out (fun _ hk => hk.2.2.2.2.1)⟩, ⟨by (with_reducible repeat (first | apply Kd.R_alloc | apply Kd.R_drewN | apply Kd.R_drew)); exact Kd.R_mono HO220.out (fun _ hk => hk.2.2.1)⟩, ⟨by repeat (first | (with_reducible first | exact HB.out | apply below_alloc | apply pw_below_drewN | apply below_drew1) | exact HB.out)⟩⟩
              · rw [if_neg c40] at H
                have c40b0 : decide (t232 < 0) = false := decide_eq_false c40
                clear c40
                (first | rw [c40b0] | (simp only [i64_w, i32_w]; rw [c40b0]) | skip)
                replace H := Option.bind_eq_some_iff.mp H
                obtain ⟨t234, A410, H⟩ := H
                replace H : (laws_FnExactDigest.j0 k l0 l1 t209 t218 (!t234)) = some true := H
                have A41 := Aside0.mk A410
                clear A410
                have H' := Aside0.mk H
                clear H
                go_wp2_with (first | (go_at_call 17; (with_reducible refine (laws_eqByteS.calls k _ _ t218 _ _ t209 t234 _ ?side1 ?side2 ?side3 ?side4 A41.out).mono ?_); (case side1 => repeat (first | exact (Kd.R_reads' HO220.out).2.2 | (with_reducible refine Kd.C_alloc ?_ _) | (with_reducible refine Kd.C_drewN ?_ _) | (with_reducible refine Kd.C_drew ?_))); (case side2 => exact (Kd.R_reads' HO220.out).2.1); (case side3 => repeat (first | exact (Kd.R_reads' HO211.out).2.2 | (with_reducible refine Kd.C_alloc ?_ _) | (with_reducible refine Kd.C_drewN ?_ _) | (with_reducible refine Kd.C_drew ?_))); (case side4 => exact (Kd.R_reads' HO211.out).2.1); rintro e w' ⟨rfl, ⟨nd, rfl⟩⟩))
                go_meet
                case rel => exact ⟨_, (!t234), (by first | rfl | (simp; done) | (simp [*]; done)), H', ⟨by first | omega | exact Nat.le_refl _⟩, ⟨by (with_reducible repeat (first | apply Kd.R_alloc | apply Kd.R_drewN | apply Kd.R_drew)); exact Kd.R_mono HO211.out (fun _ hk => hk.2.2.2.2.1)⟩, ⟨by (with_reducible repeat (first | apply Kd.R_alloc | apply Kd.R_drewN | apply Kd.R_drew)); exact Kd.R_mono HO220.out (fun _ hk => hk.2.2.1)⟩, ⟨by repeat (first | (with_reducible first | exact HB.out | apply below_alloc | apply pw_below_drewN | apply below_drew1) | exact HB.out)⟩⟩
            case rest =>
              clear HC21
              try clear c1
              try clear p2
              try clear c3
              try clear c3b0
              try clear c3b1
              try clear c4
              try clear c4b0
              try clear c4b1
              try clear c12
              try clear c14
              try clear c15
              try clear c16
              try clear c17
              try clear c18
              try clear c40
              try clear c40b0
              obtain ⟨kq, x58_20, rfl, HA, HJ20, HO_5, HO_8, HB⟩ := hcut
              cases kq with
              | zero => exact absurd HA.out (by simp [laws_FnExactDigest.j0])
              | succ kj20 =>
                have H := HA.out
                clear HA
                simp only [laws_FnExactDigest.j0] at H
                by_cases c42 : x58_20 = true
                · subst c42
                  have H1 : (some false) = some true := by rw [if_pos rfl] at H; exact H
                  exact absurd H1 (by simp)
                · replace c42 := Bool.eq_false_iff.mpr c42
                  subst c42
                  have H1 : ((laws_markByteS.f kj20 t218 1).bind fun bt235 => ((laws_heldByteS.f kj20 bt235.2 1).bind fun t237 => (if t237 < 0 then (some false) else (if t237 = bt235.1 then ((laws_toByteS.f kj20 l0).bind fun t238 => ((laws_toByteS.f kj20 l1).bind fun t241 => ((impl_Digest.f kj20 t238 t241).bind fun t244 => ((laws_eqByteS.f kj20 t244 t209).bind fun t247 => (if t247 = true then ((laws_heldByteS.f kj20 bt235.2 1).bind fun t248 => (if t248 < 0 then (some false) else (if t248 = bt235.1 then (some true) else (some false)))) else (some false)))))) else (some false))))) = some true := by rw [if_neg (show ¬ (false = true) by decide)] at H; exact H
                  clear H
                  have H := H1
                  clear H1
                  replace H := Option.bind_eq_some_iff.mp H
                  obtain ⟨⟨t235, t236⟩, A430, H⟩ := H
                  replace H : ((laws_heldByteS.f kj20 t236 1).bind fun t237 => (if t237 < 0 then (some false) else (if t237 = t235 then ((laws_toByteS.f kj20 l0).bind fun t238 => ((laws_toByteS.f kj20 l1).bind fun t241 => ((impl_Digest.f kj20 t238 t241).bind fun t244 => ((laws_eqByteS.f kj20 t244 t209).bind fun t247 => (if t247 = true then ((laws_heldByteS.f kj20 t236 1).bind fun t248 => (if t248 < 0 then (some false) else (if t248 = t235 then (some true) else (some false)))) else (some false)))))) else (some false)))) = some true := H
                  have A43 := Aside0.mk A430
                  clear A430
                  replace H := Option.bind_eq_some_iff.mp H
                  obtain ⟨t237, A440, H⟩ := H
                  replace H : (if t237 < 0 then (some false) else (if t237 = t235 then ((laws_toByteS.f kj20 l0).bind fun t238 => ((laws_toByteS.f kj20 l1).bind fun t241 => ((impl_Digest.f kj20 t238 t241).bind fun t244 => ((laws_eqByteS.f kj20 t244 t209).bind fun t247 => (if t247 = true then ((laws_heldByteS.f kj20 t236 1).bind fun t248 => (if t248 < 0 then (some false) else (if t248 = t235 then (some true) else (some false)))) else (some false)))))) else (some false))) = some true := H
                  have A44 := Aside0.mk A440
                  clear A440
                  by_cases c45 : t237 < 0
                  · rw [if_pos c45] at H
                    exact absurd H (by simp)
                  · rw [if_neg c45] at H
                    have c45b0 : decide (t237 < 0) = false := decide_eq_false c45
                    clear c45
                    by_cases c47 : t237 = t235
                    · rw [if_pos c47] at H
                      have c47b0 : (t237 == t235) = true := beq_iff_eq.mpr c47
                      have c47b1 : (t237 != t235) = false := bne_eq_false_iff_eq.mpr c47
                      clear c47
                      replace H := Option.bind_eq_some_iff.mp H
                      obtain ⟨t238, A480, H⟩ := H
                      replace H : ((laws_toByteS.f kj20 l1).bind fun t241 => ((impl_Digest.f kj20 t238 t241).bind fun t244 => ((laws_eqByteS.f kj20 t244 t209).bind fun t247 => (if t247 = true then ((laws_heldByteS.f kj20 t236 1).bind fun t248 => (if t248 < 0 then (some false) else (if t248 = t235 then (some true) else (some false)))) else (some false))))) = some true := H
                      have A48 := Aside0.mk A480
                      clear A480
                      replace H := Option.bind_eq_some_iff.mp H
                      obtain ⟨t241, A490, H⟩ := H
                      replace H : ((impl_Digest.f kj20 t238 t241).bind fun t244 => ((laws_eqByteS.f kj20 t244 t209).bind fun t247 => (if t247 = true then ((laws_heldByteS.f kj20 t236 1).bind fun t248 => (if t248 < 0 then (some false) else (if t248 = t235 then (some true) else (some false)))) else (some false)))) = some true := H
                      have A49 := Aside0.mk A490
                      clear A490
                      replace H := Option.bind_eq_some_iff.mp H
                      obtain ⟨t244, A500, H⟩ := H
                      replace H : ((laws_eqByteS.f kj20 t244 t209).bind fun t247 => (if t247 = true then ((laws_heldByteS.f kj20 t236 1).bind fun t248 => (if t248 < 0 then (some false) else (if t248 = t235 then (some true) else (some false)))) else (some false))) = some true := H
                      have A50 := Aside0.mk A500
                      clear A500
                      replace H := Option.bind_eq_some_iff.mp H
                      obtain ⟨t247, A510, H⟩ := H
                      replace H : (if t247 = true then ((laws_heldByteS.f kj20 t236 1).bind fun t248 => (if t248 < 0 then (some false) else (if t248 = t235 then (some true) else (some false)))) else (some false)) = some true := H
                      have A51 := Aside0.mk A510
                      clear A510
                      by_cases c52 : t247 = true
                      · subst c52
                        have H1 : ((laws_heldByteS.f kj20 t236 1).bind fun t248 => (if t248 < 0 then (some false) else (if t248 = t235 then (some true) else (some false)))) = some true := by rw [if_pos rfl] at H; exact H
                        clear H
                        have H := H1
                        clear H1
                        replace H := Option.bind_eq_some_iff.mp H
                        obtain ⟨t248, A530, H⟩ := H
                        replace H : (if t248 < 0 then (some false) else (if t248 = t235 then (some true) else (some false))) = some true := H
                        have A53 := Aside0.mk A530
                        clear A530
                        by_cases c54 : t248 < 0
                        · rw [if_pos c54] at H
                          exact absurd H (by simp)
                        · rw [if_neg c54] at H
                          have c54b0 : decide (t248 < 0) = false := decide_eq_false c54
                          clear c54
                          by_cases c62 : t248 = t235
                          · rw [if_pos c62] at H
                            have c62b0 : (t248 == t235) = true := beq_iff_eq.mpr c62
                            have c62b1 : (t248 != t235) = false := bne_eq_false_iff_eq.mpr c62
                            clear c62
                            clear H
                            go_wp2_with (first | ((with_reducible refine gate_callee (f := 18) rfl ?_); refine goesL_ (some 61) rfl rfl Try.func18 (by kernel_rfl) rfl #[.slice Ao32 t218.length co32, .int .i64 1] rfl (by (try simp only [List.map_toArray, List.map_cons, List.map_nil]); first | done | rfl | (simp only [List.length_drop, List.length_take]; rfl)) ?_; (with_reducible refine (laws_markByteS.calls kj20 (fun k_ => some k_ = (.slice Ao32 t218.length co32 : Value).ownBlock) (.slice Ao32 t218.length co32) t218 1 t235 t236 w _ ?side1 ?side2 A43.out).mono ?_); (case side1 => repeat (first | (with_reducible first | exact HB.out | apply below_alloc | apply pw_below_drewN | apply below_drew1) | exact HB.out)); (case side2 => exact Kd.R_tight rfl HO_8.out); rintro e w63 ⟨rfl, hy0, hb, hkp⟩; refine ⟨_, rfl, ?_⟩; have n0_ := Aside0.mk (Kd.R_mono (ok' := fun k_ => some k_ ≠ (.slice Ao32 t218.length co32 : Value).ownBlock) (Kd.R_keptB (HO_5.out) hkp (fun k_ hk_ hs_ => (hk_) hs_)) (fun k_ hk_ => hk_.1)); have n1_ := Aside0.mk (Kd.R_reok rfl hy0 (fun k_ e_ => HO_8.out.1 k_ e_)); have n2_ := Aside0.mk (hb); clear HO_5; clear HO_8; clear HB; have HO_5 := n0_; have HO_8 := n1_; have HB := n2_; clear n0_ n1_ n2_; (try clear hb); (try clear hkp); (try clear hy0)) | ((with_reducible refine gate_callee (f := 19) rfl ?_); refine goesL_ (some 64) rfl rfl Try.func19 (by kernel_rfl) rfl #[.slice Ao32 t236.length co32, .int .i64 1] rfl (by (try simp only [List.map_toArray, List.map_cons, List.map_nil]); first | done | (rw [show t236.length = t218.length from (Kd.R_reads' HO_8.out).1.symm] <;> rfl) | rfl | (simp only [List.length_drop, List.length_take]; rfl)) ?_; (with_reducible refine (laws_heldByteS.calls kj20 _ _ t236 1 t237 _ ?side1 ?side2 A44.out).mono ?_); (case side1 => repeat (first | exact (Kd.R_reads' HO_8.out).2.2 | (with_reducible refine Kd.C_alloc ?_ _) | (with_reducible refine Kd.C_drewN ?_ _) | (with_reducible refine Kd.C_drew ?_))); (case side2 => rw [show t236.length = t218.length from (Kd.R_reads' HO_8.out).1.symm]; exact (Kd.R_reads' HO_8.out).2.1); rintro e w' ⟨rfl, ⟨nd, rfl⟩⟩; refine ⟨_, rfl, ?_⟩) | ((with_reducible refine gate_callee (f := 15) rfl ?_); refine goesL_ (some 71) rfl rfl Try.func15 (by kernel_rfl) rfl #[.slice A0 l0.length c0] rfl (by (try simp only [List.map_toArray, List.map_cons, List.map_nil]); first | done | rfl | (simp only [List.length_drop, List.length_take]; rfl)) ?_; (with_reducible refine (laws_toByteS.calls kj20 _ _ l0 t238 _ ?side1 ?side2 A48.out).mono ?_); (case side1 => repeat (first | exact (Kd.C_below HR0.out (by repeat (first | (with_reducible first | exact HB.out | apply below_alloc | apply pw_below_drewN | apply below_drew1) | exact HB.out))) | (with_reducible refine Kd.C_alloc ?_ _) | (with_reducible refine Kd.C_drewN ?_ _) | (with_reducible refine Kd.C_drew ?_))); (case side2 => exact HC0.out); rintro e w64 ⟨v239, rfl, ho0, hb⟩; refine ⟨_, rfl, ?_⟩; have n0_ := Aside0.mk (Kd.R_elder' (by (with_reducible repeat (first | apply Kd.R_alloc | apply Kd.R_drewN | apply Kd.R_drew)); exact HO_5.out) (Kd.R_base ho0) hb); have n1_ := Aside0.mk (Kd.R_elder' (by (with_reducible repeat (first | apply Kd.R_alloc | apply Kd.R_drewN | apply Kd.R_drew)); exact HO_8.out) (Kd.R_base ho0) hb); have n2_ := Aside0.mk (Kd.R_lower (Kd.R_new' (Kd.R_new' ho0 (Kd.R_lt (by (with_reducible repeat (first | apply Kd.R_alloc | apply Kd.R_drewN | apply Kd.R_drew)); exact HO_5.out))) (Kd.R_lt (by (with_reducible repeat (first | apply Kd.R_alloc | apply Kd.R_drewN | apply Kd.R_drew)); exact HO_8.out))) (below_size (by repeat (first | (with_reducible first | exact HB.out | apply below_alloc | apply pw_below_drewN | apply below_drew1) | exact HB.out)))); have n3_ := Aside0.mk (below_step (by repeat (first | (with_reducible first | exact HB.out | apply below_alloc | apply pw_below_drewN | apply below_drew1) | exact HB.out)) hb); clear HO_5; clear HO_8; clear HB; have HO_5 := n0_; have HO_8 := n1_; have HO240 := n2_; have HB := n3_; clear n0_ n1_ n2_ n3_; (try clear hb); (try clear hb2); (try clear hk); (try clear hi); (try clear ho0)) | ((with_reducible refine gate_callee (f := 15) rfl ?_); refine goesL_ (some 73) rfl rfl Try.func15 (by kernel_rfl) rfl #[.slice A1 l1.length c1] rfl (by (try simp only [List.map_toArray, List.map_cons, List.map_nil]); first | done | rfl | (simp only [List.length_drop, List.length_take]; rfl)) ?_; (with_reducible refine (laws_toByteS.calls kj20 _ _ l1 t241 _ ?side1 ?side2 A49.out).mono ?_); (case side1 => repeat (first | exact (Kd.C_below HR1.out HB.out) | (with_reducible refine Kd.C_alloc ?_ _) | (with_reducible refine Kd.C_drewN ?_ _) | (with_reducible refine Kd.C_drew ?_))); (case side2 => exact HC1.out); rintro e w65 ⟨v242, rfl, ho0, hb⟩; refine ⟨_, rfl, ?_⟩; have n0_ := Aside0.mk (Kd.R_elder' (by (with_reducible repeat (first | apply Kd.R_alloc | apply Kd.R_drewN | apply Kd.R_drew)); exact HO_5.out) (Kd.R_base ho0) hb); have n1_ := Aside0.mk (Kd.R_elder' (by (with_reducible repeat (first | apply Kd.R_alloc | apply Kd.R_drewN | apply Kd.R_drew)); exact HO_8.out) (Kd.R_base ho0) hb); have n2_ := Aside0.mk (Kd.R_elder' (by (with_reducible repeat (first | apply Kd.R_alloc | apply Kd.R_drewN | apply Kd.R_drew)); exact HO240.out) (Kd.R_base ho0) hb); have n3_ := Aside0.mk (Kd.R_lower (Kd.R_new' (Kd.R_new' (Kd.R_new' ho0 (Kd.R_lt (by (with_reducible repeat (first | apply Kd.R_alloc | apply Kd.R_drewN | apply Kd.R_drew)); exact HO_5.out))) (Kd.R_lt (by (with_reducible repeat (first | apply Kd.R_alloc | apply Kd.R_drewN | apply Kd.R_drew)); exact HO_8.out))) (Kd.R_lt (by (with_reducible repeat (first | apply Kd.R_alloc | apply Kd.R_drewN | apply Kd.R_drew)); exact HO240.out))) (below_size (by repeat (first | (with_reducible first | exact HB.out | apply below_alloc | apply pw_below_drewN | apply below_drew1) | exact HB.out)))); have n4_ := Aside0.mk (below_step (by repeat (first | (with_reducible first | exact HB.out | apply below_alloc | apply pw_below_drewN | apply below_drew1) | exact HB.out)) hb); clear HO_5; clear HO_8; clear HO240; clear HB; have HO_5 := n0_; have HO_8 := n1_; have HO240 := n2_; have HO243 := n3_; have HB := n4_; clear n0_ n1_ n2_ n3_ n4_; (try clear hb); (try clear hb2); (try clear hk); (try clear hi); (try clear ho0); obtain ⟨Ao66, co66, eo66⟩ := Kd.R_slice HO240.out; subst eo66; obtain ⟨Ao67, co67, eo67⟩ := Kd.R_slice HO243.out; subst eo67) | ((with_reducible refine gate_callee (f := 16) rfl ?_); refine goesL_ (some 74) rfl rfl Try.func16 (by kernel_rfl) rfl #[.slice Ao66 t238.length co66, .slice Ao67 t241.length co67] rfl (by (try simp only [List.map_toArray, List.map_cons, List.map_nil]); first | done | rfl | (simp only [List.length_drop, List.length_take]; rfl)) ?_; (with_reducible refine (impl_Digest.calls kj20 _ _ t238 _ _ t241 t244 _ ?side1 ?side2 ?side3 ?side4 A50.out).mono ?_); (case side1 => repeat (first | exact (Kd.R_reads' HO240.out).2.2 | (with_reducible refine Kd.C_alloc ?_ _) | (with_reducible refine Kd.C_drewN ?_ _) | (with_reducible refine Kd.C_drew ?_))); (case side2 => exact (Kd.R_reads' HO240.out).2.1); (case side3 => repeat (first | exact (Kd.R_reads' HO243.out).2.2 | (with_reducible refine Kd.C_alloc ?_ _) | (with_reducible refine Kd.C_drewN ?_ _) | (with_reducible refine Kd.C_drew ?_))); (case side4 => exact (Kd.R_reads' HO243.out).2.1); rintro e w68 ⟨v245, rfl, ho0, hb⟩; refine ⟨_, rfl, ?_⟩; have n0_ := Aside0.mk (Kd.R_elder' (by (with_reducible repeat (first | apply Kd.R_alloc | apply Kd.R_drewN | apply Kd.R_drew)); exact HO_5.out) (Kd.R_base ho0) hb); have n1_ := Aside0.mk (Kd.R_elder' (by (with_reducible repeat (first | apply Kd.R_alloc | apply Kd.R_drewN | apply Kd.R_drew)); exact HO_8.out) (Kd.R_base ho0) hb); have n2_ := Aside0.mk (Kd.R_elder' (by (with_reducible repeat (first | apply Kd.R_alloc | apply Kd.R_drewN | apply Kd.R_drew)); exact HO240.out) (Kd.R_base ho0) hb); have n3_ := Aside0.mk (Kd.R_elder' (by (with_reducible repeat (first | apply Kd.R_alloc | apply Kd.R_drewN | apply Kd.R_drew)); exact HO243.out) (Kd.R_base ho0) hb); have n4_ := Aside0.mk (Kd.R_lower (Kd.R_new' (Kd.R_new' (Kd.R_new' (Kd.R_new' ho0 (Kd.R_lt (by (with_reducible repeat (first | apply Kd.R_alloc | apply Kd.R_drewN | apply Kd.R_drew)); exact HO_5.out))) (Kd.R_lt (by (with_reducible repeat (first | apply Kd.R_alloc | apply Kd.R_drewN | apply Kd.R_drew)); exact HO_8.out))) (Kd.R_lt (by (with_reducible repeat (first | apply Kd.R_alloc | apply Kd.R_drewN | apply Kd.R_drew)); exact HO240.out))) (Kd.R_lt (by (with_reducible repeat (first | apply Kd.R_alloc | apply Kd.R_drewN | apply Kd.R_drew)); exact HO243.out))) (below_size (by repeat (first | (with_reducible first | exact HB.out | apply below_alloc | apply pw_below_drewN | apply below_drew1) | exact HB.out)))); have n5_ := Aside0.mk (below_step (by repeat (first | (with_reducible first | exact HB.out | apply below_alloc | apply pw_below_drewN | apply below_drew1) | exact HB.out)) hb); clear HO_5; clear HO_8; clear HO240; clear HO243; clear HB; have HO_5 := n0_; have HO_8 := n1_; have HO240 := n2_; have HO243 := n3_; have HO246 := n4_; have HB := n5_; clear n0_ n1_ n2_ n3_ n4_ n5_; (try clear hb); (try clear hb2); (try clear hk); (try clear hi); (try clear ho0); obtain ⟨Ao69, co69, eo69⟩ := Kd.R_slice HO246.out; subst eo69) | ((with_reducible refine gate_callee (f := 17) rfl ?_); refine goesL_ (some 77) rfl rfl Try.func17 (by kernel_rfl) rfl #[.slice Ao69 t244.length co69, .slice Ao33 t209.length co33] rfl (by (try simp only [List.map_toArray, List.map_cons, List.map_nil]); first | done | rfl | (simp only [List.length_drop, List.length_take]; rfl)) ?_; (with_reducible refine (laws_eqByteS.calls kj20 _ _ t244 _ _ t209 true _ ?side1 ?side2 ?side3 ?side4 A51.out).mono ?_); (case side1 => repeat (first | exact (Kd.R_reads' HO246.out).2.2 | (with_reducible refine Kd.C_alloc ?_ _) | (with_reducible refine Kd.C_drewN ?_ _) | (with_reducible refine Kd.C_drew ?_))); (case side2 => exact (Kd.R_reads' HO246.out).2.1); (case side3 => repeat (first | exact (Kd.R_reads' HO_5.out).2.2 | (with_reducible refine Kd.C_alloc ?_ _) | (with_reducible refine Kd.C_drewN ?_ _) | (with_reducible refine Kd.C_drew ?_))); (case side4 => exact (Kd.R_reads' HO_5.out).2.1); rintro e w' ⟨rfl, ⟨nd, rfl⟩⟩; refine ⟨_, rfl, ?_⟩) | ((with_reducible refine gate_callee (f := 19) rfl ?_); refine goesL_ (some 81) rfl rfl Try.func19 (by kernel_rfl) rfl #[.slice Ao32 t236.length co32, .int .i64 1] rfl (by (try simp only [List.map_toArray, List.map_cons, List.map_nil]); first | done | (rw [show t236.length = t218.length from (Kd.R_reads' HO_8.out).1.symm] <;> rfl) | rfl | (simp only [List.length_drop, List.length_take]; rfl)) ?_; (with_reducible refine (laws_heldByteS.calls kj20 _ _ t236 1 t248 _ ?side1 ?side2 A53.out).mono ?_); (case side1 => repeat (first | exact (Kd.R_reads' HO_8.out).2.2 | (with_reducible refine Kd.C_alloc ?_ _) | (with_reducible refine Kd.C_drewN ?_ _) | (with_reducible refine Kd.C_drew ?_))); (case side2 => rw [show t236.length = t218.length from (Kd.R_reads' HO_8.out).1.symm]; exact (Kd.R_reads' HO_8.out).2.1); rintro e w' ⟨rfl, ⟨nd, rfl⟩⟩; refine ⟨_, rfl, ?_⟩))
                            go_ret
                            exact ⟨by first | rfl | (simp [errW_none, errW_some] <;> rfl) | (simp [*, errW_none, errW_some] <;> rfl), by repeat (first | (with_reducible first | exact HB.out | apply below_alloc | apply pw_below_drewN | apply below_drew1) | exact HB.out)⟩
                          · rw [if_neg c62] at H
                            exact absurd H (by simp)
                      · replace c52 := Bool.eq_false_iff.mpr c52
                        subst c52
                        have H1 : (some false) = some true := by rw [if_neg (show ¬ (false = true) by decide)] at H; exact H
                        exact absurd H1 (by simp)
                    · rw [if_neg c47] at H
                      exact absurd H (by simp)
          · replace c18 := Bool.eq_false_iff.mpr c18
            subst c18
            have H1 : (some false) = some true := by rw [if_neg (show ¬ (false = true) by decide)] at H; exact H
            exact absurd H1 (by simp)
        · replace c15 := Bool.eq_false_iff.mpr c15
          subst c15
          have H1 : (some false) = some true := by rw [if_neg (show ¬ (false = true) by decide)] at H; exact H
          exact absurd H1 (by simp)
      · replace c12 := Bool.eq_false_iff.mpr c12
        subst c12
        have H1 : (some false) = some true := by rw [if_neg (show ¬ (false = true) by decide)] at H; exact H
        exact absurd H1 (by simp)

end Go.Proofs.Ytcdkbdkanjifeaa.SFnExactDigest
