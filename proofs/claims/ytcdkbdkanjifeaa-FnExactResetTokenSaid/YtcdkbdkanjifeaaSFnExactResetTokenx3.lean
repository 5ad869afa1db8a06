/- The walk of functions that the law FnExactResetToken uses, written by program. -/
import Derived.Test.YtcdkbdkanjifeaaSFnExactResetTokenx0
import Derived.Test.YtcdkbdkanjifeaaSFnExactResetTokenx1
import Derived.Test.YtcdkbdkanjifeaaSFnExactResetTokenx2
namespace Go.Proofs.Ytcdkbdkanjifeaa.SFnExactResetToken
open Go.RowKit Go.Proofs.YtcdkbdkanjifeaaW.PrintWords Go.Proofs.YtcdkbdkanjifeaaW.PrintLast Go.Proofs.YtcdkbdkanjifeaaW.PrintMore
attribute [local go_sem] max2_int min2_int max_two min_two max_three min_three max_four min_four   -- for this text's walks alone
set_option linter.unusedVariables false
set_option linter.unusedSimpArgs false

/-! ### impl_fixed: function 80 -/
def impl_fixed.l0 : Nat → List Int → Int → Int → Option (List Int)
  | 0, _, _, _ => none
  | k + 1, x0, x1, x7 => if x7 ≥ 0 then (if 0 ≤ (wrap64 (8 * x7)) then (if x0.length < 140737488355328 then (impl_fixed.l0 k (x0 ++ [(shr .u64 (IntKind.u64.wrap (x1)) (wrap64 (8 * x7))) % 256]) x1 (wrap64 (x7 - 1))) else (none)) else (none)) else (some x0)
def impl_fixed.f (k : Nat) (l0 : List Int) (a1 : Int) (a2 : Int) : Option (List Int) := impl_fixed.l0 k l0 a1 (wrap64 (a2 - 1))
theorem impl_fixed.mono_l : ∀ k, (∀ y0 y1 y2, LeO (impl_fixed.l0 k y0 y1 y2) (impl_fixed.l0 (k + 1) y0 y1 y2))
  | 0 => fun _ _ _ r h => by simp [impl_fixed.l0] at h
  | k + 1 => by
    have ih0 := impl_fixed.mono_l k
    · intro y0 y1 y2
      unfold impl_fixed.l0
      repeat' first
      | (with_reducible exact ih0 _ _ _)
      | (with_reducible exact LeO.refl _)
      | (with_reducible exact LeO.none _)
      | (with_reducible refine LeO.ite ?_ ?_)
      | (with_reducible refine LeO.bind ?_ (fun _ => ?_))
      | exact ih0 _ _ _
      | exact LeO.none _
      | refine LeO.ite ?_ ?_
      | refine LeO.bind ?_ (fun _ => ?_)
theorem impl_fixed.mono : ∀ a0 a1 a2 k, LeO (impl_fixed.f k a0 a1 a2) (impl_fixed.f (k + 1) a0 a1 a2) := by
  intro a0 a1 a2 k
  have ih0 := impl_fixed.mono_l k
  unfold impl_fixed.f
  repeat' first
      | (with_reducible exact ih0 _ _ _)
      | (with_reducible exact LeO.refl _)
      | (with_reducible exact LeO.none _)
      | (with_reducible refine LeO.ite ?_ ?_)
      | (with_reducible refine LeO.bind ?_ (fun _ => ?_))
      | exact ih0 _ _ _
      | exact LeO.none _
      | refine LeO.ite ?_ ?_
      | refine LeO.bind ?_ (fun _ => ?_)
set_option maxHeartbeats 8000000 in
set_option maxRecDepth 100000 in
theorem impl_fixed.calls (k : Nat) (P0_ : Nat → Prop) (u9000_ : Value) (l0 : List Int) (a1 : Int) (a2 : Int) (r : List Int) (w0 w : World) (hB : Below w0.heap.size w0 w) (ho0 : Kd.R (Kd.int .u8) 5 w w0.heap.size P0_ u9000_ l0) (h : impl_fixed.f k l0 a1 a2 = some r) :
    Calls Try.prog 80 #[u9000_, .int .i64 a1, .int .i64 a2] w fun e w' => ∃ v0_ : Value, e = .returned (v0_) ∧ Kd.R (Kd.int .u8) 5 w' w0.heap.size (fun k_ => (P0_ k_ ∨ w.heap.size ≤ k_)) v0_ r ∧ Below w0.heap.size w0 w' ∧ Kept w w' (fun k_ => P0_ k_) := by
  have HO0 := Aside0.mk (show Kd.R (Kd.int .u8) 5 w w0.heap.size (fun k_ => (P0_ k_ ∨ w.heap.size ≤ k_)) u9000_ l0 from Kd.R_mono ho0 (fun k_ hk => (.inl hk)))
  have HK := Aside0.mk (Kept.refl w (fun k_ => P0_ k_))
  have HW0 := Aside0.mk hB.size
  have HB := Aside0.mk hB
  clear hB
  have H : (impl_fixed.l0 k l0 a1 (wrap64 (a2 - 1))) = some r := h
  clear h
  have H' := Aside0.mk H
  clear H
  go_enter Try.func80, Try.ntmps80
  go_wp2
  go_loopg [0, 7] k (fun kq v0 v7 w' => ∃ (x0_1 : List Int) (x7_1 : Int), v7 = .int .i64 x7_1 ∧ Aside0 (impl_fixed.l0 kq x0_1 a1 x7_1 = some r) ∧ Aside0 (kq ≤ k) ∧ Aside0 (Kd.R (Kd.int .u8) 5 w' w0.heap.size (fun k_ => (P0_ k_ ∨ w.heap.size ≤ k_)) v0 x0_1) ∧ Aside0 (Kept w w' (fun k_ => P0_ k_)) ∧ Aside0 (Below w0.heap.size w0 w'))
  case atStart => exact ⟨(l0), (wrap64 (a2 - 1)), (by first | rfl | (simp; done) | (simp [*]; done)), H', ⟨Nat.le_refl _⟩, ⟨by (with_reducible repeat (first | apply Kd.R_alloc | apply Kd.R_drewN | apply Kd.R_drew)); exact HO0.out⟩, ⟨by repeat (first | (with_reducible first | exact HK.out | apply Kept.alloc | apply Kept.drewN | apply Kept.drew) | exact HK.out)⟩, ⟨by repeat (first | (with_reducible first | exact HB.out | apply below_alloc | apply pw_below_drewN | apply below_drew1) | exact HB.out)⟩⟩
  case round =>
    clear H'
    try clear p2
    obtain ⟨x0_1, x7_1, rfl, HA, HK1, HO_0, HK, HB⟩ := hrel
    cases gk with
    | zero => exact absurd HA.out (by simp [impl_fixed.l0])
    | succ k1 =>
      have H := HA.out
      clear HA
      simp only [impl_fixed.l0] at H
      by_cases c4 : x7_1 ≥ 0
      · rw [if_pos c4] at H
        have c4b0 : decide (0 ≤ x7_1) = true := decide_eq_true c4
        clear c4
        obtain ⟨ji5, hji5⟩ : ∃ j_ : Int, (wrap64 (8 * x7_1)) = j_ := ⟨_, rfl⟩
        replace H : (if 0 ≤ (ji5) then (if x0_1.length < 140737488355328 then (impl_fixed.l0 k1 (x0_1 ++ [(shr .u64 (IntKind.u64.wrap (a1)) (ji5)) % 256]) a1 (wrap64 (x7_1 - 1))) else (none)) else (none)) = some r := by first | (rw [hji5] at H; exact H) | (simp only [hji5] at H ⊢; exact H)
        have hji5w : (IntKind.i64.wrap (8 * x7_1)) = ji5 := (i64_w _).trans hji5
        by_cases c6 : 0 ≤ (ji5)
        · rw [if_pos c6] at H
          have c6b0 := eq_true c6
          have c6b1 : decide (0 ≤ (ji5)) = true := decide_eq_true c6
          clear c6
          obtain ⟨ji7, hji7⟩ : ∃ j_ : Int, (shr .u64 (IntKind.u64.wrap (a1)) (ji5)) = j_ := ⟨_, rfl⟩
          replace H : (if x0_1.length < 140737488355328 then (impl_fixed.l0 k1 (x0_1 ++ [(ji7) % 256]) a1 (wrap64 (x7_1 - 1))) else (none)) = some r := by first | (rw [hji7] at H; exact H) | (simp only [hji7] at H ⊢; exact H)
          have hji7_ : ((IntKind.u64.wrap (a1)) / 2 ^ min (ji5).toNat 64) = ji7 := hji7
          have hji7z : (ji5) ≤ 64 → ((IntKind.u64.wrap (a1)) / 2 ^ (ji5).toNat) = ji7 := shr_small hji7
          by_cases c8 : x0_1.length < 140737488355328
          · rw [if_pos c8] at H
            have LMc8 := Aside0.mk c8
            clear c8
            obtain ⟨y199, hy199⟩ : ∃ y_ : List Int, y_ = (x0_1 ++ [(ji7) % 256]) := ⟨_, rfl⟩
            replace H : (impl_fixed.l0 k1 y199 a1 (wrap64 (x7_1 - 1))) = some r := by first | (rw [hy199]; with_reducible exact H) | (have H2_ := (Option.bind_some _ _).symm.trans H; rw [hy199]; with_reducible exact H2_) | (have H2_ := (Option.bind_some _ _).symm.trans H; with_reducible exact H2_) | with_reducible exact H | (rw [hy199]; exact H) | exact H
            have Ny199 := Aside0.mk hy199
            clear hy199
            have H' := Aside0.mk H
            clear H
            go_wp2_with (first | ((with_reducible refine gate_builtin (b := .append) (xs := #[.tmp 14, .tmp 21]) rfl ?_); at_builtin; refine Kd.R_append (Kd.int .u8) (w0 := w0) w0.heap.size rfl (.tmp 14) (.tmp 21) 22 5 (.int .u8 0) 1 rfl Try.underlying22 info5 rfl (by decide) (by omega) u0 x0_1 ((ji7) % 256) [.int .u8 ((ji7) % 256)] (fun k_ => (P0_ k_ ∨ w.heap.size ≤ k_)) (fun _ => False) rfl rfl ?aP (fun _ hk => hk.elim) ?aF ?aO ?aB ?aS ?aL ?_; (case aP => exact rfl); (case aB => exact (by repeat (first | (with_reducible first | exact HB.out | apply below_alloc | apply pw_below_drewN | apply below_drew1) | exact HB.out))); (case aF => exact (fun k_ hk => (.inr (Nat.le_trans (by first | exact HK.out.1 | exact (show Kept w _ (fun k_ => P0_ k_) from by repeat (first | (with_reducible first | exact HK.out | apply Kept.alloc | apply Kept.drewN | apply Kept.drew) | exact HK.out)).1) hk)))); (case aO => exact (by (with_reducible repeat (first | apply Kd.R_alloc | apply Kd.R_drewN | apply Kd.R_drew)); exact HO_0.out)); (case aS => exact (below_size (by repeat (first | (with_reducible first | exact HB.out | apply below_alloc | apply pw_below_drewN | apply below_drew1) | exact HB.out)))); (case aL => have := LMc8.out; omega); intro v200 w9 ho hb hg hat; rw [← Ny199.out] at ho; have n0_ := Aside0.mk (hb); have n1_ := Aside0.mk (Kept.of_grown (S := (fun k_ => P0_ k_)) hg (by repeat (first | (with_reducible first | exact HK.out | apply Kept.alloc | apply Kept.drewN | apply Kept.drew) | exact HK.out)) (fun k_ e_ => (HO_0.out.1 k_ e_))); have n2_ := Aside0.mk (ho); clear HB; clear HK; clear HO_0; have HB := n0_; have HK := n1_; have HO201 := n2_; clear n0_ n1_ n2_; clear ho hb hg hat))
            go_roundg k1
            case measure => have := HK1.out; omega
            case rel => exact ⟨(y199), (wrap64 (x7_1 - 1)), (by first | rfl | (simp; done) | (simp [*]; done)), H', ⟨by have := HK1.out; omega⟩, ⟨by (with_reducible repeat (first | apply Kd.R_alloc | apply Kd.R_drewN | apply Kd.R_drew)); exact HO201.out⟩, ⟨by repeat (first | (with_reducible first | exact HK.out | apply Kept.alloc | apply Kept.drewN | apply Kept.drew) | exact HK.out)⟩, ⟨by repeat (first | (with_reducible first | exact HB.out | apply below_alloc | apply pw_below_drewN | apply below_drew1) | exact HB.out)⟩⟩
          · rw [if_neg c8] at H
            exact absurd H (by simp)
        · rw [if_neg c6] at H
          exact absurd H (by simp)
      · rw [if_neg c4] at H
        have c4b0 : decide (0 ≤ x7_1) = false := decide_eq_false c4
        clear c4
        obtain rfl := Option.some.inj H
        go_wp2
        go_ret
        exact ⟨_, by first | rfl | (simp [errW_none, errW_some] <;> rfl) | (simp [*, errW_none, errW_some] <;> rfl), by (with_reducible repeat (first | apply Kd.R_alloc | apply Kd.R_drewN | apply Kd.R_drew)); exact HO_0.out, by repeat (first | (with_reducible first | exact HB.out | apply below_alloc | apply pw_below_drewN | apply below_drew1) | exact HB.out), by repeat (first | (with_reducible first | exact HK.out | apply Kept.alloc | apply Kept.drewN | apply Kept.drew) | exact HK.out)⟩

/-! ### impl_digest: function 51 -/
/-- One of four, by its number. -/
def pick4 (a b c d i : Int) : Int := if i = 0 then a else if i = 1 then b else if i = 2 then c else d
theorem pick4_run (a b c d i : Int) (h0 : 0 ≤ i) (h1 : i < 4) (w : World) : (Instr.index 82 (.agg #[.int .u32 a, .int .u32 b, .int .u32 c, .int .u32 d]) (.int .i64 i)).run Try.prog w = .ok (.int .u32 (pick4 a b c d i)) w := by
  have h : i = 0 ∨ i = 1 ∨ i = 2 ∨ i = 3 := by omega
  rcases h with rfl | rfl | rfl | rfl
  · exact (by kernel_rfl : (Instr.index 82 (.agg #[.int .u32 a, .int .u32 b, .int .u32 c, .int .u32 d]) (.int .i64 0)).run Try.prog w = .ok (.int .u32 a) w)
  · exact (by kernel_rfl : (Instr.index 82 (.agg #[.int .u32 a, .int .u32 b, .int .u32 c, .int .u32 d]) (.int .i64 1)).run Try.prog w = .ok (.int .u32 b) w)
  · exact (by kernel_rfl : (Instr.index 82 (.agg #[.int .u32 a, .int .u32 b, .int .u32 c, .int .u32 d]) (.int .i64 2)).run Try.prog w = .ok (.int .u32 c) w)
  · exact (by kernel_rfl : (Instr.index 82 (.agg #[.int .u32 a, .int .u32 b, .int .u32 c, .int .u32 d]) (.int .i64 3)).run Try.prog w = .ok (.int .u32 d) w)
def impl_stirrer_new.f : Option (Int × Int × Int × Int) := some (1779033703, 3144134277, 1013904242, 2773480762)
mutual
def impl_digest.l0 : Nat → Int → Int → Int → Int → Int → Option (List Int)
  | 0, _, _, _, _, _ => none
  | k + 1, x27, x279000, x279001, x279002, x279003 => if x27 < 16 then ((impl_stirrer_stir.f k x279000 x279001 x279002 x279003 (([165] : List Int))).bind fun bt304 => (impl_digest.l0 k (wrap64 (x27 + 1)) bt304.1 bt304.2.1 bt304.2.2.1 bt304.2.2.2)) else (impl_digest.l1 k (([] : List Int)) x279000 x279001 x279002 x279003 0)
def impl_digest.l1 : Nat → List Int → Int → Int → Int → Int → Int → Option (List Int)
  | 0, _, _, _, _, _, _ => none
  | k + 1, x6, x37, x41, x45, x49, x51 => if x51 < 4 then (if 0 ≤ x51 then ((impl_fixed.f k x6 (wrap64 (pick4 x37 x41 x45 x49 x51)) 4).bind fun t311 => (impl_digest.l1 k t311 x37 x41 x45 x49 (wrap64 (x51 + 1)))) else (none)) else (some x6)
end
def impl_digest.f (k : Nat) (l0 : List Int) (l1 : List Int) : Option (List Int) := (impl_stirrer_new.f).bind fun bt274 => ((impl_fixed.f k ([] : List Int) (l0.length : Int) 4).bind fun t279 => ((impl_stirrer_stir.f k bt274.1 bt274.2.1 bt274.2.2.1 bt274.2.2.2 t279).bind fun bt282 => ((impl_stirrer_stir.f k bt282.1 bt282.2.1 bt282.2.2.1 bt282.2.2.2 l0).bind fun bt286 => ((impl_stirrer_stir.f k bt286.1 bt286.2.1 bt286.2.2.1 bt286.2.2.2 l1).bind fun bt290 => ((impl_fixed.f k ([] : List Int) (l1.length : Int) 4).bind fun t294 => ((impl_stirrer_stir.f k bt290.1 bt290.2.1 bt290.2.2.1 bt290.2.2.2 t294).bind fun bt297 => (impl_digest.l0 k 0 bt297.1 bt297.2.1 bt297.2.2.1 bt297.2.2.2)))))))
theorem impl_digest.mono_l : ∀ k, (∀ y0 y1 y2 y3 y4, LeO (impl_digest.l0 k y0 y1 y2 y3 y4) (impl_digest.l0 (k + 1) y0 y1 y2 y3 y4)) ∧ (∀ y0 y1 y2 y3 y4 y5, LeO (impl_digest.l1 k y0 y1 y2 y3 y4 y5) (impl_digest.l1 (k + 1) y0 y1 y2 y3 y4 y5))
  | 0 => ⟨fun _ _ _ _ _ r h => by simp [impl_digest.l0] at h, fun _ _ _ _ _ _ r h => by simp [impl_digest.l1] at h⟩
  | k + 1 => by
    obtain ⟨ih0, ih1⟩ := impl_digest.mono_l k
    refine ⟨?_, ?_⟩
    · intro y0 y1 y2 y3 y4
      unfold impl_digest.l0
      repeat' first
      | (with_reducible exact ih0 _ _ _ _ _)
      | (with_reducible exact ih1 _ _ _ _ _ _)
      | (with_reducible exact impl_fixed.mono _ _ _ _)
      | (with_reducible exact impl_stirrer_stir.mono _ _ _ _ _ _)
      | (with_reducible exact LeO.refl _)
      | (with_reducible exact LeO.none _)
      | (with_reducible refine LeO.ite ?_ ?_)
      | (with_reducible refine LeO.bind ?_ (fun _ => ?_))
      | exact ih0 _ _ _ _ _
      | exact ih1 _ _ _ _ _ _
      | exact impl_fixed.mono _ _ _ _
      | exact impl_stirrer_stir.mono _ _ _ _ _ _
      | exact LeO.none _
      | refine LeO.ite ?_ ?_
      | refine LeO.bind ?_ (fun _ => ?_)
    · intro y0 y1 y2 y3 y4 y5
      unfold impl_digest.l1
      repeat' first
      | (with_reducible exact ih0 _ _ _ _ _)
      | (with_reducible exact ih1 _ _ _ _ _ _)
      | (with_reducible exact impl_fixed.mono _ _ _ _)
      | (with_reducible exact impl_stirrer_stir.mono _ _ _ _ _ _)
      | (with_reducible exact LeO.refl _)
      | (with_reducible exact LeO.none _)
      | (with_reducible refine LeO.ite ?_ ?_)
      | (with_reducible refine LeO.bind ?_ (fun _ => ?_))
      | exact ih0 _ _ _ _ _
      | exact ih1 _ _ _ _ _ _
      | exact impl_fixed.mono _ _ _ _
      | exact impl_stirrer_stir.mono _ _ _ _ _ _
      | exact LeO.none _
      | refine LeO.ite ?_ ?_
      | refine LeO.bind ?_ (fun _ => ?_)
theorem impl_digest.mono : ∀ a0 a1 k, LeO (impl_digest.f k a0 a1) (impl_digest.f (k + 1) a0 a1) := by
  intro a0 a1 k
  obtain ⟨ih0, ih1⟩ := impl_digest.mono_l k
  unfold impl_digest.f
  repeat' first
      | (with_reducible exact ih0 _ _ _ _ _)
      | (with_reducible exact ih1 _ _ _ _ _ _)
      | (with_reducible exact impl_fixed.mono _ _ _ _)
      | (with_reducible exact impl_stirrer_stir.mono _ _ _ _ _ _)
      | (with_reducible exact LeO.refl _)
      | (with_reducible exact LeO.none _)
      | (with_reducible refine LeO.ite ?_ ?_)
      | (with_reducible refine LeO.bind ?_ (fun _ => ?_))
      | exact ih0 _ _ _ _ _
      | exact ih1 _ _ _ _ _ _
      | exact impl_fixed.mono _ _ _ _
      | exact impl_stirrer_stir.mono _ _ _ _ _ _
      | exact LeO.none _
      | refine LeO.ite ?_ ?_
      | refine LeO.bind ?_ (fun _ => ?_)
set_option maxHeartbeats 8000000 in
set_option maxRecDepth 100000 in
theorem impl_digest.calls (k : Nat) (A0 : Option Addr) (c0 : Nat) (l0 : List Int) (A1 : Option Addr) (c1 : Nat) (l1 : List Int) (r : List Int) (w : World) (hr0 : Kd.C (Kd.int .u8) w A0 l0.length l0) (hc0 : l0.length ≤ c0) (hr1 : Kd.C (Kd.int .u8) w A1 l1.length l1) (hc1 : l1.length ≤ c1) (h : impl_digest.f k l0 l1 = some r) :
    Calls Try.prog 51 #[.slice A0 l0.length c0, .slice A1 l1.length c1] w fun e w' => ∃ v0_ : Value, e = .returned (v0_) ∧ Kd.R (Kd.int .u8) 5 w' w.heap.size (fun _ => True) v0_ r ∧ Below w.heap.size w w' := by
  have HR0 := Aside0.mk hr0
  have HC0 := Aside0.mk hc0
  clear hr0 hc0
  have HR1 := Aside0.mk hr1
  have HC1 := Aside0.mk hc1
  clear hr1 hc1
  have HB := Aside0.mk (Below.refl w.heap.size w)
  have H : ((impl_stirrer_new.f).bind fun bt274 => ((impl_fixed.f k ([] : List Int) (l0.length : Int) 4).bind fun t279 => ((impl_stirrer_stir.f k bt274.1 bt274.2.1 bt274.2.2.1 bt274.2.2.2 t279).bind fun bt282 => ((impl_stirrer_stir.f k bt282.1 bt282.2.1 bt282.2.2.1 bt282.2.2.2 l0).bind fun bt286 => ((impl_stirrer_stir.f k bt286.1 bt286.2.1 bt286.2.2.1 bt286.2.2.2 l1).bind fun bt290 => ((impl_fixed.f k ([] : List Int) (l1.length : Int) 4).bind fun t294 => ((impl_stirrer_stir.f k bt290.1 bt290.2.1 bt290.2.2.1 bt290.2.2.2 t294).bind fun bt297 => (impl_digest.l0 k 0 bt297.1 bt297.2.1 bt297.2.2.1 bt297.2.2.2)))))))) = some r := h
  clear h
  replace H := Option.bind_eq_some_iff.mp H
  obtain ⟨⟨t274, t275, t276, t277⟩, A30, H⟩ := H
  simp only [impl_stirrer_new.f, Option.some.injEq, Prod.mk.injEq] at A30
  obtain ⟨rfl, rfl, rfl, rfl⟩ := A30
  replace H : ((impl_fixed.f k ([] : List Int) (l0.length : Int) 4).bind fun t279 => ((impl_stirrer_stir.f k 1779033703 3144134277 1013904242 2773480762 t279).bind fun bt282 => ((impl_stirrer_stir.f k bt282.1 bt282.2.1 bt282.2.2.1 bt282.2.2.2 l0).bind fun bt286 => ((impl_stirrer_stir.f k bt286.1 bt286.2.1 bt286.2.2.1 bt286.2.2.2 l1).bind fun bt290 => ((impl_fixed.f k ([] : List Int) (l1.length : Int) 4).bind fun t294 => ((impl_stirrer_stir.f k bt290.1 bt290.2.1 bt290.2.2.1 bt290.2.2.2 t294).bind fun bt297 => (impl_digest.l0 k 0 bt297.1 bt297.2.1 bt297.2.2.1 bt297.2.2.2))))))) = some r := H
  replace H := Option.bind_eq_some_iff.mp H
  obtain ⟨t279, A40, H⟩ := H
  replace H : ((impl_stirrer_stir.f k 1779033703 3144134277 1013904242 2773480762 t279).bind fun bt282 => ((impl_stirrer_stir.f k bt282.1 bt282.2.1 bt282.2.2.1 bt282.2.2.2 l0).bind fun bt286 => ((impl_stirrer_stir.f k bt286.1 bt286.2.1 bt286.2.2.1 bt286.2.2.2 l1).bind fun bt290 => ((impl_fixed.f k ([] : List Int) (l1.length : Int) 4).bind fun t294 => ((impl_stirrer_stir.f k bt290.1 bt290.2.1 bt290.2.2.1 bt290.2.2.2 t294).bind fun bt297 => (impl_digest.l0 k 0 bt297.1 bt297.2.1 bt297.2.2.1 bt297.2.2.2)))))) = some r := H
  have A4 := Aside0.mk A40
  clear A40
  replace H := Option.bind_eq_some_iff.mp H
  obtain ⟨⟨t282, t283, t284, t285⟩, A50, H⟩ := H
  replace H : ((impl_stirrer_stir.f k t282 t283 t284 t285 l0).bind fun bt286 => ((impl_stirrer_stir.f k bt286.1 bt286.2.1 bt286.2.2.1 bt286.2.2.2 l1).bind fun bt290 => ((impl_fixed.f k ([] : List Int) (l1.length : Int) 4).bind fun t294 => ((impl_stirrer_stir.f k bt290.1 bt290.2.1 bt290.2.2.1 bt290.2.2.2 t294).bind fun bt297 => (impl_digest.l0 k 0 bt297.1 bt297.2.1 bt297.2.2.1 bt297.2.2.2))))) = some r := H
  have A5 := Aside0.mk A50
  clear A50
  replace H := Option.bind_eq_some_iff.mp H
  obtain ⟨⟨t286, t287, t288, t289⟩, A60, H⟩ := H
  replace H : ((impl_stirrer_stir.f k t286 t287 t288 t289 l1).bind fun bt290 => ((impl_fixed.f k ([] : List Int) (l1.length : Int) 4).bind fun t294 => ((impl_stirrer_stir.f k bt290.1 bt290.2.1 bt290.2.2.1 bt290.2.2.2 t294).bind fun bt297 => (impl_digest.l0 k 0 bt297.1 bt297.2.1 bt297.2.2.1 bt297.2.2.2)))) = some r := H
  have A6 := Aside0.mk A60
  clear A60
  replace H := Option.bind_eq_some_iff.mp H
  obtain ⟨⟨t290, t291, t292, t293⟩, A70, H⟩ := H
  replace H : ((impl_fixed.f k ([] : List Int) (l1.length : Int) 4).bind fun t294 => ((impl_stirrer_stir.f k t290 t291 t292 t293 t294).bind fun bt297 => (impl_digest.l0 k 0 bt297.1 bt297.2.1 bt297.2.2.1 bt297.2.2.2))) = some r := H
  have A7 := Aside0.mk A70
  clear A70
  replace H := Option.bind_eq_some_iff.mp H
  obtain ⟨t294, A80, H⟩ := H
  replace H : ((impl_stirrer_stir.f k t290 t291 t292 t293 t294).bind fun bt297 => (impl_digest.l0 k 0 bt297.1 bt297.2.1 bt297.2.2.1 bt297.2.2.2)) = some r := H
  have A8 := Aside0.mk A80
  clear A80
  replace H := Option.bind_eq_some_iff.mp H
  obtain ⟨⟨t297, t298, t299, t300⟩, A90, H⟩ := H
  replace H : (impl_digest.l0 k 0 t297 t298 t299 t300) = some r := H
  have A9 := Aside0.mk A90
  clear A90
  have H' := Aside0.mk H
  clear H
  go_enter Try.func51, Try.ntmps51
  go_wp2_with (first | ((with_reducible refine gate_dst (N := 10) rfl ?_); refine box_event ?hg (N := 10) ?hd (cs := #[.int .u32 1779033703, .int .u32 3144134277, .int .u32 1013904242, .int .u32 2773480762]) (t := 79) ?hr ?_; (case hd => rfl); (case hg => rfl); (case hr => first | (go_simp; done) | (go_simp; rfl)); intro g278 hg w10 hbox hb; have n0_ := Aside0.mk (below_step HB.out hb); have n1_ := Aside0.mk (show IsS79 w _ g278 1779033703 3144134277 1013904242 2773480762 from ⟨hbox, by rw [hg]; exact below_size HB.out⟩); clear HB; have HB := n0_; have HI278 := n1_; clear n0_ n1_; clear hb hbox hg) | ((with_reducible refine gate_callee (f := 80) rfl ?_); refine goesL_ (some 14) rfl rfl Try.func80 (by kernel_rfl) rfl #[.slice none 0 0, .int .i64 (l0.length : Int), .int .i64 4] rfl (by (try simp only [List.map_toArray, List.map_cons, List.map_nil]); first | done | rfl | (simp only [List.length_drop, List.length_take]; rfl)) ?_; (refine (impl_fixed.calls k (fun k_ => some k_ = (.slice none 0 0 : Value).ownBlock) (.slice none 0 0) ([] : List Int) (l0.length : Int) 4 t279 w _ ?side1 ?side2 A4.out).mono ?_); (case side1 => repeat (first | (with_reducible first | exact HB.out | apply below_alloc | apply pw_below_drewN | apply below_drew1 | refine below_set ?_ (IsS79.ge HI278.out)) | exact HB.out)); (case side2 => exact Kd.R_nil _ _ _ _ _); rintro e w11 ⟨v280, rfl, ho0, hb, hkp⟩; refine ⟨_, rfl, ?_⟩; have n0_ := Aside0.mk (IsS79.kept (by repeat (first | (with_reducible first | exact HI278.out | apply IsS79.alloc | apply IsS79.drewN | apply IsS79.drew | apply IsS79.set_0 | apply IsS79.set_1 | apply IsS79.set_2 | apply IsS79.set_3) | exact HI278.out)) hkp (fun hs_ => (fun e_ => by simp [Value.ownBlock] at e_) hs_)); have n1_ := Aside0.mk (Kd.R_mono (ok' := fun k_ => True) ho0 (fun k_ hk_ => trivial)); have n2_ := Aside0.mk (hb); clear HI278; clear HB; have HI278 := n0_; have HO281 := n1_; have HB := n2_; clear n0_ n1_ n2_; (try clear hb); (try clear hkp); (try clear ho0); obtain ⟨Ao12, co12, eo12⟩ := Kd.R_slice HO281.out; subst eo12) | ((with_reducible refine gate_callee (f := 79) rfl ?_); refine goesL_ (some 15) rfl rfl Try.func79 (by kernel_rfl) rfl #[.pointer (some ⟨g278, 0, none⟩), .slice Ao12 t279.length co12] rfl (by (try simp only [List.map_toArray, List.map_cons, List.map_nil]); first | done | rfl | (simp only [List.length_drop, List.length_take]; rfl)) ?_; (with_reducible refine (impl_stirrer_stir.calls k g278 1779033703 3144134277 1013904242 2773480762 _ _ t279 t282 t283 t284 t285 w _ ?side1 ?side2 ?side3 ?side4 ?side5 A5.out).mono ?_); (case side1 => repeat (first | (with_reducible first | exact HI278.out | apply IsS79.alloc | apply IsS79.drewN | apply IsS79.drew | apply IsS79.set_0 | apply IsS79.set_1 | apply IsS79.set_2 | apply IsS79.set_3) | exact HI278.out)); (case side2 => repeat (first | (with_reducible first | exact HB.out | apply below_alloc | apply pw_below_drewN | apply below_drew1 | refine below_set ?_ (IsS79.ge HI278.out)) | exact HB.out)); (case side3 => repeat (first | exact (Kd.R_reads' HO281.out).2.2 | (with_reducible refine Kd.C_alloc ?_ _) | (with_reducible refine Kd.C_drewN ?_ _) | (with_reducible refine Kd.C_drew ?_))); (case side4 => exact (Kd.R_reads' HO281.out).2.1); (case side5 => exact far_slice (IsS79.own_ne HI278.out HO281.out (by decide))); rintro e w13 ⟨rfl, hi, hb, hk⟩; refine ⟨_, rfl, ?_⟩; have n0_ := Aside0.mk (Kd.R_mono (Kd.R_keep (IsS79.apart (show IsS79 w _ g278 1779033703 3144134277 1013904242 2773480762 from by repeat (first | (with_reducible first | exact HI278.out | apply IsS79.alloc | apply IsS79.drewN | apply IsS79.drew | apply IsS79.set_0 | apply IsS79.set_1 | apply IsS79.set_2 | apply IsS79.set_3) | exact HI278.out)) (by (with_reducible repeat (first | apply Kd.R_alloc | apply Kd.R_drewN | apply Kd.R_drew)); exact HO281.out) (by decide)) hk (fun _ h => h.2)) (fun _ h => h.1)); have n1_ := Aside0.mk (hb); have n2_ := Aside0.mk (hi); clear HO281; clear HB; clear HI278; have HO281 := n0_; have HB := n1_; have HI278 := n2_; clear n0_ n1_ n2_; (try clear hb); (try clear hb2); (try clear hk); (try clear hi)) | ((with_reducible refine gate_callee (f := 79) rfl ?_); refine goesL_ (some 18) rfl rfl Try.func79 (by kernel_rfl) rfl #[.pointer (some ⟨g278, 0, none⟩), .slice A0 l0.length c0] rfl (by (try simp only [List.map_toArray, List.map_cons, List.map_nil]); first | done | rfl | (simp only [List.length_drop, List.length_take]; rfl)) ?_; (with_reducible refine (impl_stirrer_stir.calls k g278 t282 t283 t284 t285 _ _ l0 t286 t287 t288 t289 w _ ?side1 ?side2 ?side3 ?side4 ?side5 A6.out).mono ?_); (case side1 => repeat (first | (with_reducible first | exact HI278.out | apply IsS79.alloc | apply IsS79.drewN | apply IsS79.drew | apply IsS79.set_0 | apply IsS79.set_1 | apply IsS79.set_2 | apply IsS79.set_3) | exact HI278.out)); (case side2 => repeat (first | (with_reducible first | exact HB.out | apply below_alloc | apply pw_below_drewN | apply below_drew1 | refine below_set ?_ (IsS79.ge HI278.out)) | exact HB.out)); (case side3 => repeat (first | exact (Kd.C_below HR0.out HB.out) | (with_reducible refine Kd.C_alloc ?_ _) | (with_reducible refine Kd.C_drewN ?_ _) | (with_reducible refine Kd.C_drew ?_))); (case side4 => exact HC0.out); (case side5 => exact Kd.far_C 0 HR0.out (IsS79.ge HI278.out)); rintro e w14 ⟨rfl, hi, hb, hk⟩; refine ⟨_, rfl, ?_⟩; have n0_ := Aside0.mk (Kd.R_mono (Kd.R_keep (IsS79.apart (show IsS79 w _ g278 t282 t283 t284 t285 from by repeat (first | (with_reducible first | exact HI278.out | apply IsS79.alloc | apply IsS79.drewN | apply IsS79.drew | apply IsS79.set_0 | apply IsS79.set_1 | apply IsS79.set_2 | apply IsS79.set_3) | exact HI278.out)) (by (with_reducible repeat (first | apply Kd.R_alloc | apply Kd.R_drewN | apply Kd.R_drew)); exact HO281.out) (by decide)) hk (fun _ h => h.2)) (fun _ h => h.1)); have n1_ := Aside0.mk (hb); have n2_ := Aside0.mk (hi); clear HO281; clear HB; clear HI278; have HO281 := n0_; have HB := n1_; have HI278 := n2_; clear n0_ n1_ n2_; (try clear hb); (try clear hb2); (try clear hk); (try clear hi)) | ((with_reducible refine gate_callee (f := 79) rfl ?_); refine goesL_ (some 21) rfl rfl Try.func79 (by kernel_rfl) rfl #[.pointer (some ⟨g278, 0, none⟩), .slice A1 l1.length c1] rfl (by (try simp only [List.map_toArray, List.map_cons, List.map_nil]); first | done | rfl | (simp only [List.length_drop, List.length_take]; rfl)) ?_; (with_reducible refine (impl_stirrer_stir.calls k g278 t286 t287 t288 t289 _ _ l1 t290 t291 t292 t293 w _ ?side1 ?side2 ?side3 ?side4 ?side5 A7.out).mono ?_); (case side1 => repeat (first | (with_reducible first | exact HI278.out | apply IsS79.alloc | apply IsS79.drewN | apply IsS79.drew | apply IsS79.set_0 | apply IsS79.set_1 | apply IsS79.set_2 | apply IsS79.set_3) | exact HI278.out)); (case side2 => repeat (first | (with_reducible first | exact HB.out | apply below_alloc | apply pw_below_drewN | apply below_drew1 | refine below_set ?_ (IsS79.ge HI278.out)) | exact HB.out)); (case side3 => repeat (first | exact (Kd.C_below HR1.out HB.out) | (with_reducible refine Kd.C_alloc ?_ _) | (with_reducible refine Kd.C_drewN ?_ _) | (with_reducible refine Kd.C_drew ?_))); (case side4 => exact HC1.out); (case side5 => exact Kd.far_C 0 HR1.out (IsS79.ge HI278.out)); rintro e w15 ⟨rfl, hi, hb, hk⟩; refine ⟨_, rfl, ?_⟩; have n0_ := Aside0.mk (Kd.R_mono (Kd.R_keep (IsS79.apart (show IsS79 w _ g278 t286 t287 t288 t289 from by repeat (first | (with_reducible first | exact HI278.out | apply IsS79.alloc | apply IsS79.drewN | apply IsS79.drew | apply IsS79.set_0 | apply IsS79.set_1 | apply IsS79.set_2 | apply IsS79.set_3) | exact HI278.out)) (by (with_reducible repeat (first | apply Kd.R_alloc | apply Kd.R_drewN | apply Kd.R_drew)); exact HO281.out) (by decide)) hk (fun _ h => h.2)) (fun _ h => h.1)); have n1_ := Aside0.mk (hb); have n2_ := Aside0.mk (hi); clear HO281; clear HB; clear HI278; have HO281 := n0_; have HB := n1_; have HI278 := n2_; clear n0_ n1_ n2_; (try clear hb); (try clear hb2); (try clear hk); (try clear hi)) | ((with_reducible refine gate_callee (f := 80) rfl ?_); refine goesL_ (some 25) rfl rfl Try.func80 (by kernel_rfl) rfl #[.slice none 0 0, .int .i64 (l1.length : Int), .int .i64 4] rfl (by (try simp only [List.map_toArray, List.map_cons, List.map_nil]); first | done | rfl | (simp only [List.length_drop, List.length_take]; rfl)) ?_; (refine (impl_fixed.calls k (fun k_ => some k_ = (.slice none 0 0 : Value).ownBlock) (.slice none 0 0) ([] : List Int) (l1.length : Int) 4 t294 w _ ?side1 ?side2 A8.out).mono ?_); (case side1 => repeat (first | (with_reducible first | exact HB.out | apply below_alloc | apply pw_below_drewN | apply below_drew1 | refine below_set ?_ (IsS79.ge HI278.out)) | exact HB.out)); (case side2 => exact Kd.R_nil _ _ _ _ _); rintro e w16 ⟨v295, rfl, ho0, hb, hkp⟩; refine ⟨_, rfl, ?_⟩; have n0_ := Aside0.mk (IsS79.kept (by repeat (first | (with_reducible first | exact HI278.out | apply IsS79.alloc | apply IsS79.drewN | apply IsS79.drew | apply IsS79.set_0 | apply IsS79.set_1 | apply IsS79.set_2 | apply IsS79.set_3) | exact HI278.out)) hkp (fun hs_ => (fun e_ => by simp [Value.ownBlock] at e_) hs_)); have n1_ := Aside0.mk (Kd.R_mono (ok' := fun k_ => some k_ ≠ (v295 : Value).ownBlock) (Kd.R_keptB (HO281.out) hkp (fun k_ hk_ hs_ => (fun e_ => by simp [Value.ownBlock] at e_) hs_)) (fun k_ hk_ => fun e_ => Or.elim (ho0.1 k_ e_.symm) (fun hs_ => hk_.2.1 hs_) (fun hn_ => Nat.not_le.2 hk_.2.2 hn_))); have n2_ := Aside0.mk (Kd.R_mono (ok' := fun k_ => some k_ ≠ (.slice Ao12 t279.length co12 : Value).ownBlock) ho0 (fun k_ hk_ => Or.elim hk_ (fun hs_ => absurd hs_ (by simp [Value.ownBlock])) (fun hn_ => (Kd.fresh' (Kd.R_lt (by (with_reducible repeat (first | apply Kd.R_alloc | apply Kd.R_drewN | apply Kd.R_drew)); exact HO281.out)) k_ hn_)))); have n3_ := Aside0.mk (hb); clear HI278; clear HO281; clear HB; have HI278 := n0_; have HO281 := n1_; have HO296 := n2_; have HB := n3_; clear n0_ n1_ n2_ n3_; (try clear hb); (try clear hkp); (try clear ho0); obtain ⟨Ao17, co17, eo17⟩ := Kd.R_slice HO296.out; subst eo17) | ((with_reducible refine gate_callee (f := 79) rfl ?_); refine goesL_ (some 26) rfl rfl Try.func79 (by kernel_rfl) rfl #[.pointer (some ⟨g278, 0, none⟩), .slice Ao17 t294.length co17] rfl (by (try simp only [List.map_toArray, List.map_cons, List.map_nil]); first | done | rfl | (simp only [List.length_drop, List.length_take]; rfl)) ?_; (with_reducible refine (impl_stirrer_stir.calls k g278 t290 t291 t292 t293 _ _ t294 t297 t298 t299 t300 w _ ?side1 ?side2 ?side3 ?side4 ?side5 A9.out).mono ?_); (case side1 => repeat (first | (with_reducible first | exact HI278.out | apply IsS79.alloc | apply IsS79.drewN | apply IsS79.drew | apply IsS79.set_0 | apply IsS79.set_1 | apply IsS79.set_2 | apply IsS79.set_3) | exact HI278.out)); (case side2 => repeat (first | (with_reducible first | exact HB.out | apply below_alloc | apply pw_below_drewN | apply below_drew1 | refine below_set ?_ (IsS79.ge HI278.out)) | exact HB.out)); (case side3 => repeat (first | exact (Kd.R_reads' HO296.out).2.2 | (with_reducible refine Kd.C_alloc ?_ _) | (with_reducible refine Kd.C_drewN ?_ _) | (with_reducible refine Kd.C_drew ?_))); (case side4 => exact (Kd.R_reads' HO296.out).2.1); (case side5 => exact far_slice (IsS79.own_ne HI278.out HO296.out (by decide))); rintro e w18 ⟨rfl, hi, hb, hk⟩; refine ⟨_, rfl, ?_⟩; have n0_ := Aside0.mk (Kd.R_mono (Kd.R_keep (IsS79.apart (show IsS79 w _ g278 t290 t291 t292 t293 from by repeat (first | (with_reducible first | exact HI278.out | apply IsS79.alloc | apply IsS79.drewN | apply IsS79.drew | apply IsS79.set_0 | apply IsS79.set_1 | apply IsS79.set_2 | apply IsS79.set_3) | exact HI278.out)) (by (with_reducible repeat (first | apply Kd.R_alloc | apply Kd.R_drewN | apply Kd.R_drew)); exact HO281.out) (by decide)) hk (fun _ h => h.2)) (fun _ h => h.1)); have n1_ := Aside0.mk (Kd.R_mono (Kd.R_keep (IsS79.apart (show IsS79 w _ g278 t290 t291 t292 t293 from by repeat (first | (with_reducible first | exact HI278.out | apply IsS79.alloc | apply IsS79.drewN | apply IsS79.drew | apply IsS79.set_0 | apply IsS79.set_1 | apply IsS79.set_2 | apply IsS79.set_3) | exact HI278.out)) (by (with_reducible repeat (first | apply Kd.R_alloc | apply Kd.R_drewN | apply Kd.R_drew)); exact HO296.out) (by decide)) hk (fun _ h => h.2)) (fun _ h => h.1)); have n2_ := Aside0.mk (hb); have n3_ := Aside0.mk (hi); clear HO281; clear HO296; clear HB; clear HI278; have HO281 := n0_; have HO296 := n1_; have HB := n2_; have HI278 := n3_; clear n0_ n1_ n2_ n3_; (try clear hb); (try clear hb2); (try clear hk); (try clear hi)))
  go_loopg [27] k (fun kq v27 w' => ∃ (x27_1 : Int) (x279000_1 : Int) (x279001_1 : Int) (x279002_1 : Int) (x279003_1 : Int), v27 = .int .i64 x27_1 ∧ Aside0 (impl_digest.l0 kq x27_1 x279000_1 x279001_1 x279002_1 x279003_1 = some r) ∧ Aside0 (kq ≤ k) ∧ Aside0 (IsS79 w w' g278 x279000_1 x279001_1 x279002_1 x279003_1) ∧ Aside0 (Below w.heap.size w w'))
  case atStart => exact ⟨(0), (t297), (t298), (t299), (t300), (by first | rfl | (simp; done) | (simp [*]; done)), H', ⟨Nat.le_refl _⟩, ⟨by repeat (first | (with_reducible first | exact HI278.out | apply IsS79.alloc | apply IsS79.drewN | apply IsS79.drew | apply IsS79.set_0 | apply IsS79.set_1 | apply IsS79.set_2 | apply IsS79.set_3) | exact HI278.out)⟩, ⟨by repeat (first | (with_reducible first | exact HB.out | apply below_alloc | apply pw_below_drewN | apply below_drew1 | refine below_set ?_ (IsS79.ge HI278.out)) | exact HB.out)⟩⟩
  case round =>
    clear H'
    try clear c1
    try clear p2
    try clear c5
    try clear c6
    try clear c7
    try clear c8
    obtain ⟨x27_1, x279000_1, x279001_1, x279002_1, x279003_1, rfl, HA, HK1, HI278, HB⟩ := hrel
    cases gk with
    | zero => exact absurd HA.out (by simp [impl_digest.l0])
    | succ k1 =>
      have H := HA.out
      clear HA
      simp only [impl_digest.l0] at H
      by_cases c19 : x27_1 < 16
      · rw [if_pos c19] at H
        have c19b0 : decide (x27_1 < 16) = true := decide_eq_true c19
        clear c19
        obtain ⟨y301, hy301⟩ : ∃ y_ : List Int, y_ = (([165] : List Int)) := ⟨_, rfl⟩
        replace H : ((impl_stirrer_stir.f k1 x279000_1 x279001_1 x279002_1 x279003_1 y301).bind fun bt304 => (impl_digest.l0 k1 (wrap64 (x27_1 + 1)) bt304.1 bt304.2.1 bt304.2.2.1 bt304.2.2.2)) = some r := by first | (rw [hy301]; with_reducible exact H) | (have H2_ := (Option.bind_some _ _).symm.trans H; rw [hy301]; with_reducible exact H2_) | (have H2_ := (Option.bind_some _ _).symm.trans H; with_reducible exact H2_) | with_reducible exact H | (rw [hy301]; exact H) | exact H
        have Ny301 := Aside0.mk hy301
        clear hy301
        replace H := Option.bind_eq_some_iff.mp H
        obtain ⟨⟨t304, t305, t306, t307⟩, A200, H⟩ := H
        replace H : (impl_digest.l0 k1 (wrap64 (x27_1 + 1)) t304 t305 t306 t307) = some r := H
        have A20 := Aside0.mk A200
        clear A200
        have H' := Aside0.mk H
        clear H
        go_wp2_with (first | ((with_reducible refine gate_dst (N := 30) rfl ?_); refine Kd.R_lit (Kd.int .u8) _ 5 ?hg (N := 30) ?hd (xs := ([165] : List Int)) (inner := [.int .u8 165]) (ok := fun _ => True) (okp := fun _ => True) ?hr ?hp (fun _ hk => hk) trivial (Below.refl _ _) (Nat.le_refl _) (by simp) ?_; (case hd => rfl); (case hg => rfl); (case hr => first | (go_simp; done) | (go_simp; rfl)); (case hp => exact (Reps.one (show Kd.M (Kd.int .u8) _ _ _ 165 [.int .u8 165] from rfl) (Reps.none _ _))); intro v302 w21 ho22 hb hg_ hnew_; clear hg_ hnew_; (first | rw [← Ny301.out] at ho22 | (simp only [Int.reduceToNat] at ho22; rw [← Ny301.out] at ho22)); have n0_ := Aside0.mk (Kd.R_lower ho22 (below_size (by repeat (first | (with_reducible first | exact HB.out | apply below_alloc | apply pw_below_drewN | apply below_drew1 | refine below_set ?_ (IsS79.ge HI278.out)) | exact HB.out)))); have n1_ := Aside0.mk (IsS79.below (by repeat (first | (with_reducible first | exact HI278.out | apply IsS79.alloc | apply IsS79.drewN | apply IsS79.drew | apply IsS79.set_0 | apply IsS79.set_1 | apply IsS79.set_2 | apply IsS79.set_3) | exact HI278.out)) hb); have n2_ := Aside0.mk (below_step (by repeat (first | (with_reducible first | exact HB.out | apply below_alloc | apply pw_below_drewN | apply below_drew1 | refine below_set ?_ (IsS79.ge HI278.out)) | exact HB.out)) hb); clear HI278; clear HB; have HO303 := n0_; have HI278 := n1_; have HB := n2_; clear n0_ n1_ n2_; clear hb ho22; obtain ⟨Ao23, co23, eo23⟩ := Kd.R_slice HO303.out; subst eo23) | ((with_reducible refine gate_callee (f := 79) rfl ?_); refine goesL_ (some 31) rfl rfl Try.func79 (by kernel_rfl) rfl #[.pointer (some ⟨g278, 0, none⟩), .slice Ao23 y301.length co23] rfl (by (try simp only [List.map_toArray, List.map_cons, List.map_nil]); first | done | rfl | (simp only [List.length_drop, List.length_take]; rfl)) ?_; (with_reducible refine (impl_stirrer_stir.calls k1 g278 x279000_1 x279001_1 x279002_1 x279003_1 _ _ y301 t304 t305 t306 t307 w _ ?side1 ?side2 ?side3 ?side4 ?side5 A20.out).mono ?_); (case side1 => repeat (first | (with_reducible first | exact HI278.out | apply IsS79.alloc | apply IsS79.drewN | apply IsS79.drew | apply IsS79.set_0 | apply IsS79.set_1 | apply IsS79.set_2 | apply IsS79.set_3) | exact HI278.out)); (case side2 => repeat (first | (with_reducible first | exact HB.out | apply below_alloc | apply pw_below_drewN | apply below_drew1 | refine below_set ?_ (IsS79.ge HI278.out)) | exact HB.out)); (case side3 => repeat (first | exact (Kd.R_reads' HO303.out).2.2 | (with_reducible refine Kd.C_alloc ?_ _) | (with_reducible refine Kd.C_drewN ?_ _) | (with_reducible refine Kd.C_drew ?_))); (case side4 => exact (Kd.R_reads' HO303.out).2.1); (case side5 => exact far_slice (IsS79.own_ne HI278.out HO303.out (by decide))); rintro e w24 ⟨rfl, hi, hb, hk⟩; refine ⟨_, rfl, ?_⟩; have n0_ := Aside0.mk (Kd.R_mono (Kd.R_keep (IsS79.apart (show IsS79 w _ g278 x279000_1 x279001_1 x279002_1 x279003_1 from by repeat (first | (with_reducible first | exact HI278.out | apply IsS79.alloc | apply IsS79.drewN | apply IsS79.drew | apply IsS79.set_0 | apply IsS79.set_1 | apply IsS79.set_2 | apply IsS79.set_3) | exact HI278.out)) (by (with_reducible repeat (first | apply Kd.R_alloc | apply Kd.R_drewN | apply Kd.R_drew)); exact HO303.out) (by decide)) hk (fun _ h => h.2)) (fun _ h => h.1)); have n1_ := Aside0.mk (hb); have n2_ := Aside0.mk (hi); clear HO303; clear HB; clear HI278; have HO303 := n0_; have HB := n1_; have HI278 := n2_; clear n0_ n1_ n2_; (try clear hb); (try clear hb2); (try clear hk); (try clear hi)))
        go_roundg k1
        case measure => have := HK1.out; omega
        case rel => exact ⟨(wrap64 (x27_1 + 1)), (t304), (t305), (t306), (t307), (by first | rfl | (simp; done) | (simp [*]; done)), H', ⟨by have := HK1.out; omega⟩, ⟨by repeat (first | (with_reducible first | exact HI278.out | apply IsS79.alloc | apply IsS79.drewN | apply IsS79.drew | apply IsS79.set_0 | apply IsS79.set_1 | apply IsS79.set_2 | apply IsS79.set_3) | exact HI278.out)⟩, ⟨by repeat (first | (with_reducible first | exact HB.out | apply below_alloc | apply pw_below_drewN | apply below_drew1 | refine below_set ?_ (IsS79.ge HI278.out)) | exact HB.out)⟩⟩
      · rw [if_neg c19] at H
        have c19b0 : decide (x27_1 < 16) = false := decide_eq_false c19
        clear c19
        obtain ⟨y308, hy308⟩ : ∃ y_ : List Int, y_ = (([] : List Int)) := ⟨_, rfl⟩
        replace H : (impl_digest.l1 k1 y308 x279000_1 x279001_1 x279002_1 x279003_1 0) = some r := by first | (rw [hy308]; with_reducible exact H) | (have H2_ := (Option.bind_some _ _).symm.trans H; rw [hy308]; with_reducible exact H2_) | (have H2_ := (Option.bind_some _ _).symm.trans H; with_reducible exact H2_) | with_reducible exact H | (rw [hy308]; exact H) | exact H
        have Ny308 := Aside0.mk hy308
        clear hy308
        have H' := Aside0.mk H
        clear H
        go_wp2_with (first | ((with_reducible refine gate_dst (N := 33) rfl ?_); refine Kd.R_lit (Kd.int .u8) _ 5 ?hg (N := 33) ?hd (xs := ([] : List Int)) (inner := []) (ok := fun _ => True) (okp := fun _ => True) ?hr ?hp (fun _ hk => hk) trivial (Below.refl _ _) (Nat.le_refl _) (by simp) ?_; (case hd => rfl); (case hg => rfl); (case hr => first | (go_simp; done) | (go_simp; rfl)); (case hp => exact (Reps.none _ _)); intro v309 w25 ho26 hb hg_ hnew_; clear hg_ hnew_; (first | rw [← Ny308.out] at ho26 | (simp only [Int.reduceToNat] at ho26; rw [← Ny308.out] at ho26)); have n0_ := Aside0.mk (Kd.R_lower ho26 (below_size (by repeat (first | (with_reducible first | exact HB.out | apply below_alloc | apply pw_below_drewN | apply below_drew1 | refine below_set ?_ (IsS79.ge HI278.out)) | exact HB.out)))); have n1_ := Aside0.mk (IsS79.below (by repeat (first | (with_reducible first | exact HI278.out | apply IsS79.alloc | apply IsS79.drewN | apply IsS79.drew | apply IsS79.set_0 | apply IsS79.set_1 | apply IsS79.set_2 | apply IsS79.set_3) | exact HI278.out)) hb); have n2_ := Aside0.mk (below_step (by repeat (first | (with_reducible first | exact HB.out | apply below_alloc | apply pw_below_drewN | apply below_drew1 | refine below_set ?_ (IsS79.ge HI278.out)) | exact HB.out)) hb); clear HI278; clear HB; have HO310 := n0_; have HI278 := n1_; have HB := n2_; clear n0_ n1_ n2_; clear hb ho26; obtain ⟨HGz27, hgz27⟩ := HI278.out; have hcz27_0 := cellS79_0 HGz27; have hcz27_1 := cellS79_1 HGz27; have hcz27_2 := cellS79_2 HGz27; have hcz27_3 := cellS79_3 HGz27; have hfz27_0 := blk_frozen HGz27 0; have hfz27_1 := blk_frozen HGz27 1; have hfz27_2 := blk_frozen HGz27 2; have hfz27_3 := blk_frozen HGz27 3; clear HGz27 hgz27))
        go_quiet (fail)
        go_wp2
        go_loopg [6, 51] k1 (fun kq v6 v51 w' => ∃ (x6_2 : List Int) (x51_2 : Int), v51 = .int .i64 x51_2 ∧ Aside0 (impl_digest.l1 kq x6_2 x279000_1 x279001_1 x279002_1 x279003_1 x51_2 = some r) ∧ Aside0 (kq ≤ k1) ∧ Aside0 (Kd.R (Kd.int .u8) 5 w' w.heap.size (fun _ => True) v6 x6_2) ∧ Aside0 (Below w.heap.size w w'))
        case atStart => exact ⟨(y308), (0), (by first | rfl | (simp; done) | (simp [*]; done)), H', ⟨Nat.le_refl _⟩, ⟨by (with_reducible repeat (first | apply Kd.R_alloc | apply Kd.R_drewN | apply Kd.R_drew)); exact HO310.out⟩, ⟨by repeat (first | (with_reducible first | exact HB.out | apply below_alloc | apply pw_below_drewN | apply below_drew1 | refine below_set ?_ (IsS79.ge HI278.out)) | exact HB.out)⟩⟩
        case round =>
          clear H'
          try clear c1
          try clear p2
          try clear c5
          try clear c6
          try clear p6
          try clear c7
          try clear c8
          try clear c19
          try clear c19b0
          try clear hcz27_0
          try clear hcz27_1
          try clear hcz27_2
          try clear hcz27_3
          try clear hfz27_0
          try clear hfz27_1
          try clear hfz27_2
          try clear hfz27_3
          try clear p2
          obtain ⟨x6_2, x51_2, rfl, HA, HK2, HO_6, HB⟩ := hrel
          cases gk with
          | zero => exact absurd HA.out (by simp [impl_digest.l1])
          | succ k2 =>
            have H := HA.out
            clear HA
            simp only [impl_digest.l1] at H
            by_cases c28 : x51_2 < 4
            · rw [if_pos c28] at H
              by_cases c30 : 0 ≤ x51_2
              · rw [if_pos c30] at H
                have c28b0 : decide (x51_2 < 4) = true := decide_eq_true c28
                replace H := Option.bind_eq_some_iff.mp H
                obtain ⟨t311, A290, H⟩ := H
                replace H : (impl_digest.l1 k2 t311 x279000_1 x279001_1 x279002_1 x279003_1 (wrap64 (x51_2 + 1))) = some r := H
                have A29 := Aside0.mk A290
                clear A290
                have H' := Aside0.mk H
                clear H
                obtain ⟨Ao30, co30, eo30⟩ := Kd.R_slice HO_6.out
                subst eo30
                have hidx := fun (w : World) => pick4_run x279000_1 x279001_1 x279002_1 x279003_1 x51_2 c30 c28 w
                clear c28 c30
                go_wp2_with (first | ((with_reducible refine gate_callee (f := 80) rfl ?_); refine goesL_ (some 57) rfl rfl Try.func80 (by kernel_rfl) rfl #[.slice Ao30 x6_2.length co30, .int .i64 (wrap64 (pick4 x279000_1 x279001_1 x279002_1 x279003_1 x51_2)), .int .i64 4] rfl (by (try simp only [List.map_toArray, List.map_cons, List.map_nil]); first | done | rfl | (simp only [List.length_drop, List.length_take]; rfl)) ?_; (with_reducible refine (impl_fixed.calls k2 (fun k_ => some k_ = (.slice Ao30 x6_2.length co30 : Value).ownBlock) (.slice Ao30 x6_2.length co30) x6_2 (wrap64 (pick4 x279000_1 x279001_1 x279002_1 x279003_1 x51_2)) 4 t311 w _ ?side1 ?side2 A29.out).mono ?_); (case side1 => repeat (first | (with_reducible first | exact HB.out | apply below_alloc | apply pw_below_drewN | apply below_drew1) | exact HB.out)); (case side2 => exact Kd.R_tight rfl HO_6.out); rintro e w31 ⟨v312, rfl, ho0, hb, hkp⟩; refine ⟨_, rfl, ?_⟩; have n0_ := Aside0.mk (Kd.R_mono (ok' := fun k_ => True) ho0 (fun k_ hk_ => trivial)); have n1_ := Aside0.mk (hb); clear HB; clear HO_6; have HO313 := n0_; have HB := n1_; clear n0_ n1_; (try clear hb); (try clear hkp); (try clear ho0)))
                go_roundg k2
                case measure => have := HK1.out; have := HK2.out; omega
                case rel => exact ⟨(t311), (wrap64 (x51_2 + 1)), (by first | rfl | (simp; done) | (simp [*]; done)), H', ⟨by have := HK1.out; have := HK2.out; omega⟩, ⟨by (with_reducible repeat (first | apply Kd.R_alloc | apply Kd.R_drewN | apply Kd.R_drew)); exact HO313.out⟩, ⟨by repeat (first | (with_reducible first | exact HB.out | apply below_alloc | apply pw_below_drewN | apply below_drew1) | exact HB.out)⟩⟩
              · rw [if_neg c30] at H
                exact absurd H (by simp)
            · rw [if_neg c28] at H
              have c28b0 : decide (x51_2 < 4) = false := decide_eq_false c28
              clear c28
              obtain rfl := Option.some.inj H
              go_wp2
              go_ret
              exact ⟨_, by first | rfl | (simp [errW_none, errW_some] <;> rfl) | (simp [*, errW_none, errW_some] <;> rfl), by (with_reducible repeat (first | apply Kd.R_alloc | apply Kd.R_drewN | apply Kd.R_drew)); exact HO_6.out, by repeat (first | (with_reducible first | exact HB.out | apply below_alloc | apply pw_below_drewN | apply below_drew1) | exact HB.out)⟩

/-! ### impl_copied: function 53 -/
def impl_copied.f (l0 : List Int) : Option (List Int) := (some (([] : List Int) : List Int)).bind fun y208 => (if y208.length + l0.length < 140737488355328 then (some (y208 ++ l0)) else (none))
set_option maxHeartbeats 8000000 in
set_option maxRecDepth 100000 in
theorem impl_copied.calls (A0 : Option Addr) (c0 : Nat) (l0 : List Int) (r : List Int) (w : World) (hr0 : Kd.C (Kd.int .u8) w A0 l0.length l0) (hc0 : l0.length ≤ c0) (h : impl_copied.f l0 = some r) :
    Calls Try.prog 53 #[.slice A0 l0.length c0] w fun e w' => ∃ v0_ : Value, e = .returned (v0_) ∧ Kd.R (Kd.int .u8) 5 w' w.heap.size (fun _ => True) v0_ r ∧ Below w.heap.size w w' := by
  have HR0 := Aside0.mk hr0
  have HC0 := Aside0.mk hc0
  clear hr0 hc0
  have HB := Aside0.mk (Below.refl w.heap.size w)
  have H : ((some (([] : List Int) : List Int)).bind fun y208 => (if y208.length + l0.length < 140737488355328 then (some (y208 ++ l0)) else (none))) = some r := h
  clear h
  obtain ⟨y208, hy208⟩ : ∃ y_ : List Int, y_ = (([] : List Int)) := ⟨_, rfl⟩
  replace H : (if y208.length + l0.length < 140737488355328 then (some (y208 ++ l0)) else (none)) = some r := by first | (rw [hy208]; with_reducible exact H) | (have H2_ := (Option.bind_some _ _).symm.trans H; rw [hy208]; with_reducible exact H2_) | (have H2_ := (Option.bind_some _ _).symm.trans H; with_reducible exact H2_) | with_reducible exact H | (rw [hy208]; exact H) | exact H
  have Ny208 := Aside0.mk hy208
  clear hy208
  by_cases c2 : y208.length + l0.length < 140737488355328
  · rw [if_pos c2] at H
    have LMc2 := Aside0.mk c2
    clear c2
    obtain ⟨y211, hy211⟩ : ∃ y_ : List Int, y_ = (y208 ++ l0) := ⟨_, rfl⟩
    replace H : (some y211) = some r := by first | (rw [hy211]; with_reducible exact H) | (have H2_ := (Option.bind_some _ _).symm.trans H; rw [hy211]; with_reducible exact H2_) | (have H2_ := (Option.bind_some _ _).symm.trans H; with_reducible exact H2_) | with_reducible exact H | (rw [hy211]; exact H) | exact H
    have Ny211 := Aside0.mk hy211
    clear hy211
    obtain rfl := Option.some.inj H
    go_enter Try.func53, Try.ntmps53
    go_wp2_with (first | ((with_reducible refine gate_dst (N := 3) rfl ?_); refine Kd.R_lit (Kd.int .u8) _ 5 ?hg (N := 3) ?hd (xs := ([] : List Int)) (inner := []) (ok := fun _ => True) (okp := fun _ => True) ?hr ?hp (fun _ hk => hk) trivial (Below.refl _ _) (Nat.le_refl _) (by simp) ?_; (case hd => rfl); (case hg => rfl); (case hr => first | (go_simp; done) | (go_simp; rfl)); (case hp => exact (Reps.none _ _)); intro v209 w3 ho4 hb hg_ hnew_; clear hg_ hnew_; (first | rw [← Ny208.out] at ho4 | (simp only [Int.reduceToNat] at ho4; rw [← Ny208.out] at ho4)); have n0_ := Aside0.mk (Kd.R_lower ho4 (below_size (by repeat (first | (with_reducible first | exact HB.out | apply below_alloc | apply pw_below_drewN | apply below_drew1) | exact HB.out)))); have n1_ := Aside0.mk (below_step (by repeat (first | (with_reducible first | exact HB.out | apply below_alloc | apply pw_below_drewN | apply below_drew1) | exact HB.out)) hb); clear HB; have HO210 := n0_; have HB := n1_; clear n0_ n1_; clear hb ho4) | ((with_reducible refine gate_builtin (b := .append) (xs := #[.tmp 3, .tmp 4]) rfl ?_); at_builtin; refine Kd.R_append_rows (Kd.int .u8) (w0 := w) w.heap.size rfl (.tmp 3) (.tmp 4) 22 5 (.int .u8 0) 1 rfl Try.underlying22 info5 rfl (by decide) (by omega) v209 y208 l0 _ _ _ (fun _ => True) (fun _ => False) rfl rfl ?aO ?aR (fun _ _ h => h) (fun _ h => h.elim) ?aF ?aB ?aS ?aL ?_; (case aR => repeat (first | exact (Kd.C_below HR0.out HB.out) | (with_reducible refine Kd.C_alloc ?_ _) | (with_reducible refine Kd.C_drewN ?_ _) | (with_reducible refine Kd.C_drew ?_))); (case aB => exact (by repeat (first | (with_reducible first | exact HB.out | apply below_alloc | apply pw_below_drewN | apply below_drew1) | exact HB.out))); (case aF => exact (fun _ _ => trivial)); (case aO => exact (by (with_reducible repeat (first | apply Kd.R_alloc | apply Kd.R_drewN | apply Kd.R_drew)); exact HO210.out)); (case aS => exact (below_size (by repeat (first | (with_reducible first | exact HB.out | apply below_alloc | apply pw_below_drewN | apply below_drew1) | exact HB.out)))); (case aL => have := LMc2.out; omega); intro v212 w5 ho hb hg hat; rw [← Ny211.out] at ho; have n0_ := Aside0.mk (hb); have n1_ := Aside0.mk (ho); clear HB; clear HO210; have HB := n0_; have HO213 := n1_; clear n0_ n1_; clear ho hb hg hat))
    go_ret
    exact ⟨_, by first | rfl | (simp [errW_none, errW_some] <;> rfl) | (simp [*, errW_none, errW_some] <;> rfl), by (with_reducible repeat (first | apply Kd.R_alloc | apply Kd.R_drewN | apply Kd.R_drew)); exact HO213.out, by repeat (first | (with_reducible first | exact HB.out | apply below_alloc | apply pw_below_drewN | apply below_drew1) | exact HB.out)⟩
  · rw [if_neg c2] at H
    exact absurd H (by simp)

/-! ### impl_ResetToken: function 21 -/
def impl_ResetToken.j0 : Nat → List Int → List Int → Bool → Option (List Int)
  | 0, _, _, _ => none
  | k + 1, x0, x1, x12 => if x12 = true then (some ([] : List Int)) else ((impl_digest.f k x0 x1).bind fun t214 => (if 8 ≤ (t214.length : Int) then ((impl_copied.f (t214.take 8)).bind fun t221 => (some t221)) else (none)))
def impl_ResetToken.f (k : Nat) (l0 : List Int) (l1 : List Int) : Option (List Int) := if (l0.length : Int) = 16 then (impl_ResetToken.j0 k l0 l1 (decide ((l1.length : Int) > 8))) else (impl_ResetToken.j0 k l0 l1 true)
theorem impl_ResetToken.mono_l : ∀ k, (∀ y0 y1 y2, LeO (impl_ResetToken.j0 k y0 y1 y2) (impl_ResetToken.j0 (k + 1) y0 y1 y2))
  | 0 => fun _ _ _ r h => by simp [impl_ResetToken.j0] at h
  | k + 1 => by
    have ih0 := impl_ResetToken.mono_l k
    · intro y0 y1 y2
      unfold impl_ResetToken.j0
      repeat' first
      | (with_reducible exact ih0 _ _ _)
      | (with_reducible exact impl_digest.mono _ _ _)
      | (with_reducible exact LeO.refl _)
      | (with_reducible exact LeO.none _)
      | (with_reducible refine LeO.ite ?_ ?_)
      | (with_reducible refine LeO.bind ?_ (fun _ => ?_))
      | exact ih0 _ _ _
      | exact impl_digest.mono _ _ _
      | exact LeO.none _
      | refine LeO.ite ?_ ?_
      | refine LeO.bind ?_ (fun _ => ?_)
theorem impl_ResetToken.mono : ∀ a0 a1 k, LeO (impl_ResetToken.f k a0 a1) (impl_ResetToken.f (k + 1) a0 a1) := by
  intro a0 a1 k
  have ih0 := impl_ResetToken.mono_l k
  unfold impl_ResetToken.f
  repeat' first
      | (with_reducible exact ih0 _ _ _)
      | (with_reducible exact impl_digest.mono _ _ _)
      | (with_reducible exact LeO.refl _)
      | (with_reducible exact LeO.none _)
      | (with_reducible refine LeO.ite ?_ ?_)
      | (with_reducible refine LeO.bind ?_ (fun _ => ?_))
      | exact ih0 _ _ _
      | exact impl_digest.mono _ _ _
      | exact LeO.none _
      | refine LeO.ite ?_ ?_
      | refine LeO.bind ?_ (fun _ => ?_)
set_option maxHeartbeats 8000000 in
set_option maxRecDepth 100000 in
theorem impl_ResetToken.calls (k : Nat) (A0 : Option Addr) (c0 : Nat) (l0 : List Int) (A1 : Option Addr) (c1 : Nat) (l1 : List Int) (r : List Int) (w : World) (hr0 : Kd.C (Kd.int .u8) w A0 l0.length l0) (hc0 : l0.length ≤ c0) (hr1 : Kd.C (Kd.int .u8) w A1 l1.length l1) (hc1 : l1.length ≤ c1) (h : impl_ResetToken.f k l0 l1 = some r) :
    Calls Try.prog 21 #[.slice A0 l0.length c0, .slice A1 l1.length c1] w fun e w' => ∃ v0_ : Value, e = .returned (v0_) ∧ Kd.R (Kd.int .u8) 5 w' w.heap.size (fun _ => True) v0_ r ∧ Below w.heap.size w w' := by
  have HR0 := Aside0.mk hr0
  have HC0 := Aside0.mk hc0
  clear hr0 hc0
  have HR1 := Aside0.mk hr1
  have HC1 := Aside0.mk hc1
  clear hr1 hc1
  have HB := Aside0.mk (Below.refl w.heap.size w)
  have H : (if (l0.length : Int) = 16 then (impl_ResetToken.j0 k l0 l1 (decide ((l1.length : Int) > 8))) else (impl_ResetToken.j0 k l0 l1 true)) = some r := h
  clear h
  have HC3 := Aside0.mk H
  clear H
  go_enter Try.func21, Try.ntmps21
  go_upto_region 1 with (fail)
  go_cut [12] (fun v12 wc => ∃ (kq : Nat) (x12_2 : Bool), v12 = .bool x12_2 ∧ Aside0 (impl_ResetToken.j0 kq l0 l1 x12_2 = some r) ∧ Aside0 (kq ≤ k) ∧ Aside0 (Below w.heap.size w wc))
  case first =>
    have H := HC3.out
    clear HC3
    by_cases c4 : (l0.length : Int) = 16
    · rw [if_pos c4] at H
      have c4b0 : ((l0.length : Int) == 16) = true := beq_iff_eq.mpr c4
      have c4b1 : ((l0.length : Int) != 16) = false := bne_eq_false_iff_eq.mpr c4
      clear c4
      (first | rw [c4b0] | (simp only [i64_w, i32_w]; rw [c4b0]) | skip)
      have H' := Aside0.mk H
      clear H
      go_wp2
      go_meet
      case rel => exact ⟨_, (decide ((l1.length : Int) > 8)), (by first | rfl | (simp; done) | (simp [*]; done)), H', ⟨by first | omega | exact Nat.le_refl _⟩, ⟨by repeat (first | (with_reducible first | exact HB.out | apply below_alloc | apply pw_below_drewN | apply below_drew1) | exact HB.out)⟩⟩
    · rw [if_neg c4] at H
      have c4b0 : ((l0.length : Int) == 16) = false := beq_eq_false_iff_ne.mpr c4
      have c4b1 : ((l0.length : Int) != 16) = true := bne_iff_ne.mpr c4
      (first | rw [c4b0] | (simp only [i64_w, i32_w]; rw [c4b0]) | skip)
      have H' := Aside0.mk H
      clear H
      go_wp2
      go_meet
      case rel => exact ⟨_, (true), (by first | rfl | (simp; done) | (simp [*]; done)), H', ⟨by first | omega | exact Nat.le_refl _⟩, ⟨by repeat (first | (with_reducible first | exact HB.out | apply below_alloc | apply pw_below_drewN | apply below_drew1) | exact HB.out)⟩⟩
  case rest =>
    clear HC3
    try clear c1
    try clear c2
    try clear p2
    try clear c4
    try clear c4b0
    try clear c4b1
    obtain ⟨kq, x12_2, rfl, HA, HJ2, HB⟩ := hcut
    cases kq with
    | zero => exact absurd HA.out (by simp [impl_ResetToken.j0])
    | succ kj2 =>
      have H := HA.out
      clear HA
      simp only [impl_ResetToken.j0] at H
      by_cases c5 : x12_2 = true
      · subst c5
        have H1 : (some ([] : List Int)) = some r := by rw [if_pos rfl] at H; exact H
        clear H
        have H := H1
        clear H1
        obtain rfl := Option.some.inj H
        go_wp2
        go_ret
        exact ⟨_, by first | rfl | (simp [errW_none, errW_some] <;> rfl) | (simp [*, errW_none, errW_some] <;> rfl), by first | exact Kd.R_nil _ _ _ _ _ | exact Kd.N_nil _ _ _ _ _ | exact Kd.V_nil _ _ _ _ _ | exact Kd.Q_nil _ _ _ _ _ | exact Kd.S_nil _ _ _ _ _, by repeat (first | (with_reducible first | exact HB.out | apply below_alloc | apply pw_below_drewN | apply below_drew1) | exact HB.out)⟩
      · replace c5 := Bool.eq_false_iff.mpr c5
        subst c5
        have H1 : ((impl_digest.f kj2 l0 l1).bind fun t214 => (if 8 ≤ (t214.length : Int) then ((impl_copied.f (t214.take 8)).bind fun t221 => (some t221)) else (none))) = some r := by rw [if_neg (show ¬ (false = true) by decide)] at H; exact H
        clear H
        have H := H1
        clear H1
        replace H := Option.bind_eq_some_iff.mp H
        obtain ⟨t214, A60, H⟩ := H
        replace H : (if 8 ≤ (t214.length : Int) then ((impl_copied.f (t214.take 8)).bind fun t221 => (some t221)) else (none)) = some r := H
        have A6 := Aside0.mk A60
        clear A60
        by_cases c7 : 8 ≤ (t214.length : Int)
        · rw [if_pos c7] at H
          have c7b0 := eq_true c7
          have c7b1 : decide (8 ≤ (t214.length : Int)) = true := decide_eq_true c7
          clear c7
          obtain ⟨y217, hy217⟩ : ∃ y_ : List Int, y_ = (t214.take 8) := ⟨_, rfl⟩
          replace H : ((impl_copied.f y217).bind fun t221 => (some t221)) = some r := by first | (rw [hy217]; with_reducible exact H) | (have H2_ := (Option.bind_some _ _).symm.trans H; rw [hy217]; with_reducible exact H2_) | (have H2_ := (Option.bind_some _ _).symm.trans H; with_reducible exact H2_) | with_reducible exact H | (rw [hy217]; exact H) | exact H
          have Ny217 := Aside0.mk hy217
          clear hy217
          replace H := Option.bind_eq_some_iff.mp H
          obtain ⟨t221, A80, H⟩ := H
          replace H : (some t221) = some r := H
          have A8 := Aside0.mk A80
          clear A80
          obtain rfl := Option.some.inj H
          go_wp2_with (first | ((with_reducible refine gate_callee (f := 51) rfl ?_); refine goesL_ (some 15) rfl rfl Try.func51 (by kernel_rfl) rfl #[.slice A0 l0.length c0, .slice A1 l1.length c1] rfl (by (try simp only [List.map_toArray, List.map_cons, List.map_nil]); first | done | rfl | (simp only [List.length_drop, List.length_take]; rfl)) ?_; (with_reducible refine (impl_digest.calls kj2 _ _ l0 _ _ l1 t214 _ ?side1 ?side2 ?side3 ?side4 A6.out).mono ?_); (case side1 => repeat (first | exact (Kd.C_below HR0.out HB.out) | (with_reducible refine Kd.C_alloc ?_ _) | (with_reducible refine Kd.C_drewN ?_ _) | (with_reducible refine Kd.C_drew ?_))); (case side2 => exact HC0.out); (case side3 => repeat (first | exact (Kd.C_below HR1.out HB.out) | (with_reducible refine Kd.C_alloc ?_ _) | (with_reducible refine Kd.C_drewN ?_ _) | (with_reducible refine Kd.C_drew ?_))); (case side4 => exact HC1.out); rintro e w9 ⟨v215, rfl, ho0, hb⟩; refine ⟨_, rfl, ?_⟩; have n0_ := Aside0.mk (Kd.R_lower ho0 (below_size (by repeat (first | (with_reducible first | exact HB.out | apply below_alloc | apply pw_below_drewN | apply below_drew1) | exact HB.out)))); have n1_ := Aside0.mk (below_step (by repeat (first | (with_reducible first | exact HB.out | apply below_alloc | apply pw_below_drewN | apply below_drew1) | exact HB.out)) hb); clear HB; have HO216 := n0_; have HB := n1_; clear n0_ n1_; (try clear hb); (try clear hb2); (try clear hk); (try clear hi); (try clear ho0); obtain ⟨Ao11, co11, eo11⟩ := Kd.R_slice HO216.out; subst eo11; have q10 : (8 : Int) ≤ ((t214.length : Int) : Int) := of_decide_eq_true (by first | (with_reducible assumption) | assumption); obtain ⟨i010, hi010, _, hsz10, _⟩ := info_parts info5; have hroom10 : t214.length ≤ co11 := (Kd.R_reads' HO216.out).2.1; have hC10 : Kd.C (Kd.int .u8) _ Ao11 t214.length t214 := (Kd.R_reads' HO216.out).2.2; have hcut10 := cut_to (P := Try.prog) 22 5 .i64 Try.underlying22 hi010 Ao11 t214.length co11 8 (by omega) q10 hroom10; have hr10 := Kd.C_take (m := 8) hC10 (by omega); have hy10 : y217.length = (8 : Int).toNat := (by rw [Ny217.out, List.length_take]; omega); rw [← Ny217.out] at hr10; rw [← hy10] at hcut10; have HR220 := Aside0.mk hr10; have HC220 := Aside0.mk (show y217.length ≤ co11 from by omega); clear hr10 hC10 hroom10 hi010 hsz10; have KY10 := Aside0.mk hy10; clear hy10; have KL10 := Aside0.mk (show 8 ≤ t214.length from by omega); replace q10 := eq_true q10) | ((with_reducible refine gate_callee (f := 53) rfl ?_); refine goesL_ (some 17) rfl rfl Try.func53 (by kernel_rfl) rfl #[.slice Ao11 y217.length co11] rfl (by (try simp only [List.map_toArray, List.map_cons, List.map_nil]); first | done | rfl | (simp only [List.length_drop, List.length_take]; rfl)) ?_; (with_reducible refine (impl_copied.calls _ _ y217 t221 _ ?side1 ?side2 A8.out).mono ?_); (case side1 => repeat (first | exact (by repeat (first | (with_reducible exact HR220.out) | (with_reducible refine Kd.C_alloc ?_ _) | (with_reducible refine Kd.C_drewN ?_ _) | (with_reducible refine Kd.C_drew ?_) | exact HR220.out)) | (with_reducible refine Kd.C_alloc ?_ _) | (with_reducible refine Kd.C_drewN ?_ _) | (with_reducible refine Kd.C_drew ?_))); (case side2 => exact HC220.out); rintro e w12 ⟨v222, rfl, ho0, hb⟩; refine ⟨_, rfl, ?_⟩; have n0_ := Aside0.mk (Kd.R_elder' (by (with_reducible repeat (first | apply Kd.R_alloc | apply Kd.R_drewN | apply Kd.R_drew)); exact HO216.out) (Kd.R_base ho0) hb); have n1_ := Aside0.mk (Kd.R_lower (Kd.R_new' ho0 (Kd.R_lt (by (with_reducible repeat (first | apply Kd.R_alloc | apply Kd.R_drewN | apply Kd.R_drew)); exact HO216.out))) (below_size (by repeat (first | (with_reducible first | exact HB.out | apply below_alloc | apply pw_below_drewN | apply below_drew1) | exact HB.out)))); have n2_ := Aside0.mk (Kd.C_below (by repeat (first | (with_reducible exact HR220.out) | (with_reducible refine Kd.C_alloc ?_ _) | (with_reducible refine Kd.C_drewN ?_ _) | (with_reducible refine Kd.C_drew ?_) | exact HR220.out)) hb); have n3_ := Aside0.mk (below_step (by repeat (first | (with_reducible first | exact HB.out | apply below_alloc | apply pw_below_drewN | apply below_drew1) | exact HB.out)) hb); clear HO216; clear HR220; clear HB; have HO216 := n0_; have HO223 := n1_; have HR220 := n2_; have HB := n3_; clear n0_ n1_ n2_ n3_; (try clear hb); (try clear hb2); (try clear hk); (try clear hi); (try clear ho0)))
          go_ret
          exact ⟨_, by first | rfl | (simp [errW_none, errW_some] <;> rfl) | (simp [*, errW_none, errW_some] <;> rfl), by (with_reducible repeat (first | apply Kd.R_alloc | apply Kd.R_drewN | apply Kd.R_drew)); exact Kd.R_mono HO223.out (fun _ hk => trivial), by repeat (first | (with_reducible first | exact HB.out | apply below_alloc | apply pw_below_drewN | apply below_drew1) | exact HB.out)⟩
        · rw [if_neg c7] at H
          exact absurd H (by simp)

/-! ### laws_FnExactResetToken: function 4 -/
def laws_FnExactResetToken.j0 : Nat → List Int → List Int → List Int → List Int → Bool → Option (Bool)
  | 0, _, _, _, _, _ => none
  | k + 1, x0, x1, x5, x8, x58 => if x58 = true then (some false) else ((laws_markByteS.f k x8 1).bind fun bt256 => ((laws_heldByteS.f k bt256.2 1).bind fun t258 => (if t258 < 0 then (some false) else (if t258 = bt256.1 then ((laws_toByteS.f k x0).bind fun t259 => ((laws_toByteS.f k x1).bind fun t262 => ((impl_ResetToken.f k t259 t262).bind fun t265 => ((laws_eqByteS.f k t265 x5).bind fun t268 => (if t268 = true then ((laws_heldByteS.f k bt256.2 1).bind fun t269 => (if t269 < 0 then (some false) else (if t269 = bt256.1 then (some true) else (some false)))) else (some false)))))) else (some false)))))
def laws_FnExactResetToken.f (k : Nat) (l0 : List Int) (l1 : List Int) : Option (Bool) := if (l0.length : Int) > 1048576 then (some true) else (if (l1.length : Int) > 1048576 then (some true) else ((laws_toByteS.f k l0).bind fun t224 => ((laws_toByteS.f k l1).bind fun t227 => ((spec_ResetToken.f k t224 t227).bind fun t230 => ((laws_toByteS.f k l0).bind fun t233 => ((laws_toByteS.f k l1).bind fun t236 => ((impl_ResetToken.f k t233 t236).bind fun t239 => ((laws_eqByteS.f k t239 t230).bind fun t242 => (if t242 = true then ((laws_toByteS.f k l0).bind fun t243 => ((laws_eqByteS.f k t233 t243).bind fun t246 => (if t246 = true then ((laws_toByteS.f k l1).bind fun t247 => ((laws_eqByteS.f k t236 t247).bind fun t250 => (if t250 = true then ((laws_markByteS.f k t233 1).bind fun bt251 => ((laws_markByteS.f k t236 bt251.1).bind fun bt253 => (if bt253.1 < 0 then (laws_FnExactResetToken.j0 k l0 l1 t230 t239 true) else ((laws_eqByteS.f k t239 t230).bind fun t255 => (laws_FnExactResetToken.j0 k l0 l1 t230 t239 (!t255)))))) else (some false)))) else (some false)))) else (some false))))))))))
theorem laws_FnExactResetToken.mono_l : ∀ k, (∀ y0 y1 y2 y3 y4, LeO (laws_FnExactResetToken.j0 k y0 y1 y2 y3 y4) (laws_FnExactResetToken.j0 (k + 1) y0 y1 y2 y3 y4))
  | 0 => fun _ _ _ _ _ r h => by simp [laws_FnExactResetToken.j0] at h
  | k + 1 => by
    have ih0 := laws_FnExactResetToken.mono_l k
    · intro y0 y1 y2 y3 y4
      unfold laws_FnExactResetToken.j0
      repeat' first
      | (with_reducible exact ih0 _ _ _ _ _)
      | (with_reducible exact impl_ResetToken.mono _ _ _)
      | (with_reducible exact laws_eqByteS.mono _ _ _)
      | (with_reducible exact laws_heldByteS.mono _ _ _)
      | (with_reducible exact laws_markByteS.mono _ _ _)
      | (with_reducible exact laws_toByteS.mono _ _)
      | (with_reducible exact spec_ResetToken.mono _ _ _)
      | (with_reducible exact LeO.refl _)
      | (with_reducible exact LeO.none _)
      | (with_reducible refine LeO.ite ?_ ?_)
      | (with_reducible refine LeO.bind ?_ (fun _ => ?_))
      | exact ih0 _ _ _ _ _
      | exact impl_ResetToken.mono _ _ _
      | exact laws_eqByteS.mono _ _ _
      | exact laws_heldByteS.mono _ _ _
      | exact laws_markByteS.mono _ _ _
      | exact laws_toByteS.mono _ _
      | exact spec_ResetToken.mono _ _ _
      | exact LeO.none _
      | refine LeO.ite ?_ ?_
      | refine LeO.bind ?_ (fun _ => ?_)
theorem laws_FnExactResetToken.mono : ∀ a0 a1 k, LeO (laws_FnExactResetToken.f k a0 a1) (laws_FnExactResetToken.f (k + 1) a0 a1) := by
  intro a0 a1 k
  have ih0 := laws_FnExactResetToken.mono_l k
  unfold laws_FnExactResetToken.f
  repeat' first
      | (with_reducible exact ih0 _ _ _ _ _)
      | (with_reducible exact impl_ResetToken.mono _ _ _)
      | (with_reducible exact laws_eqByteS.mono _ _ _)
      | (with_reducible exact laws_heldByteS.mono _ _ _)
      | (with_reducible exact laws_markByteS.mono _ _ _)
      | (with_reducible exact laws_toByteS.mono _ _)
      | (with_reducible exact spec_ResetToken.mono _ _ _)
      | (with_reducible exact LeO.refl _)
      | (with_reducible exact LeO.none _)
      | (with_reducible refine LeO.ite ?_ ?_)
      | (with_reducible refine LeO.bind ?_ (fun _ => ?_))
      | exact ih0 _ _ _ _ _
      | exact impl_ResetToken.mono _ _ _
      | exact laws_eqByteS.mono _ _ _
      | exact laws_heldByteS.mono _ _ _
      | exact laws_markByteS.mono _ _ _
      | exact laws_toByteS.mono _ _
      | exact spec_ResetToken.mono _ _ _
      | exact LeO.none _
      | refine LeO.ite ?_ ?_
      | refine LeO.bind ?_ (fun _ => ?_)
set_option maxHeartbeats 8000000 in
set_option maxRecDepth 100000 in
theorem laws_FnExactResetToken.calls (k : Nat) (A0 : Option Addr) (c0 : Nat) (l0 : List Int) (A1 : Option Addr) (c1 : Nat) (l1 : List Int) (w : World) (hr0 : Kd.C (Kd.int .u8) w A0 l0.length l0) (hc0 : l0.length ≤ c0) (hr1 : Kd.C (Kd.int .u8) w A1 l1.length l1) (hc1 : l1.length ≤ c1) (h : laws_FnExactResetToken.f k l0 l1 = some true) :
    Calls Try.prog 4 #[.slice A0 l0.length c0, .slice A1 l1.length c1] w fun e w' => e = .returned (.bool true) ∧ Below w.heap.size w w' := by
  have HR0 := Aside0.mk hr0
  have HC0 := Aside0.mk hc0
  clear hr0 hc0
  have HR1 := Aside0.mk hr1
  have HC1 := Aside0.mk hc1
  clear hr1 hc1
  have HB := Aside0.mk (Below.refl w.heap.size w)
  have H : (if (l0.length : Int) > 1048576 then (some true) else (if (l1.length : Int) > 1048576 then (some true) else ((laws_toByteS.f k l0).bind fun t224 => ((laws_toByteS.f k l1).bind fun t227 => ((spec_ResetToken.f k t224 t227).bind fun t230 => ((laws_toByteS.f k l0).bind fun t233 => ((laws_toByteS.f k l1).bind fun t236 => ((impl_ResetToken.f k t233 t236).bind fun t239 => ((laws_eqByteS.f k t239 t230).bind fun t242 => (if t242 = true then ((laws_toByteS.f k l0).bind fun t243 => ((laws_eqByteS.f k t233 t243).bind fun t246 => (if t246 = true then ((laws_toByteS.f k l1).bind fun t247 => ((laws_eqByteS.f k t236 t247).bind fun t250 => (if t250 = true then ((laws_markByteS.f k t233 1).bind fun bt251 => ((laws_markByteS.f k t236 bt251.1).bind fun bt253 => (if bt253.1 < 0 then (laws_FnExactResetToken.j0 k l0 l1 t230 t239 true) else ((laws_eqByteS.f k t239 t230).bind fun t255 => (laws_FnExactResetToken.j0 k l0 l1 t230 t239 (!t255)))))) else (some false)))) else (some false)))) else (some false))))))))))) = some true := h
  clear h
  by_cases c3 : (l0.length : Int) > 1048576
  · rw [if_pos c3] at H
    have c3b0 : decide (1048576 < (l0.length : Int)) = true := decide_eq_true c3
    have c3b1 : decide (1048576 < l0.length) = true := decide_eq_true (by omega)
    clear c3
    clear H
    go_enter Try.func4, Try.ntmps4
    go_wp2
    go_ret
    exact ⟨by first | rfl | (simp [errW_none, errW_some] <;> rfl) | (simp [*, errW_none, errW_some] <;> rfl), by repeat (first | (with_reducible first | exact HB.out | apply below_alloc | apply pw_below_drewN | apply below_drew1) | exact HB.out)⟩
  · rw [if_neg c3] at H
    have c3b0 : decide (1048576 < (l0.length : Int)) = false := decide_eq_false c3
    have c3b1 : decide (1048576 < l0.length) = false := decide_eq_false (by omega)
    clear c3
    by_cases c4 : (l1.length : Int) > 1048576
    · rw [if_pos c4] at H
      have c4b0 : decide (1048576 < (l1.length : Int)) = true := decide_eq_true c4
      have c4b1 : decide (1048576 < l1.length) = true := decide_eq_true (by omega)
      clear c4
      clear H
      go_enter Try.func4, Try.ntmps4
      go_wp2
      go_ret
      exact ⟨by first | rfl | (simp [errW_none, errW_some] <;> rfl) | (simp [*, errW_none, errW_some] <;> rfl), by repeat (first | (with_reducible first | exact HB.out | apply below_alloc | apply pw_below_drewN | apply below_drew1) | exact HB.out)⟩
    · rw [if_neg c4] at H
      have c4b0 : decide (1048576 < (l1.length : Int)) = false := decide_eq_false c4
      have c4b1 : decide (1048576 < l1.length) = false := decide_eq_false (by omega)
      clear c4
      replace H := Option.bind_eq_some_iff.mp H
      obtain ⟨t224, A50, H⟩ := H
      replace H : ((laws_toByteS.f k l1).bind fun t227 => ((spec_ResetToken.f k t224 t227).bind fun t230 => ((laws_toByteS.f k l0).bind fun t233 => ((laws_toByteS.f k l1).bind fun t236 => ((impl_ResetToken.f k t233 t236).bind fun t239 => ((laws_eqByteS.f k t239 t230).bind fun t242 => (if t242 = true then ((laws_toByteS.f k l0).bind fun t243 => ((laws_eqByteS.f k t233 t243).bind fun t246 => (if t246 = true then ((laws_toByteS.f k l1).bind fun t247 => ((laws_eqByteS.f k t236 t247).bind fun t250 => (if t250 = true then ((laws_markByteS.f k t233 1).bind fun bt251 => ((laws_markByteS.f k t236 bt251.1).bind fun bt253 => (if bt253.1 < 0 then (laws_FnExactResetToken.j0 k l0 l1 t230 t239 true) else ((laws_eqByteS.f k t239 t230).bind fun t255 => (laws_FnExactResetToken.j0 k l0 l1 t230 t239 (!t255)))))) else (some false)))) else (some false)))) else (some false)))))))) = some true := H
      have A5 := Aside0.mk A50
      clear A50
      replace H := Option.bind_eq_some_iff.mp H
      obtain ⟨t227, A60, H⟩ := H
      replace H : ((spec_ResetToken.f k t224 t227).bind fun t230 => ((laws_toByteS.f k l0).bind fun t233 => ((laws_toByteS.f k l1).bind fun t236 => ((impl_ResetToken.f k t233 t236).bind fun t239 => ((laws_eqByteS.f k t239 t230).bind fun t242 => (if t242 = true then ((laws_toByteS.f k l0).bind fun t243 => ((laws_eqByteS.f k t233 t243).bind fun t246 => (if t246 = true then ((laws_toByteS.f k l1).bind fun t247 => ((laws_eqByteS.f k t236 t247).bind fun t250 => (if t250 = true then ((laws_markByteS.f k t233 1).bind fun bt251 => ((laws_markByteS.f k t236 bt251.1).bind fun bt253 => (if bt253.1 < 0 then (laws_FnExactResetToken.j0 k l0 l1 t230 t239 true) else ((laws_eqByteS.f k t239 t230).bind fun t255 => (laws_FnExactResetToken.j0 k l0 l1 t230 t239 (!t255)))))) else (some false)))) else (some false)))) else (some false))))))) = some true := H
      have A6 := Aside0.mk A60
      clear A60
      replace H := Option.bind_eq_some_iff.mp H
      obtain ⟨t230, A70, H⟩ := H
      replace H : ((laws_toByteS.f k l0).bind fun t233 => ((laws_toByteS.f k l1).bind fun t236 => ((impl_ResetToken.f k t233 t236).bind fun t239 => ((laws_eqByteS.f k t239 t230).bind fun t242 => (if t242 = true then ((laws_toByteS.f k l0).bind fun t243 => ((laws_eqByteS.f k t233 t243).bind fun t246 => (if t246 = true then ((laws_toByteS.f k l1).bind fun t247 => ((laws_eqByteS.f k t236 t247).bind fun t250 => (if t250 = true then ((laws_markByteS.f k t233 1).bind fun bt251 => ((laws_markByteS.f k t236 bt251.1).bind fun bt253 => (if bt253.1 < 0 then (laws_FnExactResetToken.j0 k l0 l1 t230 t239 true) else ((laws_eqByteS.f k t239 t230).bind fun t255 => (laws_FnExactResetToken.j0 k l0 l1 t230 t239 (!t255)))))) else (some false)))) else (some false)))) else (some false)))))) = some true := H
      have A7 := Aside0.mk A70
      clear A70
      replace H := Option.bind_eq_some_iff.mp H
      obtain ⟨t233, A80, H⟩ := H
      replace H : ((laws_toByteS.f k l1).bind fun t236 => ((impl_ResetToken.f k t233 t236).bind fun t239 => ((laws_eqByteS.f k t239 t230).bind fun t242 => (if t242 = true then ((laws_toByteS.f k l0).bind fun t243 => ((laws_eqByteS.f k t233 t243).bind fun t246 => (if t246 = true then ((laws_toByteS.f k l1).bind fun t247 => ((laws_eqByteS.f k t236 t247).bind fun t250 => (if t250 = true then ((laws_markByteS.f k t233 1).bind fun bt251 => ((laws_markByteS.f k t236 bt251.1).bind fun bt253 => (if bt253.1 < 0 then (laws_FnExactResetToken.j0 k l0 l1 t230 t239 true) else ((laws_eqByteS.f k t239 t230).bind fun t255 => (laws_FnExactResetToken.j0 k l0 l1 t230 t239 (!t255)))))) else (some false)))) else (some false)))) else (some false))))) = some true := H
      have A8 := Aside0.mk A80
      clear A80
      replace H := Option.bind_eq_some_iff.mp H
      obtain ⟨t236, A90, H⟩ := H
      replace H : ((impl_ResetToken.f k t233 t236).bind fun t239 => ((laws_eqByteS.f k t239 t230).bind fun t242 => (if t242 = true then ((laws_toByteS.f k l0).bind fun t243 => ((laws_eqByteS.f k t233 t243).bind fun t246 => (if t246 = true then ((laws_toByteS.f k l1).bind fun t247 => ((laws_eqByteS.f k t236 t247).bind fun t250 => (if t250 = true then ((laws_markByteS.f k t233 1).bind fun bt251 => ((laws_markByteS.f k t236 bt251.1).bind fun bt253 => (if bt253.1 < 0 then (laws_FnExactResetToken.j0 k l0 l1 t230 t239 true) else ((laws_eqByteS.f k t239 t230).bind fun t255 => (laws_FnExactResetToken.j0 k l0 l1 t230 t239 (!t255)))))) else (some false)))) else (some false)))) else (some false)))) = some true := H
      have A9 := Aside0.mk A90
      clear A90
      replace H := Option.bind_eq_some_iff.mp H
      obtain ⟨t239, A100, H⟩ := H
      replace H : ((laws_eqByteS.f k t239 t230).bind fun t242 => (if t242 = true then ((laws_toByteS.f k l0).bind fun t243 => ((laws_eqByteS.f k t233 t243).bind fun t246 => (if t246 = true then ((laws_toByteS.f k l1).bind fun t247 => ((laws_eqByteS.f k t236 t247).bind fun t250 => (if t250 = true then ((laws_markByteS.f k t233 1).bind fun bt251 => ((laws_markByteS.f k t236 bt251.1).bind fun bt253 => (if bt253.1 < 0 then (laws_FnExactResetToken.j0 k l0 l1 t230 t239 true) else ((laws_eqByteS.f k t239 t230).bind fun t255 => (laws_FnExactResetToken.j0 k l0 l1 t230 t239 (!t255)))))) else (some false)))) else (some false)))) else (some false))) = some true := H
      have A10 := Aside0.mk A100
      clear A100
      replace H := Option.bind_eq_some_iff.mp H
      obtain ⟨t242, A110, H⟩ := H
      replace H : (if t242 = true then ((laws_toByteS.f k l0).bind fun t243 => ((laws_eqByteS.f k t233 t243).bind fun t246 => (if t246 = true then ((laws_toByteS.f k l1).bind fun t247 => ((laws_eqByteS.f k t236 t247).bind fun t250 => (if t250 = true then ((laws_markByteS.f k t233 1).bind fun bt251 => ((laws_markByteS.f k t236 bt251.1).bind fun bt253 => (if bt253.1 < 0 then (laws_FnExactResetToken.j0 k l0 l1 t230 t239 true) else ((laws_eqByteS.f k t239 t230).bind fun t255 => (laws_FnExactResetToken.j0 k l0 l1 t230 t239 (!t255)))))) else (some false)))) else (some false)))) else (some false)) = some true := H
      have A11 := Aside0.mk A110
      clear A110
      by_cases c12 : t242 = true
      · subst c12
        have H1 : ((laws_toByteS.f k l0).bind fun t243 => ((laws_eqByteS.f k t233 t243).bind fun t246 => (if t246 = true then ((laws_toByteS.f k l1).bind fun t247 => ((laws_eqByteS.f k t236 t247).bind fun t250 => (if t250 = true then ((laws_markByteS.f k t233 1).bind fun bt251 => ((laws_markByteS.f k t236 bt251.1).bind fun bt253 => (if bt253.1 < 0 then (laws_FnExactResetToken.j0 k l0 l1 t230 t239 true) else ((laws_eqByteS.f k t239 t230).bind fun t255 => (laws_FnExactResetToken.j0 k l0 l1 t230 t239 (!t255)))))) else (some false)))) else (some false)))) = some true := by rw [if_pos rfl] at H; exact H
        clear H
        have H := H1
        clear H1
        replace H := Option.bind_eq_some_iff.mp H
        obtain ⟨t243, A130, H⟩ := H
        replace H : ((laws_eqByteS.f k t233 t243).bind fun t246 => (if t246 = true then ((laws_toByteS.f k l1).bind fun t247 => ((laws_eqByteS.f k t236 t247).bind fun t250 => (if t250 = true then ((laws_markByteS.f k t233 1).bind fun bt251 => ((laws_markByteS.f k t236 bt251.1).bind fun bt253 => (if bt253.1 < 0 then (laws_FnExactResetToken.j0 k l0 l1 t230 t239 true) else ((laws_eqByteS.f k t239 t230).bind fun t255 => (laws_FnExactResetToken.j0 k l0 l1 t230 t239 (!t255)))))) else (some false)))) else (some false))) = some true := H
        have A13 := Aside0.mk A130
        clear A130
        replace H := Option.bind_eq_some_iff.mp H
        obtain ⟨t246, A140, H⟩ := H
        replace H : (if t246 = true then ((laws_toByteS.f k l1).bind fun t247 => ((laws_eqByteS.f k t236 t247).bind fun t250 => (if t250 = true then ((laws_markByteS.f k t233 1).bind fun bt251 => ((laws_markByteS.f k t236 bt251.1).bind fun bt253 => (if bt253.1 < 0 then (laws_FnExactResetToken.j0 k l0 l1 t230 t239 true) else ((laws_eqByteS.f k t239 t230).bind fun t255 => (laws_FnExactResetToken.j0 k l0 l1 t230 t239 (!t255)))))) else (some false)))) else (some false)) = some true := H
        have A14 := Aside0.mk A140
        clear A140
        by_cases c15 : t246 = true
        · subst c15
          have H1 : ((laws_toByteS.f k l1).bind fun t247 => ((laws_eqByteS.f k t236 t247).bind fun t250 => (if t250 = true then ((laws_markByteS.f k t233 1).bind fun bt251 => ((laws_markByteS.f k t236 bt251.1).bind fun bt253 => (if bt253.1 < 0 then (laws_FnExactResetToken.j0 k l0 l1 t230 t239 true) else ((laws_eqByteS.f k t239 t230).bind fun t255 => (laws_FnExactResetToken.j0 k l0 l1 t230 t239 (!t255)))))) else (some false)))) = some true := by rw [if_pos rfl] at H; exact H
          clear H
          have H := H1
          clear H1
          replace H := Option.bind_eq_some_iff.mp H
          obtain ⟨t247, A160, H⟩ := H
          replace H : ((laws_eqByteS.f k t236 t247).bind fun t250 => (if t250 = true then ((laws_markByteS.f k t233 1).bind fun bt251 => ((laws_markByteS.f k t236 bt251.1).bind fun bt253 => (if bt253.1 < 0 then (laws_FnExactResetToken.j0 k l0 l1 t230 t239 true) else ((laws_eqByteS.f k t239 t230).bind fun t255 => (laws_FnExactResetToken.j0 k l0 l1 t230 t239 (!t255)))))) else (some false))) = some true := H
          have A16 := Aside0.mk A160
          clear A160
          replace H := Option.bind_eq_some_iff.mp H
          obtain ⟨t250, A170, H⟩ := H
          replace H : (if t250 = true then ((laws_markByteS.f k t233 1).bind fun bt251 => ((laws_markByteS.f k t236 bt251.1).bind fun bt253 => (if bt253.1 < 0 then (laws_FnExactResetToken.j0 k l0 l1 t230 t239 true) else ((laws_eqByteS.f k t239 t230).bind fun t255 => (laws_FnExactResetToken.j0 k l0 l1 t230 t239 (!t255)))))) else (some false)) = some true := H
          have A17 := Aside0.mk A170
          clear A170
          by_cases c18 : t250 = true
          · subst c18
            have H1 : ((laws_markByteS.f k t233 1).bind fun bt251 => ((laws_markByteS.f k t236 bt251.1).bind fun bt253 => (if bt253.1 < 0 then (laws_FnExactResetToken.j0 k l0 l1 t230 t239 true) else ((laws_eqByteS.f k t239 t230).bind fun t255 => (laws_FnExactResetToken.j0 k l0 l1 t230 t239 (!t255)))))) = some true := by rw [if_pos rfl] at H; exact H
            clear H
            have H := H1
            clear H1
            replace H := Option.bind_eq_some_iff.mp H
            obtain ⟨⟨t251, t252⟩, A190, H⟩ := H
            replace H : ((laws_markByteS.f k t236 t251).bind fun bt253 => (if bt253.1 < 0 then (laws_FnExactResetToken.j0 k l0 l1 t230 t239 true) else ((laws_eqByteS.f k t239 t230).bind fun t255 => (laws_FnExactResetToken.j0 k l0 l1 t230 t239 (!t255))))) = some true := H
            have A19 := Aside0.mk A190
            clear A190
            replace H := Option.bind_eq_some_iff.mp H
            obtain ⟨⟨t253, t254⟩, A200, H⟩ := H
            replace H : (if t253 < 0 then (laws_FnExactResetToken.j0 k l0 l1 t230 t239 true) else ((laws_eqByteS.f k t239 t230).bind fun t255 => (laws_FnExactResetToken.j0 k l0 l1 t230 t239 (!t255)))) = some true := H
            have A20 := Aside0.mk A200
            clear A200
            have HC21 := Aside0.mk H
            clear H
            go_enter Try.func4, Try.ntmps4
            go_upto_region 18 with (first | ((with_reducible refine gate_callee (f := 15) rfl ?_); refine goesL_ (some 20) rfl rfl Try.func15 (by kernel_rfl) rfl #[.slice A0 l0.length c0] rfl (by (try simp only [List.map_toArray, List.map_cons, List.map_nil]); first | done | rfl | (simp only [List.length_drop, List.length_take]; rfl)) ?_; (with_reducible refine (laws_toByteS.calls k _ _ l0 t224 _ ?side1 ?side2 A5.out).mono ?_); (case side1 => repeat (first | exact HR0.out | (with_reducible refine Kd.C_alloc ?_ _) | (with_reducible refine Kd.C_drewN ?_ _) | (with_reducible refine Kd.C_drew ?_))); (case side2 => exact HC0.out); rintro e w22 ⟨v225, rfl, ho0, hb⟩; refine ⟨_, rfl, ?_⟩; have n0_ := Aside0.mk (Kd.R_lower ho0 (below_size (by repeat (first | (with_reducible first | exact HB.out | apply below_alloc | apply pw_below_drewN | apply below_drew1) | exact HB.out)))); have n1_ := Aside0.mk (below_step (by repeat (first | (with_reducible first | exact HB.out | apply below_alloc | apply pw_below_drewN | apply below_drew1) | exact HB.out)) hb); clear HB; have HO226 := n0_; have HB := n1_; clear n0_ n1_; (try clear hb); (try clear hb2); (try clear hk); (try clear hi); (try clear ho0)) | ((with_reducible refine gate_callee (f := 15) rfl ?_); refine goesL_ (some 22) rfl rfl Try.func15 (by kernel_rfl) rfl #[.slice A1 l1.length c1] rfl (by (try simp only [List.map_toArray, List.map_cons, List.map_nil]); first | done | rfl | (simp only [List.length_drop, List.length_take]; rfl)) ?_; (with_reducible refine (laws_toByteS.calls k _ _ l1 t227 _ ?side1 ?side2 A6.out).mono ?_); (case side1 => repeat (first | exact (Kd.C_below HR1.out HB.out) | (with_reducible refine Kd.C_alloc ?_ _) | (with_reducible refine Kd.C_drewN ?_ _) | (with_reducible refine Kd.C_drew ?_))); (case side2 => exact HC1.out); rintro e w23 ⟨v228, rfl, ho0, hb⟩; refine ⟨_, rfl, ?_⟩; have n0_ := Aside0.mk (Kd.R_elder' (by (with_reducible repeat (first | apply Kd.R_alloc | apply Kd.R_drewN | apply Kd.R_drew)); exact HO226.out) (Kd.R_base ho0) hb); have n1_ := Aside0.mk (Kd.R_lower (Kd.R_new' ho0 (Kd.R_lt (by (with_reducible repeat (first | apply Kd.R_alloc | apply Kd.R_drewN | apply Kd.R_drew)); exact HO226.out))) (below_size (by repeat (first | (with_reducible first | exact HB.out | apply below_alloc | apply pw_below_drewN | apply below_drew1) | exact HB.out)))); have n2_ := Aside0.mk (below_step (by repeat (first | (with_reducible first | exact HB.out | apply below_alloc | apply pw_below_drewN | apply below_drew1) | exact HB.out)) hb); clear HO226; clear HB; have HO226 := n0_; have HO229 := n1_; have HB := n2_; clear n0_ n1_ n2_; (try clear hb); (try clear hb2); (try clear hk); (try clear hi); (try clear ho0); obtain ⟨Ao24, co24, eo24⟩ := Kd.R_slice HO226.out; subst eo24; obtain ⟨Ao25, co25, eo25⟩ := Kd.R_slice HO229.out; subst eo25) | ((with_reducible refine gate_callee (f := 20) rfl ?_); refine goesL_ (some 23) rfl rfl Try.func20 (by kernel_rfl) rfl #[.slice Ao24 t224.length co24, .slice Ao25 t227.length co25] rfl (by (try simp only [List.map_toArray, List.map_cons, List.map_nil]); first | done | rfl | (simp only [List.length_drop, List.length_take]; rfl)) ?_; (with_reducible refine (spec_ResetToken.calls k _ _ t224 _ _ t227 t230 _ ?side1 ?side2 ?side3 ?side4 A7.out).mono ?_); (case side1 => repeat (first | exact (Kd.R_reads' HO226.out).2.2 | (with_reducible refine Kd.C_alloc ?_ _) | (with_reducible refine Kd.C_drewN ?_ _) | (with_reducible refine Kd.C_drew ?_))); (case side2 => exact (Kd.R_reads' HO226.out).2.1); (case side3 => repeat (first | exact (Kd.R_reads' HO229.out).2.2 | (with_reducible refine Kd.C_alloc ?_ _) | (with_reducible refine Kd.C_drewN ?_ _) | (with_reducible refine Kd.C_drew ?_))); (case side4 => exact (Kd.R_reads' HO229.out).2.1); rintro e w26 ⟨v231, rfl, ho0, hb⟩; refine ⟨_, rfl, ?_⟩; have n0_ := Aside0.mk (Kd.R_elder' (by (with_reducible repeat (first | apply Kd.R_alloc | apply Kd.R_drewN | apply Kd.R_drew)); exact HO226.out) (Kd.R_base ho0) hb); have n1_ := Aside0.mk (Kd.R_elder' (by (with_reducible repeat (first | apply Kd.R_alloc | apply Kd.R_drewN | apply Kd.R_drew)); exact HO229.out) (Kd.R_base ho0) hb); have n2_ := Aside0.mk (Kd.R_lower (Kd.R_new' (Kd.R_new' ho0 (Kd.R_lt (by (with_reducible repeat (first | apply Kd.R_alloc | apply Kd.R_drewN | apply Kd.R_drew)); exact HO226.out))) (Kd.R_lt (by (with_reducible repeat (first | apply Kd.R_alloc | apply Kd.R_drewN | apply Kd.R_drew)); exact HO229.out))) (below_size (by repeat (first | (with_reducible first | exact HB.out | apply below_alloc | apply pw_below_drewN | apply below_drew1) | exact HB.out)))); have n3_ := Aside0.mk (below_step (by repeat (first | (with_reducible first | exact HB.out | apply below_alloc | apply pw_below_drewN | apply below_drew1) | exact HB.out)) hb); clear HO226; clear HO229; clear HB; have HO226 := n0_; have HO229 := n1_; have HO232 := n2_; have HB := n3_; clear n0_ n1_ n2_ n3_; (try clear hb); (try clear hb2); (try clear hk); (try clear hi); (try clear ho0)) | ((with_reducible refine gate_callee (f := 15) rfl ?_); refine goesL_ (some 25) rfl rfl Try.func15 (by kernel_rfl) rfl #[.slice A0 l0.length c0] rfl (by (try simp only [List.map_toArray, List.map_cons, List.map_nil]); first | done | rfl | (simp only [List.length_drop, List.length_take]; rfl)) ?_; (with_reducible refine (laws_toByteS.calls k _ _ l0 t233 _ ?side1 ?side2 A8.out).mono ?_); (case side1 => repeat (first | exact (Kd.C_below HR0.out HB.out) | (with_reducible refine Kd.C_alloc ?_ _) | (with_reducible refine Kd.C_drewN ?_ _) | (with_reducible refine Kd.C_drew ?_))); (case side2 => exact HC0.out); rintro e w27 ⟨v234, rfl, ho0, hb⟩; refine ⟨_, rfl, ?_⟩; have n0_ := Aside0.mk (Kd.R_elder' (by (with_reducible repeat (first | apply Kd.R_alloc | apply Kd.R_drewN | apply Kd.R_drew)); exact HO226.out) (Kd.R_base ho0) hb); have n1_ := Aside0.mk (Kd.R_elder' (by (with_reducible repeat (first | apply Kd.R_alloc | apply Kd.R_drewN | apply Kd.R_drew)); exact HO229.out) (Kd.R_base ho0) hb); have n2_ := Aside0.mk (Kd.R_elder' (by (with_reducible repeat (first | apply Kd.R_alloc | apply Kd.R_drewN | apply Kd.R_drew)); exact HO232.out) (Kd.R_base ho0) hb); have n3_ := Aside0.mk (Kd.R_lower (Kd.R_new' (Kd.R_new' (Kd.R_new' ho0 (Kd.R_lt (by (with_reducible repeat (first | apply Kd.R_alloc | apply Kd.R_drewN | apply Kd.R_drew)); exact HO226.out))) (Kd.R_lt (by (with_reducible repeat (first | apply Kd.R_alloc | apply Kd.R_drewN | apply Kd.R_drew)); exact HO229.out))) (Kd.R_lt (by (with_reducible repeat (first | apply Kd.R_alloc | apply Kd.R_drewN | apply Kd.R_drew)); exact HO232.out))) (below_size (by repeat (first | (with_reducible first | exact HB.out | apply below_alloc | apply pw_below_drewN | apply below_drew1) | exact HB.out)))); have n4_ := Aside0.mk (below_step (by repeat (first | (with_reducible first | exact HB.out | apply below_alloc | apply pw_below_drewN | apply below_drew1) | exact HB.out)) hb); clear HO226; clear HO229; clear HO232; clear HB; have HO226 := n0_; have HO229 := n1_; have HO232 := n2_; have HO235 := n3_; have HB := n4_; clear n0_ n1_ n2_ n3_ n4_; (try clear hb); (try clear hb2); (try clear hk); (try clear hi); (try clear ho0)) | ((with_reducible refine gate_callee (f := 15) rfl ?_); refine goesL_ (some 27) rfl rfl Try.func15 (by kernel_rfl) rfl #[.slice A1 l1.length c1] rfl (by (try simp only [List.map_toArray, List.map_cons, List.map_nil]); first | done | rfl | (simp only [List.length_drop, List.length_take]; rfl)) ?_; (with_reducible refine (laws_toByteS.calls k _ _ l1 t236 _ ?side1 ?side2 A9.out).mono ?_); (case side1 => repeat (first | exact (Kd.C_below HR1.out HB.out) | (with_reducible refine Kd.C_alloc ?_ _) | (with_reducible refine Kd.C_drewN ?_ _) | (with_reducible refine Kd.C_drew ?_))); (case side2 => exact HC1.out); rintro e w28 ⟨v237, rfl, ho0, hb⟩; refine ⟨_, rfl, ?_⟩; have n0_ := Aside0.mk (Kd.R_elder' (by (with_reducible repeat (first | apply Kd.R_alloc | apply Kd.R_drewN | apply Kd.R_drew)); exact HO226.out) (Kd.R_base ho0) hb); have n1_ := Aside0.mk (Kd.R_elder' (by (with_reducible repeat (first | apply Kd.R_alloc | apply Kd.R_drewN | apply Kd.R_drew)); exact HO229.out) (Kd.R_base ho0) hb); have n2_ := Aside0.mk (Kd.R_elder' (by (with_reducible repeat (first | apply Kd.R_alloc | apply Kd.R_drewN | apply Kd.R_drew)); exact HO232.out) (Kd.R_base ho0) hb); have n3_ := Aside0.mk (Kd.R_elder' (by (with_reducible repeat (first | apply Kd.R_alloc | apply Kd.R_drewN | apply Kd.R_drew)); exact HO235.out) (Kd.R_base ho0) hb); have n4_ := Aside0.mk (Kd.R_lower (Kd.R_new' (Kd.R_new' (Kd.R_new' (Kd.R_new' ho0 (Kd.R_lt (by (with_reducible repeat (first | apply Kd.R_alloc | apply Kd.R_drewN | apply Kd.R_drew)); exact HO226.out))) (Kd.R_lt (by (with_reducible repeat (first | apply Kd.R_alloc | apply Kd.R_drewN | apply Kd.R_drew)); exact HO229.out))) (Kd.R_lt (by (with_reducible repeat (first | apply Kd.R_alloc | apply Kd.R_drewN | apply Kd.R_drew)); exact HO232.out))) (Kd.R_lt (by (with_reducible repeat (first | apply Kd.R_alloc | apply Kd.R_drewN | apply Kd.R_drew)); exact HO235.out))) (below_size (by repeat (first | (with_reducible first | exact HB.out | apply below_alloc | apply pw_below_drewN | apply below_drew1) | exact HB.out)))); have n5_ := Aside0.mk (below_step (by repeat (first | (with_reducible first | exact HB.out | apply below_alloc | apply pw_below_drewN | apply below_drew1) | exact HB.out)) hb); clear HO226; clear HO229; clear HO232; clear HO235; clear HB; have HO226 := n0_; have HO229 := n1_; have HO232 := n2_; have HO235 := n3_; have HO238 := n4_; have HB := n5_; clear n0_ n1_ n2_ n3_ n4_ n5_; (try clear hb); (try clear hb2); (try clear hk); (try clear hi); (try clear ho0); obtain ⟨Ao29, co29, eo29⟩ := Kd.R_slice HO235.out; subst eo29; obtain ⟨Ao30, co30, eo30⟩ := Kd.R_slice HO238.out; subst eo30) | ((with_reducible refine gate_callee (f := 21) rfl ?_); refine goesL_ (some 30) rfl rfl Try.func21 (by kernel_rfl) rfl #[.slice Ao29 t233.length co29, .slice Ao30 t236.length co30] rfl (by (try simp only [List.map_toArray, List.map_cons, List.map_nil]); first | done | rfl | (simp only [List.length_drop, List.length_take]; rfl)) ?_; (with_reducible refine (impl_ResetToken.calls k _ _ t233 _ _ t236 t239 _ ?side1 ?side2 ?side3 ?side4 A10.out).mono ?_); (case side1 => repeat (first | exact (Kd.R_reads' HO235.out).2.2 | (with_reducible refine Kd.C_alloc ?_ _) | (with_reducible refine Kd.C_drewN ?_ _) | (with_reducible refine Kd.C_drew ?_))); (case side2 => exact (Kd.R_reads' HO235.out).2.1); (case side3 => repeat (first | exact (Kd.R_reads' HO238.out).2.2 | (with_reducible refine Kd.C_alloc ?_ _) | (with_reducible refine Kd.C_drewN ?_ _) | (with_reducible refine Kd.C_drew ?_))); (case side4 => exact (Kd.R_reads' HO238.out).2.1); rintro e w31 ⟨v240, rfl, ho0, hb⟩; refine ⟨_, rfl, ?_⟩; have n0_ := Aside0.mk (Kd.R_elder' (by (with_reducible repeat (first | apply Kd.R_alloc | apply Kd.R_drewN | apply Kd.R_drew)); exact HO226.out) (Kd.R_base ho0) hb); have n1_ := Aside0.mk (Kd.R_elder' (by (with_reducible repeat (first | apply Kd.R_alloc | apply Kd.R_drewN | apply Kd.R_drew)); exact HO229.out) (Kd.R_base ho0) hb); have n2_ := Aside0.mk (Kd.R_elder' (by (with_reducible repeat (first | apply Kd.R_alloc | apply Kd.R_drewN | apply Kd.R_drew)); exact HO232.out) (Kd.R_base ho0) hb); have n3_ := Aside0.mk (Kd.R_elder' (by (with_reducible repeat (first | apply Kd.R_alloc | apply Kd.R_drewN | apply Kd.R_drew)); exact HO235.out) (Kd.R_base ho0) hb); have n4_ := Aside0.mk (Kd.R_elder' (by (with_reducible repeat (first | apply Kd.R_alloc | apply Kd.R_drewN | apply Kd.R_drew)); exact HO238.out) (Kd.R_base ho0) hb); have n5_ := Aside0.mk (Kd.R_lower (Kd.R_new' (Kd.R_new' (Kd.R_new' (Kd.R_new' (Kd.R_new' ho0 (Kd.R_lt (by (with_reducible repeat (first | apply Kd.R_alloc | apply Kd.R_drewN | apply Kd.R_drew)); exact HO226.out))) (Kd.R_lt (by (with_reducible repeat (first | apply Kd.R_alloc | apply Kd.R_drewN | apply Kd.R_drew)); exact HO229.out))) (Kd.R_lt (by (with_reducible repeat (first | apply Kd.R_alloc | apply Kd.R_drewN | apply Kd.R_drew)); exact HO232.out))) (Kd.R_lt (by (with_reducible repeat (first | apply Kd.R_alloc | apply Kd.R_drewN | apply Kd.R_drew)); exact HO235.out))) (Kd.R_lt (by (with_reducible repeat (first | apply Kd.R_alloc | apply Kd.R_drewN | apply Kd.R_drew)); exact HO238.out))) (below_size (by repeat (first | (with_reducible first | exact HB.out | apply below_alloc | apply pw_below_drewN | apply below_drew1) | exact HB.out)))); have n6_ := Aside0.mk (below_step (by repeat (first | (with_reducible first | exact HB.out | apply below_alloc | apply pw_below_drewN | apply below_drew1) | exact HB.out)) hb); clear HO226; clear HO229; clear HO232; clear HO235; clear HO238; clear HB; have HO226 := n0_; have HO229 := n1_; have HO232 := n2_; have HO235 := n3_; have HO238 := n4_; have HO241 := n5_; have HB := n6_; clear n0_ n1_ n2_ n3_ n4_ n5_ n6_; (try clear hb); (try clear hb2); (try clear hk); (try clear hi); (try clear ho0); obtain ⟨Ao32, co32, eo32⟩ := Kd.R_slice HO241.out; subst eo32; obtain ⟨Ao33, co33, eo33⟩ := Kd.R_slice HO232.out; subst eo33) | ((with_reducible refine gate_callee (f := 17) rfl ?_); refine goesL_ (some 33) rfl rfl Try.func17 (by kernel_rfl) rfl #[.slice Ao32 t239.length co32, .slice Ao33 t230.length co33] rfl (by (try simp only [List.map_toArray, List.map_cons, List.map_nil]); first | done | rfl | (simp only [List.length_drop, List.length_take]; rfl)) ?_; (with_reducible refine (laws_eqByteS.calls k _ _ t239 _ _ t230 true _ ?side1 ?side2 ?side3 ?side4 A11.out).mono ?_); (case side1 => repeat (first | exact (Kd.R_reads' HO241.out).2.2 | (with_reducible refine Kd.C_alloc ?_ _) | (with_reducible refine Kd.C_drewN ?_ _) | (with_reducible refine Kd.C_drew ?_))); (case side2 => exact (Kd.R_reads' HO241.out).2.1); (case side3 => repeat (first | exact (Kd.R_reads' HO232.out).2.2 | (with_reducible refine Kd.C_alloc ?_ _) | (with_reducible refine Kd.C_drewN ?_ _) | (with_reducible refine Kd.C_drew ?_))); (case side4 => exact (Kd.R_reads' HO232.out).2.1); rintro e w' ⟨rfl, ⟨nd, rfl⟩⟩; refine ⟨_, rfl, ?_⟩) | ((with_reducible refine gate_callee (f := 15) rfl ?_); refine goesL_ (some 37) rfl rfl Try.func15 (by kernel_rfl) rfl #[.slice A0 l0.length c0] rfl (by (try simp only [List.map_toArray, List.map_cons, List.map_nil]); first | done | rfl | (simp only [List.length_drop, List.length_take]; rfl)) ?_; (with_reducible refine (laws_toByteS.calls k _ _ l0 t243 _ ?side1 ?side2 A13.out).mono ?_); (case side1 => repeat (first | exact (Kd.C_below HR0.out (by repeat (first | (with_reducible first | exact HB.out | apply below_alloc | apply pw_below_drewN | apply below_drew1) | exact HB.out))) | (with_reducible refine Kd.C_alloc ?_ _) | (with_reducible refine Kd.C_drewN ?_ _) | (with_reducible refine Kd.C_drew ?_))); (case side2 => exact HC0.out); rintro e w34 ⟨v244, rfl, ho0, hb⟩; refine ⟨_, rfl, ?_⟩; have n0_ := Aside0.mk (Kd.R_elder' (by (with_reducible repeat (first | apply Kd.R_alloc | apply Kd.R_drewN | apply Kd.R_drew)); exact HO226.out) (Kd.R_base ho0) hb); have n1_ := Aside0.mk (Kd.R_elder' (by (with_reducible repeat (first | apply Kd.R_alloc | apply Kd.R_drewN | apply Kd.R_drew)); exact HO229.out) (Kd.R_base ho0) hb); have n2_ := Aside0.mk (Kd.R_elder' (by (with_reducible repeat (first | apply Kd.R_alloc | apply Kd.R_drewN | apply Kd.R_drew)); exact HO232.out) (Kd.R_base ho0) hb); have n3_ := Aside0.mk (Kd.R_elder' (by (with_reducible repeat (first | apply Kd.R_alloc | apply Kd.R_drewN | apply Kd.R_drew)); exact HO235.out) (Kd.R_base ho0) hb); have n4_ := Aside0.mk (Kd.R_elder' (by (with_reducible repeat (first | apply Kd.R_alloc | apply Kd.R_drewN | apply Kd.R_drew)); exact HO238.out) (Kd.R_base ho0) hb); have n5_ := Aside0.mk (Kd.R_elder' (by (with_reducible repeat (first | apply Kd.R_alloc | apply Kd.R_drewN | apply Kd.R_drew)); exact HO241.out) (Kd.R_base ho0) hb); have n6_ := Aside0.mk (Kd.R_lower (Kd.R_new' (Kd.R_new' (Kd.R_new' (Kd.R_new' (Kd.R_new' (Kd.R_new' ho0 (Kd.R_lt (by (with_reducible repeat (first | apply Kd.R_alloc | apply Kd.R_drewN | apply Kd.R_drew)); exact HO226.out))) (Kd.R_lt (by (with_reducible repeat (first | apply Kd.R_alloc | apply Kd.R_drewN | apply Kd.R_drew)); exact HO229.out))) (Kd.R_lt (by (with_reducible repeat (first | apply Kd.R_alloc | apply Kd.R_drewN | apply Kd.R_drew)); exact HO232.out))) (Kd.R_lt (by (with_reducible repeat (first | apply Kd.R_alloc | apply Kd.R_drewN | apply Kd.R_drew)); exact HO235.out))) (Kd.R_lt (by (with_reducible repeat (first | apply Kd.R_alloc | apply Kd.R_drewN | apply Kd.R_drew)); exact HO238.out))) (Kd.R_lt (by (with_reducible repeat (first | apply Kd.R_alloc | apply Kd.R_drewN | apply Kd.R_drew)); exact HO241.out))) (below_size (by repeat (first | (with_reducible first | exact HB.out | apply below_alloc | apply pw_below_drewN | apply below_drew1) | exact HB.out)))); have n7_ := Aside0.mk (below_step (by repeat (first | (with_reducible first | exact HB.out | apply below_alloc | apply pw_below_drewN | apply below_drew1) | exact HB.out)) hb); clear HO226; clear HO229; clear HO232; clear HO235; clear HO238; clear HO241; clear HB; have HO226 := n0_; have HO229 := n1_; have HO232 := n2_; have HO235 := n3_; have HO238 := n4_; have HO241 := n5_; have HO245 := n6_; have HB := n7_; clear n0_ n1_ n2_ n3_ n4_ n5_ n6_ n7_; (try clear hb); (try clear hb2); (try clear hk); (try clear hi); (try clear ho0); obtain ⟨Ao35, co35, eo35⟩ := Kd.R_slice HO245.out; subst eo35) | ((with_reducible refine gate_callee (f := 17) rfl ?_); refine goesL_ (some 38) rfl rfl Try.func17 (by kernel_rfl) rfl #[.slice Ao29 t233.length co29, .slice Ao35 t243.length co35] rfl (by (try simp only [List.map_toArray, List.map_cons, List.map_nil]); first | done | rfl | (simp only [List.length_drop, List.length_take]; rfl)) ?_; (with_reducible refine (laws_eqByteS.calls k _ _ t233 _ _ t243 true _ ?side1 ?side2 ?side3 ?side4 A14.out).mono ?_); (case side1 => repeat (first | exact (Kd.R_reads' HO235.out).2.2 | (with_reducible refine Kd.C_alloc ?_ _) | (with_reducible refine Kd.C_drewN ?_ _) | (with_reducible refine Kd.C_drew ?_))); (case side2 => exact (Kd.R_reads' HO235.out).2.1); (case side3 => repeat (first | exact (Kd.R_reads' HO245.out).2.2 | (with_reducible refine Kd.C_alloc ?_ _) | (with_reducible refine Kd.C_drewN ?_ _) | (with_reducible refine Kd.C_drew ?_))); (case side4 => exact (Kd.R_reads' HO245.out).2.1); rintro e w' ⟨rfl, ⟨nd, rfl⟩⟩; refine ⟨_, rfl, ?_⟩) | ((with_reducible refine gate_callee (f := 15) rfl ?_); refine goesL_ (some 42) rfl rfl Try.func15 (by kernel_rfl) rfl #[.slice A1 l1.length c1] rfl (by (try simp only [List.map_toArray, List.map_cons, List.map_nil]); first | done | rfl | (simp only [List.length_drop, List.length_take]; rfl)) ?_; (with_reducible refine (laws_toByteS.calls k _ _ l1 t247 _ ?side1 ?side2 A16.out).mono ?_); (case side1 => repeat (first | exact (Kd.C_below HR1.out (by repeat (first | (with_reducible first | exact HB.out | apply below_alloc | apply pw_below_drewN | apply below_drew1) | exact HB.out))) | (with_reducible refine Kd.C_alloc ?_ _) | (with_reducible refine Kd.C_drewN ?_ _) | (with_reducible refine Kd.C_drew ?_))); (case side2 => exact HC1.out); rintro e w36 ⟨v248, rfl, ho0, hb⟩; refine ⟨_, rfl, ?_⟩; have n0_ := Aside0.mk (Kd.R_elder' (by (with_reducible repeat (first | apply Kd.R_alloc | apply Kd.R_drewN | apply Kd.R_drew)); exact HO226.out) (Kd.R_base ho0) hb); have n1_ := Aside0.mk (Kd.R_elder' (by (with_reducible repeat (first | apply Kd.R_alloc | apply Kd.R_drewN | apply Kd.R_drew)); exact HO229.out) (Kd.R_base ho0) hb); have n2_ := Aside0.mk (Kd.R_elder' (by (with_reducible repeat (first | apply Kd.R_alloc | apply Kd.R_drewN | apply Kd.R_drew)); exact HO232.out) (Kd.R_base ho0) hb); have n3_ := Aside0.mk (Kd.R_elder' (by (with_reducible repeat (first | apply Kd.R_alloc | apply Kd.R_drewN | apply Kd.R_drew)); exact HO235.out) (Kd.R_base ho0) hb); have n4_ := Aside0.mk (Kd.R_elder' (by (with_reducible repeat (first | apply Kd.R_alloc | apply Kd.R_drewN | apply Kd.R_drew)); exact HO238.out) (Kd.R_base ho0) hb); have n5_ := Aside0.mk (Kd.R_elder' (by (with_reducible repeat (first | apply Kd.R_alloc | apply Kd.R_drewN | apply Kd.R_drew)); exact HO241.out) (Kd.R_base ho0) hb); have n6_ := Aside0.mk (Kd.R_elder' (by (with_reducible repeat (first | apply Kd.R_alloc | apply Kd.R_drewN | apply Kd.R_drew)); exact HO245.out) (Kd.R_base ho0) hb); have n7_ := Aside0.mk (Kd.R_lower (Kd.R_new' (Kd.R_new' (Kd.R_new' (Kd.R_new' (Kd.R_new' (Kd.R_new' (Kd.R_new' ho0 (Kd.R_lt (by (with_reducible repeat (first | apply Kd.R_alloc | apply Kd.R_drewN | apply Kd.R_drew)); exact HO226.out))) (Kd.R_lt (by (with_reducible repeat (first | apply Kd.R_alloc | apply Kd.R_drewN | apply Kd.R_drew)); exact HO229.out))) (Kd.R_lt (by (with_reducible repeat (first | apply Kd.R_alloc | apply Kd.R_drewN | apply Kd.R_drew)); exact HO232.out))) (Kd.R_lt (by (with_reducible repeat (first | apply Kd.R_alloc | apply Kd.R_drewN | apply Kd.R_drew)); exact HO235.out))) (Kd.R_lt (by (with_reducible repeat (first | apply Kd.R_alloc | apply Kd.R_drewN | apply Kd.R_drew)); exact HO238.out))) (Kd.R_lt (by (with_reducible repeat (first | apply Kd.R_alloc | apply Kd.R_drewN | apply Kd.R_drew)); exact HO241.out))) (Kd.R_lt (by (with_reducible repeat (first | apply Kd.R_alloc | apply Kd.R_drewN | apply Kd.R_drew)); exact HO245.out))) (below_size (by repeat (first | (with_reducible first | exact HB.out | apply below_alloc | apply pw_below_drewN | apply below_drew1) | exact HB.out)))); have n8_ := Aside0.mk (below_step (by repeat (first | (with_reducible first | exact HB.out | apply below_alloc | apply pw_below_drewN | apply below_drew1) | exact HB.out)) hb); clear HO226; clear HO229; clear HO232; clear HO235; clear HO238; clear HO241; clear HO245; clear HB; have HO226 := n0_; have HO229 := n1_; have HO232 := n2_; have HO235 := n3_; have HO238 := n4_; have HO241 := n5_; have HO245 := n6_; have HO249 := n7_; have HB := n8_; clear n0_ n1_ n2_ n3_ n4_ n5_ n6_ n7_ n8_; (try clear hb); (try clear hb2); (try clear hk); (try clear hi); (try clear ho0); obtain ⟨Ao37, co37, eo37⟩ := Kd.R_slice HO249.out; subst eo37) | ((with_reducible refine gate_callee (f := 17) rfl ?_); refine goesL_ (some 43) rfl rfl Try.func17 (by kernel_rfl) rfl #[.slice Ao30 t236.length co30, .slice Ao37 t247.length co37] rfl (by (try simp only [List.map_toArray, List.map_cons, List.map_nil]); first | done | rfl | (simp only [List.length_drop, List.length_take]; rfl)) ?_; (with_reducible refine (laws_eqByteS.calls k _ _ t236 _ _ t247 true _ ?side1 ?side2 ?side3 ?side4 A17.out).mono ?_); (case side1 => repeat (first | exact (Kd.R_reads' HO238.out).2.2 | (with_reducible refine Kd.C_alloc ?_ _) | (with_reducible refine Kd.C_drewN ?_ _) | (with_reducible refine Kd.C_drew ?_))); (case side2 => exact (Kd.R_reads' HO238.out).2.1); (case side3 => repeat (first | exact (Kd.R_reads' HO249.out).2.2 | (with_reducible refine Kd.C_alloc ?_ _) | (with_reducible refine Kd.C_drewN ?_ _) | (with_reducible refine Kd.C_drew ?_))); (case side4 => exact (Kd.R_reads' HO249.out).2.1); rintro e w' ⟨rfl, ⟨nd, rfl⟩⟩; refine ⟨_, rfl, ?_⟩) | ((with_reducible refine gate_callee (f := 18) rfl ?_); refine goesL_ (some 47) rfl rfl Try.func18 (by kernel_rfl) rfl #[.slice Ao29 t233.length co29, .int .i64 1] rfl (by (try simp only [List.map_toArray, List.map_cons, List.map_nil]); first | done | rfl | (simp only [List.length_drop, List.length_take]; rfl)) ?_; (with_reducible refine (laws_markByteS.calls k (fun k_ => some k_ = (.slice Ao29 t233.length co29 : Value).ownBlock) (.slice Ao29 t233.length co29) t233 1 t251 t252 w _ ?side1 ?side2 A19.out).mono ?_); (case side1 => repeat (first | (with_reducible first | exact HB.out | apply below_alloc | apply pw_below_drewN | apply below_drew1) | exact HB.out)); (case side2 => exact Kd.R_tight rfl HO235.out); rintro e w38 ⟨rfl, hy0, hb, hkp⟩; refine ⟨_, rfl, ?_⟩; have n0_ := Aside0.mk (Kd.R_mono (ok' := fun k_ => some k_ ≠ (.slice Ao25 t227.length co25 : Value).ownBlock ∧ some k_ ≠ (.slice Ao33 t230.length co33 : Value).ownBlock ∧ some k_ ≠ (.slice Ao29 t233.length co29 : Value).ownBlock ∧ some k_ ≠ (.slice Ao30 t236.length co30 : Value).ownBlock ∧ some k_ ≠ (.slice Ao32 t239.length co32 : Value).ownBlock ∧ some k_ ≠ (.slice Ao35 t243.length co35 : Value).ownBlock ∧ some k_ ≠ (.slice Ao37 t247.length co37 : Value).ownBlock) (Kd.R_keptB (HO226.out) hkp (fun k_ hk_ hs_ => (hk_.1.1.1.1.2) hs_)) (fun k_ hk_ => ⟨hk_.1.1.1.1.1.1.1.2, hk_.1.1.1.1.1.1.2, hk_.1.1.1.1.1.2, hk_.1.1.1.1.2, hk_.1.1.1.2, hk_.1.1.2, hk_.1.2⟩)); have n1_ := Aside0.mk (Kd.R_mono (ok' := fun k_ => some k_ ≠ (.slice Ao24 t224.length co24 : Value).ownBlock ∧ some k_ ≠ (.slice Ao33 t230.length co33 : Value).ownBlock ∧ some k_ ≠ (.slice Ao29 t233.length co29 : Value).ownBlock ∧ some k_ ≠ (.slice Ao30 t236.length co30 : Value).ownBlock ∧ some k_ ≠ (.slice Ao32 t239.length co32 : Value).ownBlock ∧ some k_ ≠ (.slice Ao35 t243.length co35 : Value).ownBlock ∧ some k_ ≠ (.slice Ao37 t247.length co37 : Value).ownBlock) (Kd.R_keptB (HO229.out) hkp (fun k_ hk_ hs_ => (hk_.1.1.1.1.2) hs_)) (fun k_ hk_ => ⟨hk_.1.1.1.1.1.1.1.2, hk_.1.1.1.1.1.1.2, hk_.1.1.1.1.1.2, hk_.1.1.1.1.2, hk_.1.1.1.2, hk_.1.1.2, hk_.1.2⟩)); have n2_ := Aside0.mk (Kd.R_mono (ok' := fun k_ => some k_ ≠ (.slice Ao24 t224.length co24 : Value).ownBlock ∧ some k_ ≠ (.slice Ao25 t227.length co25 : Value).ownBlock ∧ some k_ ≠ (.slice Ao29 t233.length co29 : Value).ownBlock ∧ some k_ ≠ (.slice Ao30 t236.length co30 : Value).ownBlock ∧ some k_ ≠ (.slice Ao32 t239.length co32 : Value).ownBlock ∧ some k_ ≠ (.slice Ao35 t243.length co35 : Value).ownBlock ∧ some k_ ≠ (.slice Ao37 t247.length co37 : Value).ownBlock) (Kd.R_keptB (HO232.out) hkp (fun k_ hk_ hs_ => (hk_.1.1.1.1.2) hs_)) (fun k_ hk_ => ⟨hk_.1.1.1.1.1.1.1.2, hk_.1.1.1.1.1.1.2, hk_.1.1.1.1.1.2, hk_.1.1.1.1.2, hk_.1.1.1.2, hk_.1.1.2, hk_.1.2⟩)); have n3_ := Aside0.mk (Kd.R_reok rfl hy0 (fun k_ e_ => HO235.out.1 k_ e_)); have n4_ := Aside0.mk (Kd.R_mono (ok' := fun k_ => some k_ ≠ (.slice Ao24 t224.length co24 : Value).ownBlock ∧ some k_ ≠ (.slice Ao25 t227.length co25 : Value).ownBlock ∧ some k_ ≠ (.slice Ao33 t230.length co33 : Value).ownBlock ∧ some k_ ≠ (.slice Ao29 t233.length co29 : Value).ownBlock ∧ some k_ ≠ (.slice Ao32 t239.length co32 : Value).ownBlock ∧ some k_ ≠ (.slice Ao35 t243.length co35 : Value).ownBlock ∧ some k_ ≠ (.slice Ao37 t247.length co37 : Value).ownBlock) (Kd.R_keptB (HO238.out) hkp (fun k_ hk_ hs_ => (hk_.1.1.1.2) hs_)) (fun k_ hk_ => ⟨hk_.1.1.1.1.1.1.1.2, hk_.1.1.1.1.1.1.2, hk_.1.1.1.1.1.2, hk_.1.1.1.1.2, hk_.1.1.1.2, hk_.1.1.2, hk_.1.2⟩)); have n5_ := Aside0.mk (Kd.R_mono (ok' := fun k_ => some k_ ≠ (.slice Ao24 t224.length co24 : Value).ownBlock ∧ some k_ ≠ (.slice Ao25 t227.length co25 : Value).ownBlock ∧ some k_ ≠ (.slice Ao33 t230.length co33 : Value).ownBlock ∧ some k_ ≠ (.slice Ao29 t233.length co29 : Value).ownBlock ∧ some k_ ≠ (.slice Ao30 t236.length co30 : Value).ownBlock ∧ some k_ ≠ (.slice Ao35 t243.length co35 : Value).ownBlock ∧ some k_ ≠ (.slice Ao37 t247.length co37 : Value).ownBlock) (Kd.R_keptB (HO241.out) hkp (fun k_ hk_ hs_ => (hk_.1.1.1.2) hs_)) (fun k_ hk_ => ⟨hk_.1.1.1.1.1.1.1.2, hk_.1.1.1.1.1.1.2, hk_.1.1.1.1.1.2, hk_.1.1.1.1.2, hk_.1.1.1.2, hk_.1.1.2, hk_.1.2⟩)); have n6_ := Aside0.mk (Kd.R_mono (ok' := fun k_ => some k_ ≠ (.slice Ao24 t224.length co24 : Value).ownBlock ∧ some k_ ≠ (.slice Ao25 t227.length co25 : Value).ownBlock ∧ some k_ ≠ (.slice Ao33 t230.length co33 : Value).ownBlock ∧ some k_ ≠ (.slice Ao29 t233.length co29 : Value).ownBlock ∧ some k_ ≠ (.slice Ao30 t236.length co30 : Value).ownBlock ∧ some k_ ≠ (.slice Ao32 t239.length co32 : Value).ownBlock ∧ some k_ ≠ (.slice Ao37 t247.length co37 : Value).ownBlock) (Kd.R_keptB (HO245.out) hkp (fun k_ hk_ hs_ => (hk_.1.1.1.2) hs_)) (fun k_ hk_ => ⟨hk_.1.1.1.1.1.1.1.2, hk_.1.1.1.1.1.1.2, hk_.1.1.1.1.1.2, hk_.1.1.1.1.2, hk_.1.1.1.2, hk_.1.1.2, hk_.1.2⟩)); have n7_ := Aside0.mk (Kd.R_mono (ok' := fun k_ => some k_ ≠ (.slice Ao24 t224.length co24 : Value).ownBlock ∧ some k_ ≠ (.slice Ao25 t227.length co25 : Value).ownBlock ∧ some k_ ≠ (.slice Ao33 t230.length co33 : Value).ownBlock ∧ some k_ ≠ (.slice Ao29 t233.length co29 : Value).ownBlock ∧ some k_ ≠ (.slice Ao30 t236.length co30 : Value).ownBlock ∧ some k_ ≠ (.slice Ao32 t239.length co32 : Value).ownBlock ∧ some k_ ≠ (.slice Ao35 t243.length co35 : Value).ownBlock) (Kd.R_keptB (HO249.out) hkp (fun k_ hk_ hs_ => (hk_.1.1.1.2) hs_)) (fun k_ hk_ => ⟨hk_.1.1.1.1.1.1.1.2, hk_.1.1.1.1.1.1.2, hk_.1.1.1.1.1.2, hk_.1.1.1.1.2, hk_.1.1.1.2, hk_.1.1.2, hk_.1.2⟩)); have n8_ := Aside0.mk (hb); clear HO226; clear HO229; clear HO232; clear HO235; clear HO238; clear HO241; clear HO245; clear HO249; clear HB; have HO226 := n0_; have HO229 := n1_; have HO232 := n2_; have HO235 := n3_; have HO238 := n4_; have HO241 := n5_; have HO245 := n6_; have HO249 := n7_; have HB := n8_; clear n0_ n1_ n2_ n3_ n4_ n5_ n6_ n7_ n8_; (try clear hb); (try clear hkp); (try clear hy0)) | ((with_reducible refine gate_callee (f := 18) rfl ?_); refine goesL_ (some 50) rfl rfl Try.func18 (by kernel_rfl) rfl #[.slice Ao30 t236.length co30, .int .i64 t251] rfl (by (try simp only [List.map_toArray, List.map_cons, List.map_nil]); first | done | rfl | (simp only [List.length_drop, List.length_take]; rfl)) ?_; (with_reducible refine (laws_markByteS.calls k (fun k_ => some k_ = (.slice Ao30 t236.length co30 : Value).ownBlock) (.slice Ao30 t236.length co30) t236 t251 t253 t254 w _ ?side1 ?side2 A20.out).mono ?_); (case side1 => repeat (first | (with_reducible first | exact HB.out | apply below_alloc | apply pw_below_drewN | apply below_drew1) | exact HB.out)); (case side2 => exact Kd.R_tight rfl HO238.out); rintro e w39 ⟨rfl, hy0, hb, hkp⟩; refine ⟨_, rfl, ?_⟩; have n0_ := Aside0.mk (Kd.R_mono (ok' := fun k_ => some k_ ≠ (.slice Ao25 t227.length co25 : Value).ownBlock ∧ some k_ ≠ (.slice Ao33 t230.length co33 : Value).ownBlock ∧ some k_ ≠ (.slice Ao29 t233.length co29 : Value).ownBlock ∧ some k_ ≠ (.slice Ao30 t236.length co30 : Value).ownBlock ∧ some k_ ≠ (.slice Ao32 t239.length co32 : Value).ownBlock ∧ some k_ ≠ (.slice Ao35 t243.length co35 : Value).ownBlock ∧ some k_ ≠ (.slice Ao37 t247.length co37 : Value).ownBlock) (Kd.R_keptB (HO226.out) hkp (fun k_ hk_ hs_ => (hk_.2.2.2.1) hs_)) (fun k_ hk_ => ⟨hk_.1.1, hk_.1.2.1, hk_.1.2.2.1, hk_.1.2.2.2.1, hk_.1.2.2.2.2.1, hk_.1.2.2.2.2.2.1, hk_.1.2.2.2.2.2.2⟩)); have n1_ := Aside0.mk (Kd.R_mono (ok' := fun k_ => some k_ ≠ (.slice Ao24 t224.length co24 : Value).ownBlock ∧ some k_ ≠ (.slice Ao33 t230.length co33 : Value).ownBlock ∧ some k_ ≠ (.slice Ao29 t233.length co29 : Value).ownBlock ∧ some k_ ≠ (.slice Ao30 t236.length co30 : Value).ownBlock ∧ some k_ ≠ (.slice Ao32 t239.length co32 : Value).ownBlock ∧ some k_ ≠ (.slice Ao35 t243.length co35 : Value).ownBlock ∧ some k_ ≠ (.slice Ao37 t247.length co37 : Value).ownBlock) (Kd.R_keptB (HO229.out) hkp (fun k_ hk_ hs_ => (hk_.2.2.2.1) hs_)) (fun k_ hk_ => ⟨hk_.1.1, hk_.1.2.1, hk_.1.2.2.1, hk_.1.2.2.2.1, hk_.1.2.2.2.2.1, hk_.1.2.2.2.2.2.1, hk_.1.2.2.2.2.2.2⟩)); have n2_ := Aside0.mk (Kd.R_mono (ok' := fun k_ => some k_ ≠ (.slice Ao24 t224.length co24 : Value).ownBlock ∧ some k_ ≠ (.slice Ao25 t227.length co25 : Value).ownBlock ∧ some k_ ≠ (.slice Ao29 t233.length co29 : Value).ownBlock ∧ some k_ ≠ (.slice Ao30 t236.length co30 : Value).ownBlock ∧ some k_ ≠ (.slice Ao32 t239.length co32 : Value).ownBlock ∧ some k_ ≠ (.slice Ao35 t243.length co35 : Value).ownBlock ∧ some k_ ≠ (.slice Ao37 t247.length co37 : Value).ownBlock) (Kd.R_keptB (HO232.out) hkp (fun k_ hk_ hs_ => (hk_.2.2.2.1) hs_)) (fun k_ hk_ => ⟨hk_.1.1, hk_.1.2.1, hk_.1.2.2.1, hk_.1.2.2.2.1, hk_.1.2.2.2.2.1, hk_.1.2.2.2.2.2.1, hk_.1.2.2.2.2.2.2⟩)); have n3_ := Aside0.mk (Kd.R_mono (ok' := fun k_ => some k_ ≠ (.slice Ao24 t224.length co24 : Value).ownBlock ∧ some k_ ≠ (.slice Ao25 t227.length co25 : Value).ownBlock ∧ some k_ ≠ (.slice Ao33 t230.length co33 : Value).ownBlock ∧ some k_ ≠ (.slice Ao30 t236.length co30 : Value).ownBlock ∧ some k_ ≠ (.slice Ao32 t239.length co32 : Value).ownBlock ∧ some k_ ≠ (.slice Ao35 t243.length co35 : Value).ownBlock ∧ some k_ ≠ (.slice Ao37 t247.length co37 : Value).ownBlock) (Kd.R_keptB (HO235.out) hkp (fun k_ hk_ hs_ => (hk_.1.1.1.2) hs_)) (fun k_ hk_ => ⟨hk_.1.1.1.1.1.1.1.2, hk_.1.1.1.1.1.1.2, hk_.1.1.1.1.1.2, hk_.1.1.1.1.2, hk_.1.1.1.2, hk_.1.1.2, hk_.1.2⟩)); have n4_ := Aside0.mk (Kd.R_reok rfl hy0 (fun k_ e_ => HO238.out.1 k_ e_)); have n5_ := Aside0.mk (Kd.R_mono (ok' := fun k_ => some k_ ≠ (.slice Ao24 t224.length co24 : Value).ownBlock ∧ some k_ ≠ (.slice Ao25 t227.length co25 : Value).ownBlock ∧ some k_ ≠ (.slice Ao33 t230.length co33 : Value).ownBlock ∧ some k_ ≠ (.slice Ao29 t233.length co29 : Value).ownBlock ∧ some k_ ≠ (.slice Ao30 t236.length co30 : Value).ownBlock ∧ some k_ ≠ (.slice Ao35 t243.length co35 : Value).ownBlock ∧ some k_ ≠ (.slice Ao37 t247.length co37 : Value).ownBlock) (Kd.R_keptB (HO241.out) hkp (fun k_ hk_ hs_ => (hk_.2.2.2.2.1) hs_)) (fun k_ hk_ => ⟨hk_.1.1, hk_.1.2.1, hk_.1.2.2.1, hk_.1.2.2.2.1, hk_.1.2.2.2.2.1, hk_.1.2.2.2.2.2.1, hk_.1.2.2.2.2.2.2⟩)); have n6_ := Aside0.mk (Kd.R_mono (ok' := fun k_ => some k_ ≠ (.slice Ao24 t224.length co24 : Value).ownBlock ∧ some k_ ≠ (.slice Ao25 t227.length co25 : Value).ownBlock ∧ some k_ ≠ (.slice Ao33 t230.length co33 : Value).ownBlock ∧ some k_ ≠ (.slice Ao29 t233.length co29 : Value).ownBlock ∧ some k_ ≠ (.slice Ao30 t236.length co30 : Value).ownBlock ∧ some k_ ≠ (.slice Ao32 t239.length co32 : Value).ownBlock ∧ some k_ ≠ (.slice Ao37 t247.length co37 : Value).ownBlock) (Kd.R_keptB (HO245.out) hkp (fun k_ hk_ hs_ => (hk_.2.2.2.2.1) hs_)) (fun k_ hk_ => ⟨hk_.1.1, hk_.1.2.1, hk_.1.2.2.1, hk_.1.2.2.2.1, hk_.1.2.2.2.2.1, hk_.1.2.2.2.2.2.1, hk_.1.2.2.2.2.2.2⟩)); have n7_ := Aside0.mk (Kd.R_mono (ok' := fun k_ => some k_ ≠ (.slice Ao24 t224.length co24 : Value).ownBlock ∧ some k_ ≠ (.slice Ao25 t227.length co25 : Value).ownBlock ∧ some k_ ≠ (.slice Ao33 t230.length co33 : Value).ownBlock ∧ some k_ ≠ (.slice Ao29 t233.length co29 : Value).ownBlock ∧ some k_ ≠ (.slice Ao30 t236.length co30 : Value).ownBlock ∧ some k_ ≠ (.slice Ao32 t239.length co32 : Value).ownBlock ∧ some k_ ≠ (.slice Ao35 t243.length co35 : Value).ownBlock) (Kd.R_keptB (HO249.out) hkp (fun k_ hk_ hs_ => (hk_.2.2.2.2.1) hs_)) (fun k_ hk_ => ⟨hk_.1.1, hk_.1.2.1, hk_.1.2.2.1, hk_.1.2.2.2.1, hk_.1.2.2.2.2.1, hk_.1.2.2.2.2.2.1, hk_.1.2.2.2.2.2.2⟩)); have n8_ := Aside0.mk (hb); clear HO226; clear HO229; clear HO232; clear HO235; clear HO238; clear HO241; clear HO245; clear HO249; clear HB; have HO226 := n0_; have HO229 := n1_; have HO232 := n2_; have HO235 := n3_; have HO238 := n4_; have HO241 := n5_; have HO245 := n6_; have HO249 := n7_; have HB := n8_; clear n0_ n1_ n2_ n3_ n4_ n5_ n6_ n7_ n8_; (try clear hb); (try clear hkp); (try clear hy0)))
            (try simp only [Act.put, List.setIfInBounds_toArray, List.set_cons_zero, List.set_cons_succ])
            go_cut [58] (fun v58 wc => ∃ (kq : Nat) (x58_20 : Bool), v58 = .bool x58_20 ∧ Aside0 (laws_FnExactResetToken.j0 kq l0 l1 t230 t239 x58_20 = some true) ∧ Aside0 (kq ≤ k) ∧ Aside0 (Kd.R (Kd.int .u8) 5 wc w.heap.size (fun k_ => some k_ ≠ ((.slice Ao32 t239.length co32) : Value).ownBlock) (.slice Ao33 t230.length co33) t230) ∧ Aside0 (Kd.R (Kd.int .u8) 5 wc w.heap.size (fun k_ => some k_ ≠ ((.slice Ao33 t230.length co33) : Value).ownBlock) (.slice Ao32 t239.length co32) t239) ∧ Aside0 (Below w.heap.size w wc))
            case first =>
              have H := HC21.out
              clear HC21
              by_cases c40 : t253 < 0
              · rw [if_pos c40] at H
                have c40b0 : decide (t253 < 0) = true := decide_eq_true c40
                clear c40
                (first | rw [c40b0] | (simp only [i64_w, i32_w]; rw [c40b0]) | skip)
                have H' := Aside0.mk H
                clear H
                go_wp2
                go_meet
                case rel => exact ⟨_, (true), (by first | rfl | (simp; done) | (simp [*]; done)), H', ⟨by first | omega | exact Nat.le_refl _⟩, ⟨by (with_reducible repeat (first | apply Kd.R_alloc | apply Kd.R_drewN | apply Kd.R_drew)); exact Kd.R_mono HO232.out (fun _ hk => hk.2.2.2.2.1)⟩, ⟨by (with_reducible repeat (first | apply Kd.R_alloc | apply Kd.R_drewN | apply Kd.R_drew)); exact Kd.R_mono HO241.out (fun _ hk => hk.2.2.1)⟩, ⟨by repeat (first | (with_reducible first | exact HB.out | apply below_alloc | apply pw_below_drewN | apply below_drew1) | exact HB.out)⟩⟩
              · rw [if_neg c40] at H
                have c40b0 : decide (t253 < 0) = false := decide_eq_false c40
                clear c40
                (first | rw [c40b0] | (simp only [i64_w, i32_w]; rw [c40b0]) | skip)
                replace H := Option.bind_eq_some_iff.mp H
                obtain ⟨t255, A410, H⟩ := H
                replace H : (laws_FnExactResetToken.j0 k l0 l1 t230 t239 (!t255)) = some true := H
                have A41 := Aside0.mk A410
                clear A410
                have H' := Aside0.mk H
                clear H
                go_wp2_with (first | (go_at_call 17; (with_reducible refine (laws_eqByteS.calls k _ _ t239 _ _ t230 t255 _ ?side1 ?side2 ?side3 ?side4 A41.out).mono ?_); (case side1 => repeat (first | exact (Kd.R_reads' HO241.out).2.2 | (with_reducible refine Kd.C_alloc ?_ _) | (with_reducible refine Kd.C_drewN ?_ _) | (with_reducible refine Kd.C_drew ?_))); (case side2 => exact (Kd.R_reads' HO241.out).2.1); (case side3 => repeat (first | exact (Kd.R_reads' HO232.out).2.2 | (with_reducible refine Kd.C_alloc ?_ _) | (with_reducible refine Kd.C_drewN ?_ _) | (with_reducible refine Kd.C_drew ?_))); (case side4 => exact (Kd.R_reads' HO232.out).2.1); rintro e w' ⟨rfl, ⟨nd, rfl⟩⟩))
                go_meet
                case rel => exact ⟨_, (!t255), (by first | rfl | (simp; done) | (simp [*]; done)), H', ⟨by first | omega | exact Nat.le_refl _⟩, ⟨by (with_reducible repeat (first | apply Kd.R_alloc | apply Kd.R_drewN | apply Kd.R_drew)); exact Kd.R_mono HO232.out (fun _ hk => hk.2.2.2.2.1)⟩, ⟨by (with_reducible repeat (first | apply Kd.R_alloc | apply Kd.R_drewN | apply Kd.R_drew)); exact Kd.R_mono HO241.out (fun _ hk => hk.2.2.1)⟩, ⟨by repeat (first | (with_reducible first | exact HB.out | apply below_alloc | apply pw_below_drewN | apply below_drew1) | exact HB.out)⟩⟩
            case rest =>
              clear HC21
              try clear c1
              try clear c2
              try clear p2
              try clear c3
              try clear c3b0
              try clear c3b1
              try clear c4
              try clear c4b0
              try clear c4b1
              try clear c12
              try clear c15
              try clear c17
              try clear c18
              try clear c20
              try clear c21
              try clear c40
              try clear c40b0
              obtain ⟨kq, x58_20, rfl, HA, HJ20, HO_5, HO_8, HB⟩ := hcut
              cases kq with
              | zero => exact absurd HA.out (by simp [laws_FnExactResetToken.j0])
              | succ kj20 =>
                have H := HA.out
                clear HA
                simp only [laws_FnExactResetToken.j0] at H
                by_cases c42 : x58_20 = true
                · subst c42
                  have H1 : (some false) = some true := by rw [if_pos rfl] at H; exact H
                  exact absurd H1 (by simp)
                · replace c42 := Bool.eq_false_iff.mpr c42
                  subst c42
                  have H1 : ((laws_markByteS.f kj20 t239 1).bind fun bt256 => ((laws_heldByteS.f kj20 bt256.2 1).bind fun t258 => (if t258 < 0 then (some false) else (if t258 = bt256.1 then ((laws_toByteS.f kj20 l0).bind fun t259 => ((laws_toByteS.f kj20 l1).bind fun t262 => ((impl_ResetToken.f kj20 t259 t262).bind fun t265 => ((laws_eqByteS.f kj20 t265 t230).bind fun t268 => (if t268 = true then ((laws_heldByteS.f kj20 bt256.2 1).bind fun t269 => (if t269 < 0 then (some false) else (if t269 = bt256.1 then (some true) else (some false)))) else (some false)))))) else (some false))))) = some true := by rw [if_neg (show ¬ (false = true) by decide)] at H; exact H
                  clear H
                  have H := H1
                  clear H1
                  replace H := Option.bind_eq_some_iff.mp H
                  obtain ⟨⟨t256, t257⟩, A430, H⟩ := H
                  replace H : ((laws_heldByteS.f kj20 t257 1).bind fun t258 => (if t258 < 0 then (some false) else (if t258 = t256 then ((laws_toByteS.f kj20 l0).bind fun t259 => ((laws_toByteS.f kj20 l1).bind fun t262 => ((impl_ResetToken.f kj20 t259 t262).bind fun t265 => ((laws_eqByteS.f kj20 t265 t230).bind fun t268 => (if t268 = true then ((laws_heldByteS.f kj20 t257 1).bind fun t269 => (if t269 < 0 then (some false) else (if t269 = t256 then (some true) else (some false)))) else (some false)))))) else (some false)))) = some true := H
                  have A43 := Aside0.mk A430
                  clear A430
                  replace H := Option.bind_eq_some_iff.mp H
                  obtain ⟨t258, A440, H⟩ := H
                  replace H : (if t258 < 0 then (some false) else (if t258 = t256 then ((laws_toByteS.f kj20 l0).bind fun t259 => ((laws_toByteS.f kj20 l1).bind fun t262 => ((impl_ResetToken.f kj20 t259 t262).bind fun t265 => ((laws_eqByteS.f kj20 t265 t230).bind fun t268 => (if t268 = true then ((laws_heldByteS.f kj20 t257 1).bind fun t269 => (if t269 < 0 then (some false) else (if t269 = t256 then (some true) else (some false)))) else (some false)))))) else (some false))) = some true := H
                  have A44 := Aside0.mk A440
                  clear A440
                  by_cases c45 : t258 < 0
                  · rw [if_pos c45] at H
                    exact absurd H (by simp)
                  · rw [if_neg c45] at H
                    have c45b0 : decide (t258 < 0) = false := decide_eq_false c45
                    clear c45
                    by_cases c47 : t258 = t256
                    · rw [if_pos c47] at H
                      have c47b0 : (t258 == t256) = true := beq_iff_eq.mpr c47
                      have c47b1 : (t258 != t256) = false := bne_eq_false_iff_eq.mpr c47
                      clear c47
                      replace H := Option.bind_eq_some_iff.mp H
                      obtain ⟨t259, A480, H⟩ := H
                      replace H : ((laws_toByteS.f kj20 l1).bind fun t262 => ((impl_ResetToken.f kj20 t259 t262).bind fun t265 => ((laws_eqByteS.f kj20 t265 t230).bind fun t268 => (if t268 = true then ((laws_heldByteS.f kj20 t257 1).bind fun t269 => (if t269 < 0 then (some false) else (if t269 = t256 then (some true) else (some false)))) else (some false))))) = some true := H
                      have A48 := Aside0.mk A480
                      clear A480
                      replace H := Option.bind_eq_some_iff.mp H
                      obtain ⟨t262, A490, H⟩ := H
                      replace H : ((impl_ResetToken.f kj20 t259 t262).bind fun t265 => ((laws_eqByteS.f kj20 t265 t230).bind fun t268 => (if t268 = true then ((laws_heldByteS.f kj20 t257 1).bind fun t269 => (if t269 < 0 then (some false) else (if t269 = t256 then (some true) else (some false)))) else (some false)))) = some true := H
                      have A49 := Aside0.mk A490
                      clear A490
                      replace H := Option.bind_eq_some_iff.mp H
                      obtain ⟨t265, A500, H⟩ := H
                      replace H : ((laws_eqByteS.f kj20 t265 t230).bind fun t268 => (if t268 = true then ((laws_heldByteS.f kj20 t257 1).bind fun t269 => (if t269 < 0 then (some false) else (if t269 = t256 then (some true) else (some false)))) else (some false))) = some true := H
                      have A50 := Aside0.mk A500
                      clear A500
                      replace H := Option.bind_eq_some_iff.mp H
                      obtain ⟨t268, A510, H⟩ := H
                      replace H : (if t268 = true then ((laws_heldByteS.f kj20 t257 1).bind fun t269 => (if t269 < 0 then (some false) else (if t269 = t256 then (some true) else (some false)))) else (some false)) = some true := H
                      have A51 := Aside0.mk A510
                      clear A510
                      by_cases c52 : t268 = true
                      · subst c52
                        have H1 : ((laws_heldByteS.f kj20 t257 1).bind fun t269 => (if t269 < 0 then (some false) else (if t269 = t256 then (some true) else (some false)))) = some true := by rw [if_pos rfl] at H; exact H
                        clear H
                        have H := H1
                        clear H1
                        replace H := Option.bind_eq_some_iff.mp H
                        obtain ⟨t269, A530, H⟩ := H
                        replace H : (if t269 < 0 then (some false) else (if t269 = t256 then (some true) else (some false))) = some true := H
                        have A53 := Aside0.mk A530
                        clear A530
                        by_cases c54 : t269 < 0
                        · rw [if_pos c54] at H
                          exact absurd H (by simp)
                        · rw [if_neg c54] at H
                          have c54b0 : decide (t269 < 0) = false := decide_eq_false c54
                          clear c54
                          by_cases c62 : t269 = t256
                          · rw [if_pos c62] at H
                            have c62b0 : (t269 == t256) = true := beq_iff_eq.mpr c62
                            have c62b1 : (t269 != t256) = false := bne_eq_false_iff_eq.mpr c62
                            clear c62
                            clear H
                            go_wp2_with (first | ((with_reducible refine gate_callee (f := 18) rfl ?_); refine goesL_ (some 61) rfl rfl Try.func18 (by kernel_rfl) rfl #[.slice Ao32 t239.length co32, .int .i64 1] rfl (by (try simp only [List.map_toArray, List.map_cons, List.map_nil]); first | done | rfl | (simp only [List.length_drop, List.length_take]; rfl)) ?_; (with_reducible refine (laws_markByteS.calls kj20 (fun k_ => some k_ = (.slice Ao32 t239.length co32 : Value).ownBlock) (.slice Ao32 t239.length co32) t239 1 t256 t257 w _ ?side1 ?side2 A43.out).mono ?_); (case side1 => repeat (first | (with_reducible first | exact HB.out | apply below_alloc | apply pw_below_drewN | apply below_drew1) | exact HB.out)); (case side2 => exact Kd.R_tight rfl HO_8.out); rintro e w63 ⟨rfl, hy0, hb, hkp⟩; refine ⟨_, rfl, ?_⟩; have n0_ := Aside0.mk (Kd.R_mono (ok' := fun k_ => some k_ ≠ (.slice Ao32 t239.length co32 : Value).ownBlock) (Kd.R_keptB (HO_5.out) hkp (fun k_ hk_ hs_ => (hk_) hs_)) (fun k_ hk_ => hk_.1)); have n1_ := Aside0.mk (Kd.R_reok rfl hy0 (fun k_ e_ => HO_8.out.1 k_ e_)); have n2_ := Aside0.mk (hb); clear HO_5; clear HO_8; clear HB; have HO_5 := n0_; have HO_8 := n1_; have HB := n2_; clear n0_ n1_ n2_; (try clear hb); (try clear hkp); (try clear hy0)) | ((with_reducible refine gate_callee (f := 19) rfl ?_); refine goesL_ (some 64) rfl rfl Try.func19 (by kernel_rfl) rfl #[.slice Ao32 t257.length co32, .int .i64 1] rfl (by (try simp only [List.map_toArray, List.map_cons, List.map_nil]); first | done | (rw [show t257.length = t239.length from (Kd.R_reads' HO_8.out).1.symm] <;> rfl) | rfl | (simp only [List.length_drop, List.length_take]; rfl)) ?_; (with_reducible refine (laws_heldByteS.calls kj20 _ _ t257 1 t258 _ ?side1 ?side2 A44.out).mono ?_); (case side1 => repeat (first | exact (Kd.R_reads' HO_8.out).2.2 | (with_reducible refine Kd.C_alloc ?_ _) | (with_reducible refine Kd.C_drewN ?_ _) | (with_reducible refine Kd.C_drew ?_))); (case side2 => rw [show t257.length = t239.length from (Kd.R_reads' HO_8.out).1.symm]; exact (Kd.R_reads' HO_8.out).2.1); rintro e w' ⟨rfl, ⟨nd, rfl⟩⟩; refine ⟨_, rfl, ?_⟩) | ((with_reducible refine gate_callee (f := 15) rfl ?_); refine goesL_ (some 71) rfl rfl Try.func15 (by kernel_rfl) rfl #[.slice A0 l0.length c0] rfl (by (try simp only [List.map_toArray, List.map_cons, List.map_nil]); first | done | rfl | (simp only [List.length_drop, List.length_take]; rfl)) ?_; (with_reducible refine (laws_toByteS.calls kj20 _ _ l0 t259 _ ?side1 ?side2 A48.out).mono ?_); (case side1 => repeat (first | exact (Kd.C_below HR0.out (by repeat (first | (with_reducible first | exact HB.out | apply below_alloc | apply pw_below_drewN | apply below_drew1) | exact HB.out))) | (with_reducible refine Kd.C_alloc ?_ _) | (with_reducible refine Kd.C_drewN ?_ _) | (with_reducible refine Kd.C_drew ?_))); (case side2 => exact HC0.out); rintro e w64 ⟨v260, rfl, ho0, hb⟩; refine ⟨_, rfl, ?_⟩; have n0_ := Aside0.mk (Kd.R_elder' (by (with_reducible repeat (first | apply Kd.R_alloc | apply Kd.R_drewN | apply Kd.R_drew)); exact HO_5.out) (Kd.R_base ho0) hb); have n1_ := Aside0.mk (Kd.R_elder' (by (with_reducible repeat (first | apply Kd.R_alloc | apply Kd.R_drewN | apply Kd.R_drew)); exact HO_8.out) (Kd.R_base ho0) hb); have n2_ := Aside0.mk (Kd.R_lower (Kd.R_new' (Kd.R_new' ho0 (Kd.R_lt (by (with_reducible repeat (first | apply Kd.R_alloc | apply Kd.R_drewN | apply Kd.R_drew)); exact HO_5.out))) (Kd.R_lt (by (with_reducible repeat (first | apply Kd.R_alloc | apply Kd.R_drewN | apply Kd.R_drew)); exact HO_8.out))) (below_size (by repeat (first | (with_reducible first | exact HB.out | apply below_alloc | apply pw_below_drewN | apply below_drew1) | exact HB.out)))); have n3_ := Aside0.mk (below_step (by repeat (first | (with_reducible first | exact HB.out | apply below_alloc | apply pw_below_drewN | apply below_drew1) | exact HB.out)) hb); clear HO_5; clear HO_8; clear HB; have HO_5 := n0_; have HO_8 := n1_; have HO261 := n2_; have HB := n3_; clear n0_ n1_ n2_ n3_; (try clear hb); (try clear hb2); (try clear hk); (try clear hi); (try clear ho0)) | ((with_reducible refine gate_callee (f := 15) rfl ?_); refine goesL_ (some 73) rfl rfl Try.func15 (by kernel_rfl) rfl #[.slice A1 l1.length c1] rfl (by (try simp only [List.map_toArray, List.map_cons, List.map_nil]); first | done | rfl | (simp only [List.length_drop, List.length_take]; rfl)) ?_; (with_reducible refine (laws_toByteS.calls kj20 _ _ l1 t262 _ ?side1 ?side2 A49.out).mono ?_); (case side1 => repeat (first | exact (Kd.C_below HR1.out HB.out) | (with_reducible refine Kd.C_alloc ?_ _) | (with_reducible refine Kd.C_drewN ?_ _) | (with_reducible refine Kd.C_drew ?_))); (case side2 => exact HC1.out); rintro e w65 ⟨v263, rfl, ho0, hb⟩; refine ⟨_, rfl, ?_⟩; have n0_ := Aside0.mk (Kd.R_elder' (by (with_reducible repeat (first | apply Kd.R_alloc | apply Kd.R_drewN | apply Kd.R_drew)); exact HO_5.out) (Kd.R_base ho0) hb); have n1_ := Aside0.mk (Kd.R_elder' (by (with_reducible repeat (first | apply Kd.R_alloc | apply Kd.R_drewN | apply Kd.R_drew)); exact HO_8.out) (Kd.R_base ho0) hb); have n2_ := Aside0.mk (Kd.R_elder' (by (with_reducible repeat (first | apply Kd.R_alloc | apply Kd.R_drewN | apply Kd.R_drew)); exact HO261.out) (Kd.R_base ho0) hb); have n3_ := Aside0.mk (Kd.R_lower (Kd.R_new' (Kd.R_new' (Kd.R_new' ho0 (Kd.R_lt (by (with_reducible repeat (first | apply Kd.R_alloc | apply Kd.R_drewN | apply Kd.R_drew)); exact HO_5.out))) (Kd.R_lt (by (with_reducible repeat (first | apply Kd.R_alloc | apply Kd.R_drewN | apply Kd.R_drew)); exact HO_8.out))) (Kd.R_lt (by (with_reducible repeat (first | apply Kd.R_alloc | apply Kd.R_drewN | apply Kd.R_drew)); exact HO261.out))) (below_size (by repeat (first | (with_reducible first | exact HB.out | apply below_alloc | apply pw_below_drewN | apply below_drew1) | exact HB.out)))); have n4_ := Aside0.mk (below_step (by repeat (first | (with_reducible first | exact HB.out | apply below_alloc | apply pw_below_drewN | apply below_drew1) | exact HB.out)) hb); clear HO_5; clear HO_8; clear HO261; clear HB; have HO_5 := n0_; have HO_8 := n1_; have HO261 := n2_; have HO264 := n3_; have HB := n4_; clear n0_ n1_ n2_ n3_ n4_; (try clear hb); (try clear hb2); (try clear hk); (try clear hi); (try clear ho0); obtain ⟨Ao66, co66, eo66⟩ := Kd.R_slice HO261.out; subst eo66; obtain ⟨Ao67, co67, eo67⟩ := Kd.R_slice HO264.out; subst eo67) | ((with_reducible refine gate_callee (f := 21) rfl ?_); refine goesL_ (some 74) rfl rfl Try.func21 (by kernel_rfl) rfl #[.slice Ao66 t259.length co66, .slice Ao67 t262.length co67] rfl (by (try simp only [List.map_toArray, List.map_cons, List.map_nil]); first | done | rfl | (simp only [List.length_drop, List.length_take]; rfl)) ?_; (with_reducible refine (impl_ResetToken.calls kj20 _ _ t259 _ _ t262 t265 _ ?side1 ?side2 ?side3 ?side4 A50.out).mono ?_); (case side1 => repeat (first | exact (Kd.R_reads' HO261.out).2.2 | (with_reducible refine Kd.C_alloc ?_ _) | (with_reducible refine Kd.C_drewN ?_ _) | (with_reducible refine Kd.C_drew ?_))); (case side2 => exact (Kd.R_reads' HO261.out).2.1); (case side3 => repeat (first | exact (Kd.R_reads' HO264.out).2.2 | (with_reducible refine Kd.C_alloc ?_ _) | (with_reducible refine Kd.C_drewN ?_ _) | (with_reducible refine Kd.C_drew ?_))); (case side4 => exact (Kd.R_reads' HO264.out).2.1); rintro e w68 ⟨v266, rfl, ho0, hb⟩; refine ⟨_, rfl, ?_⟩; have n0_ := Aside0.mk (Kd.R_elder' (by (with_reducible repeat (first | apply Kd.R_alloc | apply Kd.R_drewN | apply Kd.R_drew)); exact HO_5.out) (Kd.R_base ho0) hb); have n1_ := Aside0.mk (Kd.R_elder' (by (with_reducible repeat (first | apply Kd.R_alloc | apply Kd.R_drewN | apply Kd.R_drew)); exact HO_8.out) (Kd.R_base ho0) hb); have n2_ := Aside0.mk (Kd.R_elder' (by (with_reducible repeat (first | apply Kd.R_alloc | apply Kd.R_drewN | apply Kd.R_drew)); exact HO261.out) (Kd.R_base ho0) hb); have n3_ := Aside0.mk (Kd.R_elder' (by (with_reducible repeat (first | apply Kd.R_alloc | apply Kd.R_drewN | apply Kd.R_drew)); exact HO264.out) (Kd.R_base ho0) hb); have n4_ := Aside0.mk (Kd.R_lower (Kd.R_new' (Kd.R_new' (Kd.R_new' (Kd.R_new' ho0 (Kd.R_lt (by (with_reducible repeat (first | apply Kd.R_alloc | apply Kd.R_drewN | apply Kd.R_drew)); exact HO_5.out))) (Kd.R_lt (by (with_reducible repeat (first | apply Kd.R_alloc | apply Kd.R_drewN | apply Kd.R_drew)); exact HO_8.out))) (Kd.R_lt (by (with_reducible repeat (first | apply Kd.R_alloc | apply Kd.R_drewN | apply Kd.R_drew)); exact HO261.out))) (Kd.R_lt (by (with_reducible repeat (first | apply Kd.R_alloc | apply Kd.R_drewN | apply Kd.R_drew)); exact HO264.out))) (below_size (by repeat (first | (with_reducible first | exact HB.out | apply below_alloc | apply pw_below_drewN | apply below_drew1) | exact HB.out)))); have n5_ := Aside0.mk (below_step (by repeat (first | (with_reducible first | exact HB.out | apply below_alloc | apply pw_below_drewN | apply below_drew1) | exact HB.out)) hb); clear HO_5; clear HO_8; clear HO261; clear HO264; clear HB; have HO_5 := n0_; have HO_8 := n1_; have HO261 := n2_; have HO264 := n3_; have HO267 := n4_; have HB := n5_; clear n0_ n1_ n2_ n3_ n4_ n5_; (try clear hb); (try clear hb2); (try clear hk); (try clear hi); (try clear ho0); obtain ⟨Ao69, co69, eo69⟩ := Kd.R_slice HO267.out; subst eo69) | ((with_reducible refine gate_callee (f := 17) rfl ?_); refine goesL_ (some 77) rfl rfl Try.func17 (by kernel_rfl) rfl #[.slice Ao69 t265.length co69, .slice Ao33 t230.length co33] rfl (by (try simp only [List.map_toArray, List.map_cons, List.map_nil]); first | done | rfl | (simp only [List.length_drop, List.length_take]; rfl)) ?_; (with_reducible refine (laws_eqByteS.calls kj20 _ _ t265 _ _ t230 true _ ?side1 ?side2 ?side3 ?side4 A51.out).mono ?_); (case side1 => repeat (first | exact (Kd.R_reads' HO267.out).2.2 | (with_reducible refine Kd.C_alloc ?_ _) | (with_reducible refine Kd.C_drewN ?_ _) | (with_reducible refine Kd.C_drew ?_))); (case side2 => exact (Kd.R_reads' HO267.out).2.1); (case side3 => repeat (first | exact (Kd.R_reads' HO_5.out).2.2 | (with_reducible refine Kd.C_alloc ?_ _) | (with_reducible refine Kd.C_drewN ?_ _) | (with_reducible refine Kd.C_drew ?_))); (case side4 => exact (Kd.R_reads' HO_5.out).2.1); rintro e w' ⟨rfl, ⟨nd, rfl⟩⟩; refine ⟨_, rfl, ?_⟩) | ((with_reducible refine gate_callee (f := 19) rfl ?_); refine goesL_ (some 81) rfl rfl Try.func19 (by kernel_rfl) rfl #[.slice Ao32 t257.length co32, .int .i64 1] rfl (by (try simp only [List.map_toArray, List.map_cons, List.map_nil]); first | done | (rw [show t257.length = t239.length from (Kd.R_reads' HO_8.out).1.symm] <;> rfl) | rfl | (simp only [List.length_drop, List.length_take]; rfl)) ?_; (with_reducible refine (laws_heldByteS.calls kj20 _ _ t257 1 t269 _ ?side1 ?side2 A53.out).mono ?_); (case side1 => repeat (first | exact (Kd.R_reads' HO_8.out).2.2 | (with_reducible refine Kd.C_alloc ?_ _) | (with_reducible refine Kd.C_drewN ?_ _) | (with_reducible refine Kd.C_drew ?_))); (case side2 => rw [show t257.length = t239.length from (Kd.R_reads' HO_8.out).1.symm]; exact (Kd.R_reads' HO_8.out).2.1); rintro e w' ⟨rfl, ⟨nd, rfl⟩⟩; refine ⟨_, rfl, ?_⟩))
                            go_ret
                            exact ⟨by first | rfl | (simp [errW_none, errW_some] <;> rfl) | (simp [*, errW_none, errW_some] <;> rfl), by repeat (first | (with_reducible first | exact HB.out | apply below_alloc | apply pw_below_drewN | apply below_drew1) | exact HB.out)⟩
                          · rw [if_neg c62] at H
                            exact absurd H (by simp)
                      · replace c52 := Bool.eq_false_iff.mpr c52
                        subst c52
                        have H1 : (some false) = some true := by rw [if_neg (show ¬ (false = true) by decide)] at H; exact H
                        exact absurd H1 (by simp)
                    · rw [if_neg c47] at H
                      exact absurd H (by simp)
          · replace c18 := Bool.eq_false_iff.mpr c18
            subst c18
            have H1 : (some false) = some true := by rw [if_neg (show ¬ (false = true) by decide)] at H; exact H
            exact absurd H1 (by simp)
        · replace c15 := Bool.eq_false_iff.mpr c15
          subst c15
          have H1 : (some false) = some true := by rw [if_neg (show ¬ (false = true) by decide)] at H; exact H
          exact absurd H1 (by simp)
      · replace c12 := Bool.eq_false_iff.mpr c12
        subst c12
        have H1 : (some false) = some true := by rw [if_neg (show ¬ (false = true) by decide)] at H; exact H
        exact absurd H1 (by simp)

end Go.Proofs.Ytcdkbdkanjifeaa.SFnExactResetToken
