/- The walk of functions that the law FnExactFrameBytes uses, written by program. -/
import Derived.Test.YtdojcdhlcnlohaaSFnExactFrameBytesx0
import Derived.Test.YtdojcdhlcnlohaaSFnExactFrameBytesx9
import Derived.Lib.SmallJoins
import Derived.Test.YtdojcdhlcnlohaaSteps2
namespace Go.Proofs.Ytdojcdhlcnlohaa.SFnExactFrameBytes
open Go.Proofs.Ytdojcdhlcnlohaa.Steps2 Go.RowKit Go.Proofs.YtdojcdhlcnlohaaW.PrintWords Go.Proofs.YtdojcdhlcnlohaaW.PrintLast Go.Proofs.YtdojcdhlcnlohaaW.PrintMore
open Go.Proofs.YtdojcdhlcnlohaaW.PrintWords renaming below_alloc → qh, pw_below_drewN → qi, below_drew1 → qj
open Go.Proofs.YtdojcdhlcnlohaaW.PrintWords.Kd renaming R_mono → qg
open Go.Proofs.YtdojcdhlcnlohaaW.PrintWords.Aside0 renaming mk → qm
attribute [local go_sem] max2_int min2_int max_two min_two max_three min_three max_four min_four 
set_option linter.unusedVariables false
set_option linter.unusedSimpArgs false
/-! ### impl_VarLen: function 64 -/
def impl_VarLen.f (a0 : Int) : Option (Int) := (impl_inVar.f a0).bind fun t349 => (if t349 = true then (if a0 < 64 then (some 1) else (if a0 < 16384 then (some 2) else (if a0 < 1073741824 then (some 4) else (some 8)))) else (some 0))
set_option maxHeartbeats 8000000 in
set_option maxRecDepth 100000 in
theorem impl_VarLen.calls (a0 : Int) (r : Int) (w : World) (h : impl_VarLen.f a0 = some r) :
  Calls Try.prog 64 #[.int .i64 a0] w fun e w' => e = .returned (.int .i64 r) ∧ Drawn0 w w' := by
 have H : ((impl_inVar.f a0).bind fun t349 => (if t349 = true then (if a0 < 64 then (some 1) else (if a0 < 16384 then (some 2) else (if a0 < 1073741824 then (some 4) else (some 8)))) else (some 0))) = some r := h
 clear h
 replace H := Option.bind_eq_some_iff.mp H
 obtain ⟨t349, A20, H⟩ := H
 try dsimp only at H
 have A2 := qm A20
 clear A20
 by_cases c3 : t349 = true
 ·subst c3
  rw [if_pos rfl] at H
  by_cases c4 : a0 < 64
  ·rw [if_pos c4] at H
   have c4b0 : decide (a0 < 64) = true := decide_eq_true c4
   clear c4
   obtain rfl := Option.some.inj H
   go_enter Try.func64, Try.ntmps64
   go_wp2_with (first | ((with_reducible refine gate_callee (f := 58) rfl ?_); refine goesL_ (some 5) rfl rfl Try.func58 (by kernel_rfl) rfl #[.int .i64 a0] rfl (by (try simp only [m1, m2, m3]); first | done | rfl) ?_; (with_reducible refine (impl_inVar.calls a0 true _ A2.out).mono ?_); rintro e w' ⟨rfl, ⟨nd, rfl⟩⟩; refine ⟨_, rfl, ?_⟩))
   go_ret
   exact ⟨by first | rfl | (simp; done) | (simp [*]; done), by repeat (first | exact Drawn0.refl _ | apply Drawn0.step)⟩
  rw [if_neg c4] at H
  have c4b0 : decide (a0 < 64) = false := decide_eq_false c4
  clear c4
  by_cases c5 : a0 < 16384
  ·rw [if_pos c5] at H
   have c5b0 : decide (a0 < 16384) = true := decide_eq_true c5
   clear c5
   obtain rfl := Option.some.inj H
   go_enter Try.func64, Try.ntmps64
   go_wp2_with (first | ((with_reducible refine gate_callee (f := 58) rfl ?_); refine goesL_ (some 5) rfl rfl Try.func58 (by kernel_rfl) rfl #[.int .i64 a0] rfl (by (try simp only [m1, m2, m3]); first | done | rfl) ?_; (with_reducible refine (impl_inVar.calls a0 true _ A2.out).mono ?_); rintro e w' ⟨rfl, ⟨nd, rfl⟩⟩; refine ⟨_, rfl, ?_⟩))
   go_ret
   exact ⟨by first | rfl | (simp; done) | (simp [*]; done), by repeat (first | exact Drawn0.refl _ | apply Drawn0.step)⟩
  rw [if_neg c5] at H
  have c5b0 : decide (a0 < 16384) = false := decide_eq_false c5
  clear c5
  by_cases c6 : a0 < 1073741824
  ·rw [if_pos c6] at H
   have c6b0 : decide (a0 < 1073741824) = true := decide_eq_true c6
   clear c6
   obtain rfl := Option.some.inj H
   go_enter Try.func64, Try.ntmps64
   go_wp2_with (first | ((with_reducible refine gate_callee (f := 58) rfl ?_); refine goesL_ (some 5) rfl rfl Try.func58 (by kernel_rfl) rfl #[.int .i64 a0] rfl (by (try simp only [m1, m2, m3]); first | done | rfl) ?_; (with_reducible refine (impl_inVar.calls a0 true _ A2.out).mono ?_); rintro e w' ⟨rfl, ⟨nd, rfl⟩⟩; refine ⟨_, rfl, ?_⟩))
   go_ret
   exact ⟨by first | rfl | (simp; done) | (simp [*]; done), by repeat (first | exact Drawn0.refl _ | apply Drawn0.step)⟩
  rw [if_neg c6] at H
  have c6b0 : decide (a0 < 1073741824) = false := decide_eq_false c6
  clear c6
  obtain rfl := Option.some.inj H
  go_enter Try.func64, Try.ntmps64
  go_wp2_with (first | ((with_reducible refine gate_callee (f := 58) rfl ?_); refine goesL_ (some 5) rfl rfl Try.func58 (by kernel_rfl) rfl #[.int .i64 a0] rfl (by (try simp only [m1, m2, m3]); first | done | rfl) ?_; (with_reducible refine (impl_inVar.calls a0 true _ A2.out).mono ?_); rintro e w' ⟨rfl, ⟨nd, rfl⟩⟩; refine ⟨_, rfl, ?_⟩))
  go_ret
  exact ⟨by first | rfl | (simp; done) | (simp [*]; done), by repeat (first | exact Drawn0.refl _ | apply Drawn0.step)⟩
 replace c3 := Bool.eq_false_iff.mpr c3
 subst c3
 rw [if_neg nt] at H
 obtain rfl := Option.some.inj H
 go_enter Try.func64, Try.ntmps64
 go_wp2_with (first | ((with_reducible refine gate_callee (f := 58) rfl ?_); refine goesL_ (some 5) rfl rfl Try.func58 (by kernel_rfl) rfl #[.int .i64 a0] rfl (by (try simp only [m1, m2, m3]); first | done | rfl) ?_; (with_reducible refine (impl_inVar.calls a0 false _ A2.out).mono ?_); rintro e w' ⟨rfl, ⟨nd, rfl⟩⟩; refine ⟨_, rfl, ?_⟩))
 go_ret
 exact ⟨by first | rfl | (simp; done) | (simp [*]; done), by repeat (first | exact Drawn0.refl _ | apply Drawn0.step)⟩
/-! ### impl_fixed: function 89 -/
def impl_fixed.l0 : Nat → List Int → Int → Int → Option (List Int)
 | 0, _, _, _ => none
 | k + 1, x0, x1, x7 => if x7 ≥ 0 then (if 0 ≤ (wrap64 (8 * x7)) then (if x0.length < 140737488355328 then (impl_fixed.l0 k (x0 ++ [(shr .u64 (IntKind.u64.wrap (x1)) (wrap64 (8 * x7))) % 256]) x1 (wrap64 (x7 - 1))) else (none)) else (none)) else (some x0)
def impl_fixed.f (k : Nat) (l0 : List Int) (a1 : Int) (a2 : Int) : Option (List Int) := impl_fixed.l0 k l0 a1 (wrap64 (a2 - 1))
theorem impl_fixed.mono_l : ∀ k, (∀ y0 y1 y2, LeO (impl_fixed.l0 k y0 y1 y2) (impl_fixed.l0 (k + 1) y0 y1 y2))
 | 0 => fun _ _ _ r h => by simp [impl_fixed.l0] at h
 | k + 1 => by
  have ih0 := impl_fixed.mono_l k
  ·intro y0 y1 y2
   unfold impl_fixed.l0
   repeat' first
   | (with_reducible apply ih0)
   | (with_reducible exact LeO.refl _)
   | (with_reducible exact LeO.none _)
   | (with_reducible refine LeO.ite ?_ ?_)
   | (with_reducible refine LeO.bind ?_ (fun _ => ?_))
theorem impl_fixed.mono : ∀ a0 a1 a2 k, LeO (impl_fixed.f k a0 a1 a2) (impl_fixed.f (k + 1) a0 a1 a2) := by
 intro a0 a1 a2 k
 have ih0 := impl_fixed.mono_l k
 unfold impl_fixed.f
 repeat' first
   | (with_reducible apply ih0)
   | (with_reducible exact LeO.refl _)
   | (with_reducible exact LeO.none _)
   | (with_reducible refine LeO.ite ?_ ?_)
   | (with_reducible refine LeO.bind ?_ (fun _ => ?_))
set_option maxHeartbeats 8000000 in
set_option maxRecDepth 100000 in
theorem impl_fixed.calls (k : Nat) (P0_ : Nat → Prop) (u9000_ : Value) (l0 : List Int) (a1 : Int) (a2 : Int) (r : List Int) (w0 w : World) (hB : Below w0.heap.size w0 w) (ho0 : Kd.R (Kd.int .u8) 5 w w0.heap.size P0_ u9000_ l0) (h : impl_fixed.f k l0 a1 a2 = some r) :
  Calls Try.prog 89 #[u9000_, .int .i64 a1, .int .i64 a2] w fun e w' => ∃ v0_ : Value, e = .returned (v0_) ∧ Kd.R (Kd.int .u8) 5 w' w0.heap.size (fun k_ => (P0_ k_ ∨ w.heap.size ≤ k_)) v0_ r ∧ Below w0.heap.size w0 w' ∧ Kept w w' (fun k_ => P0_ k_) := by
 have HO0 := qm (show Kd.R (Kd.int .u8) 5 w w0.heap.size (fun k_ => (P0_ k_ ∨ w.heap.size ≤ k_)) u9000_ l0 from qg ho0 (fun k_ hk => (.inl hk)))
 have HK := qm (Kept.refl w (fun k_ => P0_ k_))
 have HW0 := qm hB.size
 have HB := qm hB
 clear hB
 have H : (impl_fixed.l0 k l0 a1 (wrap64 (a2 - 1))) = some r := h
 clear h
 have H' := qm H
 clear H
 go_enter Try.func89, Try.ntmps89
 go_wp2
 go_loopg [0, 7] k (fun kq v0 v7 w' => ∃ (x0_1 : List Int) (x7_1 : Int), v7 = .int .i64 x7_1 ∧ Aside0 (impl_fixed.l0 kq x0_1 a1 x7_1 = some r) ∧ Aside0 (kq ≤ k) ∧ Aside0 (Kd.R (Kd.int .u8) 5 w' w0.heap.size (fun k_ => (P0_ k_ ∨ w.heap.size ≤ k_)) v0 x0_1) ∧ Aside0 (Kept w w' (fun k_ => P0_ k_)) ∧ Aside0 (Below w0.heap.size w0 w'))
 case atStart => exact ⟨(l0), (wrap64 (a2 - 1)), (by first | rfl | (simp; done) | (simp [*]; done)), H', ⟨Nat.le_refl _⟩, ⟨HO0.out⟩, ⟨by repeat (first | (with_reducible first | exact HK.out | apply Kept.alloc | apply Kept.drewN | apply Kept.drew) | exact HK.out)⟩, ⟨HB.out⟩⟩
 case round =>
  clear H'
  obtain ⟨x0_1, x7_1, rfl, HA, HK1, HO_0, HK, HB⟩ := hrel
  cases gk with
  | zero => exact absurd HA.out (by simp [impl_fixed.l0])
  | succ k1 => ?_
  have H := HA.out
  clear HA
  simp only [impl_fixed.l0] at H
  by_cases c4 : x7_1 ≥ 0
  ·rw [if_pos c4] at H
   have c4b0 : decide (0 ≤ x7_1) = true := decide_eq_true c4
   clear c4
   obtain ⟨ji5, hji5⟩ : ∃ j_ : Int, (wrap64 (8 * x7_1)) = j_ := ⟨_, rfl⟩
   replace H : (if 0 ≤ (ji5) then (if x0_1.length < 140737488355328 then (impl_fixed.l0 k1 (x0_1 ++ [(shr .u64 (IntKind.u64.wrap (a1)) (ji5)) % 256]) a1 (wrap64 (x7_1 - 1))) else (none)) else (none)) = some r := by first | (rw [hji5] at H; exact H) | (simp only [hji5] at H ⊢; exact H)
   have hji5w : (IntKind.i64.wrap (8 * x7_1)) = ji5 := (i64_w _).trans hji5
   by_cases c6 : 0 ≤ (ji5)
   ·rw [if_pos c6] at H
    have c6b0 := eq_true c6
    have c6b1 : decide (0 ≤ (ji5)) = true := decide_eq_true c6
    clear c6
    obtain ⟨ji7, hji7⟩ : ∃ j_ : Int, (shr .u64 (IntKind.u64.wrap (a1)) (ji5)) = j_ := ⟨_, rfl⟩
    replace H : (if x0_1.length < 140737488355328 then (impl_fixed.l0 k1 (x0_1 ++ [(ji7) % 256]) a1 (wrap64 (x7_1 - 1))) else (none)) = some r := by first | (rw [hji7] at H; exact H) | (simp only [hji7] at H ⊢; exact H)
    have hji7_ : ((IntKind.u64.wrap (a1)) / 2 ^ min (ji5).toNat 64) = ji7 := hji7
    have hji7z : (ji5) ≤ 64 → ((IntKind.u64.wrap (a1)) / 2 ^ (ji5).toNat) = ji7 := shr_small hji7
    by_cases c8 : x0_1.length < 140737488355328
    ·rw [if_pos c8] at H
     have LMc8 := qm c8
     clear c8
     obtain ⟨y350, hy350⟩ : ∃ y_ : List Int, y_ = (x0_1 ++ [(ji7) % 256]) := ⟨_, rfl⟩
     replace H : (impl_fixed.l0 k1 y350 a1 (wrap64 (x7_1 - 1))) = some r := by first | (rw [hy350]; with_reducible exact H) | (have H2_ := (Option.bind_some _ _).symm.trans H; rw [hy350]; with_reducible exact H2_) | (have H2_ := (Option.bind_some _ _).symm.trans H; with_reducible exact H2_) | with_reducible exact H | (rw [hy350]; exact H) | exact H
     have Ny350 := qm hy350
     clear hy350
     have H' := qm H
     clear H
     go_wp2_with (first | ((with_reducible refine gate_builtin (b := .append) (xs := #[.tmp 14, .tmp 21]) rfl ?_); at_builtin; refine Kd.R_append (Kd.int .u8) (w0 := w0) w0.heap.size rfl (.tmp 14) (.tmp 21) 22 5 (.int .u8 0) 1 rfl Try.underlying22 info5 rfl (by decide) (by omega) u0 x0_1 ((ji7) % 256) [.int .u8 ((ji7) % 256)] (fun k_ => (P0_ k_ ∨ w.heap.size ≤ k_)) (fun _ => False) rfl rfl ?aP (fun _ hk => hk.elim) ?aF ?aO ?aB ?aS ?aL ?_; (case aP => exact rfl); (case aB => exact HB.out); (case aF => exact (fun k_ hk => (.inr (Nat.le_trans (by first | exact HK.out.1 | exact (show Kept w _ (fun k_ => P0_ k_) from by repeat (first | (with_reducible first | exact HK.out | apply Kept.alloc | apply Kept.drewN | apply Kept.drew) | exact HK.out)).1) hk)))); (case aO => exact HO_0.out); (case aS => exact (below_size HB.out)); (case aL => have := LMc8.out; omega); intro v351 w9 ho hb hg hat; rw [← Ny350.out] at ho; have n0_ := qm (hb); have n1_ := qm (Kept.of_grown (S := (fun k_ => P0_ k_)) hg (by repeat (first | (with_reducible first | exact HK.out | apply Kept.alloc | apply Kept.drewN | apply Kept.drew) | exact HK.out)) (fun k_ e_ => (HO_0.out.1 k_ e_))); have n2_ := qm (ho); clear HB; clear HK; clear HO_0; have HB := n0_; have HK := n1_; have HO352 := n2_; clear ho hb hg hat))
     go_roundg k1
     case measure => have := HK1.out; omega
     case rel => exact ⟨(y350), (wrap64 (x7_1 - 1)), rfl, H', ⟨by have := HK1.out; omega⟩, ⟨HO352.out⟩, ⟨by repeat (first | (with_reducible first | exact HK.out | apply Kept.alloc | apply Kept.drewN | apply Kept.drew) | exact HK.out)⟩, ⟨HB.out⟩⟩
    rw [if_neg c8] at H
    exact absurd H (by simp)
   rw [if_neg c6] at H
   exact absurd H (by simp)
  rw [if_neg c4] at H
  have c4b0 : decide (0 ≤ x7_1) = false := decide_eq_false c4
  clear c4
  obtain rfl := Option.some.inj H
  go_wp2
  go_ret
  exact ⟨_, by first | rfl | (simp <;> rfl) | (simp [*] <;> rfl), HO_0.out, by repeat (first | (with_reducible first | exact HB.out | apply qh | apply qi | apply qj) | exact HB.out), by repeat (first | (with_reducible first | exact HK.out | apply Kept.alloc | apply Kept.drewN | apply Kept.drew) | exact HK.out)⟩
/-! ### impl_addVar: function 59 -/
/-- The mark of a length. -/
def vmark (n : Int) : Int := if n = 2 then 64 else if n = 4 then 128 else if n = 8 then 192 else 0
theorem vmark_cells (n : Int) (h0 : 0 ≤ n) (h1 : n < 9) : (#[Value.int IntKind.u8 0, Value.int IntKind.u8 0, Value.int IntKind.u8 64, Value.int IntKind.u8 0, Value.int IntKind.u8 128, Value.int IntKind.u8 0, Value.int IntKind.u8 0, Value.int IntKind.u8 0, Value.int IntKind.u8 192] : Array Value)[n.toNat]? = some (.int .u8 (vmark n)) := by
 have h : n = 0 ∨ n = 1 ∨ n = 2 ∨ n = 3 ∨ n = 4 ∨ n = 5 ∨ n = 6 ∨ n = 7 ∨ n = 8 := by omega
 rcases h with rfl | rfl | rfl | rfl | rfl | rfl | rfl | rfl | rfl <;> rfl
def impl_addVar.f (k : Nat) (l0 : List Int) (a1 : Int) : Option (List Int) := (impl_VarLen.f a1).bind fun t353 => ((impl_fixed.f k l0 a1 t353).bind fun t354 => (if 0 ≤ t353 then (if t353 < 9 then (if 0 ≤ (l0.length : Int) then (if (l0.length : Int) < (t354.length : Int) then (some (t354.set ((l0.length : Int) : Int).toNat (Go.bits .or .u8 (rd t354 (l0.length : Int)) (vmark t353)))) else (none)) else (none)) else (none)) else (none)))
theorem impl_addVar.mono : ∀ a0 a1 k, LeO (impl_addVar.f k a0 a1) (impl_addVar.f (k + 1) a0 a1) := by
 intro a0 a1 k
 unfold impl_addVar.f
 repeat' first
   | (with_reducible apply impl_fixed.mono)
   | (with_reducible exact LeO.refl _)
   | (with_reducible exact LeO.none _)
   | (with_reducible refine LeO.ite ?_ ?_)
   | (with_reducible refine LeO.bind ?_ (fun _ => ?_))
def impl_addVar.T5 : Bool × List (List Nat × List Nat) := (true, [([], []), ([], []), ([0, 1], [0, 1]), ([2], [2]), ([], []), ([4], [4]), ([5], [5]), ([3, 6], [3, 6]), ([0, 1, 0, 1, 2, 3, 4, 5, 6, 7], [0, 1]), ([8, 7, 0, 1, 2, 3, 4, 5, 6, 7], [7, 8])])
def impl_addVar.B5 : List Nat := [0, 0, 3, 7, 0, 16, 48, 127, 255, 511]
theorem impl_addVar.tab5 : rtab .any (opsOf Try.f59 5) = impl_addVar.T5 := by kernel_rfl
theorem impl_addVar.bits5 : waitsOk impl_addVar.T5.2 impl_addVar.B5 = true := by kernel_rfl
set_option maxHeartbeats 8000000 in
set_option maxRecDepth 100000 in
theorem impl_addVar.calls0 (k : Nat) (P0_ : Nat → Prop) (u9000_ : Value) (l0 : List Int) (a1 : Int) (r : List Int) (w0 we w : World) (hwe : we = w) (hB : Below w0.heap.size w0 w) (ho0 : Kd.R (Kd.int .u8) 5 w w0.heap.size P0_ u9000_ l0) (h : impl_addVar.f k l0 a1 = some r) :
  Calls Try.prog 59 #[u9000_, .int .i64 a1] w fun e w' => ∃ v0_ : Value, e = .returned (v0_) ∧ Kd.R (Kd.int .u8) 5 w' w0.heap.size (fun k_ => (P0_ k_ ∨ we.heap.size ≤ k_)) v0_ r ∧ Below w0.heap.size w0 w' ∧ Kept we w' (fun k_ => P0_ k_) := by
 have HO0 := qm (show Kd.R (Kd.int .u8) 5 w w0.heap.size (fun k_ => (P0_ k_ ∨ we.heap.size ≤ k_)) u9000_ l0 from qg ho0 (fun k_ hk => (.inl hk)))
 clear ho0
 have HK := qm (show Kept we w (fun k_ => P0_ k_) from hwe ▸ Kept.refl w (fun k_ => P0_ k_))
 have HW0 := qm hB.size
 clear hwe
 have HB := qm hB
 clear hB
 have H : ((impl_VarLen.f a1).bind fun t353 => ((impl_fixed.f k l0 a1 t353).bind fun t354 => (if 0 ≤ t353 then (if t353 < 9 then (if 0 ≤ (l0.length : Int) then (if (l0.length : Int) < (t354.length : Int) then (some (t354.set ((l0.length : Int) : Int).toNat (Go.bits .or .u8 (rd t354 (l0.length : Int)) (vmark t353)))) else (none)) else (none)) else (none)) else (none)))) = some r := h
 clear h
 replace H := Option.bind_eq_some_iff.mp H
 obtain ⟨t353, A30, H⟩ := H
 try dsimp only at H
 have A3 := qm A30
 clear A30
 replace H := Option.bind_eq_some_iff.mp H
 obtain ⟨t354, A40, H⟩ := H
 try dsimp only at H
 have A4 := qm A40
 clear A40
 by_cases c50 : 0 ≤ t353
 ·rw [if_pos c50] at H
  by_cases c51 : t353 < 9
  ·rw [if_pos c51] at H
   have hmark := vmark_cells t353 c50 c51
   by_cases c5 : 0 ≤ (l0.length : Int)
   ·rw [if_pos c5] at H
    have c5b0 : decide (0 ≤ (l0.length : Int)) = true := decide_eq_true c5
    have c5b1 : decide (0 ≤ l0.length) = true := decide_eq_true (by omega)
    clear c5
    by_cases c6 : (l0.length : Int) < (t354.length : Int)
    ·rw [if_pos c6] at H
     have c6b0 : decide ((l0.length : Int) < (t354.length : Int)) = true := decide_eq_true c6
     have c6b1 : decide (l0.length < t354.length) = true := decide_eq_true (Int.ofNat_lt.mp c6)
     clear c6
     obtain ⟨y358, hy358⟩ : ∃ y_ : List Int, y_ = (t354.set ((l0.length : Int) : Int).toNat (Go.bits .or .u8 (rd t354 (l0.length : Int)) (vmark t353))) := ⟨_, rfl⟩
     replace H : (some y358) = some r := by first | (rw [hy358]; with_reducible exact H) | (have H2_ := (Option.bind_some _ _).symm.trans H; rw [hy358]; with_reducible exact H2_) | (have H2_ := (Option.bind_some _ _).symm.trans H; with_reducible exact H2_) | with_reducible exact H | (rw [hy358]; exact H) | exact H
     have Ny358 := qm hy358
     clear hy358
     obtain rfl := Option.some.inj H
     have HM := qm hmark
     clear hmark
     replace c50 := eq_true c50
     replace c51 := eq_true c51
     go_enter Try.func59, Try.ntmps59
     try go_wp2_with (first | ((with_reducible refine gate_callee (f := 64) rfl ?_); refine goesL_ (some 9) rfl rfl Try.func64 (by kernel_rfl) rfl #[.int .i64 a1] rfl (by (try simp only [m1, m2, m3]); first | done | rfl) ?_; (with_reducible refine (impl_VarLen.calls a1 t353 _ A3.out).mono ?_); rintro e w' ⟨rfl, ⟨nd, rfl⟩⟩; refine ⟨_, rfl, ?_⟩; (try (rw [drewN_self w]; generalize hq_ : World.drewN w _ = w; have n0_ : Aside0 (Kd.R (Kd.int .u8) 5 w w0.heap.size (fun k_ => (P0_ k_ ∨ we.heap.size ≤ k_)) u9000_ l0) := ⟨by rw [← hq_]; exact HO0.out⟩; have n1_ : Aside0 (Kept we w (fun k_ => P0_ k_)) := ⟨by rw [← hq_]; exact (by repeat (first | (with_reducible first | exact HK.out | apply Kept.alloc | apply Kept.drewN | apply Kept.drew) | exact HK.out))⟩; have n2_ : Aside0 (Below w0.heap.size w0 w) := ⟨by rw [← hq_]; exact HB.out⟩; clear HO0 HK HB hq_; have HO0 := n0_; have HK := n1_; have HB := n2_)); obtain ⟨Ao8, co8, eo8⟩ := Kd.R_slice HO0.out; subst eo8) | ((with_reducible refine gate_callee (f := 89) rfl ?_); refine goesL_ (some 15) rfl rfl Try.func89 (by kernel_rfl) rfl #[.slice Ao8 l0.length co8, .int .i64 a1, .int .i64 t353] rfl (by (try simp only [m1, m2, m3]); first | done | rfl) ?_; (with_reducible refine (impl_fixed.calls k (fun k_ => some k_ = (.slice Ao8 l0.length co8 : Value).ownBlock) (.slice Ao8 l0.length co8) l0 a1 t353 t354 w0 _ ?side1 ?side2 A4.out).mono ?_); (case side1 => repeat (first | (with_reducible first | exact HB.out | apply qh | apply qi | apply qj) | exact HB.out)); (case side2 => exact Kd.R_tight rfl HO0.out); rintro e w9 ⟨v355, rfl, ho0, hb, hkp⟩; refine ⟨_, rfl, ?_⟩; have n0_ := qm (qg (ok' := fun k_ => (P0_ k_ ∨ we.heap.size ≤ k_)) ho0 (fun k_ hk_ => Or.elim hk_ (fun hs_ => (HO0.out.1 k_ (hs_).symm)) (fun hn_ => (.inr (Nat.le_trans (by first | exact HK.out.1 | exact (show Kept we _ (fun k_ => P0_ k_) from by repeat (first | (with_reducible first | exact HK.out | apply Kept.alloc | apply Kept.drewN | apply Kept.drew) | exact HK.out)).1) hn_))))); have n1_ := qm (Kept.then_ (S := (fun k_ => P0_ k_)) (by repeat (first | (with_reducible first | exact HK.out | apply Kept.alloc | apply Kept.drewN | apply Kept.drew) | exact HK.out)) hkp (fun k_ hs_ => (fun e_ => (HO0.out.1 k_ e_.symm)) hs_)); have n2_ := qm (hb); clear HK; clear HB; clear HO0; have HO356 := n0_; have HK := n1_; have HB := n2_))
     have hx100 : (w9.alloc (Obj.cells #[Value.int IntKind.u8 0, Value.int IntKind.u8 0, Value.int IntKind.u8 64, Value.int IntKind.u8 0, Value.int IntKind.u8 128, Value.int IntKind.u8 0, Value.int IntKind.u8 0, Value.int IntKind.u8 0, Value.int IntKind.u8 192] 100)).cell? ⟨w9.heap.size, t353.toNat, none⟩ = some (.int .u8 (vmark t353)) := (Go.Joins.cell_alloc_mark_at _ _ _ _ _ _ rfl).trans HM.out
     have m0_ := qm (Kd.R_alloc HO356.out (Obj.cells #[Value.int IntKind.u8 0, Value.int IntKind.u8 0, Value.int IntKind.u8 64, Value.int IntKind.u8 0, Value.int IntKind.u8 128, Value.int IntKind.u8 0, Value.int IntKind.u8 0, Value.int IntKind.u8 0, Value.int IntKind.u8 192] 100))
     have m1_ := qm (Kept.alloc HK.out (Obj.cells #[Value.int IntKind.u8 0, Value.int IntKind.u8 0, Value.int IntKind.u8 64, Value.int IntKind.u8 0, Value.int IntKind.u8 128, Value.int IntKind.u8 0, Value.int IntKind.u8 0, Value.int IntKind.u8 0, Value.int IntKind.u8 192] 100))
     have m2_ := qm (qh HB.out (Obj.cells #[Value.int IntKind.u8 0, Value.int IntKind.u8 0, Value.int IntKind.u8 64, Value.int IntKind.u8 0, Value.int IntKind.u8 128, Value.int IntKind.u8 0, Value.int IntKind.u8 0, Value.int IntKind.u8 0, Value.int IntKind.u8 192] 100))
     clear HO356
     clear HK
     clear HB
     have HO356 := m0_
     have HK := m1_
     have HB := m2_
     clear m0_ m1_ m2_
     generalize (w9.alloc (Obj.cells #[Value.int IntKind.u8 0, Value.int IntKind.u8 0, Value.int IntKind.u8 64, Value.int IntKind.u8 0, Value.int IntKind.u8 128, Value.int IntKind.u8 0, Value.int IntKind.u8 0, Value.int IntKind.u8 0, Value.int IntKind.u8 192] 100)) = wA at HO356 HK HB hx100 ⊢
     generalize w9.heap.size = gA at hx100 ⊢
     have n0_ := qm (Kd.R_drew HO356.out)
     have n1_ := qm (Kept.drew HK.out)
     have n2_ := qm (qj HB.out)
     clear HO356
     clear HK
     clear HB
     have HO356 := n0_
     have HK := n1_
     have HB := n2_
     clear n0_ n1_ n2_
     obtain ⟨Ao11, co11, eo11⟩ := Kd.R_slice HO356.out
     (first | subst eo11 | (injection eo11 with f1_ f2_ f3_; have f4_ := f1_.symm; have f5_ := f3_.symm; clear f1_ f2_ f3_; subst f4_; subst f5_))
     have p357 : 0 ≤ ((l0.length : Int) : Int) := of_decide_eq_true (by assumption)
     have q357 : (l0.length : Int) < (t354.length : Int) := of_decide_eq_true (by assumption)
     obtain ⟨ad357, e357, hx357_0⟩ := Kd.at_int (Kd.R_reads' HO356.out).2.2 (l0.length : Int) p357 q357
     cases e357
     (try simp only [Go.IntWalk.toNatUp] at hx357_0)
     replace p357 := eq_true p357
     replace q357 := eq_true q357
     have p7 : 0 ≤ ((l0.length : Int) : Int) := of_decide_eq_true (by assumption)
     have q7 : ((l0.length : Int) : Int) < ((t354.length : Int) : Int) := of_decide_eq_true (by assumption)
     obtain ⟨go7, co7, eo7, gb7, gl7, cl7, HG7⟩ := Kd.R_form HO356.out (by omega)
     (first | cases eo7 | (injection eo7 with ea_ en_ ec_; (first | subst ea_ | (injection ea_ with ea_; subst ea_)); subst ec_; clear en_))
     have GB7 := qm gb7
     have GG7 := qm HG7
     clear gb7 gl7 HG7
     have HMgo7 := qm (show (P0_ go7 ∨ we.heap.size ≤ go7) from (HO356.out.1 _ rfl))
     (first | simp only [add_plain] at hx357_0 | skip)
     obtain ⟨hx7_0, hf7_0⟩ := Kd.R_celln 0 HO356.out ((l0.length : Int) : Int) p7 q7
     (try simp only [Go.IntWalk.toNatUp] at hx7_0)
     (try simp only [Go.IntWalk.toNatUp] at hf7_0)
     replace p7 := eq_true p7
     replace q7 := eq_true q7
     have HP12 := Kd.R_putn HO356.out ((l0.length : Int) : Int) (Go.bits .or .u8 (rd t354 (l0.length : Int)) (vmark t353))
     rw [← Ny358.out] at HP12
     have HQ12 := qm HP12
     clear HP12
     refine start_ (n := 10) (S := fun w' => w'.cell? ⟨go7, l0.length, none⟩ = some (.int .u8 (rd t354 (l0.length : Int))) ∧ w'.cell? ⟨gA, t353.toNat, none⟩ = some (.int .u8 (vmark t353))) (ds := [9]) (bm 0 10) (by kernel_rfl) rfl rfl ⟨hx357_0, hx100⟩ (fun hHeld => ?_); refine with_tabW impl_addVar.tab5 impl_addVar.bits5 (fun HT_ HW_ => ?_)
     generalize wA.drew = w10 at HO356 HK HB GG7 HQ12 hf7_0 hx357_0 hx7_0 hHeld ⊢
     refine pu 0 17 (bm 1 10) HT_ (h := ⟨_, by intro w'; go_simp; with_reducible rfl, _, by simp only [Act.put, s1, s2, s3, i64_w, i32_w]; rfl, ?_⟩)
     refine pu 1 18 (bm 2 10) HT_ (h := ⟨_, by intro w'; go_simp; with_reducible rfl, _, by simp only [Act.put, s1, s2, s3, i64_w, i32_w]; rfl, ?_⟩)
     refine pu 2 19 (bm 3 10) HT_ (h := ⟨_, by intro w'; go_simp; with_reducible rfl, _, by simp only [Act.put, s1, s2, s3, i64_w, i32_w]; rfl, ?_⟩)
     refine pu 4 21 (bb 23 10) HT_ (h := ⟨_, by intro w'; go_simp; with_reducible rfl, _, by simp only [Act.put, s1, s2, s3, i64_w, i32_w]; rfl, ?_⟩)
     refine pu 5 22 (bb 55 10) HT_ (h := ⟨_, by intro w'; go_simp; with_reducible rfl, _, by simp only [Act.put, s1, s2, s3, i64_w, i32_w]; rfl, ?_⟩)
     refine tk 6 23 (bb 119 10) HT_ HW_ (hS := hHeld) (h := ⟨_, by intro w' s0; obtain ⟨s0, s1⟩ := s0; go_simp; with_reducible rfl, _, by simp only [Act.put, s1, s2, s3, i64_w, i32_w]; rfl, ?_⟩)
     refine tk 3 20 (bm 7 10) HT_ HW_ (hS := hHeld) (h := ⟨_, by intro w' s0; obtain ⟨s0, s1⟩ := s0; go_simp; with_reducible rfl, _, by simp only [Act.put, s1, s2, s3, i64_w, i32_w]; rfl, ?_⟩)
     refine pu 7 24 (bm 8 10) HT_ (h := ⟨_, by intro w'; go_simp; with_reducible rfl, _, by simp only [Act.put, s1, s2, s3, i64_w, i32_w]; rfl, ?_⟩)
     refine pu 8 25 (bm 9 10) HT_ (h := ⟨_, by intro w'; go_simp; with_reducible rfl, _, by simp only [Act.put, s1, s2, s3, i64_w, i32_w]; rfl, ?_⟩)
     refine last_ (i := 9) (N := none) (bm 10 10) rfl rfl (one_of HT_.out (by kernel_rfl)) (by decide) (fun K hK => ?_)
     refine skip_ (w1 := ?_) (by rfl) rfl ?_ ?_
     rotate_left
     ·go_simp
      rfl
     refine hK.out _ _ ?_
     clear hK K
     refine done_ (done_of HT_.out (by kernel_rfl)) ?_
     try go_wp2
     go_ret
     exact ⟨_, by first | rfl | (simp <;> rfl) | (simp [*] <;> rfl), HQ12.out, by repeat (first | (with_reducible first | exact HB.out | apply qh | apply qi | apply qj | refine below_set ?_ GB7.out) | exact HB.out), by repeat (first | (with_reducible first | exact HK.out | apply Kept.alloc | apply Kept.drewN | apply Kept.drew | refine Kept.setCell ?_ HMgo7.out _) | exact HK.out)⟩
    rw [if_neg c6] at H
    exact absurd H (by simp)
   rw [if_neg c5] at H
   exact absurd H (by simp)
  rw [if_neg c51] at H
  exact absurd H (by simp)
 rw [if_neg c50] at H
 exact absurd H (by simp)
theorem impl_addVar.calls (k : Nat) (P0_ : Nat → Prop) (u9000_ : Value) (l0 : List Int) (a1 : Int) (r : List Int) (w0 w : World) (hB : Below w0.heap.size w0 w) (ho0 : Kd.R (Kd.int .u8) 5 w w0.heap.size P0_ u9000_ l0) (h : impl_addVar.f k l0 a1 = some r) :
  Calls Try.prog 59 #[u9000_, .int .i64 a1] w fun e w' => ∃ v0_ : Value, e = .returned (v0_) ∧ Kd.R (Kd.int .u8) 5 w' w0.heap.size (fun k_ => (P0_ k_ ∨ w.heap.size ≤ k_)) v0_ r ∧ Below w0.heap.size w0 w' ∧ Kept w w' (fun k_ => P0_ k_) :=
 impl_addVar.calls0 k P0_ u9000_ l0 a1 r w0 w w rfl hB ho0 h
/-! ### impl_addCounted: function 96 -/
def impl_addCounted.f (k : Nat) (l0 : List Int) (l1 : List Int) : Option (List Int) := (impl_addVar.f k l0 (l1.length : Int)).bind fun t359 => (if t359.length + l1.length < 140737488355328 then (some (t359 ++ l1)) else (none))
theorem impl_addCounted.mono : ∀ a0 a1 k, LeO (impl_addCounted.f k a0 a1) (impl_addCounted.f (k + 1) a0 a1) := by
 intro a0 a1 k
 unfold impl_addCounted.f
 repeat' first
   | (with_reducible apply impl_addVar.mono)
   | (with_reducible exact LeO.refl _)
   | (with_reducible exact LeO.none _)
   | (with_reducible refine LeO.ite ?_ ?_)
   | (with_reducible refine LeO.bind ?_ (fun _ => ?_))
set_option maxHeartbeats 8000000 in
set_option maxRecDepth 100000 in
theorem impl_addCounted.calls (k : Nat) (P0_ : Nat → Prop) (u9000_ : Value) (l0 : List Int) (A1 : Option Addr) (c1 : Nat) (l1 : List Int) (r : List Int) (w0 w : World) (hB : Below w0.heap.size w0 w) (ho0 : Kd.R (Kd.int .u8) 5 w w0.heap.size P0_ u9000_ l0) (hr1 : ∀ W_, Kept w W_ (fun k_ => P0_ k_) → Kd.C (Kd.int .u8) W_ A1 l1.length l1) (hc1 : l1.length ≤ c1) (h : impl_addCounted.f k l0 l1 = some r) :
  Calls Try.prog 96 #[u9000_, .slice A1 l1.length c1] w fun e w' => ∃ v0_ : Value, e = .returned (v0_) ∧ Kd.R (Kd.int .u8) 5 w' w0.heap.size (fun k_ => (P0_ k_ ∨ w.heap.size ≤ k_)) v0_ r ∧ Below w0.heap.size w0 w' ∧ Kept w w' (fun k_ => P0_ k_) := by
 have HO0 := qm (show Kd.R (Kd.int .u8) 5 w w0.heap.size (fun k_ => (P0_ k_ ∨ w.heap.size ≤ k_)) u9000_ l0 from qg ho0 (fun k_ hk => (.inl hk)))
 have HR1 := qm hr1
 have HC1 := qm hc1
 clear hr1 hc1
 have HK := qm (Kept.refl w (fun k_ => P0_ k_))
 have HW0 := qm hB.size
 have HB := qm hB
 clear hB
 have H : ((impl_addVar.f k l0 (l1.length : Int)).bind fun t359 => (if t359.length + l1.length < 140737488355328 then (some (t359 ++ l1)) else (none))) = some r := h
 clear h
 replace H := Option.bind_eq_some_iff.mp H
 obtain ⟨t359, A30, H⟩ := H
 try dsimp only at H
 have A3 := qm A30
 clear A30
 by_cases c4 : t359.length + l1.length < 140737488355328
 ·rw [if_pos c4] at H
  have LMc4 := qm c4
  clear c4
  obtain ⟨y362, hy362⟩ : ∃ y_ : List Int, y_ = (t359 ++ l1) := ⟨_, rfl⟩
  replace H : (some y362) = some r := by first | (rw [hy362]; with_reducible exact H) | (have H2_ := (Option.bind_some _ _).symm.trans H; rw [hy362]; with_reducible exact H2_) | (have H2_ := (Option.bind_some _ _).symm.trans H; with_reducible exact H2_) | with_reducible exact H | (rw [hy362]; exact H) | exact H
  have Ny362 := qm hy362
  clear hy362
  obtain rfl := Option.some.inj H
  obtain ⟨Ao5, co5, eo5⟩ := Kd.R_slice HO0.out
  subst eo5
  go_enter Try.func96, Try.ntmps96
  go_wp2_with (first | ((with_reducible refine gate_callee (f := 59) rfl ?_); refine goesL_ (some 8) rfl rfl Try.func59 (by kernel_rfl) rfl #[.slice Ao5 l0.length co5, .int .i64 (l1.length : Int)] rfl (by (try simp only [m1, m2, m3]); first | done | rfl) ?_; (with_reducible refine (impl_addVar.calls k (fun k_ => some k_ = (.slice Ao5 l0.length co5 : Value).ownBlock) (.slice Ao5 l0.length co5) l0 (l1.length : Int) t359 w0 _ ?side1 ?side2 A3.out).mono ?_); (case side1 => repeat (first | (with_reducible first | exact HB.out | apply qh | apply qi | apply qj) | exact HB.out)); (case side2 => exact Kd.R_tight rfl HO0.out); rintro e w6 ⟨v360, rfl, ho0, hb, hkp⟩; refine ⟨_, rfl, ?_⟩; have n0_ := qm (qg (ok' := fun k_ => (P0_ k_ ∨ w.heap.size ≤ k_)) ho0 (fun k_ hk_ => Or.elim hk_ (fun hs_ => (HO0.out.1 k_ (hs_).symm)) (fun hn_ => (.inr (Nat.le_trans (by first | exact HK.out.1 | exact (show Kept w _ (fun k_ => P0_ k_) from by repeat (first | (with_reducible first | exact HK.out | apply Kept.alloc | apply Kept.drewN | apply Kept.drew) | exact HK.out)).1) hn_))))); have n1_ := qm (Kept.then_ (S := (fun k_ => P0_ k_)) (by repeat (first | (with_reducible first | exact HK.out | apply Kept.alloc | apply Kept.drewN | apply Kept.drew) | exact HK.out)) hkp (fun k_ hs_ => (fun e_ => (HO0.out.1 k_ e_.symm)) hs_)); have n2_ := qm (hb); clear HK; clear HB; clear HO0; have HO361 := n0_; have HK := n1_; have HB := n2_) | ((with_reducible refine gate_builtin (b := .append) (xs := #[.tmp 8, .tmp 9]) rfl ?_); at_builtin; refine Kd.R_append_rows (Kd.int .u8) (w0 := w0) w0.heap.size rfl (.tmp 8) (.tmp 9) 22 5 (.int .u8 0) 1 rfl Try.underlying22 info5 rfl (by decide) (by omega) v360 t359 l1 _ _ _ (fun k_ => (P0_ k_ ∨ w.heap.size ≤ k_)) (fun _ => False) rfl rfl ?aO ?aR (fun _ _ h => h) (fun _ h => h.elim) ?aF ?aB ?aS ?aL ?_; (case aR => exact Kd.C_kept_now HR1.out (by repeat (first | (with_reducible first | exact HK.out | apply Kept.alloc | apply Kept.drewN | apply Kept.drew) | exact HK.out))); (case aB => exact HB.out); (case aF => exact (fun k_ hk => (.inr (Nat.le_trans (by first | exact HK.out.1 | exact (show Kept w _ (fun k_ => P0_ k_) from by repeat (first | (with_reducible first | exact HK.out | apply Kept.alloc | apply Kept.drewN | apply Kept.drew) | exact HK.out)).1) hk)))); (case aO => exact HO361.out); (case aS => exact (below_size HB.out)); (case aL => have := LMc4.out; omega); intro v363 w7 ho hb hg hat; rw [← Ny362.out] at ho; have n0_ := qm (hb); have n1_ := qm (Kept.of_grown (S := (fun k_ => P0_ k_)) hg (by repeat (first | (with_reducible first | exact HK.out | apply Kept.alloc | apply Kept.drewN | apply Kept.drew) | exact HK.out)) (fun k_ e_ => (HO361.out.1 k_ e_))); have n2_ := qm (ho); clear HB; clear HK; clear HO361; have HB := n0_; have HK := n1_; have HO364 := n2_; clear ho hb hg hat))
  go_ret
  exact ⟨_, by first | rfl | (simp <;> rfl) | (simp [*] <;> rfl), HO364.out, by repeat (first | (with_reducible first | exact HB.out | apply qh | apply qi | apply qj) | exact HB.out), by repeat (first | (with_reducible first | exact HK.out | apply Kept.alloc | apply Kept.drewN | apply Kept.drew) | exact HK.out)⟩
 rw [if_neg c4] at H
 exact absurd H (by simp)
/-! ### impl_addVars: function 99 -/
def impl_addVars.l0 : Nat → List Int → List Int → Int → Int → Option (List Int)
 | 0, _, _, _, _ => none
 | k + 1, x0, x7, x8, x9 => if x9 < x8 then (if 0 ≤ x9 then (if x9 < (x7.length : Int) then ((impl_addVar.f k x0 (rd x7 x9)).bind fun t366 => (impl_addVars.l0 k t366 x7 x8 (wrap64 (x9 + 1)))) else (none)) else (none)) else (some x0)
def impl_addVars.f (k : Nat) (l0 : List Int) (l1 : List Int) : Option (List Int) := impl_addVars.l0 k l0 l1 (l1.length : Int) 0
theorem impl_addVars.mono_l : ∀ k, (∀ y0 y1 y2 y3, LeO (impl_addVars.l0 k y0 y1 y2 y3) (impl_addVars.l0 (k + 1) y0 y1 y2 y3))
 | 0 => fun _ _ _ _ r h => by simp [impl_addVars.l0] at h
 | k + 1 => by
  have ih0 := impl_addVars.mono_l k
  ·intro y0 y1 y2 y3
   unfold impl_addVars.l0
   repeat' first
   | (with_reducible apply ih0)
   | (with_reducible apply impl_addVar.mono)
   | (with_reducible exact LeO.refl _)
   | (with_reducible exact LeO.none _)
   | (with_reducible refine LeO.ite ?_ ?_)
   | (with_reducible refine LeO.bind ?_ (fun _ => ?_))
theorem impl_addVars.mono : ∀ a0 a1 k, LeO (impl_addVars.f k a0 a1) (impl_addVars.f (k + 1) a0 a1) := by
 intro a0 a1 k
 have ih0 := impl_addVars.mono_l k
 unfold impl_addVars.f
 repeat' first
   | (with_reducible apply ih0)
   | (with_reducible apply impl_addVar.mono)
   | (with_reducible exact LeO.refl _)
   | (with_reducible exact LeO.none _)
   | (with_reducible refine LeO.ite ?_ ?_)
   | (with_reducible refine LeO.bind ?_ (fun _ => ?_))
set_option maxHeartbeats 8000000 in
set_option maxRecDepth 100000 in
theorem impl_addVars.calls (k : Nat) (P0_ : Nat → Prop) (u9000_ : Value) (l0 : List Int) (A1 : Option Addr) (c1 : Nat) (l1 : List Int) (r : List Int) (w0 w : World) (hB : Below w0.heap.size w0 w) (ho0 : Kd.R (Kd.int .u8) 5 w w0.heap.size P0_ u9000_ l0) (hr1 : ∀ W_, Kept w W_ (fun k_ => P0_ k_) → Kd.C (Kd.int .i64) W_ A1 l1.length l1) (hc1 : l1.length ≤ c1) (h : impl_addVars.f k l0 l1 = some r) :
  Calls Try.prog 99 #[u9000_, .slice A1 l1.length c1] w fun e w' => ∃ v0_ : Value, e = .returned (v0_) ∧ Kd.R (Kd.int .u8) 5 w' w0.heap.size (fun k_ => (P0_ k_ ∨ w.heap.size ≤ k_)) v0_ r ∧ Below w0.heap.size w0 w' ∧ Kept w w' (fun k_ => P0_ k_) := by
 have HO0 := qm (show Kd.R (Kd.int .u8) 5 w w0.heap.size (fun k_ => (P0_ k_ ∨ w.heap.size ≤ k_)) u9000_ l0 from qg ho0 (fun k_ hk => (.inl hk)))
 have HR1 := qm hr1
 have HC1 := qm hc1
 clear hr1 hc1
 have HK := qm (Kept.refl w (fun k_ => P0_ k_))
 have HW0 := qm hB.size
 have HB := qm hB
 clear hB
 have H : (impl_addVars.l0 k l0 l1 (l1.length : Int) 0) = some r := h
 clear h
 have H' := qm H
 clear H
 go_enter Try.func99, Try.ntmps99
 go_wp2
 go_loopg [0, 9] k (fun kq v0 v9 w' => ∃ (x0_1 : List Int) (x9_1 : Int), v9 = .int .i64 x9_1 ∧ Aside0 (impl_addVars.l0 kq x0_1 l1 (l1.length : Int) x9_1 = some r) ∧ Aside0 (kq ≤ k) ∧ Aside0 (Kd.R (Kd.int .u8) 5 w' w0.heap.size (fun k_ => (P0_ k_ ∨ w.heap.size ≤ k_)) v0 x0_1) ∧ Aside0 (Kept w w' (fun k_ => P0_ k_)) ∧ Aside0 (Below w0.heap.size w0 w'))
 case atStart => exact ⟨(l0), (0), (by first | rfl | (simp; done) | (simp [*]; done)), H', ⟨Nat.le_refl _⟩, ⟨HO0.out⟩, ⟨by repeat (first | (with_reducible first | exact HK.out | apply Kept.alloc | apply Kept.drewN | apply Kept.drew) | exact HK.out)⟩, ⟨HB.out⟩⟩
 case round =>
  clear H'
  try clear c1
  obtain ⟨x0_1, x9_1, rfl, HA, HK1, HO_0, HK, HB⟩ := hrel
  cases gk with
  | zero => exact absurd HA.out (by simp [impl_addVars.l0])
  | succ k1 => ?_
  have H := HA.out
  clear HA
  simp only [impl_addVars.l0] at H
  by_cases c3 : x9_1 < (l1.length : Int)
  ·rw [if_pos c3] at H
   have c3b0 : decide (x9_1 < (l1.length : Int)) = true := decide_eq_true c3
   clear c3
   by_cases c4 : 0 ≤ x9_1
   ·rw [if_pos c4] at H
    have c4b0 : decide (0 ≤ x9_1) = true := decide_eq_true c4
    clear c4
    by_cases c5 : x9_1 < (l1.length : Int)
    ·rw [if_pos c5] at H
     have c5b0 : decide (x9_1 < (l1.length : Int)) = true := decide_eq_true c5
     clear c5
     replace H := Option.bind_eq_some_iff.mp H
     obtain ⟨t366, A60, H⟩ := H
     try dsimp only at H
     have A6 := qm A60
     clear A60
     have H' := qm H
     clear H
     have p365 : 0 ≤ (x9_1 : Int) := of_decide_eq_true (by assumption)
     have q365 : x9_1 < (l1.length : Int) := of_decide_eq_true (by assumption)
     obtain ⟨ad365, e365, hx365_0⟩ := Kd.at_int (Kd.C_kept_now HR1.out HK.out) x9_1 p365 q365
     cases e365
     replace p365 := eq_true p365
     replace q365 := eq_true q365
     obtain ⟨Ao7, co7, eo7⟩ := Kd.R_slice HO_0.out
     subst eo7
     go_wp2_with (first | ((with_reducible refine gate_callee (f := 59) rfl ?_); refine goesL_ (some 15) rfl rfl Try.func59 (by kernel_rfl) rfl #[.slice Ao7 x0_1.length co7, .int .i64 (rd l1 x9_1)] rfl (by (try simp only [m1, m2, m3]); first | done | rfl) ?_; (with_reducible refine (impl_addVar.calls k1 (fun k_ => some k_ = (.slice Ao7 x0_1.length co7 : Value).ownBlock) (.slice Ao7 x0_1.length co7) x0_1 (rd l1 x9_1) t366 w0 _ ?side1 ?side2 A6.out).mono ?_); (case side1 => repeat (first | (with_reducible first | exact HB.out | apply qh | apply qi | apply qj) | exact HB.out)); (case side2 => exact Kd.R_tight rfl HO_0.out); rintro e w8 ⟨v367, rfl, ho0, hb, hkp⟩; refine ⟨_, rfl, ?_⟩; have n0_ := qm (qg (ok' := fun k_ => (P0_ k_ ∨ w.heap.size ≤ k_)) ho0 (fun k_ hk_ => Or.elim hk_ (fun hs_ => (HO_0.out.1 k_ (hs_).symm)) (fun hn_ => (.inr (Nat.le_trans (by first | exact HK.out.1 | exact (show Kept w _ (fun k_ => P0_ k_) from by repeat (first | (with_reducible first | exact HK.out | apply Kept.alloc | apply Kept.drewN | apply Kept.drew) | exact HK.out)).1) hn_))))); have n1_ := qm (Kept.then_ (S := (fun k_ => P0_ k_)) (by repeat (first | (with_reducible first | exact HK.out | apply Kept.alloc | apply Kept.drewN | apply Kept.drew) | exact HK.out)) hkp (fun k_ hs_ => (fun e_ => (HO_0.out.1 k_ e_.symm)) hs_)); have n2_ := qm (hb); clear HK; clear HB; clear HO_0; have HO368 := n0_; have HK := n1_; have HB := n2_))
     go_roundg k1
     case measure => have := HK1.out; omega
     case rel => exact ⟨(t366), (wrap64 (x9_1 + 1)), rfl, H', ⟨by have := HK1.out; omega⟩, ⟨HO368.out⟩, ⟨by repeat (first | (with_reducible first | exact HK.out | apply Kept.alloc | apply Kept.drewN | apply Kept.drew) | exact HK.out)⟩, ⟨HB.out⟩⟩
    rw [if_neg c5] at H
    exact absurd H (by simp)
   rw [if_neg c4] at H
   exact absurd H (by simp)
  rw [if_neg c3] at H
  have c3b0 : decide (x9_1 < (l1.length : Int)) = false := decide_eq_false c3
  clear c3
  obtain rfl := Option.some.inj H
  go_wp2
  go_ret
  exact ⟨_, by first | rfl | (simp <;> rfl) | (simp [*] <;> rfl), HO_0.out, by repeat (first | (with_reducible first | exact HB.out | apply qh | apply qi | apply qj) | exact HB.out), by repeat (first | (with_reducible first | exact HK.out | apply Kept.alloc | apply Kept.drewN | apply Kept.drew) | exact HK.out)⟩
end Go.Proofs.Ytdojcdhlcnlohaa.SFnExactFrameBytes
