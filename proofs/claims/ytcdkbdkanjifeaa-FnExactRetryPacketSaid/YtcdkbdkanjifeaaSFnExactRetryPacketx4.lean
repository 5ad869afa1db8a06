/- The walk of functions that the law FnExactRetryPacket uses, written by program. -/
import Derived.Test.YtcdkbdkanjifeaaSFnExactRetryPacketx0
import Derived.Test.YtcdkbdkanjifeaaSFnExactRetryPacketx3
import Derived.Lib.SmallJoins
import Derived.Lib.SmallJoins
namespace Go.Proofs.Ytcdkbdkanjifeaa.SFnExactRetryPacket
open Go.RowKit Go.Proofs.YtcdkbdkanjifeaaW.PrintWords Go.Proofs.YtcdkbdkanjifeaaW.PrintLast Go.Proofs.YtcdkbdkanjifeaaW.PrintMore
attribute [local go_sem] max2_int min2_int max_two min_two max_three min_three max_four min_four   -- for this text's walks alone
set_option linter.unusedVariables false
set_option linter.unusedSimpArgs false

/-! ### bits_RotateLeft32: function 87 -/
def bits_RotateLeft32.f (a0 : Int) (a1 : Int) : Option (Int) := if 0 ≤ (Go.bits .and .u64 (IntKind.u64.wrap (a1)) 31) then (if 0 ≤ (IntKind.u64.wrap (32 - (Go.bits .and .u64 (IntKind.u64.wrap (a1)) 31))) then (some (Go.bits .or .u32 (shl .u32 a0 (Go.bits .and .u64 (IntKind.u64.wrap (a1)) 31)) (shr .u32 a0 (IntKind.u64.wrap (32 - (Go.bits .and .u64 (IntKind.u64.wrap (a1)) 31)))))) else (none)) else (none)
set_option maxHeartbeats 8000000 in
set_option maxRecDepth 100000 in
theorem bits_RotateLeft32.calls (a0 : Int) (a1 : Int) (r : Int) (w : World) (h : bits_RotateLeft32.f a0 a1 = some r) :
    Calls Try.prog 87 #[.int .u32 a0, .int .i64 a1] w fun e w' => e = .returned (.int .u32 r) ∧ Drawn0 w w' := by
  have H : (if 0 ≤ (Go.bits .and .u64 (IntKind.u64.wrap (a1)) 31) then (if 0 ≤ (IntKind.u64.wrap (32 - (Go.bits .and .u64 (IntKind.u64.wrap (a1)) 31))) then (some (Go.bits .or .u32 (shl .u32 a0 (Go.bits .and .u64 (IntKind.u64.wrap (a1)) 31)) (shr .u32 a0 (IntKind.u64.wrap (32 - (Go.bits .and .u64 (IntKind.u64.wrap (a1)) 31)))))) else (none)) else (none)) = some r := h
  clear h
  obtain ⟨ji3, hji3⟩ : ∃ j_ : Int, (Go.bits .and .u64 (IntKind.u64.wrap (a1)) 31) = j_ := ⟨_, rfl⟩
  replace H : (if 0 ≤ (ji3) then (if 0 ≤ (IntKind.u64.wrap (32 - (ji3))) then (some (Go.bits .or .u32 (shl .u32 a0 (ji3)) (shr .u32 a0 (IntKind.u64.wrap (32 - (ji3)))))) else (none)) else (none)) = some r := by first | (rw [hji3] at H; exact H) | (simp only [hji3] at H ⊢; exact H)
  by_cases c4 : 0 ≤ (ji3)
  · rw [if_pos c4] at H
    have c4b0 := eq_true c4
    have c4b1 : decide (0 ≤ (ji3)) = true := decide_eq_true c4
    clear c4
    obtain ⟨ji5, hji5⟩ : ∃ j_ : Int, (shl .u32 a0 (ji3)) = j_ := ⟨_, rfl⟩
    replace H : (if 0 ≤ (IntKind.u64.wrap (32 - (ji3))) then (some (Go.bits .or .u32 (ji5) (shr .u32 a0 (IntKind.u64.wrap (32 - (ji3)))))) else (none)) = some r := by first | (rw [hji5] at H; exact H) | (simp only [hji5] at H ⊢; exact H)
    have hji5_ : (IntKind.u32.wrap (a0 * 2 ^ min (ji3).toNat 32)) = ji5 := hji5
    have hji5z : (ji3) ≤ 32 → (IntKind.u32.wrap (a0 * 2 ^ (ji3).toNat)) = ji5 := shl_small hji5
    obtain ⟨ji6, hji6⟩ : ∃ j_ : Int, (IntKind.u64.wrap (32 - (ji3))) = j_ := ⟨_, rfl⟩
    replace H : (if 0 ≤ (ji6) then (some (Go.bits .or .u32 (ji5) (shr .u32 a0 (ji6)))) else (none)) = some r := by first | (rw [hji6] at H; exact H) | (simp only [hji6] at H ⊢; exact H)
    by_cases c7 : 0 ≤ (ji6)
    · rw [if_pos c7] at H
      have c7b0 := eq_true c7
      have c7b1 : decide (0 ≤ (ji6)) = true := decide_eq_true c7
      clear c7
      obtain ⟨ji8, hji8⟩ : ∃ j_ : Int, (shr .u32 a0 (ji6)) = j_ := ⟨_, rfl⟩
      replace H : (some (Go.bits .or .u32 (ji5) (ji8))) = some r := by first | (rw [hji8] at H; exact H) | (simp only [hji8] at H ⊢; exact H)
      have hji8_ : (a0 / 2 ^ min (ji6).toNat 32) = ji8 := hji8
      have hji8z : (ji6) ≤ 32 → (a0 / 2 ^ (ji6).toNat) = ji8 := shr_small hji8
      obtain rfl := Option.some.inj H
      go_enter Try.func87, Try.ntmps87
      go_wp2
      go_ret
      exact ⟨by first | rfl | (simp; done) | (simp only [← hji3, ← hji5, ← hji6, ← hji8] <;> (first | rfl | simp)) | (simp [*]; done), by repeat (first | exact Drawn0.refl _ | apply Drawn0.step)⟩
    · rw [if_neg c7] at H
      exact absurd H (by simp)
  · rw [if_neg c4] at H
    exact absurd H (by simp)

/-- A state of type 79 at block g of W; what its slices lead to came in by w0. -/
def IsS79 (w0 W : World) (g : Nat) (f0 : Int) (f1 : Int) (f2 : Int) (f3 : Int) : Prop := W.heap[g]? = some (.cells #[.int .u32 f0, .int .u32 f1, .int .u32 f2, .int .u32 f3] 79 (0, 0)) ∧ w0.heap.size ≤ g
theorem IsS79.grown {w0 W : World} {g : Nat} {f0 : Int} {f1 : Int} {f2 : Int} {f3 : Int} {W1 : World} {row : Option Nat} (h : IsS79 w0 W g f0 f1 f2 f3) (hw : W.grownBy W1 row) (hne : some g ≠ row) : IsS79 w0 W1 g f0 f1 f2 f3 := by
  obtain ⟨hb, hg⟩ := h
  exact ⟨blk_grown hb hw hne, hg⟩
theorem IsS79.own_neN {w0 W : World} {g : Nat} {f0 : Int} {f1 : Int} {f2 : Int} {f3 : Int} {α : Type} {d : Kd α} {e : Nat} {base : Nat} {ok : Nat → Prop} {v : Value} {xs : List α} (h : IsS79 w0 W g f0 f1 f2 f3) (ho : Kd.N d e W base ok v xs) (ht : e ≠ 79) : some g ≠ v.ownBlock := by
  obtain ⟨hb, hg⟩ := h
  exact Kd.N_ne ho hb ht
theorem IsS79.fresh {w0 W : World} {g : Nat} {f0 : Int} {f1 : Int} {f2 : Int} {f3 : Int} (h : IsS79 w0 W g f0 f1 f2 f3) : ∀ k, W.heap.size ≤ k → k ≠ g := by
  obtain ⟨hb, hg⟩ := h
  exact Kd.freshB hb
theorem IsS79.kept {w0 W : World} {g : Nat} {f0 : Int} {f1 : Int} {f2 : Int} {f3 : Int} {W1 : World} {S : Nat → Prop} (h : IsS79 w0 W g f0 f1 f2 f3) (hk : Kept W W1 S) (hne : ¬ S g) : IsS79 w0 W1 g f0 f1 f2 f3 := by
  obtain ⟨hb, hg⟩ := h
  exact ⟨blk_kept hb hk hne, hg⟩
theorem IsS79.below {w0 W : World} {g : Nat} {f0 : Int} {f1 : Int} {f2 : Int} {f3 : Int} {W1 : World} (h : IsS79 w0 W g f0 f1 f2 f3) (hw : Below W.heap.size W W1) : IsS79 w0 W1 g f0 f1 f2 f3 := h.grown (grown_of_below hw none) (by simp)
theorem IsS79.alloc {w0 W : World} {g : Nat} {f0 : Int} {f1 : Int} {f2 : Int} {f3 : Int} (h : IsS79 w0 W g f0 f1 f2 f3) (o : Obj) : IsS79 w0 (W.alloc o) g f0 f1 f2 f3 := h.below (below_alloc (Below.refl _ _) o)
theorem IsS79.drewN {w0 W : World} {g : Nat} {f0 : Int} {f1 : Int} {f2 : Int} {f3 : Int} (h : IsS79 w0 W g f0 f1 f2 f3) (m : Nat) : IsS79 w0 (W.drewN m) g f0 f1 f2 f3 := h
theorem IsS79.drew {w0 W : World} {g : Nat} {f0 : Int} {f1 : Int} {f2 : Int} {f3 : Int} (h : IsS79 w0 W g f0 f1 f2 f3) : IsS79 w0 W.drew g f0 f1 f2 f3 := h
theorem IsS79.at_ {w0 W : World} {g : Nat} {f0 : Int} {f1 : Int} {f2 : Int} {f3 : Int} {w' : World} {m : Nat} (hq : W.drewN m = w') (h : IsS79 w0 W g f0 f1 f2 f3) : IsS79 w0 w' g f0 f1 f2 f3 := by subst hq; exact IsS79.drewN h m
theorem IsS79.apart {w0 W : World} {g : Nat} {f0 : Int} {f1 : Int} {f2 : Int} {f3 : Int} {α : Type} {d : Kd α} {e : Nat} {base : Nat} {ok : Nat → Prop} {v : Value} {xs : List α} (h : IsS79 w0 W g f0 f1 f2 f3) (ho : d.R e W base ok v xs) (ht : ∀ q, q ∈ e :: d.E → q ≠ 79) : d.R e W base (fun k => ok k ∧ k ≠ g) v xs := by
  obtain ⟨hb, hg⟩ := h
  exact Kd.R_types ho hb ht
theorem IsS79.own_ne {w0 W : World} {g : Nat} {f0 : Int} {f1 : Int} {f2 : Int} {f3 : Int} {α : Type} {d : Kd α} {e : Nat} {base : Nat} {ok : Nat → Prop} {v : Value} {xs : List α} (h : IsS79 w0 W g f0 f1 f2 f3) (ho : d.R e W base ok v xs) (ht : e ≠ 79) : some g ≠ v.ownBlock := by
  obtain ⟨hb, hg⟩ := h
  exact Kd.R_ne ho hb ht
theorem IsS79.apartQ {w0 W : World} {g : Nat} {f0 : Int} {f1 : Int} {f2 : Int} {f3 : Int} {α : Type} {d : Kd α} {e : Nat} {base : Nat} {ok : Nat → Prop} {v : Value} {xs : List α} (h : IsS79 w0 W g f0 f1 f2 f3) (ho : d.Q e W base ok v xs) (ht : ∀ q, q ∈ e :: d.E → q ≠ 79) : d.Q e W base (fun k => ok k ∧ k ≠ g) v xs := by
  obtain ⟨hb, hg⟩ := h
  exact Kd.Q_types ho hb ht
theorem IsS79.own_neQ {w0 W : World} {g : Nat} {f0 : Int} {f1 : Int} {f2 : Int} {f3 : Int} {α : Type} {d : Kd α} {e : Nat} {base : Nat} {ok : Nat → Prop} {v : Value} {xs : List α} (h : IsS79 w0 W g f0 f1 f2 f3) (ho : d.Q e W base ok v xs) (ht : e ≠ 79) : some g ≠ v.ownBlock := by
  obtain ⟨hb, hg⟩ := h
  exact Kd.Q_ne ho hb ht
theorem IsS79.apartS {w0 W : World} {g : Nat} {f0 : Int} {f1 : Int} {f2 : Int} {f3 : Int} {α : Type} {d : Kd α} {e : Nat} {base : Nat} {ok : Nat → Prop} {v : Value} {xs : List α} (h : IsS79 w0 W g f0 f1 f2 f3) (ho : d.S e W base ok v xs) (ht : ∀ q, q ∈ e :: d.E → q ≠ 79) : d.S e W base (fun k => ok k ∧ k ≠ g) v xs := by
  obtain ⟨hb, hg⟩ := h
  exact Kd.S_types ho hb ht
theorem IsS79.own_neS {w0 W : World} {g : Nat} {f0 : Int} {f1 : Int} {f2 : Int} {f3 : Int} {α : Type} {d : Kd α} {e : Nat} {base : Nat} {ok : Nat → Prop} {v : Value} {xs : List α} (h : IsS79 w0 W g f0 f1 f2 f3) (ho : d.S e W base ok v xs) (ht : e ≠ 79) : some g ≠ v.ownBlock := by
  obtain ⟨hb, hg⟩ := h
  exact Kd.S_ne ho hb ht
theorem IsS79.lt {w0 W : World} {g : Nat} {f0 : Int} {f1 : Int} {f2 : Int} {f3 : Int} (h : IsS79 w0 W g f0 f1 f2 f3) : g < W.heap.size := by
  obtain ⟨hb, hg⟩ := h
  exact blk_lt hb
theorem IsS79.ge {w0 W : World} {g : Nat} {f0 : Int} {f1 : Int} {f2 : Int} {f3 : Int} (h : IsS79 w0 W g f0 f1 f2 f3) : w0.heap.size ≤ g := by
  obtain ⟨hb, hg⟩ := h
  exact hg
theorem IsS79.ne_blk {w0 W : World} {g : Nat} {f0 : Int} {f1 : Int} {f2 : Int} {f3 : Int} {a : Nat} {cs : Array Value} {t : TypeId} {fr : Nat × Nat} (h : IsS79 w0 W g f0 f1 f2 f3) (hb2 : W.heap[a]? = some (.cells cs t fr)) (ht : t ≠ 79) : g ≠ a := by
  obtain ⟨hb, hg⟩ := h
  rintro rfl
  rw [hb] at hb2
  injection hb2 with hb2
  injection hb2 with _ ht2
  exact ht ht2.symm
theorem IsS79.far {w0 W : World} {g : Nat} {f0 : Int} {f1 : Int} {f2 : Int} {f3 : Int} {p : Addr} (h : IsS79 w0 W g f0 f1 f2 f3) (hne : g ≠ p.block) (u : Value) : IsS79 w0 (W.setCell p u) g f0 f1 f2 f3 := by
  obtain ⟨hb, hg⟩ := h
  exact ⟨blk_far hb hne u, hg⟩
theorem cellS79_0 {W : World} {g : Nat} {f0 : Int} {f1 : Int} {f2 : Int} {f3 : Int} (h : W.heap[g]? = some (.cells #[.int .u32 f0, .int .u32 f1, .int .u32 f2, .int .u32 f3] 79 (0, 0))) : W.cell? ⟨g, 0, none⟩ = some (.int .u32 f0) := (blk_cell h 0).trans rfl
theorem IsS79.set_0 {w0 W : World} {g : Nat} {f0 : Int} {f1 : Int} {f2 : Int} {f3 : Int} (h : IsS79 w0 W g f0 f1 f2 f3) (x : Int) : IsS79 w0 (W.setCell ⟨g, 0, none⟩ (.int .u32 x)) g x f1 f2 f3 := by
  obtain ⟨hb, hg⟩ := h
  exact ⟨by simpa using blk_set hb 0 (.int .u32 x), hg⟩
theorem cellS79_1 {W : World} {g : Nat} {f0 : Int} {f1 : Int} {f2 : Int} {f3 : Int} (h : W.heap[g]? = some (.cells #[.int .u32 f0, .int .u32 f1, .int .u32 f2, .int .u32 f3] 79 (0, 0))) : W.cell? ⟨g, 1, none⟩ = some (.int .u32 f1) := (blk_cell h 1).trans rfl
theorem IsS79.set_1 {w0 W : World} {g : Nat} {f0 : Int} {f1 : Int} {f2 : Int} {f3 : Int} (h : IsS79 w0 W g f0 f1 f2 f3) (x : Int) : IsS79 w0 (W.setCell ⟨g, 1, none⟩ (.int .u32 x)) g f0 x f2 f3 := by
  obtain ⟨hb, hg⟩ := h
  exact ⟨by simpa using blk_set hb 1 (.int .u32 x), hg⟩
theorem cellS79_2 {W : World} {g : Nat} {f0 : Int} {f1 : Int} {f2 : Int} {f3 : Int} (h : W.heap[g]? = some (.cells #[.int .u32 f0, .int .u32 f1, .int .u32 f2, .int .u32 f3] 79 (0, 0))) : W.cell? ⟨g, 2, none⟩ = some (.int .u32 f2) := (blk_cell h 2).trans rfl
theorem IsS79.set_2 {w0 W : World} {g : Nat} {f0 : Int} {f1 : Int} {f2 : Int} {f3 : Int} (h : IsS79 w0 W g f0 f1 f2 f3) (x : Int) : IsS79 w0 (W.setCell ⟨g, 2, none⟩ (.int .u32 x)) g f0 f1 x f3 := by
  obtain ⟨hb, hg⟩ := h
  exact ⟨by simpa using blk_set hb 2 (.int .u32 x), hg⟩
theorem cellS79_3 {W : World} {g : Nat} {f0 : Int} {f1 : Int} {f2 : Int} {f3 : Int} (h : W.heap[g]? = some (.cells #[.int .u32 f0, .int .u32 f1, .int .u32 f2, .int .u32 f3] 79 (0, 0))) : W.cell? ⟨g, 3, none⟩ = some (.int .u32 f3) := (blk_cell h 3).trans rfl
theorem IsS79.set_3 {w0 W : World} {g : Nat} {f0 : Int} {f1 : Int} {f2 : Int} {f3 : Int} (h : IsS79 w0 W g f0 f1 f2 f3) (x : Int) : IsS79 w0 (W.setCell ⟨g, 3, none⟩ (.int .u32 x)) g f0 f1 f2 x := by
  obtain ⟨hb, hg⟩ := h
  exact ⟨by simpa using blk_set hb 3 (.int .u32 x), hg⟩
theorem IsS79.new (w0 W : World) (f0 : Int) (f1 : Int) (f2 : Int) (f3 : Int) (hB : Below w0.heap.size w0 W) : IsS79 w0 (W.alloc (.cells #[.int .u32 f0, .int .u32 f1, .int .u32 f2, .int .u32 f3] 79)) W.heap.size f0 f1 f2 f3 := ⟨by simpa using heap_alloc_new W _, hB.size⟩

/-! ### impl_stirrer_stir: function 79 -/
def impl_stirrer_stir.l0 : Nat → List Int → Int → Int → Int → Int → Int → Int → Option (Int × Int × Int × Int)
  | 0, _, _, _, _, _, _, _ => none
  | k + 1, x6, x7, x8, x1000, x1001, x1002, x1003 => if x8 < x7 then (if 0 ≤ x8 then (if x8 < (x6.length : Int) then ((bits_RotateLeft32.f ((x1001 + (((Go.bits .xor .u32 x1000 ((rd x6 x8) % 4294967296)) * 16777619) % 4294967296)) % 4294967296) 7).bind fun t270 => ((bits_RotateLeft32.f (Go.bits .xor .u32 x1002 t270) 13).bind fun t271 => ((bits_RotateLeft32.f ((x1003 + t271) % 4294967296) 17).bind fun t272 => (impl_stirrer_stir.l0 k x6 x7 (wrap64 (x8 + 1)) (Go.bits .xor .u32 (((Go.bits .xor .u32 x1000 ((rd x6 x8) % 4294967296)) * 16777619) % 4294967296) t272) t270 t271 t272)))) else (none)) else (none)) else (some (x1000, x1001, x1002, x1003))
def impl_stirrer_stir.f (k : Nat) (s0_0 : Int) (s0_1 : Int) (s0_2 : Int) (s0_3 : Int) (l1 : List Int) : Option (Int × Int × Int × Int) := impl_stirrer_stir.l0 k l1 (l1.length : Int) 0 s0_0 s0_1 s0_2 s0_3
theorem impl_stirrer_stir.mono_l : ∀ k, (∀ y0 y1 y2 y3 y4 y5 y6, LeO (impl_stirrer_stir.l0 k y0 y1 y2 y3 y4 y5 y6) (impl_stirrer_stir.l0 (k + 1) y0 y1 y2 y3 y4 y5 y6))
  | 0 => fun _ _ _ _ _ _ _ r h => by simp [impl_stirrer_stir.l0] at h
  | k + 1 => by
    have ih0 := impl_stirrer_stir.mono_l k
    · intro y0 y1 y2 y3 y4 y5 y6
      unfold impl_stirrer_stir.l0
      repeat' first
      | (with_reducible exact ih0 _ _ _ _ _ _ _)
      | (with_reducible exact LeO.refl _)
      | (with_reducible exact LeO.none _)
      | (with_reducible refine LeO.ite ?_ ?_)
      | (with_reducible refine LeO.bind ?_ (fun _ => ?_))
      | exact ih0 _ _ _ _ _ _ _
      | exact LeO.none _
      | refine LeO.ite ?_ ?_
      | refine LeO.bind ?_ (fun _ => ?_)
theorem impl_stirrer_stir.mono : ∀ a0 a1 a2 a3 a4 k, LeO (impl_stirrer_stir.f k a0 a1 a2 a3 a4) (impl_stirrer_stir.f (k + 1) a0 a1 a2 a3 a4) := by
  intro a0 a1 a2 a3 a4 k
  have ih0 := impl_stirrer_stir.mono_l k
  unfold impl_stirrer_stir.f
  repeat' first
      | (with_reducible exact ih0 _ _ _ _ _ _ _)
      | (with_reducible exact LeO.refl _)
      | (with_reducible exact LeO.none _)
      | (with_reducible refine LeO.ite ?_ ?_)
      | (with_reducible refine LeO.bind ?_ (fun _ => ?_))
      | exact ih0 _ _ _ _ _ _ _
      | exact LeO.none _
      | refine LeO.ite ?_ ?_
      | refine LeO.bind ?_ (fun _ => ?_)
set_option maxHeartbeats 8000000 in
set_option maxRecDepth 100000 in
theorem impl_stirrer_stir.calls (k : Nat) (g : Nat) (s0_0 : Int) (s0_1 : Int) (s0_2 : Int) (s0_3 : Int) (A1 : Option Addr) (c1 : Nat) (l1 : List Int) (r1 : Int) (r2 : Int) (r3 : Int) (r4 : Int) (w0 w : World) (hI : IsS79 w0 w g s0_0 s0_1 s0_2 s0_3) (hB : Below w0.heap.size w0 w) (hr1 : Kd.C (Kd.int .u8) w A1 l1.length l1) (hc1 : l1.length ≤ c1) (hf1 : ∀ ad, A1 = some ad → 0 < l1.length → ad.block ≠ g) (h : impl_stirrer_stir.f k s0_0 s0_1 s0_2 s0_3 l1 = some (r1, r2, r3, r4)) :
    Calls Try.prog 79 #[.pointer (some ⟨g, 0, none⟩), .slice A1 l1.length c1] w fun e w' => e = .returned (.tuple #[]) ∧ IsS79 w0 w' g r1 r2 r3 r4 ∧ Below w0.heap.size w0 w' ∧ KeepBut w w' g none := by
  have HR1 := Aside0.mk hr1
  have HC1 := Aside0.mk hc1
  clear hr1 hc1
  have HI0 := Aside0.mk hI
  have HK := Aside0.mk (KeepBut.refl w g none)
  have HL := Aside0.mk hB.size
  clear hI
  have HW0 := Aside0.mk hB.size
  have HB := Aside0.mk hB
  clear hB
  have H : (impl_stirrer_stir.l0 k l1 (l1.length : Int) 0 s0_0 s0_1 s0_2 s0_3) = some (r1, r2, r3, r4) := h
  clear h
  have H' := Aside0.mk H
  clear H
  go_enter Try.func79, Try.ntmps79
  go_wp2
  go_loopg [8] k (fun kq v8 w' => ∃ (x8_1 : Int) (x1000_1 : Int) (x1001_1 : Int) (x1002_1 : Int) (x1003_1 : Int), v8 = .int .i64 x8_1 ∧ Aside0 (impl_stirrer_stir.l0 kq l1 (l1.length : Int) x8_1 x1000_1 x1001_1 x1002_1 x1003_1 = some (r1, r2, r3, r4)) ∧ Aside0 (kq ≤ k) ∧ Aside0 (IsS79 w0 w' g x1000_1 x1001_1 x1002_1 x1003_1) ∧ Aside0 (KeepBut w w' g none) ∧ Aside0 (Below w0.heap.size w0 w'))
  case atStart => exact ⟨(0), (s0_0), (s0_1), (s0_2), (s0_3), (by first | rfl | (simp; done) | (simp [*]; done)), H', ⟨Nat.le_refl _⟩, ⟨by repeat (first | (with_reducible first | exact HI0.out | apply IsS79.alloc | apply IsS79.drewN | apply IsS79.drew | apply IsS79.set_0 | apply IsS79.set_1 | apply IsS79.set_2 | apply IsS79.set_3) | exact HI0.out)⟩, ⟨by repeat (first | (with_reducible first | exact HK.out | apply KeepBut.set_ | apply keep_drewN | apply keep_drew | apply keep_alloc) | exact HK.out)⟩, ⟨by repeat (first | (with_reducible first | exact HB.out | apply below_alloc | apply pw_below_drewN | apply below_drew1 | refine below_set ?_ (IsS79.ge HI0.out)) | exact HB.out)⟩⟩
  case round =>
    clear H'
    try clear c1
    try clear p2
    obtain ⟨x8_1, x1000_1, x1001_1, x1002_1, x1003_1, rfl, HA, HK1, HI0, HK, HB⟩ := hrel
    cases gk with
    | zero => exact absurd HA.out (by simp [impl_stirrer_stir.l0])
    | succ k1 =>
      have H := HA.out
      clear HA
      simp only [impl_stirrer_stir.l0] at H
      by_cases c3 : x8_1 < (l1.length : Int)
      · rw [if_pos c3] at H
        have c3b0 : decide (x8_1 < (l1.length : Int)) = true := decide_eq_true c3
        clear c3
        by_cases c4 : 0 ≤ x8_1
        · rw [if_pos c4] at H
          have c4b0 : decide (0 ≤ x8_1) = true := decide_eq_true c4
          clear c4
          by_cases c5 : x8_1 < (l1.length : Int)
          · rw [if_pos c5] at H
            have c5b0 : decide (x8_1 < (l1.length : Int)) = true := decide_eq_true c5
            clear c5
            replace H := Option.bind_eq_some_iff.mp H
            obtain ⟨t270, A60, H⟩ := H
            replace H : ((bits_RotateLeft32.f (Go.bits .xor .u32 x1002_1 t270) 13).bind fun t271 => ((bits_RotateLeft32.f ((x1003_1 + t271) % 4294967296) 17).bind fun t272 => (impl_stirrer_stir.l0 k1 l1 (l1.length : Int) (wrap64 (x8_1 + 1)) (Go.bits .xor .u32 (((Go.bits .xor .u32 x1000_1 ((rd l1 x8_1) % 4294967296)) * 16777619) % 4294967296) t272) t270 t271 t272))) = some (r1, r2, r3, r4) := H
            have A6 := Aside0.mk A60
            clear A60
            replace H := Option.bind_eq_some_iff.mp H
            obtain ⟨t271, A70, H⟩ := H
            replace H : ((bits_RotateLeft32.f ((x1003_1 + t271) % 4294967296) 17).bind fun t272 => (impl_stirrer_stir.l0 k1 l1 (l1.length : Int) (wrap64 (x8_1 + 1)) (Go.bits .xor .u32 (((Go.bits .xor .u32 x1000_1 ((rd l1 x8_1) % 4294967296)) * 16777619) % 4294967296) t272) t270 t271 t272)) = some (r1, r2, r3, r4) := H
            have A7 := Aside0.mk A70
            clear A70
            replace H := Option.bind_eq_some_iff.mp H
            obtain ⟨t272, A80, H⟩ := H
            replace H : (impl_stirrer_stir.l0 k1 l1 (l1.length : Int) (wrap64 (x8_1 + 1)) (Go.bits .xor .u32 (((Go.bits .xor .u32 x1000_1 ((rd l1 x8_1) % 4294967296)) * 16777619) % 4294967296) t272) t270 t271 t272) = some (r1, r2, r3, r4) := H
            have A8 := Aside0.mk A80
            clear A80
            have H' := Aside0.mk H
            clear H
            have p269 : 0 ≤ (x8_1 : Int) := of_decide_eq_true (by first | (with_reducible assumption) | assumption)
            have q269 : x8_1 < (l1.length : Int) := of_decide_eq_true (by first | (with_reducible assumption) | assumption)
            obtain ⟨ad269, e269, hx269_0⟩ := Kd.at_int HR1.out x8_1 p269 q269
            cases e269
            replace hx269_0 := keep_cell HK.out hx269_0 (by first | (rw [add_block]; exact hf1 _ rfl (by omega)) | exact hf1 _ rfl (by omega) | exact hf1 ad269 rfl (by omega))
            replace p269 := eq_true p269
            replace q269 := eq_true q269
            obtain ⟨HGz9, hgz9⟩ := HI0.out
            have hcz9_0 := cellS79_0 HGz9
            have hcz9_1 := cellS79_1 HGz9
            have hcz9_2 := cellS79_2 HGz9
            have hcz9_3 := cellS79_3 HGz9
            have hfz9_0 := blk_frozen HGz9 0
            have hfz9_1 := blk_frozen HGz9 1
            have hfz9_2 := blk_frozen HGz9 2
            have hfz9_3 := blk_frozen HGz9 3
            clear HGz9 hgz9
            go_wp2
            clear hcz9_0 hfz9_0 hcz9_1 hfz9_1 hcz9_2 hfz9_2 hcz9_3 hfz9_3
            have m0_ : Aside0 (IsS79 w0 (World.setCell wr ⟨g, 0, none⟩ (.int .u32 ((((Go.bits .xor .u32 x1000_1 ((rd l1 x8_1) % 4294967296)) * 16777619) % 4294967296)))) g ((((Go.bits .xor .u32 x1000_1 ((rd l1 x8_1) % 4294967296)) * 16777619) % 4294967296)) (x1001_1) (x1002_1) (x1003_1)) := ⟨IsS79.set_0 HI0.out _⟩
            have m1_ : Aside0 (KeepBut w (World.setCell wr ⟨g, 0, none⟩ (.int .u32 ((((Go.bits .xor .u32 x1000_1 ((rd l1 x8_1) % 4294967296)) * 16777619) % 4294967296)))) g none) := ⟨by first | exact KeepBut.set_ HK.out _ _ | (apply KeepBut.set_; exact HK.out)⟩
            have m2_ : Aside0 (Below w0.heap.size w0 (World.setCell wr ⟨g, 0, none⟩ (.int .u32 ((((Go.bits .xor .u32 x1000_1 ((rd l1 x8_1) % 4294967296)) * 16777619) % 4294967296))))) := ⟨below_set HB.out (IsS79.ge HI0.out)⟩
            clear HI0 HK HB
            have HI0 := m0_
            have HK := m1_
            have HB := m2_
            clear m0_ m1_ m2_
            generalize World.setCell wr ⟨g, 0, none⟩ (.int .u32 ((((Go.bits .xor .u32 x1000_1 ((rd l1 x8_1) % 4294967296)) * 16777619) % 4294967296))) = wa at HI0 HK HB ⊢
            obtain ⟨HG_, hg_⟩ := HI0.out
            have hc_0 := cellS79_0 HG_
            have hc_1 := cellS79_1 HG_
            have hc_2 := cellS79_2 HG_
            have hc_3 := cellS79_3 HG_
            have hf_0 := blk_frozen HG_ 0
            have hf_1 := blk_frozen HG_ 1
            have hf_2 := blk_frozen HG_ 2
            have hf_3 := blk_frozen HG_ 3
            clear HG_ hg_
            refine start_ (n := 14) (S := fun w' => w'.cell? ⟨g, 1, none⟩ = some (.int .u32 (x1001_1)) ∧ w'.cell? ⟨g, 0, none⟩ = some (.int .u32 ((((Go.bits .xor .u32 x1000_1 ((rd l1 x8_1) % 4294967296)) * 16777619) % 4294967296)))) (ds := [13]) #[false, false, false, false, false, false, false, false, false, false, false, false, false, false] (by kernel_rfl) rfl rfl ⟨hc_1, hc_0⟩ (fun hHeld => ?_)
            clear hc_0 hf_0 hc_1 hf_1 hc_2 hf_2 hc_3 hf_3
            have m0_ : Aside0 (IsS79 w0 (wa.drew) g ((((Go.bits .xor .u32 x1000_1 ((rd l1 x8_1) % 4294967296)) * 16777619) % 4294967296)) (x1001_1) (x1002_1) (x1003_1)) := ⟨IsS79.drew HI0.out⟩
            have m1_ : Aside0 (KeepBut w (wa.drew) g none) := ⟨by first | exact keep_drew HK.out | (apply keep_drew; exact HK.out)⟩
            have m2_ : Aside0 (Below w0.heap.size w0 (wa.drew)) := ⟨below_drew1 HB.out⟩
            clear HI0 HK HB
            have HI0 := m0_
            have HK := m1_
            have HB := m2_
            clear m0_ m1_ m2_
            generalize wa.drew = wd4 at HI0 HK HB hHeld ⊢
            refine pure_ (i := 0) (N := some 23) (v := ?_) (a' := ?_) #[true, false, false, false, false, false, false, false, false, false, false, false, false, false] rfl rfl (by kernel_rfl) (fun _ _ _ h => h) (Or.inl ⟨by rfl, ?_⟩) ?_ ?_
            rotate_left
            · intro w'
              go_simp
              with_reducible rfl
            rotate_left
            · simp only [Act.put, List.setIfInBounds_toArray, List.set_cons_zero, List.set_cons_succ, i64_w, i32_w, IntKind.wrap_u32]
              rfl
            refine pure_ (i := 1) (N := some 24) (v := ?_) (a' := ?_) #[true, true, false, false, false, false, false, false, false, false, false, false, false, false] rfl rfl (by kernel_rfl) (fun _ _ _ h => h) (Or.inl ⟨by rfl, ?_⟩) ?_ ?_
            rotate_left
            · intro w'
              go_simp
              with_reducible rfl
            rotate_left
            · simp only [Act.put, List.setIfInBounds_toArray, List.set_cons_zero, List.set_cons_succ, i64_w, i32_w, IntKind.wrap_u32]
              rfl
            refine pure_ (i := 2) (N := some 25) (v := ?_) (a' := ?_) #[true, true, true, false, false, false, false, false, false, false, false, false, false, false] rfl rfl (by kernel_rfl) (fun _ _ _ h => h) (Or.inl ⟨by rfl, ?_⟩) ?_ ?_
            rotate_left
            · intro w'
              go_simp
              with_reducible rfl
            rotate_left
            · simp only [Act.put, List.setIfInBounds_toArray, List.set_cons_zero, List.set_cons_succ, i64_w, i32_w, IntKind.wrap_u32]
              rfl
            refine pure_ (i := 3) (N := some 26) (v := ?_) (a' := ?_) #[true, true, true, true, false, false, false, false, false, false, false, false, false, false] rfl rfl (by kernel_rfl) (fun _ _ _ h => h) (Or.inl ⟨by rfl, ?_⟩) ?_ ?_
            rotate_left
            · intro w'
              go_simp
              with_reducible rfl
            rotate_left
            · simp only [Act.put, List.setIfInBounds_toArray, List.set_cons_zero, List.set_cons_succ, i64_w, i32_w, IntKind.wrap_u32]
              rfl
            refine take_ (i := 4) (N := some 27) (v := ?_) (a' := ?_) #[true, true, true, true, true, false, false, false, false, false, false, false, false, false] rfl rfl (by kernel_rfl) (fun _ _ _ h => h) (Or.inl ⟨by rfl, ?_⟩) hHeld ?_ ?_
            rotate_left
            · intro w' s0
              obtain ⟨s0, s1⟩ := s0
              go_simp
              with_reducible rfl
            rotate_left
            · simp only [Act.put, List.setIfInBounds_toArray, List.set_cons_zero, List.set_cons_succ, i64_w, i32_w, IntKind.wrap_u32]
              rfl
            refine pure_ (i := 5) (N := some 28) (v := ?_) (a' := ?_) #[true, true, true, true, true, true, false, false, false, false, false, false, false, false] rfl rfl (by kernel_rfl) (fun _ _ _ h => h) (Or.inl ⟨by rfl, ?_⟩) ?_ ?_
            rotate_left
            · intro w'
              go_simp
              with_reducible rfl
            rotate_left
            · simp only [Act.put, List.setIfInBounds_toArray, List.set_cons_zero, List.set_cons_succ, i64_w, i32_w, IntKind.wrap_u32]
              rfl
            refine pure_ (i := 6) (N := some 29) (v := ?_) (a' := ?_) #[true, true, true, true, true, true, true, false, false, false, false, false, false, false] rfl rfl (by kernel_rfl) (fun _ _ _ h => h) (Or.inl ⟨by rfl, ?_⟩) ?_ ?_
            rotate_left
            · intro w'
              go_simp
              with_reducible rfl
            rotate_left
            · simp only [Act.put, List.setIfInBounds_toArray, List.set_cons_zero, List.set_cons_succ, i64_w, i32_w, IntKind.wrap_u32]
              rfl
            refine pure_ (i := 7) (N := some 30) (v := ?_) (a' := ?_) #[true, true, true, true, true, true, true, true, false, false, false, false, false, false] rfl rfl (by kernel_rfl) (fun _ _ _ h => h) (Or.inl ⟨by rfl, ?_⟩) ?_ ?_
            rotate_left
            · intro w'
              go_simp
              with_reducible rfl
            rotate_left
            · simp only [Act.put, List.setIfInBounds_toArray, List.set_cons_zero, List.set_cons_succ, i64_w, i32_w, IntKind.wrap_u32]
              rfl
            refine take_ (i := 8) (N := some 31) (v := ?_) (a' := ?_) #[true, true, true, true, true, true, true, true, true, false, false, false, false, false] rfl rfl (by kernel_rfl) (fun _ _ _ h => h) (Or.inl ⟨by rfl, ?_⟩) hHeld ?_ ?_
            rotate_left
            · intro w' s0
              obtain ⟨s0, s1⟩ := s0
              go_simp
              with_reducible rfl
            rotate_left
            · simp only [Act.put, List.setIfInBounds_toArray, List.set_cons_zero, List.set_cons_succ, i64_w, i32_w, IntKind.wrap_u32]
              rfl
            refine pure_ (i := 9) (N := some 32) (v := ?_) (a' := ?_) #[true, true, true, true, true, true, true, true, true, true, false, false, false, false] rfl rfl (by kernel_rfl) (fun _ _ _ h => h) (Or.inl ⟨by rfl, ?_⟩) ?_ ?_
            rotate_left
            · intro w'
              go_simp
              with_reducible rfl
            rotate_left
            · simp only [Act.put, List.setIfInBounds_toArray, List.set_cons_zero, List.set_cons_succ, i64_w, i32_w, IntKind.wrap_u32]
              rfl
            refine one_ (i := 10) (N := some 33) #[true, true, true, true, true, true, true, true, true, true, true, false, false, false] rfl rfl (by kernel_rfl) (by decide) (fun K hK => ?_)
            refine goes_ Try.func87 (by kernel_rfl) rfl #[.int .u32 ((x1001_1 + (((Go.bits .xor .u32 x1000_1 ((rd l1 x8_1) % 4294967296)) * 16777619) % 4294967296)) % 4294967296), .int .i64 7] (by rfl) rfl rfl (by (try simp only [List.map_toArray, List.map_cons, List.map_nil]); first | done | rfl) ?_
            refine (bits_RotateLeft32.calls ((x1001_1 + (((Go.bits .xor .u32 x1000_1 ((rd l1 x8_1) % 4294967296)) * 16777619) % 4294967296)) % 4294967296) 7 t270 _ A6.out).mono ?_
            rintro e w' ⟨rfl, ⟨nd, rfl⟩⟩
            refine ⟨_, rfl, hK.out _ _ hHeld (fun hHeld => ?_)⟩
            clear hK K
            have m0_ : Aside0 (IsS79 w0 (World.drewN wd4 nd) g ((((Go.bits .xor .u32 x1000_1 ((rd l1 x8_1) % 4294967296)) * 16777619) % 4294967296)) (x1001_1) (x1002_1) (x1003_1)) := ⟨IsS79.drewN HI0.out _⟩
            have m1_ : Aside0 (KeepBut w (World.drewN wd4 nd) g none) := ⟨by first | exact keep_drewN HK.out _ | (apply keep_drewN; exact HK.out)⟩
            have m2_ : Aside0 (Below w0.heap.size w0 (World.drewN wd4 nd)) := ⟨pw_below_drewN HB.out _⟩
            clear HI0 HK HB
            have HI0 := m0_
            have HK := m1_
            have HB := m2_
            clear m0_ m1_ m2_
            generalize World.drewN wd4 nd = wn4 at HI0 HK HB hHeld ⊢
            refine pure_ (i := 11) (N := some 34) (v := ?_) (a' := ?_) #[true, true, true, true, true, true, true, true, true, true, true, true, false, false] rfl rfl (by kernel_rfl) (fun _ _ _ h => h) (Or.inl ⟨by rfl, ?_⟩) ?_ ?_
            rotate_left
            · intro w'
              go_simp
              with_reducible rfl
            rotate_left
            · simp only [Act.put, List.setIfInBounds_toArray, List.set_cons_zero, List.set_cons_succ, i64_w, i32_w, IntKind.wrap_u32]
              rfl
            refine pure_ (i := 12) (N := some 35) (v := ?_) (a' := ?_) #[true, true, true, true, true, true, true, true, true, true, true, true, true, false] rfl rfl (by kernel_rfl) (fun _ _ _ h => h) (Or.inl ⟨by rfl, ?_⟩) ?_ ?_
            rotate_left
            · intro w'
              go_simp
              with_reducible rfl
            rotate_left
            · simp only [Act.put, List.setIfInBounds_toArray, List.set_cons_zero, List.set_cons_succ, i64_w, i32_w, IntKind.wrap_u32]
              rfl
            clear hHeld
            obtain ⟨HG_, hg_⟩ := HI0.out
            have hc_0 := cellS79_0 HG_
            have hc_1 := cellS79_1 HG_
            have hc_2 := cellS79_2 HG_
            have hc_3 := cellS79_3 HG_
            have hf_0 := blk_frozen HG_ 0
            have hf_1 := blk_frozen HG_ 1
            have hf_2 := blk_frozen HG_ 2
            have hf_3 := blk_frozen HG_ 3
            clear HG_ hg_
            refine last_ (i := 13) (N := none) #[true, true, true, true, true, true, true, true, true, true, true, true, true, true] rfl rfl (by kernel_rfl) (by decide) (fun K hK => ?_)
            refine skip_ (w1 := ?_) (by rfl) rfl ?_ ?_
            rotate_left
            · go_simp
              rfl
            refine hK.out _ _ ?_
            clear hK K
            clear hc_0 hf_0 hc_1 hf_1 hc_2 hf_2 hc_3 hf_3
            refine done_ (by kernel_rfl) ?_
            have m0_ : Aside0 (IsS79 w0 (World.setCell wn4 ⟨g, 1, none⟩ (.int .u32 (t270))) g ((((Go.bits .xor .u32 x1000_1 ((rd l1 x8_1) % 4294967296)) * 16777619) % 4294967296)) (t270) (x1002_1) (x1003_1)) := ⟨IsS79.set_1 HI0.out _⟩
            have m1_ : Aside0 (KeepBut w (World.setCell wn4 ⟨g, 1, none⟩ (.int .u32 (t270))) g none) := ⟨by first | exact KeepBut.set_ HK.out _ _ | (apply KeepBut.set_; exact HK.out)⟩
            have m2_ : Aside0 (Below w0.heap.size w0 (World.setCell wn4 ⟨g, 1, none⟩ (.int .u32 (t270)))) := ⟨below_set HB.out (IsS79.ge HI0.out)⟩
            clear HI0 HK HB
            have HI0 := m0_
            have HK := m1_
            have HB := m2_
            clear m0_ m1_ m2_
            generalize World.setCell wn4 ⟨g, 1, none⟩ (.int .u32 (t270)) = ws4 at HI0 HK HB ⊢
            go_wp2
            obtain ⟨HG_, hg_⟩ := HI0.out
            have hc_0 := cellS79_0 HG_
            have hc_1 := cellS79_1 HG_
            have hc_2 := cellS79_2 HG_
            have hc_3 := cellS79_3 HG_
            have hf_0 := blk_frozen HG_ 0
            have hf_1 := blk_frozen HG_ 1
            have hf_2 := blk_frozen HG_ 2
            have hf_3 := blk_frozen HG_ 3
            clear HG_ hg_
            refine start_ (n := 14) (S := fun w' => w'.cell? ⟨g, 2, none⟩ = some (.int .u32 (x1002_1)) ∧ w'.cell? ⟨g, 1, none⟩ = some (.int .u32 (t270))) (ds := [13]) #[false, false, false, false, false, false, false, false, false, false, false, false, false, false] (by kernel_rfl) rfl rfl ⟨hc_2, hc_1⟩ (fun hHeld => ?_)
            clear hc_0 hf_0 hc_1 hf_1 hc_2 hf_2 hc_3 hf_3
            have m0_ : Aside0 (IsS79 w0 (ws4.drew) g ((((Go.bits .xor .u32 x1000_1 ((rd l1 x8_1) % 4294967296)) * 16777619) % 4294967296)) (t270) (x1002_1) (x1003_1)) := ⟨IsS79.drew HI0.out⟩
            have m1_ : Aside0 (KeepBut w (ws4.drew) g none) := ⟨by first | exact keep_drew HK.out | (apply keep_drew; exact HK.out)⟩
            have m2_ : Aside0 (Below w0.heap.size w0 (ws4.drew)) := ⟨below_drew1 HB.out⟩
            clear HI0 HK HB
            have HI0 := m0_
            have HK := m1_
            have HB := m2_
            clear m0_ m1_ m2_
            generalize ws4.drew = wd5 at HI0 HK HB hHeld ⊢
            refine pure_ (i := 0) (N := some 36) (v := ?_) (a' := ?_) #[true, false, false, false, false, false, false, false, false, false, false, false, false, false] rfl rfl (by kernel_rfl) (fun _ _ _ h => h) (Or.inl ⟨by rfl, ?_⟩) ?_ ?_
            rotate_left
            · intro w'
              go_simp
              with_reducible rfl
            rotate_left
            · simp only [Act.put, List.setIfInBounds_toArray, List.set_cons_zero, List.set_cons_succ, i64_w, i32_w, IntKind.wrap_u32]
              rfl
            refine pure_ (i := 1) (N := some 37) (v := ?_) (a' := ?_) #[true, true, false, false, false, false, false, false, false, false, false, false, false, false] rfl rfl (by kernel_rfl) (fun _ _ _ h => h) (Or.inl ⟨by rfl, ?_⟩) ?_ ?_
            rotate_left
            · intro w'
              go_simp
              with_reducible rfl
            rotate_left
            · simp only [Act.put, List.setIfInBounds_toArray, List.set_cons_zero, List.set_cons_succ, i64_w, i32_w, IntKind.wrap_u32]
              rfl
            refine pure_ (i := 2) (N := some 38) (v := ?_) (a' := ?_) #[true, true, true, false, false, false, false, false, false, false, false, false, false, false] rfl rfl (by kernel_rfl) (fun _ _ _ h => h) (Or.inl ⟨by rfl, ?_⟩) ?_ ?_
            rotate_left
            · intro w'
              go_simp
              with_reducible rfl
            rotate_left
            · simp only [Act.put, List.setIfInBounds_toArray, List.set_cons_zero, List.set_cons_succ, i64_w, i32_w, IntKind.wrap_u32]
              rfl
            refine pure_ (i := 3) (N := some 39) (v := ?_) (a' := ?_) #[true, true, true, true, false, false, false, false, false, false, false, false, false, false] rfl rfl (by kernel_rfl) (fun _ _ _ h => h) (Or.inl ⟨by rfl, ?_⟩) ?_ ?_
            rotate_left
            · intro w'
              go_simp
              with_reducible rfl
            rotate_left
            · simp only [Act.put, List.setIfInBounds_toArray, List.set_cons_zero, List.set_cons_succ, i64_w, i32_w, IntKind.wrap_u32]
              rfl
            refine take_ (i := 4) (N := some 40) (v := ?_) (a' := ?_) #[true, true, true, true, true, false, false, false, false, false, false, false, false, false] rfl rfl (by kernel_rfl) (fun _ _ _ h => h) (Or.inl ⟨by rfl, ?_⟩) hHeld ?_ ?_
            rotate_left
            · intro w' s0
              obtain ⟨s0, s1⟩ := s0
              go_simp
              with_reducible rfl
            rotate_left
            · simp only [Act.put, List.setIfInBounds_toArray, List.set_cons_zero, List.set_cons_succ, i64_w, i32_w, IntKind.wrap_u32]
              rfl
            refine pure_ (i := 5) (N := some 41) (v := ?_) (a' := ?_) #[true, true, true, true, true, true, false, false, false, false, false, false, false, false] rfl rfl (by kernel_rfl) (fun _ _ _ h => h) (Or.inl ⟨by rfl, ?_⟩) ?_ ?_
            rotate_left
            · intro w'
              go_simp
              with_reducible rfl
            rotate_left
            · simp only [Act.put, List.setIfInBounds_toArray, List.set_cons_zero, List.set_cons_succ, i64_w, i32_w, IntKind.wrap_u32]
              rfl
            refine pure_ (i := 6) (N := some 42) (v := ?_) (a' := ?_) #[true, true, true, true, true, true, true, false, false, false, false, false, false, false] rfl rfl (by kernel_rfl) (fun _ _ _ h => h) (Or.inl ⟨by rfl, ?_⟩) ?_ ?_
            rotate_left
            · intro w'
              go_simp
              with_reducible rfl
            rotate_left
            · simp only [Act.put, List.setIfInBounds_toArray, List.set_cons_zero, List.set_cons_succ, i64_w, i32_w, IntKind.wrap_u32]
              rfl
            refine pure_ (i := 7) (N := some 43) (v := ?_) (a' := ?_) #[true, true, true, true, true, true, true, true, false, false, false, false, false, false] rfl rfl (by kernel_rfl) (fun _ _ _ h => h) (Or.inl ⟨by rfl, ?_⟩) ?_ ?_
            rotate_left
            · intro w'
              go_simp
              with_reducible rfl
            rotate_left
            · simp only [Act.put, List.setIfInBounds_toArray, List.set_cons_zero, List.set_cons_succ, i64_w, i32_w, IntKind.wrap_u32]
              rfl
            refine take_ (i := 8) (N := some 44) (v := ?_) (a' := ?_) #[true, true, true, true, true, true, true, true, true, false, false, false, false, false] rfl rfl (by kernel_rfl) (fun _ _ _ h => h) (Or.inl ⟨by rfl, ?_⟩) hHeld ?_ ?_
            rotate_left
            · intro w' s0
              obtain ⟨s0, s1⟩ := s0
              go_simp
              with_reducible rfl
            rotate_left
            · simp only [Act.put, List.setIfInBounds_toArray, List.set_cons_zero, List.set_cons_succ, i64_w, i32_w, IntKind.wrap_u32]
              rfl
            refine pure_ (i := 9) (N := some 45) (v := ?_) (a' := ?_) #[true, true, true, true, true, true, true, true, true, true, false, false, false, false] rfl rfl (by kernel_rfl) (fun _ _ _ h => h) (Or.inl ⟨by rfl, ?_⟩) ?_ ?_
            rotate_left
            · intro w'
              go_simp
              with_reducible rfl
            rotate_left
            · simp only [Act.put, List.setIfInBounds_toArray, List.set_cons_zero, List.set_cons_succ, i64_w, i32_w, IntKind.wrap_u32]
              rfl
            refine one_ (i := 10) (N := some 46) #[true, true, true, true, true, true, true, true, true, true, true, false, false, false] rfl rfl (by kernel_rfl) (by decide) (fun K hK => ?_)
            refine goes_ Try.func87 (by kernel_rfl) rfl #[.int .u32 (Go.bits .xor .u32 x1002_1 t270), .int .i64 13] (by rfl) rfl rfl (by (try simp only [List.map_toArray, List.map_cons, List.map_nil]); first | done | rfl) ?_
            refine (bits_RotateLeft32.calls (Go.bits .xor .u32 x1002_1 t270) 13 t271 _ A7.out).mono ?_
            rintro e w' ⟨rfl, ⟨nd, rfl⟩⟩
            refine ⟨_, rfl, hK.out _ _ hHeld (fun hHeld => ?_)⟩
            clear hK K
            have m0_ : Aside0 (IsS79 w0 (World.drewN wd5 nd) g ((((Go.bits .xor .u32 x1000_1 ((rd l1 x8_1) % 4294967296)) * 16777619) % 4294967296)) (t270) (x1002_1) (x1003_1)) := ⟨IsS79.drewN HI0.out _⟩
            have m1_ : Aside0 (KeepBut w (World.drewN wd5 nd) g none) := ⟨by first | exact keep_drewN HK.out _ | (apply keep_drewN; exact HK.out)⟩
            have m2_ : Aside0 (Below w0.heap.size w0 (World.drewN wd5 nd)) := ⟨pw_below_drewN HB.out _⟩
            clear HI0 HK HB
            have HI0 := m0_
            have HK := m1_
            have HB := m2_
            clear m0_ m1_ m2_
            generalize World.drewN wd5 nd = wn5 at HI0 HK HB hHeld ⊢
            refine pure_ (i := 11) (N := some 47) (v := ?_) (a' := ?_) #[true, true, true, true, true, true, true, true, true, true, true, true, false, false] rfl rfl (by kernel_rfl) (fun _ _ _ h => h) (Or.inl ⟨by rfl, ?_⟩) ?_ ?_
            rotate_left
            · intro w'
              go_simp
              with_reducible rfl
            rotate_left
            · simp only [Act.put, List.setIfInBounds_toArray, List.set_cons_zero, List.set_cons_succ, i64_w, i32_w, IntKind.wrap_u32]
              rfl
            refine pure_ (i := 12) (N := some 48) (v := ?_) (a' := ?_) #[true, true, true, true, true, true, true, true, true, true, true, true, true, false] rfl rfl (by kernel_rfl) (fun _ _ _ h => h) (Or.inl ⟨by rfl, ?_⟩) ?_ ?_
            rotate_left
            · intro w'
              go_simp
              with_reducible rfl
            rotate_left
            · simp only [Act.put, List.setIfInBounds_toArray, List.set_cons_zero, List.set_cons_succ, i64_w, i32_w, IntKind.wrap_u32]
              rfl
            clear hHeld
            obtain ⟨HG_, hg_⟩ := HI0.out
            have hc_0 := cellS79_0 HG_
            have hc_1 := cellS79_1 HG_
            have hc_2 := cellS79_2 HG_
            have hc_3 := cellS79_3 HG_
            have hf_0 := blk_frozen HG_ 0
            have hf_1 := blk_frozen HG_ 1
            have hf_2 := blk_frozen HG_ 2
            have hf_3 := blk_frozen HG_ 3
            clear HG_ hg_
            refine last_ (i := 13) (N := none) #[true, true, true, true, true, true, true, true, true, true, true, true, true, true] rfl rfl (by kernel_rfl) (by decide) (fun K hK => ?_)
            refine skip_ (w1 := ?_) (by rfl) rfl ?_ ?_
            rotate_left
            · go_simp
              rfl
            refine hK.out _ _ ?_
            clear hK K
            clear hc_0 hf_0 hc_1 hf_1 hc_2 hf_2 hc_3 hf_3
            refine done_ (by kernel_rfl) ?_
            have m0_ : Aside0 (IsS79 w0 (World.setCell wn5 ⟨g, 2, none⟩ (.int .u32 (t271))) g ((((Go.bits .xor .u32 x1000_1 ((rd l1 x8_1) % 4294967296)) * 16777619) % 4294967296)) (t270) (t271) (x1003_1)) := ⟨IsS79.set_2 HI0.out _⟩
            have m1_ : Aside0 (KeepBut w (World.setCell wn5 ⟨g, 2, none⟩ (.int .u32 (t271))) g none) := ⟨by first | exact KeepBut.set_ HK.out _ _ | (apply KeepBut.set_; exact HK.out)⟩
            have m2_ : Aside0 (Below w0.heap.size w0 (World.setCell wn5 ⟨g, 2, none⟩ (.int .u32 (t271)))) := ⟨below_set HB.out (IsS79.ge HI0.out)⟩
            clear HI0 HK HB
            have HI0 := m0_
            have HK := m1_
            have HB := m2_
            clear m0_ m1_ m2_
            generalize World.setCell wn5 ⟨g, 2, none⟩ (.int .u32 (t271)) = ws5 at HI0 HK HB ⊢
            go_wp2
            obtain ⟨HG_, hg_⟩ := HI0.out
            have hc_0 := cellS79_0 HG_
            have hc_1 := cellS79_1 HG_
            have hc_2 := cellS79_2 HG_
            have hc_3 := cellS79_3 HG_
            have hf_0 := blk_frozen HG_ 0
            have hf_1 := blk_frozen HG_ 1
            have hf_2 := blk_frozen HG_ 2
            have hf_3 := blk_frozen HG_ 3
            clear HG_ hg_
            refine start_ (n := 14) (S := fun w' => w'.cell? ⟨g, 3, none⟩ = some (.int .u32 (x1003_1)) ∧ w'.cell? ⟨g, 2, none⟩ = some (.int .u32 (t271))) (ds := [13]) #[false, false, false, false, false, false, false, false, false, false, false, false, false, false] (by kernel_rfl) rfl rfl ⟨hc_3, hc_2⟩ (fun hHeld => ?_)
            clear hc_0 hf_0 hc_1 hf_1 hc_2 hf_2 hc_3 hf_3
            have m0_ : Aside0 (IsS79 w0 (ws5.drew) g ((((Go.bits .xor .u32 x1000_1 ((rd l1 x8_1) % 4294967296)) * 16777619) % 4294967296)) (t270) (t271) (x1003_1)) := ⟨IsS79.drew HI0.out⟩
            have m1_ : Aside0 (KeepBut w (ws5.drew) g none) := ⟨by first | exact keep_drew HK.out | (apply keep_drew; exact HK.out)⟩
            have m2_ : Aside0 (Below w0.heap.size w0 (ws5.drew)) := ⟨below_drew1 HB.out⟩
            clear HI0 HK HB
            have HI0 := m0_
            have HK := m1_
            have HB := m2_
            clear m0_ m1_ m2_
            generalize ws5.drew = wd6 at HI0 HK HB hHeld ⊢
            refine pure_ (i := 0) (N := some 49) (v := ?_) (a' := ?_) #[true, false, false, false, false, false, false, false, false, false, false, false, false, false] rfl rfl (by kernel_rfl) (fun _ _ _ h => h) (Or.inl ⟨by rfl, ?_⟩) ?_ ?_
            rotate_left
            · intro w'
              go_simp
              with_reducible rfl
            rotate_left
            · simp only [Act.put, List.setIfInBounds_toArray, List.set_cons_zero, List.set_cons_succ, i64_w, i32_w, IntKind.wrap_u32]
              rfl
            refine pure_ (i := 1) (N := some 50) (v := ?_) (a' := ?_) #[true, true, false, false, false, false, false, false, false, false, false, false, false, false] rfl rfl (by kernel_rfl) (fun _ _ _ h => h) (Or.inl ⟨by rfl, ?_⟩) ?_ ?_
            rotate_left
            · intro w'
              go_simp
              with_reducible rfl
            rotate_left
            · simp only [Act.put, List.setIfInBounds_toArray, List.set_cons_zero, List.set_cons_succ, i64_w, i32_w, IntKind.wrap_u32]
              rfl
            refine pure_ (i := 2) (N := some 51) (v := ?_) (a' := ?_) #[true, true, true, false, false, false, false, false, false, false, false, false, false, false] rfl rfl (by kernel_rfl) (fun _ _ _ h => h) (Or.inl ⟨by rfl, ?_⟩) ?_ ?_
            rotate_left
            · intro w'
              go_simp
              with_reducible rfl
            rotate_left
            · simp only [Act.put, List.setIfInBounds_toArray, List.set_cons_zero, List.set_cons_succ, i64_w, i32_w, IntKind.wrap_u32]
              rfl
            refine pure_ (i := 3) (N := some 52) (v := ?_) (a' := ?_) #[true, true, true, true, false, false, false, false, false, false, false, false, false, false] rfl rfl (by kernel_rfl) (fun _ _ _ h => h) (Or.inl ⟨by rfl, ?_⟩) ?_ ?_
            rotate_left
            · intro w'
              go_simp
              with_reducible rfl
            rotate_left
            · simp only [Act.put, List.setIfInBounds_toArray, List.set_cons_zero, List.set_cons_succ, i64_w, i32_w, IntKind.wrap_u32]
              rfl
            refine take_ (i := 4) (N := some 53) (v := ?_) (a' := ?_) #[true, true, true, true, true, false, false, false, false, false, false, false, false, false] rfl rfl (by kernel_rfl) (fun _ _ _ h => h) (Or.inl ⟨by rfl, ?_⟩) hHeld ?_ ?_
            rotate_left
            · intro w' s0
              obtain ⟨s0, s1⟩ := s0
              go_simp
              with_reducible rfl
            rotate_left
            · simp only [Act.put, List.setIfInBounds_toArray, List.set_cons_zero, List.set_cons_succ, i64_w, i32_w, IntKind.wrap_u32]
              rfl
            refine pure_ (i := 5) (N := some 54) (v := ?_) (a' := ?_) #[true, true, true, true, true, true, false, false, false, false, false, false, false, false] rfl rfl (by kernel_rfl) (fun _ _ _ h => h) (Or.inl ⟨by rfl, ?_⟩) ?_ ?_
            rotate_left
            · intro w'
              go_simp
              with_reducible rfl
            rotate_left
            · simp only [Act.put, List.setIfInBounds_toArray, List.set_cons_zero, List.set_cons_succ, i64_w, i32_w, IntKind.wrap_u32]
              rfl
            refine pure_ (i := 6) (N := some 55) (v := ?_) (a' := ?_) #[true, true, true, true, true, true, true, false, false, false, false, false, false, false] rfl rfl (by kernel_rfl) (fun _ _ _ h => h) (Or.inl ⟨by rfl, ?_⟩) ?_ ?_
            rotate_left
            · intro w'
              go_simp
              with_reducible rfl
            rotate_left
            · simp only [Act.put, List.setIfInBounds_toArray, List.set_cons_zero, List.set_cons_succ, i64_w, i32_w, IntKind.wrap_u32]
              rfl
            refine pure_ (i := 7) (N := some 56) (v := ?_) (a' := ?_) #[true, true, true, true, true, true, true, true, false, false, false, false, false, false] rfl rfl (by kernel_rfl) (fun _ _ _ h => h) (Or.inl ⟨by rfl, ?_⟩) ?_ ?_
            rotate_left
            · intro w'
              go_simp
              with_reducible rfl
            rotate_left
            · simp only [Act.put, List.setIfInBounds_toArray, List.set_cons_zero, List.set_cons_succ, i64_w, i32_w, IntKind.wrap_u32]
              rfl
            refine take_ (i := 8) (N := some 57) (v := ?_) (a' := ?_) #[true, true, true, true, true, true, true, true, true, false, false, false, false, false] rfl rfl (by kernel_rfl) (fun _ _ _ h => h) (Or.inl ⟨by rfl, ?_⟩) hHeld ?_ ?_
            rotate_left
            · intro w' s0
              obtain ⟨s0, s1⟩ := s0
              go_simp
              with_reducible rfl
            rotate_left
            · simp only [Act.put, List.setIfInBounds_toArray, List.set_cons_zero, List.set_cons_succ, i64_w, i32_w, IntKind.wrap_u32]
              rfl
            refine pure_ (i := 9) (N := some 58) (v := ?_) (a' := ?_) #[true, true, true, true, true, true, true, true, true, true, false, false, false, false] rfl rfl (by kernel_rfl) (fun _ _ _ h => h) (Or.inl ⟨by rfl, ?_⟩) ?_ ?_
            rotate_left
            · intro w'
              go_simp
              with_reducible rfl
            rotate_left
            · simp only [Act.put, List.setIfInBounds_toArray, List.set_cons_zero, List.set_cons_succ, i64_w, i32_w, IntKind.wrap_u32]
              rfl
            refine one_ (i := 10) (N := some 59) #[true, true, true, true, true, true, true, true, true, true, true, false, false, false] rfl rfl (by kernel_rfl) (by decide) (fun K hK => ?_)
            refine goes_ Try.func87 (by kernel_rfl) rfl #[.int .u32 ((x1003_1 + t271) % 4294967296), .int .i64 17] (by rfl) rfl rfl (by (try simp only [List.map_toArray, List.map_cons, List.map_nil]); first | done | rfl) ?_
            refine (bits_RotateLeft32.calls ((x1003_1 + t271) % 4294967296) 17 t272 _ A8.out).mono ?_
            rintro e w' ⟨rfl, ⟨nd, rfl⟩⟩
            refine ⟨_, rfl, hK.out _ _ hHeld (fun hHeld => ?_)⟩
            clear hK K
            have m0_ : Aside0 (IsS79 w0 (World.drewN wd6 nd) g ((((Go.bits .xor .u32 x1000_1 ((rd l1 x8_1) % 4294967296)) * 16777619) % 4294967296)) (t270) (t271) (x1003_1)) := ⟨IsS79.drewN HI0.out _⟩
            have m1_ : Aside0 (KeepBut w (World.drewN wd6 nd) g none) := ⟨by first | exact keep_drewN HK.out _ | (apply keep_drewN; exact HK.out)⟩
            have m2_ : Aside0 (Below w0.heap.size w0 (World.drewN wd6 nd)) := ⟨pw_below_drewN HB.out _⟩
            clear HI0 HK HB
            have HI0 := m0_
            have HK := m1_
            have HB := m2_
            clear m0_ m1_ m2_
            generalize World.drewN wd6 nd = wn6 at HI0 HK HB hHeld ⊢
            refine pure_ (i := 11) (N := some 60) (v := ?_) (a' := ?_) #[true, true, true, true, true, true, true, true, true, true, true, true, false, false] rfl rfl (by kernel_rfl) (fun _ _ _ h => h) (Or.inl ⟨by rfl, ?_⟩) ?_ ?_
            rotate_left
            · intro w'
              go_simp
              with_reducible rfl
            rotate_left
            · simp only [Act.put, List.setIfInBounds_toArray, List.set_cons_zero, List.set_cons_succ, i64_w, i32_w, IntKind.wrap_u32]
              rfl
            refine pure_ (i := 12) (N := some 61) (v := ?_) (a' := ?_) #[true, true, true, true, true, true, true, true, true, true, true, true, true, false] rfl rfl (by kernel_rfl) (fun _ _ _ h => h) (Or.inl ⟨by rfl, ?_⟩) ?_ ?_
            rotate_left
            · intro w'
              go_simp
              with_reducible rfl
            rotate_left
            · simp only [Act.put, List.setIfInBounds_toArray, List.set_cons_zero, List.set_cons_succ, i64_w, i32_w, IntKind.wrap_u32]
              rfl
            clear hHeld
            obtain ⟨HG_, hg_⟩ := HI0.out
            have hc_0 := cellS79_0 HG_
            have hc_1 := cellS79_1 HG_
            have hc_2 := cellS79_2 HG_
            have hc_3 := cellS79_3 HG_
            have hf_0 := blk_frozen HG_ 0
            have hf_1 := blk_frozen HG_ 1
            have hf_2 := blk_frozen HG_ 2
            have hf_3 := blk_frozen HG_ 3
            clear HG_ hg_
            refine last_ (i := 13) (N := none) #[true, true, true, true, true, true, true, true, true, true, true, true, true, true] rfl rfl (by kernel_rfl) (by decide) (fun K hK => ?_)
            refine skip_ (w1 := ?_) (by rfl) rfl ?_ ?_
            rotate_left
            · go_simp
              rfl
            refine hK.out _ _ ?_
            clear hK K
            clear hc_0 hf_0 hc_1 hf_1 hc_2 hf_2 hc_3 hf_3
            refine done_ (by kernel_rfl) ?_
            have m0_ : Aside0 (IsS79 w0 (World.setCell wn6 ⟨g, 3, none⟩ (.int .u32 (t272))) g ((((Go.bits .xor .u32 x1000_1 ((rd l1 x8_1) % 4294967296)) * 16777619) % 4294967296)) (t270) (t271) (t272)) := ⟨IsS79.set_3 HI0.out _⟩
            have m1_ : Aside0 (KeepBut w (World.setCell wn6 ⟨g, 3, none⟩ (.int .u32 (t272))) g none) := ⟨by first | exact KeepBut.set_ HK.out _ _ | (apply KeepBut.set_; exact HK.out)⟩
            have m2_ : Aside0 (Below w0.heap.size w0 (World.setCell wn6 ⟨g, 3, none⟩ (.int .u32 (t272)))) := ⟨below_set HB.out (IsS79.ge HI0.out)⟩
            clear HI0 HK HB
            have HI0 := m0_
            have HK := m1_
            have HB := m2_
            clear m0_ m1_ m2_
            generalize World.setCell wn6 ⟨g, 3, none⟩ (.int .u32 (t272)) = ws6 at HI0 HK HB ⊢
            go_wp2
            obtain ⟨HG_, hg_⟩ := HI0.out
            have hc_0 := cellS79_0 HG_
            have hc_1 := cellS79_1 HG_
            have hc_2 := cellS79_2 HG_
            have hc_3 := cellS79_3 HG_
            have hf_0 := blk_frozen HG_ 0
            have hf_1 := blk_frozen HG_ 1
            have hf_2 := blk_frozen HG_ 2
            have hf_3 := blk_frozen HG_ 3
            clear HG_ hg_
            refine start_ (n := 12) (S := fun w' => w'.cell? ⟨g, 0, none⟩ = some (.int .u32 ((((Go.bits .xor .u32 x1000_1 ((rd l1 x8_1) % 4294967296)) * 16777619) % 4294967296))) ∧ w'.cell? ⟨g, 3, none⟩ = some (.int .u32 (t272))) (ds := [11]) #[false, false, false, false, false, false, false, false, false, false, false, false] (by kernel_rfl) rfl rfl ⟨hc_0, hc_3⟩ (fun hHeld => ?_)
            clear hc_0 hf_0 hc_1 hf_1 hc_2 hf_2 hc_3 hf_3
            have m0_ : Aside0 (IsS79 w0 (ws6.drew) g ((((Go.bits .xor .u32 x1000_1 ((rd l1 x8_1) % 4294967296)) * 16777619) % 4294967296)) (t270) (t271) (t272)) := ⟨IsS79.drew HI0.out⟩
            have m1_ : Aside0 (KeepBut w (ws6.drew) g none) := ⟨by first | exact keep_drew HK.out | (apply keep_drew; exact HK.out)⟩
            have m2_ : Aside0 (Below w0.heap.size w0 (ws6.drew)) := ⟨below_drew1 HB.out⟩
            clear HI0 HK HB
            have HI0 := m0_
            have HK := m1_
            have HB := m2_
            clear m0_ m1_ m2_
            generalize ws6.drew = wd7 at HI0 HK HB hHeld ⊢
            refine pure_ (i := 0) (N := some 62) (v := ?_) (a' := ?_) #[true, false, false, false, false, false, false, false, false, false, false, false] rfl rfl (by kernel_rfl) (fun _ _ _ h => h) (Or.inl ⟨by rfl, ?_⟩) ?_ ?_
            rotate_left
            · intro w'
              go_simp
              with_reducible rfl
            rotate_left
            · simp only [Act.put, List.setIfInBounds_toArray, List.set_cons_zero, List.set_cons_succ, i64_w, i32_w, IntKind.wrap_u32]
              rfl
            refine pure_ (i := 1) (N := some 63) (v := ?_) (a' := ?_) #[true, true, false, false, false, false, false, false, false, false, false, false] rfl rfl (by kernel_rfl) (fun _ _ _ h => h) (Or.inl ⟨by rfl, ?_⟩) ?_ ?_
            rotate_left
            · intro w'
              go_simp
              with_reducible rfl
            rotate_left
            · simp only [Act.put, List.setIfInBounds_toArray, List.set_cons_zero, List.set_cons_succ, i64_w, i32_w, IntKind.wrap_u32]
              rfl
            refine pure_ (i := 2) (N := some 64) (v := ?_) (a' := ?_) #[true, true, true, false, false, false, false, false, false, false, false, false] rfl rfl (by kernel_rfl) (fun _ _ _ h => h) (Or.inl ⟨by rfl, ?_⟩) ?_ ?_
            rotate_left
            · intro w'
              go_simp
              with_reducible rfl
            rotate_left
            · simp only [Act.put, List.setIfInBounds_toArray, List.set_cons_zero, List.set_cons_succ, i64_w, i32_w, IntKind.wrap_u32]
              rfl
            refine take_ (i := 3) (N := some 65) (v := ?_) (a' := ?_) #[true, true, true, true, false, false, false, false, false, false, false, false] rfl rfl (by kernel_rfl) (fun _ _ _ h => h) (Or.inl ⟨by rfl, ?_⟩) hHeld ?_ ?_
            rotate_left
            · intro w' s0
              obtain ⟨s0, s1⟩ := s0
              go_simp
              with_reducible rfl
            rotate_left
            · simp only [Act.put, List.setIfInBounds_toArray, List.set_cons_zero, List.set_cons_succ, i64_w, i32_w, IntKind.wrap_u32]
              rfl
            refine pure_ (i := 4) (N := some 66) (v := ?_) (a' := ?_) #[true, true, true, true, true, false, false, false, false, false, false, false] rfl rfl (by kernel_rfl) (fun _ _ _ h => h) (Or.inl ⟨by rfl, ?_⟩) ?_ ?_
            rotate_left
            · intro w'
              go_simp
              with_reducible rfl
            rotate_left
            · simp only [Act.put, List.setIfInBounds_toArray, List.set_cons_zero, List.set_cons_succ, i64_w, i32_w, IntKind.wrap_u32]
              rfl
            refine pure_ (i := 5) (N := some 67) (v := ?_) (a' := ?_) #[true, true, true, true, true, true, false, false, false, false, false, false] rfl rfl (by kernel_rfl) (fun _ _ _ h => h) (Or.inl ⟨by rfl, ?_⟩) ?_ ?_
            rotate_left
            · intro w'
              go_simp
              with_reducible rfl
            rotate_left
            · simp only [Act.put, List.setIfInBounds_toArray, List.set_cons_zero, List.set_cons_succ, i64_w, i32_w, IntKind.wrap_u32]
              rfl
            refine pure_ (i := 6) (N := some 68) (v := ?_) (a' := ?_) #[true, true, true, true, true, true, true, false, false, false, false, false] rfl rfl (by kernel_rfl) (fun _ _ _ h => h) (Or.inl ⟨by rfl, ?_⟩) ?_ ?_
            rotate_left
            · intro w'
              go_simp
              with_reducible rfl
            rotate_left
            · simp only [Act.put, List.setIfInBounds_toArray, List.set_cons_zero, List.set_cons_succ, i64_w, i32_w, IntKind.wrap_u32]
              rfl
            refine take_ (i := 7) (N := some 69) (v := ?_) (a' := ?_) #[true, true, true, true, true, true, true, true, false, false, false, false] rfl rfl (by kernel_rfl) (fun _ _ _ h => h) (Or.inl ⟨by rfl, ?_⟩) hHeld ?_ ?_
            rotate_left
            · intro w' s0
              obtain ⟨s0, s1⟩ := s0
              go_simp
              with_reducible rfl
            rotate_left
            · simp only [Act.put, List.setIfInBounds_toArray, List.set_cons_zero, List.set_cons_succ, i64_w, i32_w, IntKind.wrap_u32]
              rfl
            refine pure_ (i := 8) (N := some 70) (v := ?_) (a' := ?_) #[true, true, true, true, true, true, true, true, true, false, false, false] rfl rfl (by kernel_rfl) (fun _ _ _ h => h) (Or.inl ⟨by rfl, ?_⟩) ?_ ?_
            rotate_left
            · intro w'
              go_simp
              with_reducible rfl
            rotate_left
            · simp only [Act.put, List.setIfInBounds_toArray, List.set_cons_zero, List.set_cons_succ, i64_w, i32_w, IntKind.wrap_u32]
              rfl
            refine pure_ (i := 9) (N := some 71) (v := ?_) (a' := ?_) #[true, true, true, true, true, true, true, true, true, true, false, false] rfl rfl (by kernel_rfl) (fun _ _ _ h => h) (Or.inl ⟨by rfl, ?_⟩) ?_ ?_
            rotate_left
            · intro w'
              go_simp
              with_reducible rfl
            rotate_left
            · simp only [Act.put, List.setIfInBounds_toArray, List.set_cons_zero, List.set_cons_succ, i64_w, i32_w, IntKind.wrap_u32]
              rfl
            refine pure_ (i := 10) (N := some 72) (v := ?_) (a' := ?_) #[true, true, true, true, true, true, true, true, true, true, true, false] rfl rfl (by kernel_rfl) (fun _ _ _ h => h) (Or.inl ⟨by rfl, ?_⟩) ?_ ?_
            rotate_left
            · intro w'
              go_simp
              with_reducible rfl
            rotate_left
            · simp only [Act.put, List.setIfInBounds_toArray, List.set_cons_zero, List.set_cons_succ, i64_w, i32_w, IntKind.wrap_u32]
              rfl
            clear hHeld
            obtain ⟨HG_, hg_⟩ := HI0.out
            have hc_0 := cellS79_0 HG_
            have hc_1 := cellS79_1 HG_
            have hc_2 := cellS79_2 HG_
            have hc_3 := cellS79_3 HG_
            have hf_0 := blk_frozen HG_ 0
            have hf_1 := blk_frozen HG_ 1
            have hf_2 := blk_frozen HG_ 2
            have hf_3 := blk_frozen HG_ 3
            clear HG_ hg_
            refine last_ (i := 11) (N := none) #[true, true, true, true, true, true, true, true, true, true, true, true] rfl rfl (by kernel_rfl) (by decide) (fun K hK => ?_)
            refine skip_ (w1 := ?_) (by rfl) rfl ?_ ?_
            rotate_left
            · go_simp
              rfl
            refine hK.out _ _ ?_
            clear hK K
            clear hc_0 hf_0 hc_1 hf_1 hc_2 hf_2 hc_3 hf_3
            refine done_ (by kernel_rfl) ?_
            have m0_ : Aside0 (IsS79 w0 (World.setCell wd7 ⟨g, 0, none⟩ (.int .u32 (Go.bits .xor .u32 ((((Go.bits .xor .u32 x1000_1 ((rd l1 x8_1) % 4294967296)) * 16777619) % 4294967296)) t272))) g (Go.bits .xor .u32 ((((Go.bits .xor .u32 x1000_1 ((rd l1 x8_1) % 4294967296)) * 16777619) % 4294967296)) t272) (t270) (t271) (t272)) := ⟨IsS79.set_0 HI0.out _⟩
            have m1_ : Aside0 (KeepBut w (World.setCell wd7 ⟨g, 0, none⟩ (.int .u32 (Go.bits .xor .u32 ((((Go.bits .xor .u32 x1000_1 ((rd l1 x8_1) % 4294967296)) * 16777619) % 4294967296)) t272))) g none) := ⟨by first | exact KeepBut.set_ HK.out _ _ | (apply KeepBut.set_; exact HK.out)⟩
            have m2_ : Aside0 (Below w0.heap.size w0 (World.setCell wd7 ⟨g, 0, none⟩ (.int .u32 (Go.bits .xor .u32 ((((Go.bits .xor .u32 x1000_1 ((rd l1 x8_1) % 4294967296)) * 16777619) % 4294967296)) t272)))) := ⟨below_set HB.out (IsS79.ge HI0.out)⟩
            clear HI0 HK HB
            have HI0 := m0_
            have HK := m1_
            have HB := m2_
            clear m0_ m1_ m2_
            generalize World.setCell wd7 ⟨g, 0, none⟩ (.int .u32 (Go.bits .xor .u32 ((((Go.bits .xor .u32 x1000_1 ((rd l1 x8_1) % 4294967296)) * 16777619) % 4294967296)) t272)) = ws7 at HI0 HK HB ⊢
            go_wp2
            go_roundg k1
            case measure => have := HK1.out; omega
            case rel => exact ⟨(wrap64 (x8_1 + 1)), (Go.bits .xor .u32 (((Go.bits .xor .u32 x1000_1 ((rd l1 x8_1) % 4294967296)) * 16777619) % 4294967296) t272), (t270), (t271), (t272), (by first | rfl | (simp; done) | (simp [*]; done)), H', ⟨by have := HK1.out; omega⟩, ⟨by repeat (first | (with_reducible first | exact HI0.out | apply IsS79.alloc | apply IsS79.drewN | apply IsS79.drew | apply IsS79.set_0 | apply IsS79.set_1 | apply IsS79.set_2 | apply IsS79.set_3) | exact HI0.out)⟩, ⟨by repeat (first | (with_reducible first | exact HK.out | apply KeepBut.set_ | apply keep_drewN | apply keep_drew | apply keep_alloc) | exact HK.out)⟩, ⟨by repeat (first | (with_reducible first | exact HB.out | apply below_alloc | apply pw_below_drewN | apply below_drew1 | refine below_set ?_ (IsS79.ge HI0.out)) | exact HB.out)⟩⟩
          · rw [if_neg c5] at H
            exact absurd H (by simp)
        · rw [if_neg c4] at H
          exact absurd H (by simp)
      · rw [if_neg c3] at H
        have c3b0 : decide (x8_1 < (l1.length : Int)) = false := decide_eq_false c3
        clear c3
        simp only [Option.some.injEq, Prod.mk.injEq] at H
        obtain ⟨rfl, rfl, rfl, rfl⟩ := H
        go_wp2
        first | go_end0 | ((try simp only [Exit.inBlock, Exit.then]); refine bodyPost_ret (results_none rfl _ _ _) rfl ?_)
        exact ⟨by first | rfl | (simp [errW_none, errW_some] <;> rfl) | (simp [*, errW_none, errW_some] <;> rfl), by repeat (first | (with_reducible first | exact HI0.out | apply IsS79.alloc | apply IsS79.drewN | apply IsS79.drew | apply IsS79.set_0 | apply IsS79.set_1 | apply IsS79.set_2 | apply IsS79.set_3) | exact HI0.out), by repeat (first | (with_reducible first | exact HB.out | apply below_alloc | apply pw_below_drewN | apply below_drew1 | refine below_set ?_ (IsS79.ge HI0.out)) | exact HB.out), by repeat (first | (with_reducible first | exact HK.out | apply KeepBut.set_ | apply keep_drewN | apply keep_drew | apply keep_alloc) | exact HK.out)⟩

/-! ### impl_digest: function 51 -/
/-- One of four, by its number. -/
def pick4 (a b c d i : Int) : Int := if i = 0 then a else if i = 1 then b else if i = 2 then c else d
theorem pick4_run (a b c d i : Int) (h0 : 0 ≤ i) (h1 : i < 4) (w : World) : (Instr.index 82 (.agg #[.int .u32 a, .int .u32 b, .int .u32 c, .int .u32 d]) (.int .i64 i)).run Try.prog w = .ok (.int .u32 (pick4 a b c d i)) w := by
  have h : i = 0 ∨ i = 1 ∨ i = 2 ∨ i = 3 := by omega
  rcases h with rfl | rfl | rfl | rfl
  · exact (by kernel_rfl : (Instr.index 82 (.agg #[.int .u32 a, .int .u32 b, .int .u32 c, .int .u32 d]) (.int .i64 0)).run Try.prog w = .ok (.int .u32 a) w)
  · exact (by kernel_rfl : (Instr.index 82 (.agg #[.int .u32 a, .int .u32 b, .int .u32 c, .int .u32 d]) (.int .i64 1)).run Try.prog w = .ok (.int .u32 b) w)
  · exact (by kernel_rfl : (Instr.index 82 (.agg #[.int .u32 a, .int .u32 b, .int .u32 c, .int .u32 d]) (.int .i64 2)).run Try.prog w = .ok (.int .u32 c) w)
  · exact (by kernel_rfl : (Instr.index 82 (.agg #[.int .u32 a, .int .u32 b, .int .u32 c, .int .u32 d]) (.int .i64 3)).run Try.prog w = .ok (.int .u32 d) w)
def impl_stirrer_new.f : Option (Int × Int × Int × Int) := some (1779033703, 3144134277, 1013904242, 2773480762)
mutual
def impl_digest.l0 : Nat → Int → Int → Int → Int → Int → Option (List Int)
  | 0, _, _, _, _, _ => none
  | k + 1, x27, x279000, x279001, x279002, x279003 => if x27 < 16 then ((impl_stirrer_stir.f k x279000 x279001 x279002 x279003 (([165] : List Int))).bind fun bt304 => (impl_digest.l0 k (wrap64 (x27 + 1)) bt304.1 bt304.2.1 bt304.2.2.1 bt304.2.2.2)) else (impl_digest.l1 k (([] : List Int)) x279000 x279001 x279002 x279003 0)
def impl_digest.l1 : Nat → List Int → Int → Int → Int → Int → Int → Option (List Int)
  | 0, _, _, _, _, _, _ => none
  | k + 1, x6, x37, x41, x45, x49, x51 => if x51 < 4 then (if 0 ≤ x51 then ((impl_fixed.f k x6 (wrap64 (pick4 x37 x41 x45 x49 x51)) 4).bind fun t311 => (impl_digest.l1 k t311 x37 x41 x45 x49 (wrap64 (x51 + 1)))) else (none)) else (some x6)
end
def impl_digest.f (k : Nat) (l0 : List Int) (l1 : List Int) : Option (List Int) := (impl_stirrer_new.f).bind fun bt274 => ((impl_fixed.f k ([] : List Int) (l0.length : Int) 4).bind fun t279 => ((impl_stirrer_stir.f k bt274.1 bt274.2.1 bt274.2.2.1 bt274.2.2.2 t279).bind fun bt282 => ((impl_stirrer_stir.f k bt282.1 bt282.2.1 bt282.2.2.1 bt282.2.2.2 l0).bind fun bt286 => ((impl_stirrer_stir.f k bt286.1 bt286.2.1 bt286.2.2.1 bt286.2.2.2 l1).bind fun bt290 => ((impl_fixed.f k ([] : List Int) (l1.length : Int) 4).bind fun t294 => ((impl_stirrer_stir.f k bt290.1 bt290.2.1 bt290.2.2.1 bt290.2.2.2 t294).bind fun bt297 => (impl_digest.l0 k 0 bt297.1 bt297.2.1 bt297.2.2.1 bt297.2.2.2)))))))
theorem impl_digest.mono_l : ∀ k, (∀ y0 y1 y2 y3 y4, LeO (impl_digest.l0 k y0 y1 y2 y3 y4) (impl_digest.l0 (k + 1) y0 y1 y2 y3 y4)) ∧ (∀ y0 y1 y2 y3 y4 y5, LeO (impl_digest.l1 k y0 y1 y2 y3 y4 y5) (impl_digest.l1 (k + 1) y0 y1 y2 y3 y4 y5))
  | 0 => ⟨fun _ _ _ _ _ r h => by simp [impl_digest.l0] at h, fun _ _ _ _ _ _ r h => by simp [impl_digest.l1] at h⟩
  | k + 1 => by
    obtain ⟨ih0, ih1⟩ := impl_digest.mono_l k
    refine ⟨?_, ?_⟩
    · intro y0 y1 y2 y3 y4
      unfold impl_digest.l0
      repeat' first
      | (with_reducible exact ih0 _ _ _ _ _)
      | (with_reducible exact ih1 _ _ _ _ _ _)
      | (with_reducible exact impl_fixed.mono _ _ _ _)
      | (with_reducible exact impl_stirrer_stir.mono _ _ _ _ _ _)
      | (with_reducible exact LeO.refl _)
      | (with_reducible exact LeO.none _)
      | (with_reducible refine LeO.ite ?_ ?_)
      | (with_reducible refine LeO.bind ?_ (fun _ => ?_))
      | exact ih0 _ _ _ _ _
      | exact ih1 _ _ _ _ _ _
      | exact impl_fixed.mono _ _ _ _
      | exact impl_stirrer_stir.mono _ _ _ _ _ _
      | exact LeO.none _
      | refine LeO.ite ?_ ?_
      | refine LeO.bind ?_ (fun _ => ?_)
    · intro y0 y1 y2 y3 y4 y5
      unfold impl_digest.l1
      repeat' first
      | (with_reducible exact ih0 _ _ _ _ _)
      | (with_reducible exact ih1 _ _ _ _ _ _)
      | (with_reducible exact impl_fixed.mono _ _ _ _)
      | (with_reducible exact impl_stirrer_stir.mono _ _ _ _ _ _)
      | (with_reducible exact LeO.refl _)
      | (with_reducible exact LeO.none _)
      | (with_reducible refine LeO.ite ?_ ?_)
      | (with_reducible refine LeO.bind ?_ (fun _ => ?_))
      | exact ih0 _ _ _ _ _
      | exact ih1 _ _ _ _ _ _
      | exact impl_fixed.mono _ _ _ _
      | exact impl_stirrer_stir.mono _ _ _ _ _ _
      | exact LeO.none _
      | refine LeO.ite ?_ ?_
      | refine LeO.bind ?_ (fun _ => ?_)
theorem impl_digest.mono : ∀ a0 a1 k, LeO (impl_digest.f k a0 a1) (impl_digest.f (k + 1) a0 a1) := by
  intro a0 a1 k
  obtain ⟨ih0, ih1⟩ := impl_digest.mono_l k
  unfold impl_digest.f
  repeat' first
      | (with_reducible exact ih0 _ _ _ _ _)
      | (with_reducible exact ih1 _ _ _ _ _ _)
      | (with_reducible exact impl_fixed.mono _ _ _ _)
      | (with_reducible exact impl_stirrer_stir.mono _ _ _ _ _ _)
      | (with_reducible exact LeO.refl _)
      | (with_reducible exact LeO.none _)
      | (with_reducible refine LeO.ite ?_ ?_)
      | (with_reducible refine LeO.bind ?_ (fun _ => ?_))
      | exact ih0 _ _ _ _ _
      | exact ih1 _ _ _ _ _ _
      | exact impl_fixed.mono _ _ _ _
      | exact impl_stirrer_stir.mono _ _ _ _ _ _
      | exact LeO.none _
      | refine LeO.ite ?_ ?_
      | refine LeO.bind ?_ (fun _ => ?_)
set_option maxHeartbeats 8000000 in
set_option maxRecDepth 100000 in
theorem impl_digest.calls (k : Nat) (A0 : Option Addr) (c0 : Nat) (l0 : List Int) (A1 : Option Addr) (c1 : Nat) (l1 : List Int) (r : List Int) (w : World) (hr0 : Kd.C (Kd.int .u8) w A0 l0.length l0) (hc0 : l0.length ≤ c0) (hr1 : Kd.C (Kd.int .u8) w A1 l1.length l1) (hc1 : l1.length ≤ c1) (h : impl_digest.f k l0 l1 = some r) :
    Calls Try.prog 51 #[.slice A0 l0.length c0, .slice A1 l1.length c1] w fun e w' => ∃ v0_ : Value, e = .returned (v0_) ∧ Kd.R (Kd.int .u8) 5 w' w.heap.size (fun _ => True) v0_ r ∧ Below w.heap.size w w' := by
  have HR0 := Aside0.mk hr0
  have HC0 := Aside0.mk hc0
  clear hr0 hc0
  have HR1 := Aside0.mk hr1
  have HC1 := Aside0.mk hc1
  clear hr1 hc1
  have HB := Aside0.mk (Below.refl w.heap.size w)
  have H : ((impl_stirrer_new.f).bind fun bt274 => ((impl_fixed.f k ([] : List Int) (l0.length : Int) 4).bind fun t279 => ((impl_stirrer_stir.f k bt274.1 bt274.2.1 bt274.2.2.1 bt274.2.2.2 t279).bind fun bt282 => ((impl_stirrer_stir.f k bt282.1 bt282.2.1 bt282.2.2.1 bt282.2.2.2 l0).bind fun bt286 => ((impl_stirrer_stir.f k bt286.1 bt286.2.1 bt286.2.2.1 bt286.2.2.2 l1).bind fun bt290 => ((impl_fixed.f k ([] : List Int) (l1.length : Int) 4).bind fun t294 => ((impl_stirrer_stir.f k bt290.1 bt290.2.1 bt290.2.2.1 bt290.2.2.2 t294).bind fun bt297 => (impl_digest.l0 k 0 bt297.1 bt297.2.1 bt297.2.2.1 bt297.2.2.2)))))))) = some r := h
  clear h
  replace H := Option.bind_eq_some_iff.mp H
  obtain ⟨⟨t274, t275, t276, t277⟩, A30, H⟩ := H
  simp only [impl_stirrer_new.f, Option.some.injEq, Prod.mk.injEq] at A30
  obtain ⟨rfl, rfl, rfl, rfl⟩ := A30
  replace H : ((impl_fixed.f k ([] : List Int) (l0.length : Int) 4).bind fun t279 => ((impl_stirrer_stir.f k 1779033703 3144134277 1013904242 2773480762 t279).bind fun bt282 => ((impl_stirrer_stir.f k bt282.1 bt282.2.1 bt282.2.2.1 bt282.2.2.2 l0).bind fun bt286 => ((impl_stirrer_stir.f k bt286.1 bt286.2.1 bt286.2.2.1 bt286.2.2.2 l1).bind fun bt290 => ((impl_fixed.f k ([] : List Int) (l1.length : Int) 4).bind fun t294 => ((impl_stirrer_stir.f k bt290.1 bt290.2.1 bt290.2.2.1 bt290.2.2.2 t294).bind fun bt297 => (impl_digest.l0 k 0 bt297.1 bt297.2.1 bt297.2.2.1 bt297.2.2.2))))))) = some r := H
  replace H := Option.bind_eq_some_iff.mp H
  obtain ⟨t279, A40, H⟩ := H
  replace H : ((impl_stirrer_stir.f k 1779033703 3144134277 1013904242 2773480762 t279).bind fun bt282 => ((impl_stirrer_stir.f k bt282.1 bt282.2.1 bt282.2.2.1 bt282.2.2.2 l0).bind fun bt286 => ((impl_stirrer_stir.f k bt286.1 bt286.2.1 bt286.2.2.1 bt286.2.2.2 l1).bind fun bt290 => ((impl_fixed.f k ([] : List Int) (l1.length : Int) 4).bind fun t294 => ((impl_stirrer_stir.f k bt290.1 bt290.2.1 bt290.2.2.1 bt290.2.2.2 t294).bind fun bt297 => (impl_digest.l0 k 0 bt297.1 bt297.2.1 bt297.2.2.1 bt297.2.2.2)))))) = some r := H
  have A4 := Aside0.mk A40
  clear A40
  replace H := Option.bind_eq_some_iff.mp H
  obtain ⟨⟨t282, t283, t284, t285⟩, A50, H⟩ := H
  replace H : ((impl_stirrer_stir.f k t282 t283 t284 t285 l0).bind fun bt286 => ((impl_stirrer_stir.f k bt286.1 bt286.2.1 bt286.2.2.1 bt286.2.2.2 l1).bind fun bt290 => ((impl_fixed.f k ([] : List Int) (l1.length : Int) 4).bind fun t294 => ((impl_stirrer_stir.f k bt290.1 bt290.2.1 bt290.2.2.1 bt290.2.2.2 t294).bind fun bt297 => (impl_digest.l0 k 0 bt297.1 bt297.2.1 bt297.2.2.1 bt297.2.2.2))))) = some r := H
  have A5 := Aside0.mk A50
  clear A50
  replace H := Option.bind_eq_some_iff.mp H
  obtain ⟨⟨t286, t287, t288, t289⟩, A60, H⟩ := H
  replace H : ((impl_stirrer_stir.f k t286 t287 t288 t289 l1).bind fun bt290 => ((impl_fixed.f k ([] : List Int) (l1.length : Int) 4).bind fun t294 => ((impl_stirrer_stir.f k bt290.1 bt290.2.1 bt290.2.2.1 bt290.2.2.2 t294).bind fun bt297 => (impl_digest.l0 k 0 bt297.1 bt297.2.1 bt297.2.2.1 bt297.2.2.2)))) = some r := H
  have A6 := Aside0.mk A60
  clear A60
  replace H := Option.bind_eq_some_iff.mp H
  obtain ⟨⟨t290, t291, t292, t293⟩, A70, H⟩ := H
  replace H : ((impl_fixed.f k ([] : List Int) (l1.length : Int) 4).bind fun t294 => ((impl_stirrer_stir.f k t290 t291 t292 t293 t294).bind fun bt297 => (impl_digest.l0 k 0 bt297.1 bt297.2.1 bt297.2.2.1 bt297.2.2.2))) = some r := H
  have A7 := Aside0.mk A70
  clear A70
  replace H := Option.bind_eq_some_iff.mp H
  obtain ⟨t294, A80, H⟩ := H
  replace H : ((impl_stirrer_stir.f k t290 t291 t292 t293 t294).bind fun bt297 => (impl_digest.l0 k 0 bt297.1 bt297.2.1 bt297.2.2.1 bt297.2.2.2)) = some r := H
  have A8 := Aside0.mk A80
  clear A80
  replace H := Option.bind_eq_some_iff.mp H
  obtain ⟨⟨t297, t298, t299, t300⟩, A90, H⟩ := H
  replace H : (impl_digest.l0 k 0 t297 t298 t299 t300) = some r := H
  have A9 := Aside0.mk A90
  clear A90
  have H' := Aside0.mk H
  clear H
  go_enter Try.func51, Try.ntmps51
  go_wp2_with (first | ((with_reducible refine gate_dst (N := 10) rfl ?_); refine box_event ?hg (N := 10) ?hd (cs := #[.int .u32 1779033703, .int .u32 3144134277, .int .u32 1013904242, .int .u32 2773480762]) (t := 79) ?hr ?_; (case hd => rfl); (case hg => rfl); (case hr => first | (go_simp; done) | (go_simp; rfl)); intro g278 hg w10 hbox hb; have n0_ := Aside0.mk (below_step HB.out hb); have n1_ := Aside0.mk (show IsS79 w _ g278 1779033703 3144134277 1013904242 2773480762 from ⟨hbox, by rw [hg]; exact below_size HB.out⟩); clear HB; have HB := n0_; have HI278 := n1_; clear n0_ n1_; clear hb hbox hg) | ((with_reducible refine gate_callee (f := 80) rfl ?_); refine goesL_ (some 14) rfl rfl Try.func80 (by kernel_rfl) rfl #[.slice none 0 0, .int .i64 (l0.length : Int), .int .i64 4] rfl (by (try simp only [List.map_toArray, List.map_cons, List.map_nil]); first | done | rfl | (simp only [List.length_drop, List.length_take]; rfl)) ?_; (refine (impl_fixed.calls k (fun k_ => some k_ = (.slice none 0 0 : Value).ownBlock) (.slice none 0 0) ([] : List Int) (l0.length : Int) 4 t279 w _ ?side1 ?side2 A4.out).mono ?_); (case side1 => repeat (first | (with_reducible first | exact HB.out | apply below_alloc | apply pw_below_drewN | apply below_drew1 | refine below_set ?_ (IsS79.ge HI278.out)) | exact HB.out)); (case side2 => exact Kd.R_nil _ _ _ _ _); rintro e w11 ⟨v280, rfl, ho0, hb, hkp⟩; refine ⟨_, rfl, ?_⟩; have n0_ := Aside0.mk (IsS79.kept (by repeat (first | (with_reducible first | exact HI278.out | apply IsS79.alloc | apply IsS79.drewN | apply IsS79.drew | apply IsS79.set_0 | apply IsS79.set_1 | apply IsS79.set_2 | apply IsS79.set_3) | exact HI278.out)) hkp (fun hs_ => (fun e_ => by simp [Value.ownBlock] at e_) hs_)); have n1_ := Aside0.mk (Kd.R_mono (ok' := fun k_ => True) ho0 (fun k_ hk_ => trivial)); have n2_ := Aside0.mk (hb); clear HI278; clear HB; have HI278 := n0_; have HO281 := n1_; have HB := n2_; clear n0_ n1_ n2_; (try clear hb); (try clear hkp); (try clear ho0); obtain ⟨Ao12, co12, eo12⟩ := Kd.R_slice HO281.out; subst eo12) | ((with_reducible refine gate_callee (f := 79) rfl ?_); refine goesL_ (some 15) rfl rfl Try.func79 (by kernel_rfl) rfl #[.pointer (some ⟨g278, 0, none⟩), .slice Ao12 t279.length co12] rfl (by (try simp only [List.map_toArray, List.map_cons, List.map_nil]); first | done | rfl | (simp only [List.length_drop, List.length_take]; rfl)) ?_; (with_reducible refine (impl_stirrer_stir.calls k g278 1779033703 3144134277 1013904242 2773480762 _ _ t279 t282 t283 t284 t285 w _ ?side1 ?side2 ?side3 ?side4 ?side5 A5.out).mono ?_); (case side1 => repeat (first | (with_reducible first | exact HI278.out | apply IsS79.alloc | apply IsS79.drewN | apply IsS79.drew | apply IsS79.set_0 | apply IsS79.set_1 | apply IsS79.set_2 | apply IsS79.set_3) | exact HI278.out)); (case side2 => repeat (first | (with_reducible first | exact HB.out | apply below_alloc | apply pw_below_drewN | apply below_drew1 | refine below_set ?_ (IsS79.ge HI278.out)) | exact HB.out)); (case side3 => repeat (first | exact (Kd.R_reads' HO281.out).2.2 | (with_reducible refine Kd.C_alloc ?_ _) | (with_reducible refine Kd.C_drewN ?_ _) | (with_reducible refine Kd.C_drew ?_))); (case side4 => exact (Kd.R_reads' HO281.out).2.1); (case side5 => exact far_slice (IsS79.own_ne HI278.out HO281.out (by decide))); rintro e w13 ⟨rfl, hi, hb, hk⟩; refine ⟨_, rfl, ?_⟩; have n0_ := Aside0.mk (Kd.R_mono (Kd.R_keep (IsS79.apart (show IsS79 w _ g278 1779033703 3144134277 1013904242 2773480762 from by repeat (first | (with_reducible first | exact HI278.out | apply IsS79.alloc | apply IsS79.drewN | apply IsS79.drew | apply IsS79.set_0 | apply IsS79.set_1 | apply IsS79.set_2 | apply IsS79.set_3) | exact HI278.out)) (by (with_reducible repeat (first | apply Kd.R_alloc | apply Kd.R_drewN | apply Kd.R_drew)); exact HO281.out) (by decide)) hk (fun _ h => h.2)) (fun _ h => h.1)); have n1_ := Aside0.mk (hb); have n2_ := Aside0.mk (hi); clear HO281; clear HB; clear HI278; have HO281 := n0_; have HB := n1_; have HI278 := n2_; clear n0_ n1_ n2_; (try clear hb); (try clear hb2); (try clear hk); (try clear hi)) | ((with_reducible refine gate_callee (f := 79) rfl ?_); refine goesL_ (some 18) rfl rfl Try.func79 (by kernel_rfl) rfl #[.pointer (some ⟨g278, 0, none⟩), .slice A0 l0.length c0] rfl (by (try simp only [List.map_toArray, List.map_cons, List.map_nil]); first | done | rfl | (simp only [List.length_drop, List.length_take]; rfl)) ?_; (with_reducible refine (impl_stirrer_stir.calls k g278 t282 t283 t284 t285 _ _ l0 t286 t287 t288 t289 w _ ?side1 ?side2 ?side3 ?side4 ?side5 A6.out).mono ?_); (case side1 => repeat (first | (with_reducible first | exact HI278.out | apply IsS79.alloc | apply IsS79.drewN | apply IsS79.drew | apply IsS79.set_0 | apply IsS79.set_1 | apply IsS79.set_2 | apply IsS79.set_3) | exact HI278.out)); (case side2 => repeat (first | (with_reducible first | exact HB.out | apply below_alloc | apply pw_below_drewN | apply below_drew1 | refine below_set ?_ (IsS79.ge HI278.out)) | exact HB.out)); (case side3 => repeat (first | exact (Kd.C_below HR0.out HB.out) | (with_reducible refine Kd.C_alloc ?_ _) | (with_reducible refine Kd.C_drewN ?_ _) | (with_reducible refine Kd.C_drew ?_))); (case side4 => exact HC0.out); (case side5 => exact Kd.far_C 0 HR0.out (IsS79.ge HI278.out)); rintro e w14 ⟨rfl, hi, hb, hk⟩; refine ⟨_, rfl, ?_⟩; have n0_ := Aside0.mk (Kd.R_mono (Kd.R_keep (IsS79.apart (show IsS79 w _ g278 t282 t283 t284 t285 from by repeat (first | (with_reducible first | exact HI278.out | apply IsS79.alloc | apply IsS79.drewN | apply IsS79.drew | apply IsS79.set_0 | apply IsS79.set_1 | apply IsS79.set_2 | apply IsS79.set_3) | exact HI278.out)) (by (with_reducible repeat (first | apply Kd.R_alloc | apply Kd.R_drewN | apply Kd.R_drew)); exact HO281.out) (by decide)) hk (fun _ h => h.2)) (fun _ h => h.1)); have n1_ := Aside0.mk (hb); have n2_ := Aside0.mk (hi); clear HO281; clear HB; clear HI278; have HO281 := n0_; have HB := n1_; have HI278 := n2_; clear n0_ n1_ n2_; (try clear hb); (try clear hb2); (try clear hk); (try clear hi)) | ((with_reducible refine gate_callee (f := 79) rfl ?_); refine goesL_ (some 21) rfl rfl Try.func79 (by kernel_rfl) rfl #[.pointer (some ⟨g278, 0, none⟩), .slice A1 l1.length c1] rfl (by (try simp only [List.map_toArray, List.map_cons, List.map_nil]); first | done | rfl | (simp only [List.length_drop, List.length_take]; rfl)) ?_; (with_reducible refine (impl_stirrer_stir.calls k g278 t286 t287 t288 t289 _ _ l1 t290 t291 t292 t293 w _ ?side1 ?side2 ?side3 ?side4 ?side5 A7.out).mono ?_); (case side1 => repeat (first | (with_reducible first | exact HI278.out | apply IsS79.alloc | apply IsS79.drewN | apply IsS79.drew | apply IsS79.set_0 | apply IsS79.set_1 | apply IsS79.set_2 | apply IsS79.set_3) | exact HI278.out)); (case side2 => repeat (first | (with_reducible first | exact HB.out | apply below_alloc | apply pw_below_drewN | apply below_drew1 | refine below_set ?_ (IsS79.ge HI278.out)) | exact HB.out)); (case side3 => repeat (first | exact (Kd.C_below HR1.out HB.out) | (with_reducible refine Kd.C_alloc ?_ _) | (with_reducible refine Kd.C_drewN ?_ _) | (with_reducible refine Kd.C_drew ?_))); (case side4 => exact HC1.out); (case side5 => exact Kd.far_C 0 HR1.out (IsS79.ge HI278.out)); rintro e w15 ⟨rfl, hi, hb, hk⟩; refine ⟨_, rfl, ?_⟩; have n0_ := Aside0.mk (Kd.R_mono (Kd.R_keep (IsS79.apart (show IsS79 w _ g278 t286 t287 t288 t289 from by repeat (first | (with_reducible first | exact HI278.out | apply IsS79.alloc | apply IsS79.drewN | apply IsS79.drew | apply IsS79.set_0 | apply IsS79.set_1 | apply IsS79.set_2 | apply IsS79.set_3) | exact HI278.out)) (by (with_reducible repeat (first | apply Kd.R_alloc | apply Kd.R_drewN | apply Kd.R_drew)); exact HO281.out) (by decide)) hk (fun _ h => h.2)) (fun _ h => h.1)); have n1_ := Aside0.mk (hb); have n2_ := Aside0.mk (hi); clear HO281; clear HB; clear HI278; have HO281 := n0_; have HB := n1_; have HI278 := n2_; clear n0_ n1_ n2_; (try clear hb); (try clear hb2); (try clear hk); (try clear hi)) | ((with_reducible refine gate_callee (f := 80) rfl ?_); refine goesL_ (some 25) rfl rfl Try.func80 (by kernel_rfl) rfl #[.slice none 0 0, .int .i64 (l1.length : Int), .int .i64 4] rfl (by (try simp only [List.map_toArray, List.map_cons, List.map_nil]); first | done | rfl | (simp only [List.length_drop, List.length_take]; rfl)) ?_; (refine (impl_fixed.calls k (fun k_ => some k_ = (.slice none 0 0 : Value).ownBlock) (.slice none 0 0) ([] : List Int) (l1.length : Int) 4 t294 w _ ?side1 ?side2 A8.out).mono ?_); (case side1 => repeat (first | (with_reducible first | exact HB.out | apply below_alloc | apply pw_below_drewN | apply below_drew1 | refine below_set ?_ (IsS79.ge HI278.out)) | exact HB.out)); (case side2 => exact Kd.R_nil _ _ _ _ _); rintro e w16 ⟨v295, rfl, ho0, hb, hkp⟩; refine ⟨_, rfl, ?_⟩; have n0_ := Aside0.mk (IsS79.kept (by repeat (first | (with_reducible first | exact HI278.out | apply IsS79.alloc | apply IsS79.drewN | apply IsS79.drew | apply IsS79.set_0 | apply IsS79.set_1 | apply IsS79.set_2 | apply IsS79.set_3) | exact HI278.out)) hkp (fun hs_ => (fun e_ => by simp [Value.ownBlock] at e_) hs_)); have n1_ := Aside0.mk (Kd.R_mono (ok' := fun k_ => some k_ ≠ (v295 : Value).ownBlock) (Kd.R_keptB (HO281.out) hkp (fun k_ hk_ hs_ => (fun e_ => by simp [Value.ownBlock] at e_) hs_)) (fun k_ hk_ => fun e_ => Or.elim (ho0.1 k_ e_.symm) (fun hs_ => hk_.2.1 hs_) (fun hn_ => Nat.not_le.2 hk_.2.2 hn_))); have n2_ := Aside0.mk (Kd.R_mono (ok' := fun k_ => some k_ ≠ (.slice Ao12 t279.length co12 : Value).ownBlock) ho0 (fun k_ hk_ => Or.elim hk_ (fun hs_ => absurd hs_ (by simp [Value.ownBlock])) (fun hn_ => (Kd.fresh' (Kd.R_lt (by (with_reducible repeat (first | apply Kd.R_alloc | apply Kd.R_drewN | apply Kd.R_drew)); exact HO281.out)) k_ hn_)))); have n3_ := Aside0.mk (hb); clear HI278; clear HO281; clear HB; have HI278 := n0_; have HO281 := n1_; have HO296 := n2_; have HB := n3_; clear n0_ n1_ n2_ n3_; (try clear hb); (try clear hkp); (try clear ho0); obtain ⟨Ao17, co17, eo17⟩ := Kd.R_slice HO296.out; subst eo17) | ((with_reducible refine gate_callee (f := 79) rfl ?_); refine goesL_ (some 26) rfl rfl Try.func79 (by kernel_rfl) rfl #[.pointer (some ⟨g278, 0, none⟩), .slice Ao17 t294.length co17] rfl (by (try simp only [List.map_toArray, List.map_cons, List.map_nil]); first | done | rfl | (simp only [List.length_drop, List.length_take]; rfl)) ?_; (with_reducible refine (impl_stirrer_stir.calls k g278 t290 t291 t292 t293 _ _ t294 t297 t298 t299 t300 w _ ?side1 ?side2 ?side3 ?side4 ?side5 A9.out).mono ?_); (case side1 => repeat (first | (with_reducible first | exact HI278.out | apply IsS79.alloc | apply IsS79.drewN | apply IsS79.drew | apply IsS79.set_0 | apply IsS79.set_1 | apply IsS79.set_2 | apply IsS79.set_3) | exact HI278.out)); (case side2 => repeat (first | (with_reducible first | exact HB.out | apply below_alloc | apply pw_below_drewN | apply below_drew1 | refine below_set ?_ (IsS79.ge HI278.out)) | exact HB.out)); (case side3 => repeat (first | exact (Kd.R_reads' HO296.out).2.2 | (with_reducible refine Kd.C_alloc ?_ _) | (with_reducible refine Kd.C_drewN ?_ _) | (with_reducible refine Kd.C_drew ?_))); (case side4 => exact (Kd.R_reads' HO296.out).2.1); (case side5 => exact far_slice (IsS79.own_ne HI278.out HO296.out (by decide))); rintro e w18 ⟨rfl, hi, hb, hk⟩; refine ⟨_, rfl, ?_⟩; have n0_ := Aside0.mk (Kd.R_mono (Kd.R_keep (IsS79.apart (show IsS79 w _ g278 t290 t291 t292 t293 from by repeat (first | (with_reducible first | exact HI278.out | apply IsS79.alloc | apply IsS79.drewN | apply IsS79.drew | apply IsS79.set_0 | apply IsS79.set_1 | apply IsS79.set_2 | apply IsS79.set_3) | exact HI278.out)) (by (with_reducible repeat (first | apply Kd.R_alloc | apply Kd.R_drewN | apply Kd.R_drew)); exact HO281.out) (by decide)) hk (fun _ h => h.2)) (fun _ h => h.1)); have n1_ := Aside0.mk (Kd.R_mono (Kd.R_keep (IsS79.apart (show IsS79 w _ g278 t290 t291 t292 t293 from by repeat (first | (with_reducible first | exact HI278.out | apply IsS79.alloc | apply IsS79.drewN | apply IsS79.drew | apply IsS79.set_0 | apply IsS79.set_1 | apply IsS79.set_2 | apply IsS79.set_3) | exact HI278.out)) (by (with_reducible repeat (first | apply Kd.R_alloc | apply Kd.R_drewN | apply Kd.R_drew)); exact HO296.out) (by decide)) hk (fun _ h => h.2)) (fun _ h => h.1)); have n2_ := Aside0.mk (hb); have n3_ := Aside0.mk (hi); clear HO281; clear HO296; clear HB; clear HI278; have HO281 := n0_; have HO296 := n1_; have HB := n2_; have HI278 := n3_; clear n0_ n1_ n2_ n3_; (try clear hb); (try clear hb2); (try clear hk); (try clear hi)))
  go_loopg [27] k (fun kq v27 w' => ∃ (x27_1 : Int) (x279000_1 : Int) (x279001_1 : Int) (x279002_1 : Int) (x279003_1 : Int), v27 = .int .i64 x27_1 ∧ Aside0 (impl_digest.l0 kq x27_1 x279000_1 x279001_1 x279002_1 x279003_1 = some r) ∧ Aside0 (kq ≤ k) ∧ Aside0 (IsS79 w w' g278 x279000_1 x279001_1 x279002_1 x279003_1) ∧ Aside0 (Below w.heap.size w w'))
  case atStart => exact ⟨(0), (t297), (t298), (t299), (t300), (by first | rfl | (simp; done) | (simp [*]; done)), H', ⟨Nat.le_refl _⟩, ⟨by repeat (first | (with_reducible first | exact HI278.out | apply IsS79.alloc | apply IsS79.drewN | apply IsS79.drew | apply IsS79.set_0 | apply IsS79.set_1 | apply IsS79.set_2 | apply IsS79.set_3) | exact HI278.out)⟩, ⟨by repeat (first | (with_reducible first | exact HB.out | apply below_alloc | apply pw_below_drewN | apply below_drew1 | refine below_set ?_ (IsS79.ge HI278.out)) | exact HB.out)⟩⟩
  case round =>
    clear H'
    try clear c1
    try clear p2
    try clear c5
    try clear c6
    try clear c7
    try clear c8
    obtain ⟨x27_1, x279000_1, x279001_1, x279002_1, x279003_1, rfl, HA, HK1, HI278, HB⟩ := hrel
    cases gk with
    | zero => exact absurd HA.out (by simp [impl_digest.l0])
    | succ k1 =>
      have H := HA.out
      clear HA
      simp only [impl_digest.l0] at H
      by_cases c19 : x27_1 < 16
      · rw [if_pos c19] at H
        have c19b0 : decide (x27_1 < 16) = true := decide_eq_true c19
        clear c19
        obtain ⟨y301, hy301⟩ : ∃ y_ : List Int, y_ = (([165] : List Int)) := ⟨_, rfl⟩
        replace H : ((impl_stirrer_stir.f k1 x279000_1 x279001_1 x279002_1 x279003_1 y301).bind fun bt304 => (impl_digest.l0 k1 (wrap64 (x27_1 + 1)) bt304.1 bt304.2.1 bt304.2.2.1 bt304.2.2.2)) = some r := by first | (rw [hy301]; with_reducible exact H) | (have H2_ := (Option.bind_some _ _).symm.trans H; rw [hy301]; with_reducible exact H2_) | (have H2_ := (Option.bind_some _ _).symm.trans H; with_reducible exact H2_) | with_reducible exact H | (rw [hy301]; exact H) | exact H
        have Ny301 := Aside0.mk hy301
        clear hy301
        replace H := Option.bind_eq_some_iff.mp H
        obtain ⟨⟨t304, t305, t306, t307⟩, A200, H⟩ := H
        replace H : (impl_digest.l0 k1 (wrap64 (x27_1 + 1)) t304 t305 t306 t307) = some r := H
        have A20 := Aside0.mk A200
        clear A200
        have H' := Aside0.mk H
        clear H
        go_wp2_with (first | ((with_reducible refine gate_dst (N := 30) rfl ?_); refine Kd.R_lit (Kd.int .u8) _ 5 ?hg (N := 30) ?hd (xs := ([165] : List Int)) (inner := [.int .u8 165]) (ok := fun _ => True) (okp := fun _ => True) ?hr ?hp (fun _ hk => hk) trivial (Below.refl _ _) (Nat.le_refl _) (by simp) ?_; (case hd => rfl); (case hg => rfl); (case hr => first | (go_simp; done) | (go_simp; rfl)); (case hp => exact (Reps.one (show Kd.M (Kd.int .u8) _ _ _ 165 [.int .u8 165] from rfl) (Reps.none _ _))); intro v302 w21 ho22 hb hg_ hnew_; clear hg_ hnew_; (first | rw [← Ny301.out] at ho22 | (simp only [Int.reduceToNat] at ho22; rw [← Ny301.out] at ho22)); have n0_ := Aside0.mk (Kd.R_lower ho22 (below_size (by repeat (first | (with_reducible first | exact HB.out | apply below_alloc | apply pw_below_drewN | apply below_drew1 | refine below_set ?_ (IsS79.ge HI278.out)) | exact HB.out)))); have n1_ := Aside0.mk (IsS79.below (by repeat (first | (with_reducible first | exact HI278.out | apply IsS79.alloc | apply IsS79.drewN | apply IsS79.drew | apply IsS79.set_0 | apply IsS79.set_1 | apply IsS79.set_2 | apply IsS79.set_3) | exact HI278.out)) hb); have n2_ := Aside0.mk (below_step (by repeat (first | (with_reducible first | exact HB.out | apply below_alloc | apply pw_below_drewN | apply below_drew1 | refine below_set ?_ (IsS79.ge HI278.out)) | exact HB.out)) hb); clear HI278; clear HB; have HO303 := n0_; have HI278 := n1_; have HB := n2_; clear n0_ n1_ n2_; clear hb ho22; obtain ⟨Ao23, co23, eo23⟩ := Kd.R_slice HO303.out; subst eo23) | ((with_reducible refine gate_callee (f := 79) rfl ?_); refine goesL_ (some 31) rfl rfl Try.func79 (by kernel_rfl) rfl #[.pointer (some ⟨g278, 0, none⟩), .slice Ao23 y301.length co23] rfl (by (try simp only [List.map_toArray, List.map_cons, List.map_nil]); first | done | rfl | (simp only [List.length_drop, List.length_take]; rfl)) ?_; (with_reducible refine (impl_stirrer_stir.calls k1 g278 x279000_1 x279001_1 x279002_1 x279003_1 _ _ y301 t304 t305 t306 t307 w _ ?side1 ?side2 ?side3 ?side4 ?side5 A20.out).mono ?_); (case side1 => repeat (first | (with_reducible first | exact HI278.out | apply IsS79.alloc | apply IsS79.drewN | apply IsS79.drew | apply IsS79.set_0 | apply IsS79.set_1 | apply IsS79.set_2 | apply IsS79.set_3) | exact HI278.out)); (case side2 => repeat (first | (with_reducible first | exact HB.out | apply below_alloc | apply pw_below_drewN | apply below_drew1 | refine below_set ?_ (IsS79.ge HI278.out)) | exact HB.out)); (case side3 => repeat (first | exact (Kd.R_reads' HO303.out).2.2 | (with_reducible refine Kd.C_alloc ?_ _) | (with_reducible refine Kd.C_drewN ?_ _) | (with_reducible refine Kd.C_drew ?_))); (case side4 => exact (Kd.R_reads' HO303.out).2.1); (case side5 => exact far_slice (IsS79.own_ne HI278.out HO303.out (by decide))); rintro e w24 ⟨rfl, hi, hb, hk⟩; refine ⟨_, rfl, ?_⟩; have n0_ := Aside0.mk (Kd.R_mono (Kd.R_keep (IsS79.apart (show IsS79 w _ g278 x279000_1 x279001_1 x279002_1 x279003_1 from by repeat (first | (with_reducible first | exact HI278.out | apply IsS79.alloc | apply IsS79.drewN | apply IsS79.drew | apply IsS79.set_0 | apply IsS79.set_1 | apply IsS79.set_2 | apply IsS79.set_3) | exact HI278.out)) (by (with_reducible repeat (first | apply Kd.R_alloc | apply Kd.R_drewN | apply Kd.R_drew)); exact HO303.out) (by decide)) hk (fun _ h => h.2)) (fun _ h => h.1)); have n1_ := Aside0.mk (hb); have n2_ := Aside0.mk (hi); clear HO303; clear HB; clear HI278; have HO303 := n0_; have HB := n1_; have HI278 := n2_; clear n0_ n1_ n2_; (try clear hb); (try clear hb2); (try clear hk); (try clear hi)))
        go_roundg k1
        case measure => have := HK1.out; omega
        case rel => exact ⟨(wrap64 (x27_1 + 1)), (t304), (t305), (t306), (t307), (by first | rfl | (simp; done) | (simp [*]; done)), H', ⟨by have := HK1.out; omega⟩, ⟨by repeat (first | (with_reducible first | exact HI278.out | apply IsS79.alloc | apply IsS79.drewN | apply IsS79.drew | apply IsS79.set_0 | apply IsS79.set_1 | apply IsS79.set_2 | apply IsS79.set_3) | exact HI278.out)⟩, ⟨by repeat (first | (with_reducible first | exact HB.out | apply below_alloc | apply pw_below_drewN | apply below_drew1 | refine below_set ?_ (IsS79.ge HI278.out)) | exact HB.out)⟩⟩
      · rw [if_neg c19] at H
        have c19b0 : decide (x27_1 < 16) = false := decide_eq_false c19
        clear c19
        obtain ⟨y308, hy308⟩ : ∃ y_ : List Int, y_ = (([] : List Int)) := ⟨_, rfl⟩
        replace H : (impl_digest.l1 k1 y308 x279000_1 x279001_1 x279002_1 x279003_1 0) = some r := by first | (rw [hy308]; with_reducible exact H) | (have H2_ := (Option.bind_some _ _).symm.trans H; rw [hy308]; with_reducible exact H2_) | (have H2_ := (Option.bind_some _ _).symm.trans H; with_reducible exact H2_) | with_reducible exact H | (rw [hy308]; exact H) | exact H
        have Ny308 := Aside0.mk hy308
        clear hy308
        have H' := Aside0.mk H
        clear H
        go_wp2_with (first | ((with_reducible refine gate_dst (N := 33) rfl ?_); refine Kd.R_lit (Kd.int .u8) _ 5 ?hg (N := 33) ?hd (xs := ([] : List Int)) (inner := []) (ok := fun _ => True) (okp := fun _ => True) ?hr ?hp (fun _ hk => hk) trivial (Below.refl _ _) (Nat.le_refl _) (by simp) ?_; (case hd => rfl); (case hg => rfl); (case hr => first | (go_simp; done) | (go_simp; rfl)); (case hp => exact (Reps.none _ _)); intro v309 w25 ho26 hb hg_ hnew_; clear hg_ hnew_; (first | rw [← Ny308.out] at ho26 | (simp only [Int.reduceToNat] at ho26; rw [← Ny308.out] at ho26)); have n0_ := Aside0.mk (Kd.R_lower ho26 (below_size (by repeat (first | (with_reducible first | exact HB.out | apply below_alloc | apply pw_below_drewN | apply below_drew1 | refine below_set ?_ (IsS79.ge HI278.out)) | exact HB.out)))); have n1_ := Aside0.mk (IsS79.below (by repeat (first | (with_reducible first | exact HI278.out | apply IsS79.alloc | apply IsS79.drewN | apply IsS79.drew | apply IsS79.set_0 | apply IsS79.set_1 | apply IsS79.set_2 | apply IsS79.set_3) | exact HI278.out)) hb); have n2_ := Aside0.mk (below_step (by repeat (first | (with_reducible first | exact HB.out | apply below_alloc | apply pw_below_drewN | apply below_drew1 | refine below_set ?_ (IsS79.ge HI278.out)) | exact HB.out)) hb); clear HI278; clear HB; have HO310 := n0_; have HI278 := n1_; have HB := n2_; clear n0_ n1_ n2_; clear hb ho26; obtain ⟨HGz27, hgz27⟩ := HI278.out; have hcz27_0 := cellS79_0 HGz27; have hcz27_1 := cellS79_1 HGz27; have hcz27_2 := cellS79_2 HGz27; have hcz27_3 := cellS79_3 HGz27; have hfz27_0 := blk_frozen HGz27 0; have hfz27_1 := blk_frozen HGz27 1; have hfz27_2 := blk_frozen HGz27 2; have hfz27_3 := blk_frozen HGz27 3; clear HGz27 hgz27))
        go_quiet (fail)
        go_wp2
        go_loopg [6, 51] k1 (fun kq v6 v51 w' => ∃ (x6_2 : List Int) (x51_2 : Int), v51 = .int .i64 x51_2 ∧ Aside0 (impl_digest.l1 kq x6_2 x279000_1 x279001_1 x279002_1 x279003_1 x51_2 = some r) ∧ Aside0 (kq ≤ k1) ∧ Aside0 (Kd.R (Kd.int .u8) 5 w' w.heap.size (fun _ => True) v6 x6_2) ∧ Aside0 (Below w.heap.size w w'))
        case atStart => exact ⟨(y308), (0), (by first | rfl | (simp; done) | (simp [*]; done)), H', ⟨Nat.le_refl _⟩, ⟨by (with_reducible repeat (first | apply Kd.R_alloc | apply Kd.R_drewN | apply Kd.R_drew)); exact HO310.out⟩, ⟨by repeat (first | (with_reducible first | exact HB.out | apply below_alloc | apply pw_below_drewN | apply below_drew1 | refine below_set ?_ (IsS79.ge HI278.out)) | exact HB.out)⟩⟩
        case round =>
          clear H'
          try clear c1
          try clear p2
          try clear c5
          try clear c6
          try clear p6
          try clear c7
          try clear c8
          try clear c19
          try clear c19b0
          try clear hcz27_0
          try clear hcz27_1
          try clear hcz27_2
          try clear hcz27_3
          try clear hfz27_0
          try clear hfz27_1
          try clear hfz27_2
          try clear hfz27_3
          try clear p2
          obtain ⟨x6_2, x51_2, rfl, HA, HK2, HO_6, HB⟩ := hrel
          cases gk with
          | zero => exact absurd HA.out (by simp [impl_digest.l1])
          | succ k2 =>
            have H := HA.out
            clear HA
            simp only [impl_digest.l1] at H
            by_cases c28 : x51_2 < 4
            · rw [if_pos c28] at H
              by_cases c30 : 0 ≤ x51_2
              · rw [if_pos c30] at H
                have c28b0 : decide (x51_2 < 4) = true := decide_eq_true c28
                replace H := Option.bind_eq_some_iff.mp H
                obtain ⟨t311, A290, H⟩ := H
                replace H : (impl_digest.l1 k2 t311 x279000_1 x279001_1 x279002_1 x279003_1 (wrap64 (x51_2 + 1))) = some r := H
                have A29 := Aside0.mk A290
                clear A290
                have H' := Aside0.mk H
                clear H
                obtain ⟨Ao30, co30, eo30⟩ := Kd.R_slice HO_6.out
                subst eo30
                have hidx := fun (w : World) => pick4_run x279000_1 x279001_1 x279002_1 x279003_1 x51_2 c30 c28 w
                clear c28 c30
                go_wp2_with (first | ((with_reducible refine gate_callee (f := 80) rfl ?_); refine goesL_ (some 57) rfl rfl Try.func80 (by kernel_rfl) rfl #[.slice Ao30 x6_2.length co30, .int .i64 (wrap64 (pick4 x279000_1 x279001_1 x279002_1 x279003_1 x51_2)), .int .i64 4] rfl (by (try simp only [List.map_toArray, List.map_cons, List.map_nil]); first | done | rfl | (simp only [List.length_drop, List.length_take]; rfl)) ?_; (with_reducible refine (impl_fixed.calls k2 (fun k_ => some k_ = (.slice Ao30 x6_2.length co30 : Value).ownBlock) (.slice Ao30 x6_2.length co30) x6_2 (wrap64 (pick4 x279000_1 x279001_1 x279002_1 x279003_1 x51_2)) 4 t311 w _ ?side1 ?side2 A29.out).mono ?_); (case side1 => repeat (first | (with_reducible first | exact HB.out | apply below_alloc | apply pw_below_drewN | apply below_drew1) | exact HB.out)); (case side2 => exact Kd.R_tight rfl HO_6.out); rintro e w31 ⟨v312, rfl, ho0, hb, hkp⟩; refine ⟨_, rfl, ?_⟩; have n0_ := Aside0.mk (Kd.R_mono (ok' := fun k_ => True) ho0 (fun k_ hk_ => trivial)); have n1_ := Aside0.mk (hb); clear HB; clear HO_6; have HO313 := n0_; have HB := n1_; clear n0_ n1_; (try clear hb); (try clear hkp); (try clear ho0)))
                go_roundg k2
                case measure => have := HK1.out; have := HK2.out; omega
                case rel => exact ⟨(t311), (wrap64 (x51_2 + 1)), (by first | rfl | (simp; done) | (simp [*]; done)), H', ⟨by have := HK1.out; have := HK2.out; omega⟩, ⟨by (with_reducible repeat (first | apply Kd.R_alloc | apply Kd.R_drewN | apply Kd.R_drew)); exact HO313.out⟩, ⟨by repeat (first | (with_reducible first | exact HB.out | apply below_alloc | apply pw_below_drewN | apply below_drew1) | exact HB.out)⟩⟩
              · rw [if_neg c30] at H
                exact absurd H (by simp)
            · rw [if_neg c28] at H
              have c28b0 : decide (x51_2 < 4) = false := decide_eq_false c28
              clear c28
              obtain rfl := Option.some.inj H
              go_wp2
              go_ret
              exact ⟨_, by first | rfl | (simp [errW_none, errW_some] <;> rfl) | (simp [*, errW_none, errW_some] <;> rfl), by (with_reducible repeat (first | apply Kd.R_alloc | apply Kd.R_drewN | apply Kd.R_drew)); exact HO_6.out, by repeat (first | (with_reducible first | exact HB.out | apply below_alloc | apply pw_below_drewN | apply below_drew1) | exact HB.out)⟩

/-! ### impl_retryTag: function 62 -/
def impl_retryTag.f (k : Nat) (l0 : List Int) (l1 : List Int) : Option (List Int) := (some (([((l0.length : Int)) % 256] : List Int) : List Int)).bind fun y279 => (if y279.length + l0.length < 140737488355328 then ((some (y279 ++ l0 : List Int)).bind fun y282 => (if y282.length + l1.length < 140737488355328 then ((impl_digest.f k (([114, 101, 116, 114, 121] : List Int)) (y282 ++ l1)).bind fun t291 => (if 8 ≤ (t291.length : Int) then (some (t291.take (8 : Int).toNat)) else (none))) else (none))) else (none))
theorem impl_retryTag.mono : ∀ a0 a1 k, LeO (impl_retryTag.f k a0 a1) (impl_retryTag.f (k + 1) a0 a1) := by
  intro a0 a1 k
  unfold impl_retryTag.f
  repeat' first
      | (with_reducible exact impl_digest.mono _ _ _)
      | (with_reducible exact LeO.refl _)
      | (with_reducible exact LeO.none _)
      | (with_reducible refine LeO.ite ?_ ?_)
      | (with_reducible refine LeO.bind ?_ (fun _ => ?_))
      | exact impl_digest.mono _ _ _
      | exact LeO.none _
      | refine LeO.ite ?_ ?_
      | refine LeO.bind ?_ (fun _ => ?_)
set_option maxHeartbeats 8000000 in
set_option maxRecDepth 100000 in
theorem impl_retryTag.calls (k : Nat) (A0 : Option Addr) (c0 : Nat) (l0 : List Int) (A1 : Option Addr) (c1 : Nat) (l1 : List Int) (r : List Int) (w : World) (hr0 : Kd.C (Kd.int .u8) w A0 l0.length l0) (hc0 : l0.length ≤ c0) (hr1 : Kd.C (Kd.int .u8) w A1 l1.length l1) (hc1 : l1.length ≤ c1) (h : impl_retryTag.f k l0 l1 = some r) :
    Calls Try.prog 62 #[.slice A0 l0.length c0, .slice A1 l1.length c1] w fun e w' => ∃ v0_ : Value, e = .returned (v0_) ∧ Kd.R (Kd.int .u8) 5 w' w.heap.size (fun _ => True) v0_ r ∧ Below w.heap.size w w' := by
  have HR0 := Aside0.mk hr0
  have HC0 := Aside0.mk hc0
  clear hr0 hc0
  have HR1 := Aside0.mk hr1
  have HC1 := Aside0.mk hc1
  clear hr1 hc1
  have HB := Aside0.mk (Below.refl w.heap.size w)
  have H : ((some (([((l0.length : Int)) % 256] : List Int) : List Int)).bind fun y279 => (if y279.length + l0.length < 140737488355328 then ((some (y279 ++ l0 : List Int)).bind fun y282 => (if y282.length + l1.length < 140737488355328 then ((impl_digest.f k (([114, 101, 116, 114, 121] : List Int)) (y282 ++ l1)).bind fun t291 => (if 8 ≤ (t291.length : Int) then (some (t291.take (8 : Int).toNat)) else (none))) else (none))) else (none))) = some r := h
  clear h
  obtain ⟨y279, hy279⟩ : ∃ y_ : List Int, y_ = (([((l0.length : Int)) % 256] : List Int)) := ⟨_, rfl⟩
  replace H : (if y279.length + l0.length < 140737488355328 then ((some (y279 ++ l0 : List Int)).bind fun y282 => (if y282.length + l1.length < 140737488355328 then ((impl_digest.f k (([114, 101, 116, 114, 121] : List Int)) (y282 ++ l1)).bind fun t291 => (if 8 ≤ (t291.length : Int) then (some (t291.take (8 : Int).toNat)) else (none))) else (none))) else (none)) = some r := by first | (rw [hy279]; with_reducible exact H) | (have H2_ := (Option.bind_some _ _).symm.trans H; rw [hy279]; with_reducible exact H2_) | (have H2_ := (Option.bind_some _ _).symm.trans H; with_reducible exact H2_) | with_reducible exact H | (rw [hy279]; exact H) | exact H
  have Ny279 := Aside0.mk hy279
  clear hy279
  by_cases c3 : y279.length + l0.length < 140737488355328
  · rw [if_pos c3] at H
    have LMc3 := Aside0.mk c3
    clear c3
    obtain ⟨y282, hy282⟩ : ∃ y_ : List Int, y_ = (y279 ++ l0) := ⟨_, rfl⟩
    replace H : (if y282.length + l1.length < 140737488355328 then ((impl_digest.f k (([114, 101, 116, 114, 121] : List Int)) (y282 ++ l1)).bind fun t291 => (if 8 ≤ (t291.length : Int) then (some (t291.take (8 : Int).toNat)) else (none))) else (none)) = some r := by first | (rw [hy282]; with_reducible exact H) | (have H2_ := (Option.bind_some _ _).symm.trans H; rw [hy282]; with_reducible exact H2_) | (have H2_ := (Option.bind_some _ _).symm.trans H; with_reducible exact H2_) | with_reducible exact H | (rw [hy282]; exact H) | exact H
    have Ny282 := Aside0.mk hy282
    clear hy282
    obtain ⟨y285, hy285⟩ : ∃ y_ : List Int, y_ = (([114, 101, 116, 114, 121] : List Int)) := ⟨_, rfl⟩
    replace H : (if y282.length + l1.length < 140737488355328 then ((impl_digest.f k y285 (y282 ++ l1)).bind fun t291 => (if 8 ≤ (t291.length : Int) then (some (t291.take (8 : Int).toNat)) else (none))) else (none)) = some r := by first | (rw [hy285]; with_reducible exact H) | (have H2_ := (Option.bind_some _ _).symm.trans H; rw [hy285]; with_reducible exact H2_) | (have H2_ := (Option.bind_some _ _).symm.trans H; with_reducible exact H2_) | with_reducible exact H | (rw [hy285]; exact H) | exact H
    have Ny285 := Aside0.mk hy285
    clear hy285
    by_cases c4 : y282.length + l1.length < 140737488355328
    · rw [if_pos c4] at H
      have LMc4 := Aside0.mk c4
      clear c4
      obtain ⟨y288, hy288⟩ : ∃ y_ : List Int, y_ = (y282 ++ l1) := ⟨_, rfl⟩
      replace H : ((impl_digest.f k y285 y288).bind fun t291 => (if 8 ≤ (t291.length : Int) then (some (t291.take (8 : Int).toNat)) else (none))) = some r := by first | (rw [hy288]; with_reducible exact H) | (have H2_ := (Option.bind_some _ _).symm.trans H; rw [hy288]; with_reducible exact H2_) | (have H2_ := (Option.bind_some _ _).symm.trans H; with_reducible exact H2_) | with_reducible exact H | (rw [hy288]; exact H) | exact H
      have Ny288 := Aside0.mk hy288
      clear hy288
      replace H := Option.bind_eq_some_iff.mp H
      obtain ⟨t291, A50, H⟩ := H
      replace H : (if 8 ≤ (t291.length : Int) then (some (t291.take (8 : Int).toNat)) else (none)) = some r := H
      have A5 := Aside0.mk A50
      clear A50
      by_cases c6 : 8 ≤ (t291.length : Int)
      · rw [if_pos c6] at H
        have c6b0 := eq_true c6
        have c6b1 : decide (8 ≤ (t291.length : Int)) = true := decide_eq_true c6
        clear c6
        obtain ⟨y294, hy294⟩ : ∃ y_ : List Int, y_ = (t291.take (8 : Int).toNat) := ⟨_, rfl⟩
        replace H : (some y294) = some r := by first | (rw [hy294]; with_reducible exact H) | (have H2_ := (Option.bind_some _ _).symm.trans H; rw [hy294]; with_reducible exact H2_) | (have H2_ := (Option.bind_some _ _).symm.trans H; with_reducible exact H2_) | with_reducible exact H | (rw [hy294]; exact H) | exact H
        have Ny294 := Aside0.mk hy294
        clear hy294
        obtain rfl := Option.some.inj H
        go_enter Try.func62, Try.ntmps62
        go_wp2_with (first | ((with_reducible refine gate_dst (N := 9) rfl ?_); refine Kd.R_lit (Kd.int .u8) _ 5 ?hg (N := 9) ?hd (xs := ([((l0.length : Int)) % 256] : List Int)) (inner := [.int .u8 (((l0.length : Int)) % 256)]) (ok := fun _ => True) (okp := fun _ => True) ?hr ?hp (fun _ hk => hk) trivial (Below.refl _ _) (Nat.le_refl _) (by simp) ?_; (case hd => rfl); (case hg => rfl); (case hr => first | (go_simp; done) | (go_simp; rfl)); (case hp => exact (Reps.one (show Kd.M (Kd.int .u8) _ _ _ (((l0.length : Int)) % 256) [.int .u8 (((l0.length : Int)) % 256)] from rfl) (Reps.none _ _))); intro v280 w7 ho8 hb hg_ hnew_; clear hg_ hnew_; (first | rw [← Ny279.out] at ho8 | (simp only [Int.reduceToNat] at ho8; rw [← Ny279.out] at ho8)); have n0_ := Aside0.mk (Kd.R_lower ho8 (below_size (by repeat (first | (with_reducible first | exact HB.out | apply below_alloc | apply pw_below_drewN | apply below_drew1) | exact HB.out)))); have n1_ := Aside0.mk (below_step (by repeat (first | (with_reducible first | exact HB.out | apply below_alloc | apply pw_below_drewN | apply below_drew1) | exact HB.out)) hb); clear HB; have HO281 := n0_; have HB := n1_; clear n0_ n1_; clear hb ho8) | ((with_reducible refine gate_builtin (b := .append) (xs := #[.tmp 9, .tmp 10]) rfl ?_); at_builtin; refine Kd.R_append_rows (Kd.int .u8) (w0 := w) w.heap.size rfl (.tmp 9) (.tmp 10) 22 5 (.int .u8 0) 1 rfl Try.underlying22 info5 rfl (by decide) (by omega) v280 y279 l0 _ _ _ (fun _ => True) (fun _ => False) rfl rfl ?aO ?aR (fun _ _ h => h) (fun _ h => h.elim) ?aF ?aB ?aS ?aL ?_; (case aR => repeat (first | exact (Kd.C_below HR0.out HB.out) | (with_reducible refine Kd.C_alloc ?_ _) | (with_reducible refine Kd.C_drewN ?_ _) | (with_reducible refine Kd.C_drew ?_))); (case aB => exact (by repeat (first | (with_reducible first | exact HB.out | apply below_alloc | apply pw_below_drewN | apply below_drew1) | exact HB.out))); (case aF => exact (fun _ _ => trivial)); (case aO => exact (by (with_reducible repeat (first | apply Kd.R_alloc | apply Kd.R_drewN | apply Kd.R_drew)); exact HO281.out)); (case aS => exact (below_size (by repeat (first | (with_reducible first | exact HB.out | apply below_alloc | apply pw_below_drewN | apply below_drew1) | exact HB.out)))); (case aL => have := LMc3.out; omega); intro v283 w9 ho hb hg hat; rw [← Ny282.out] at ho; have n0_ := Aside0.mk (hb); have n1_ := Aside0.mk (ho); clear HB; clear HO281; have HB := n0_; have HO284 := n1_; clear n0_ n1_; clear ho hb hg hat) | ((with_reducible refine gate_dst (N := 13) rfl ?_); refine mark_event (N := 13) rfl rfl rfl Ny285.out rfl HO284.out HB.out ?_; intro w_m b_m hm_ hn_ ho_ hb_; have HM := Aside0.mk hm_; have HNE := Aside0.mk hn_; clear HO284 HB; have HO284 := Aside0.mk ho_; have HB := Aside0.mk hb_; clear hm_ hn_ ho_ hb_) | ((with_reducible refine gate_builtin (b := .append) (xs := #[.tmp 14, .tmp 15]) rfl ?_); at_builtin; refine Kd.R_append_rows (Kd.int .u8) (w0 := w) w.heap.size rfl (.tmp 14) (.tmp 15) 22 5 (.int .u8 0) 1 rfl Try.underlying22 info5 rfl (by decide) (by omega) v283 y282 l1 _ _ _ (fun _ => True) (fun _ => False) rfl rfl ?aO ?aR (fun _ _ h => h) (fun _ h => h.elim) ?aF ?aB ?aS ?aL ?_; (case aR => repeat (first | exact (Kd.C_below HR1.out HB.out) | (with_reducible refine Kd.C_alloc ?_ _) | (with_reducible refine Kd.C_drewN ?_ _) | (with_reducible refine Kd.C_drew ?_))); (case aB => exact (by repeat (first | (with_reducible first | exact HB.out | apply below_alloc | apply pw_below_drewN | apply below_drew1) | exact HB.out))); (case aF => exact (fun _ _ => trivial)); (case aO => exact (by (with_reducible repeat (first | apply Kd.R_alloc | apply Kd.R_drewN | apply Kd.R_drew)); exact HO284.out)); (case aS => exact (below_size (by repeat (first | (with_reducible first | exact HB.out | apply below_alloc | apply pw_below_drewN | apply below_drew1) | exact HB.out)))); (case aL => have := LMc4.out; omega); intro v289 w12 ho hb hg hat; rw [← Ny288.out] at ho; have n0_ := Aside0.mk (HM.out.kept hg HNE.out); have n1_ := Aside0.mk (hb); have n2_ := Aside0.mk (ho); clear HM; clear HB; clear HO284; have HM := n0_; have HB := n1_; have HO290 := n2_; clear n0_ n1_ n2_; clear ho hb hg hat; obtain ⟨Ao14, co14, eo14⟩ := Kd.R_slice HO290.out; subst eo14) | ((with_reducible refine gate_callee (f := 51) rfl ?_); refine goesL_ (some 17) rfl rfl Try.func51 (by kernel_rfl) rfl #[.slice (some ⟨b_m, 0, none⟩) y285.length 5, .slice Ao14 y288.length co14] rfl (by (try simp only [List.map_toArray, List.map_cons, List.map_nil]); first | done | rfl | (simp only [List.length_drop, List.length_take]; rfl)) ?_; (with_reducible refine (impl_digest.calls k _ _ y285 _ _ y288 t291 _ ?side1 ?side2 ?side3 ?side4 A5.out).mono ?_); (case side1 => exact HM.out.C (by rw [Ny285.out]; decide)); (case side2 => rw [Ny285.out]; decide); (case side3 => repeat (first | exact (Kd.R_reads' HO290.out).2.2 | (with_reducible refine Kd.C_alloc ?_ _) | (with_reducible refine Kd.C_drewN ?_ _) | (with_reducible refine Kd.C_drew ?_))); (case side4 => exact (Kd.R_reads' HO290.out).2.1); rintro e w15 ⟨v292, rfl, ho0, hb⟩; refine ⟨_, rfl, ?_⟩; have n1_ := Aside0.mk (Kd.R_elder' (by (with_reducible repeat (first | apply Kd.R_alloc | apply Kd.R_drewN | apply Kd.R_drew)); exact HO290.out) (Kd.R_base ho0) hb); have n2_ := Aside0.mk (Kd.R_lower (Kd.R_new' ho0 (Kd.R_lt (by (with_reducible repeat (first | apply Kd.R_alloc | apply Kd.R_drewN | apply Kd.R_drew)); exact HO290.out))) (below_size (by repeat (first | (with_reducible first | exact HB.out | apply below_alloc | apply pw_below_drewN | apply below_drew1) | exact HB.out)))); have n3_ := Aside0.mk (below_step (by repeat (first | (with_reducible first | exact HB.out | apply below_alloc | apply pw_below_drewN | apply below_drew1) | exact HB.out)) hb); clear HO290; clear HB; have HO290 := n1_; have HO293 := n2_; have HB := n3_; clear n1_ n2_ n3_; (try clear hb); (try clear hb2); (try clear hk); (try clear hi); (try clear ho0); obtain ⟨Ao16, co16, eo16⟩ := Kd.R_slice HO293.out; subst eo16; have q17 : (8 : Int) ≤ ((t291.length : Int) : Int) := of_decide_eq_true (by first | (with_reducible assumption) | assumption); obtain ⟨i017, hi017, _, hsz17, _⟩ := info_parts info5; have hcut17 := cut_to (P := Try.prog) 22 5 .i64 Try.underlying22 hi017 Ao16 t291.length co16 8 (by omega) q17 (Kd.R_reads' HO293.out).2.1; have hr17 := Kd.R_take (m := (8 : Int).toNat) HO293.out (by omega); have hy17 : y294.length = (8 : Int).toNat := (by rw [Ny294.out, List.length_take]; omega); rw [← Ny294.out] at hr17; rw [← hy17] at hr17 hcut17; clear hy17 hi017 hsz17 HO293; have HO296 := Aside0.mk hr17; clear hr17; replace q17 := eq_true q17))
        go_ret
        exact ⟨_, by first | rfl | (simp [errW_none, errW_some] <;> rfl) | (simp [*, errW_none, errW_some] <;> rfl), by (with_reducible repeat (first | apply Kd.R_alloc | apply Kd.R_drewN | apply Kd.R_drew)); exact Kd.R_mono HO296.out (fun _ hk => trivial), by repeat (first | (with_reducible first | exact HB.out | apply below_alloc | apply pw_below_drewN | apply below_drew1) | exact HB.out)⟩
      · rw [if_neg c6] at H
        exact absurd H (by simp)
    · rw [if_neg c4] at H
      exact absurd H (by simp)
  · rw [if_neg c3] at H
    exact absurd H (by simp)

end Go.Proofs.Ytcdkbdkanjifeaa.SFnExactRetryPacket
