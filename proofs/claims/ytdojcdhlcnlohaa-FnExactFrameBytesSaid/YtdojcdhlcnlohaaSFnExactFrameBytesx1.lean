/- The walk of functions that the law FnExactFrameBytes uses, written by program. -/
import Derived.Test.YtdojcdhlcnlohaaSFnExactFrameBytesx0
import Derived.Test.YtdojcdhlcnlohaaSteps2
namespace Go.Proofs.Ytdojcdhlcnlohaa.SFnExactFrameBytes
open Go.Proofs.Ytdojcdhlcnlohaa.Steps2 Go.RowKit Go.Proofs.YtdojcdhlcnlohaaW.PrintWords Go.Proofs.YtdojcdhlcnlohaaW.PrintLast Go.Proofs.YtdojcdhlcnlohaaW.PrintMore
open Go.Proofs.YtdojcdhlcnlohaaW.PrintWords renaming below_alloc → qh, pw_below_drewN → qi, below_drew1 → qj, below_set → qk, blk_drewN → ql, blk_drew → qn, blk_alloc → qo, blk_put → qp, blk_far → qr, below_size → qs, below_step → qt, blk_below → qv
open Go.Proofs.YtdojcdhlcnlohaaW.PrintWords.Kd renaming R_far → qa, R_alloc → qb, R_drewN → qc, R_drew → qd, R_reads' → qe, R_below → qf, R_mono → qg
open Go.Proofs.YtdojcdhlcnlohaaW.PrintWords.Aside0 renaming mk → qm
attribute [local go_sem] max2_int min2_int max_two min_two max_three min_three max_four min_four 
set_option linter.unusedVariables false
set_option linter.unusedSimpArgs false
/-! ### laws_eqByteS: function 16 -/
def laws_eqByteS.l0 : Nat → List Int → List Int → Int → Option (Bool)
 | 0, _, _, _ => none
 | k + 1, x0, x1, x5 => if x5 < (x0.length : Int) then (if 0 ≤ x5 then (if x5 < (x1.length : Int) then (if (rd x0 x5) = (rd x1 x5) then (laws_eqByteS.l0 k x0 x1 (wrap64 (x5 + 1))) else (some false)) else (none)) else (none)) else (some true)
def laws_eqByteS.f (k : Nat) (l0 : List Int) (l1 : List Int) : Option (Bool) := if (l0.length : Int) = (l1.length : Int) then (laws_eqByteS.l0 k l0 l1 0) else (some false)
theorem laws_eqByteS.mono_l : ∀ k, (∀ y0 y1 y2, LeO (laws_eqByteS.l0 k y0 y1 y2) (laws_eqByteS.l0 (k + 1) y0 y1 y2))
 | 0 => fun _ _ _ r h => by simp [laws_eqByteS.l0] at h
 | k + 1 => by
  have ih0 := laws_eqByteS.mono_l k
  ·intro y0 y1 y2
   unfold laws_eqByteS.l0
   repeat' first
   | (with_reducible apply ih0)
   | (with_reducible exact LeO.refl _)
   | (with_reducible exact LeO.none _)
   | (with_reducible refine LeO.ite ?_ ?_)
   | (with_reducible refine LeO.bind ?_ (fun _ => ?_))
theorem laws_eqByteS.mono : ∀ a0 a1 k, LeO (laws_eqByteS.f k a0 a1) (laws_eqByteS.f (k + 1) a0 a1) := by
 intro a0 a1 k
 have ih0 := laws_eqByteS.mono_l k
 unfold laws_eqByteS.f
 repeat' first
   | (with_reducible apply ih0)
   | (with_reducible exact LeO.refl _)
   | (with_reducible exact LeO.none _)
   | (with_reducible refine LeO.ite ?_ ?_)
   | (with_reducible refine LeO.bind ?_ (fun _ => ?_))
set_option maxHeartbeats 8000000 in
set_option maxRecDepth 100000 in
theorem laws_eqByteS.calls (k : Nat) (A0 : Option Addr) (c0 : Nat) (l0 : List Int) (A1 : Option Addr) (c1 : Nat) (l1 : List Int) (r : Bool) (w : World) (hr0 : Kd.C (Kd.int .u8) w A0 l0.length l0) (hc0 : l0.length ≤ c0) (hr1 : Kd.C (Kd.int .u8) w A1 l1.length l1) (hc1 : l1.length ≤ c1) (h : laws_eqByteS.f k l0 l1 = some r) :
  Calls Try.prog 16 #[.slice A0 l0.length c0, .slice A1 l1.length c1] w fun e w' => e = .returned (.bool r) ∧ Drawn0 w w' := by
 have HR0 := qm hr0
 have HC0 := qm hc0
 clear hr0 hc0
 have HR1 := qm hr1
 have HC1 := qm hc1
 clear hr1 hc1
 have H : (if (l0.length : Int) = (l1.length : Int) then (laws_eqByteS.l0 k l0 l1 0) else (some false)) = some r := h
 clear h
 by_cases c3 : (l0.length : Int) = (l1.length : Int)
 ·rw [if_pos c3] at H
  have c3b0 : ((l0.length : Int) == (l1.length : Int)) = true := beq_iff_eq.mpr c3
  have c3b1 : ((l0.length : Int) != (l1.length : Int)) = false := bne_eq_false_iff_eq.mpr c3
  have c3b2 : (l0.length == l1.length) = true := by first | simpa using c3 | (simp at c3 ⊢; omega)
  clear c3
  have H' := qm H
  clear H
  go_enter Try.func16, Try.ntmps16
  go_wp2
  repeat (go_quiet (fail); try go_wp2)
  go_loopg [5] k (fun kq v5 w' => ∃ (x5_1 : Int), v5 = .int .i64 x5_1 ∧ Aside0 (laws_eqByteS.l0 kq l0 l1 x5_1 = some r) ∧ Aside0 (kq ≤ k) ∧ Drawn0 w w')
  case atStart => exact ⟨(0), (by first | rfl | (simp; done) | (simp [*]; done)), H', ⟨Nat.le_refl _⟩, by repeat (first | exact Drawn0.refl _ | apply Drawn0.step)⟩
  case round =>
   clear H'
   try clear c1
   try clear c3
   try clear c3b0
   try clear c3b1
   try clear c3b2
   obtain ⟨x5_1, rfl, HA, HK1, ⟨m1, rfl⟩⟩ := hrel
   cases gk with
   | zero => exact absurd HA.out (by simp [laws_eqByteS.l0])
   | succ k1 => ?_
   have H := HA.out
   clear HA
   simp only [laws_eqByteS.l0] at H
   by_cases c4 : x5_1 < (l0.length : Int)
   ·rw [if_pos c4] at H
    have c4b0 : decide (x5_1 < (l0.length : Int)) = true := decide_eq_true c4
    clear c4
    by_cases c5 : 0 ≤ x5_1
    ·rw [if_pos c5] at H
     have c5b0 : decide (0 ≤ x5_1) = true := decide_eq_true c5
     clear c5
     by_cases c6 : x5_1 < (l1.length : Int)
     ·rw [if_pos c6] at H
      have c6b0 : decide (x5_1 < (l1.length : Int)) = true := decide_eq_true c6
      clear c6
      by_cases c7 : (rd l0 x5_1) = (rd l1 x5_1)
      ·rw [if_pos c7] at H
       have c7b0 : ((rd l0 x5_1) == (rd l1 x5_1)) = true := beq_iff_eq.mpr c7
       have c7b1 : ((rd l0 x5_1) != (rd l1 x5_1)) = false := bne_eq_false_iff_eq.mpr c7
       clear c7
       have H' := qm H
       clear H
       have p101 : 0 ≤ (x5_1 : Int) := of_decide_eq_true (by assumption)
       have q101 : x5_1 < (l0.length : Int) := of_decide_eq_true (by assumption)
       obtain ⟨ad101, e101, hx101_0⟩ := Kd.at_int HR0.out x5_1 p101 q101
       cases e101
       replace p101 := eq_true p101
       replace q101 := eq_true q101
       have p102 : 0 ≤ (x5_1 : Int) := of_decide_eq_true (by assumption)
       have q102 : x5_1 < (l1.length : Int) := of_decide_eq_true (by assumption)
       obtain ⟨ad102, e102, hx102_0⟩ := Kd.at_int HR1.out x5_1 p102 q102
       cases e102
       replace p102 := eq_true p102
       replace q102 := eq_true q102
       go_wp2
       repeat (go_quiet (fail); try go_wp2)
       go_roundg k1
       case measure => have := HK1.out; omega
       case rel => exact ⟨(wrap64 (x5_1 + 1)), rfl, H', ⟨by have := HK1.out; omega⟩, by repeat (first | exact Drawn0.refl _ | apply Drawn0.step)⟩
      rw [if_neg c7] at H
      have c7b0 : ((rd l0 x5_1) == (rd l1 x5_1)) = false := beq_eq_false_iff_ne.mpr c7
      have c7b1 : ((rd l0 x5_1) != (rd l1 x5_1)) = true := bne_iff_ne.mpr c7
      obtain rfl := Option.some.inj H
      have p101 : 0 ≤ (x5_1 : Int) := of_decide_eq_true (by assumption)
      have q101 : x5_1 < (l0.length : Int) := of_decide_eq_true (by assumption)
      obtain ⟨ad101, e101, hx101_0⟩ := Kd.at_int HR0.out x5_1 p101 q101
      cases e101
      replace p101 := eq_true p101
      replace q101 := eq_true q101
      have p102 : 0 ≤ (x5_1 : Int) := of_decide_eq_true (by assumption)
      have q102 : x5_1 < (l1.length : Int) := of_decide_eq_true (by assumption)
      obtain ⟨ad102, e102, hx102_0⟩ := Kd.at_int HR1.out x5_1 p102 q102
      cases e102
      replace p102 := eq_true p102
      replace q102 := eq_true q102
      go_wp2
      repeat (go_quiet (fail); try go_wp2)
      go_ret
      exact ⟨by first | rfl | (simp; done) | (simp [*]; done), by repeat (first | exact Drawn0.refl _ | apply Drawn0.step)⟩
     rw [if_neg c6] at H
     exact absurd H (by simp)
    rw [if_neg c5] at H
    exact absurd H (by simp)
   rw [if_neg c4] at H
   have c4b0 : decide (x5_1 < (l0.length : Int)) = false := decide_eq_false c4
   clear c4
   obtain rfl := Option.some.inj H
   go_wp2
   repeat (go_quiet (fail); try go_wp2)
   go_ret
   exact ⟨by first | rfl | (simp; done) | (simp [*]; done), by repeat (first | exact Drawn0.refl _ | apply Drawn0.step)⟩
 rw [if_neg c3] at H
 have c3b0 : ((l0.length : Int) == (l1.length : Int)) = false := beq_eq_false_iff_ne.mpr c3
 have c3b1 : ((l0.length : Int) != (l1.length : Int)) = true := bne_iff_ne.mpr c3
 have c3b2 : (l0.length == l1.length) = false := by first | simpa using c3 | (simp at c3 ⊢; omega)
 obtain rfl := Option.some.inj H
 go_enter Try.func16, Try.ntmps16
 go_wp2
 repeat (go_quiet (fail); try go_wp2)
 go_ret
 exact ⟨by first | rfl | (simp; done) | (simp [*]; done), by repeat (first | exact Drawn0.refl _ | apply Drawn0.step)⟩
/-! ### laws_markByteS: function 17 -/
def laws_markByteS.l0 : Nat → List Int → Int → Int → Option (Int × List Int)
 | 0, _, _, _ => none
 | k + 1, x0, x1, x5 => if x5 < (x0.length : Int) then (if 0 ≤ x5 then (laws_markByteS.l0 k (x0.set (x5 : Int).toNat ((x1) % 256)) (wrap64 (x1 + 1)) (wrap64 (x5 + 1))) else (none)) else (some (x1, x0))
def laws_markByteS.f (k : Nat) (l0 : List Int) (a1 : Int) : Option (Int × List Int) := laws_markByteS.l0 k l0 a1 0
theorem laws_markByteS.mono_l : ∀ k, (∀ y0 y1 y2, LeO (laws_markByteS.l0 k y0 y1 y2) (laws_markByteS.l0 (k + 1) y0 y1 y2))
 | 0 => fun _ _ _ r h => by simp [laws_markByteS.l0] at h
 | k + 1 => by
  have ih0 := laws_markByteS.mono_l k
  ·intro y0 y1 y2
   unfold laws_markByteS.l0
   repeat' first
   | (with_reducible apply ih0)
   | (with_reducible exact LeO.refl _)
   | (with_reducible exact LeO.none _)
   | (with_reducible refine LeO.ite ?_ ?_)
   | (with_reducible refine LeO.bind ?_ (fun _ => ?_))
theorem laws_markByteS.mono : ∀ a0 a1 k, LeO (laws_markByteS.f k a0 a1) (laws_markByteS.f (k + 1) a0 a1) := by
 intro a0 a1 k
 have ih0 := laws_markByteS.mono_l k
 unfold laws_markByteS.f
 repeat' first
   | (with_reducible apply ih0)
   | (with_reducible exact LeO.refl _)
   | (with_reducible exact LeO.none _)
   | (with_reducible refine LeO.ite ?_ ?_)
   | (with_reducible refine LeO.bind ?_ (fun _ => ?_))
set_option maxHeartbeats 8000000 in
set_option maxRecDepth 100000 in
theorem laws_markByteS.calls (k : Nat) (P0_ : Nat → Prop) (u9000_ : Value) (l0 : List Int) (a1 : Int) (r1 : Int) (r2 : List Int) (w0 w : World) (hB : Below w0.heap.size w0 w) (ho0 : Kd.R (Kd.int .u8) 5 w w0.heap.size P0_ u9000_ l0) (h : laws_markByteS.f k l0 a1 = some (r1, r2)) :
  Calls Try.prog 17 #[u9000_, .int .i64 a1] w fun e w' => e = .returned (.int .i64 r1) ∧ Kd.R (Kd.int .u8) 5 w' w0.heap.size (fun k_ => (P0_ k_ ∨ w.heap.size ≤ k_)) u9000_ r2 ∧ Below w0.heap.size w0 w' ∧ Kept w w' (fun k_ => P0_ k_) := by
 have HO0 := qm (show Kd.R (Kd.int .u8) 5 w w0.heap.size (fun k_ => (P0_ k_ ∨ w.heap.size ≤ k_)) u9000_ l0 from qg ho0 (fun k_ hk => (.inl hk)))
 have HK := qm (Kept.refl w (fun k_ => P0_ k_))
 have HW0 := qm hB.size
 have HB := qm hB
 clear hB
 have H : (laws_markByteS.l0 k l0 a1 0) = some (r1, r2) := h
 clear h
 have H' := qm H
 clear H
 go_enter Try.func17, Try.ntmps17
 go_wp2
 go_loopg [1, 5] k (fun kq v1 v5 w' => ∃ (x0_1 : List Int) (x1_1 : Int) (x5_1 : Int), v1 = .int .i64 x1_1 ∧ v5 = .int .i64 x5_1 ∧ Aside0 (laws_markByteS.l0 kq x0_1 x1_1 x5_1 = some (r1, r2)) ∧ Aside0 (kq ≤ k) ∧ Aside0 (Kd.R (Kd.int .u8) 5 w' w0.heap.size (fun k_ => (P0_ k_ ∨ w.heap.size ≤ k_)) u9000_ x0_1) ∧ Aside0 (Kept w w' (fun k_ => P0_ k_)) ∧ Aside0 (Below w0.heap.size w0 w'))
 case atStart => exact ⟨(l0), (a1), (0), (by first | rfl | (simp; done) | (simp [*]; done)), (by first | rfl | (simp; done) | (simp [*]; done)), H', ⟨Nat.le_refl _⟩, ⟨HO0.out⟩, ⟨by repeat (first | (with_reducible first | exact HK.out | apply Kept.alloc | apply Kept.drewN | apply Kept.drew) | exact HK.out)⟩, ⟨HB.out⟩⟩
 case round =>
  clear H'
  obtain ⟨x0_1, x1_1, x5_1, rfl, rfl, HA, HK1, HO_0, HK, HB⟩ := hrel
  cases gk with
  | zero => exact absurd HA.out (by simp [laws_markByteS.l0])
  | succ k1 => ?_
  have H := HA.out
  clear HA
  simp only [laws_markByteS.l0] at H
  by_cases c3 : x5_1 < (x0_1.length : Int)
  ·rw [if_pos c3] at H
   have c3b0 : decide (x5_1 < (x0_1.length : Int)) = true := decide_eq_true c3
   clear c3
   by_cases c4 : 0 ≤ x5_1
   ·rw [if_pos c4] at H
    have c4b0 : decide (0 ≤ x5_1) = true := decide_eq_true c4
    clear c4
    obtain ⟨y103, hy103⟩ : ∃ y_ : List Int, y_ = (x0_1.set (x5_1 : Int).toNat ((x1_1) % 256)) := ⟨_, rfl⟩
    replace H : (laws_markByteS.l0 k1 y103 (wrap64 (x1_1 + 1)) (wrap64 (x5_1 + 1))) = some (r1, r2) := by first | (rw [hy103]; with_reducible exact H) | (have H2_ := (Option.bind_some _ _).symm.trans H; rw [hy103]; with_reducible exact H2_) | (have H2_ := (Option.bind_some _ _).symm.trans H; with_reducible exact H2_) | with_reducible exact H | (rw [hy103]; exact H) | exact H
    have Ny103 := qm hy103
    clear hy103
    have H' := qm H
    clear H
    obtain ⟨Ao6, co6, eo6⟩ := Kd.R_slice HO_0.out
    subst eo6
    have p5 : 0 ≤ (x5_1 : Int) := of_decide_eq_true (by assumption)
    have q5 : (x5_1 : Int) < ((x0_1.length : Int) : Int) := of_decide_eq_true (by assumption)
    obtain ⟨go5, co5, eo5, gb5, gl5, cl5, HG5⟩ := Kd.R_form HO_0.out (by omega)
    (first | cases eo5 | (injection eo5 with ea_ en_ ec_; (first | subst ea_ | (injection ea_ with ea_; subst ea_)); subst ec_; clear en_))
    have GB5 := qm gb5
    have GG5 := qm HG5
    clear gb5 gl5 HG5
    have HMgo5 := qm (show (P0_ go5 ∨ w.heap.size ≤ go5) from (HO_0.out.1 _ rfl))
    obtain ⟨hx5_0, hf5_0⟩ := Kd.R_celln 0 HO_0.out (x5_1 : Int) p5 q5
    replace p5 := eq_true p5
    replace q5 := eq_true q5
    have HP7 := Kd.R_putg HO_0.out (x5_1 : Int) ((x1_1) % 256)
    go_wp2_with (first | ((with_reducible refine gate_store (t := 5) (p := 16) rfl ?_); refine store_event (t := 5) (p := 16) (v := ?vo_w8) (w1 := (wr.setCell ⟨go5, (x5_1 : Int).toNat, none⟩ (.int .u8 ((x1_1) % 256)))) ?hg ?ho ?hn ?hr ?_; (case ho => rfl); (case hg => rfl); (case hn => rfl); (case hr => first | (go_simp; done) | (go_simp; rfl)); intro w8 hw; have hg : wr.grownBy w8 (some go5) := (by rw [hw]; exact HP7.2); have hp_ : Kd.R (Kd.int .u8) 5 w8 w0.heap.size (fun k_ => (P0_ k_ ∨ w.heap.size ≤ k_)) (.slice (some ⟨go5, 0, none⟩) x0_1.length co6) y103 := (by rw [hw, Ny103.out]; exact HP7.1); clear HP7; have n0_ := qm (hp_); have n1_ := qm ((by rw [hw]; exact qk (HB.out) GB5.out : Below w0.heap.size w0 w8)); have n2_ := qm (Kept.of_grown (S := (fun k_ => P0_ k_)) hg (by repeat (first | (with_reducible first | exact HK.out | apply Kept.alloc | apply Kept.drewN | apply Kept.drew) | exact HK.out)) (fun k_ e_ => (HO_0.out.1 k_ e_))); clear HO_0; clear HB; clear HK; have HO_0 := n0_; have HB := n1_; have HK := n2_; clear hg hw hp_))
    go_roundg k1
    case measure => have := HK1.out; omega
    case rel => exact ⟨(y103), (wrap64 (x1_1 + 1)), (wrap64 (x5_1 + 1)), rfl, rfl, H', ⟨by have := HK1.out; omega⟩, ⟨HO_0.out⟩, ⟨by repeat (first | (with_reducible first | exact HK.out | apply Kept.alloc | apply Kept.drewN | apply Kept.drew) | exact HK.out)⟩, ⟨HB.out⟩⟩
   rw [if_neg c4] at H
   exact absurd H (by simp)
  rw [if_neg c3] at H
  have c3b0 : decide (x5_1 < (x0_1.length : Int)) = false := decide_eq_false c3
  clear c3
  simp only [Option.some.injEq, Prod.mk.injEq] at H
  obtain ⟨rfl, rfl⟩ := H
  obtain ⟨Ao9, co9, eo9⟩ := Kd.R_slice HO_0.out
  subst eo9
  go_wp2
  go_ret
  exact ⟨by first | rfl | (simp <;> rfl) | (simp [*] <;> rfl), HO_0.out, by repeat (first | (with_reducible first | exact HB.out | apply qh | apply qi | apply qj) | exact HB.out), by repeat (first | (with_reducible first | exact HK.out | apply Kept.alloc | apply Kept.drewN | apply Kept.drew) | exact HK.out)⟩
/-! ### laws_heldByteS: function 18 -/
def laws_heldByteS.l0 : Nat → List Int → Int → Int → Option (Int)
 | 0, _, _, _ => none
 | k + 1, x0, x1, x5 => if x5 < (x0.length : Int) then (if 0 ≤ x5 then (if (rd x0 x5) = ((x1) % 256) then (laws_heldByteS.l0 k x0 (wrap64 (x1 + 1)) (wrap64 (x5 + 1))) else (some (-1))) else (none)) else (some x1)
def laws_heldByteS.f (k : Nat) (l0 : List Int) (a1 : Int) : Option (Int) := laws_heldByteS.l0 k l0 a1 0
theorem laws_heldByteS.mono_l : ∀ k, (∀ y0 y1 y2, LeO (laws_heldByteS.l0 k y0 y1 y2) (laws_heldByteS.l0 (k + 1) y0 y1 y2))
 | 0 => fun _ _ _ r h => by simp [laws_heldByteS.l0] at h
 | k + 1 => by
  have ih0 := laws_heldByteS.mono_l k
  ·intro y0 y1 y2
   unfold laws_heldByteS.l0
   repeat' first
   | (with_reducible apply ih0)
   | (with_reducible exact LeO.refl _)
   | (with_reducible exact LeO.none _)
   | (with_reducible refine LeO.ite ?_ ?_)
   | (with_reducible refine LeO.bind ?_ (fun _ => ?_))
theorem laws_heldByteS.mono : ∀ a0 a1 k, LeO (laws_heldByteS.f k a0 a1) (laws_heldByteS.f (k + 1) a0 a1) := by
 intro a0 a1 k
 have ih0 := laws_heldByteS.mono_l k
 unfold laws_heldByteS.f
 repeat' first
   | (with_reducible apply ih0)
   | (with_reducible exact LeO.refl _)
   | (with_reducible exact LeO.none _)
   | (with_reducible refine LeO.ite ?_ ?_)
   | (with_reducible refine LeO.bind ?_ (fun _ => ?_))
set_option maxHeartbeats 8000000 in
set_option maxRecDepth 100000 in
theorem laws_heldByteS.calls (k : Nat) (A0 : Option Addr) (c0 : Nat) (l0 : List Int) (a1 : Int) (r : Int) (w : World) (hr0 : Kd.C (Kd.int .u8) w A0 l0.length l0) (hc0 : l0.length ≤ c0) (h : laws_heldByteS.f k l0 a1 = some r) :
  Calls Try.prog 18 #[.slice A0 l0.length c0, .int .i64 a1] w fun e w' => e = .returned (.int .i64 r) ∧ Drawn0 w w' := by
 have HR0 := qm hr0
 have HC0 := qm hc0
 clear hr0 hc0
 have H : (laws_heldByteS.l0 k l0 a1 0) = some r := h
 clear h
 have H' := qm H
 clear H
 go_enter Try.func18, Try.ntmps18
 go_wp2
 go_loopg [1, 5] k (fun kq v1 v5 w' => ∃ (x1_1 : Int) (x5_1 : Int), v1 = .int .i64 x1_1 ∧ v5 = .int .i64 x5_1 ∧ Aside0 (laws_heldByteS.l0 kq l0 x1_1 x5_1 = some r) ∧ Aside0 (kq ≤ k) ∧ Drawn0 w w')
 case atStart => exact ⟨(a1), (0), (by first | rfl | (simp; done) | (simp [*]; done)), (by first | rfl | (simp; done) | (simp [*]; done)), H', ⟨Nat.le_refl _⟩, by repeat (first | exact Drawn0.refl _ | apply Drawn0.step)⟩
 case round =>
  clear H'
  obtain ⟨x1_1, x5_1, rfl, rfl, HA, HK1, ⟨m1, rfl⟩⟩ := hrel
  cases gk with
  | zero => exact absurd HA.out (by simp [laws_heldByteS.l0])
  | succ k1 => ?_
  have H := HA.out
  clear HA
  simp only [laws_heldByteS.l0] at H
  by_cases c3 : x5_1 < (l0.length : Int)
  ·rw [if_pos c3] at H
   have c3b0 : decide (x5_1 < (l0.length : Int)) = true := decide_eq_true c3
   clear c3
   by_cases c4 : 0 ≤ x5_1
   ·rw [if_pos c4] at H
    have c4b0 : decide (0 ≤ x5_1) = true := decide_eq_true c4
    clear c4
    by_cases c5 : (rd l0 x5_1) = ((x1_1) % 256)
    ·rw [if_pos c5] at H
     have c5b0 : ((rd l0 x5_1) == ((x1_1) % 256)) = true := beq_iff_eq.mpr c5
     have c5b1 : ((rd l0 x5_1) != ((x1_1) % 256)) = false := bne_eq_false_iff_eq.mpr c5
     clear c5
     have H' := qm H
     clear H
     have p104 : 0 ≤ (x5_1 : Int) := of_decide_eq_true (by assumption)
     have q104 : x5_1 < (l0.length : Int) := of_decide_eq_true (by assumption)
     obtain ⟨ad104, e104, hx104_0⟩ := Kd.at_int HR0.out x5_1 p104 q104
     cases e104
     replace p104 := eq_true p104
     replace q104 := eq_true q104
     go_wp2
     go_roundg k1
     case measure => have := HK1.out; omega
     case rel => exact ⟨(wrap64 (x1_1 + 1)), (wrap64 (x5_1 + 1)), rfl, rfl, H', ⟨by have := HK1.out; omega⟩, by repeat (first | exact Drawn0.refl _ | apply Drawn0.step)⟩
    rw [if_neg c5] at H
    have c5b0 : ((rd l0 x5_1) == ((x1_1) % 256)) = false := beq_eq_false_iff_ne.mpr c5
    have c5b1 : ((rd l0 x5_1) != ((x1_1) % 256)) = true := bne_iff_ne.mpr c5
    obtain rfl := Option.some.inj H
    have p104 : 0 ≤ (x5_1 : Int) := of_decide_eq_true (by assumption)
    have q104 : x5_1 < (l0.length : Int) := of_decide_eq_true (by assumption)
    obtain ⟨ad104, e104, hx104_0⟩ := Kd.at_int HR0.out x5_1 p104 q104
    cases e104
    replace p104 := eq_true p104
    replace q104 := eq_true q104
    go_wp2
    go_ret
    exact ⟨by first | rfl | (simp; done) | (simp [*]; done), by repeat (first | exact Drawn0.refl _ | apply Drawn0.step)⟩
   rw [if_neg c4] at H
   exact absurd H (by simp)
  rw [if_neg c3] at H
  have c3b0 : decide (x5_1 < (l0.length : Int)) = false := decide_eq_false c3
  clear c3
  obtain rfl := Option.some.inj H
  go_wp2
  go_ret
  exact ⟨by first | rfl | (simp; done) | (simp [*]; done), by repeat (first | exact Drawn0.refl _ | apply Drawn0.step)⟩
/-! ### laws_szByteS: function 65 -/
def laws_szByteS.f (l0 : List Int) (a1 : Int) : Option (Int) := if (wrap64 (a1 - (l0.length : Int))) < 0 then (some (-1)) else (some (wrap64 (a1 - (l0.length : Int))))
set_option maxHeartbeats 8000000 in
set_option maxRecDepth 100000 in
theorem laws_szByteS.calls (A0 : Option Addr) (c0 : Nat) (l0 : List Int) (a1 : Int) (r : Int) (w : World) (hr0 : Kd.C (Kd.int .u8) w A0 l0.length l0) (hc0 : l0.length ≤ c0) (h : laws_szByteS.f l0 a1 = some r) :
  Calls Try.prog 65 #[.slice A0 l0.length c0, .int .i64 a1] w fun e w' => e = .returned (.int .i64 r) ∧ Drawn0 w w' := by
 have HR0 := qm hr0
 have HC0 := qm hc0
 clear hr0 hc0
 have H : (if (wrap64 (a1 - (l0.length : Int))) < 0 then (some (-1)) else (some (wrap64 (a1 - (l0.length : Int))))) = some r := h
 clear h
 by_cases c3 : (wrap64 (a1 - (l0.length : Int))) < 0
 ·rw [if_pos c3] at H
  have c3b0 : decide ((wrap64 (a1 - (l0.length : Int))) < 0) = true := decide_eq_true c3
  clear c3
  obtain rfl := Option.some.inj H
  go_enter Try.func65, Try.ntmps65
  go_wp2
  go_ret
  exact ⟨by first | rfl | (simp; done) | (simp [*]; done), by repeat (first | exact Drawn0.refl _ | apply Drawn0.step)⟩
 rw [if_neg c3] at H
 have c3b0 : decide ((wrap64 (a1 - (l0.length : Int))) < 0) = false := decide_eq_false c3
 clear c3
 obtain rfl := Option.some.inj H
 go_enter Try.func65, Try.ntmps65
 go_wp2
 go_ret
 exact ⟨by first | rfl | (simp; done) | (simp [*]; done), by repeat (first | exact Drawn0.refl _ | apply Drawn0.step)⟩
/-! ### laws_szRangeS: function 73 -/
def laws_szRangeS.f (l0 : List (S107)) (a1 : Int) : Option (Int) := if (wrap64 (a1 - (l0.length : Int))) < 0 then (some (-1)) else (some (wrap64 (a1 - (l0.length : Int))))
set_option maxHeartbeats 8000000 in
set_option maxRecDepth 100000 in
theorem laws_szRangeS.calls (A0 : Option Addr) (c0 : Nat) (l0 : List (S107)) (a1 : Int) (r : Int) (w : World) (hr0 : Kd.C k107 w A0 l0.length l0) (hc0 : l0.length ≤ c0) (h : laws_szRangeS.f l0 a1 = some r) :
  Calls Try.prog 73 #[.slice A0 l0.length c0, .int .i64 a1] w fun e w' => e = .returned (.int .i64 r) ∧ Drawn0 w w' := by
 have HR0 := qm hr0
 have HC0 := qm hc0
 clear hr0 hc0
 have H : (if (wrap64 (a1 - (l0.length : Int))) < 0 then (some (-1)) else (some (wrap64 (a1 - (l0.length : Int))))) = some r := h
 clear h
 by_cases c3 : (wrap64 (a1 - (l0.length : Int))) < 0
 ·rw [if_pos c3] at H
  have c3b0 : decide ((wrap64 (a1 - (l0.length : Int))) < 0) = true := decide_eq_true c3
  clear c3
  obtain rfl := Option.some.inj H
  go_enter Try.func73, Try.ntmps73
  go_wp2
  go_ret
  exact ⟨by first | rfl | (simp; done) | (simp [*]; done), by repeat (first | exact Drawn0.refl _ | apply Drawn0.step)⟩
 rw [if_neg c3] at H
 have c3b0 : decide ((wrap64 (a1 - (l0.length : Int))) < 0) = false := decide_eq_false c3
 clear c3
 obtain rfl := Option.some.inj H
 go_enter Try.func73, Try.ntmps73
 go_wp2
 go_ret
 exact ⟨by first | rfl | (simp; done) | (simp [*]; done), by repeat (first | exact Drawn0.refl _ | apply Drawn0.step)⟩
/-! ### laws_szFrame: function 38 -/
def laws_szFrame.f (a0_0 : Int) (a0_1 : Int) (a0_2 : Int) (a0_3 : Int) (a0_4 : Bool) (l0_5 : List Int) (l0_6 : List Int) (l0_7 : List (S107)) (a1 : Int) : Option (Int) := (laws_szByteS.f l0_5 a1).bind fun t106 => (if t106 < 0 then (some (-1)) else ((laws_szByteS.f l0_6 t106).bind fun t107 => (if t107 < 0 then (some (-1)) else ((laws_szRangeS.f l0_7 t107).bind fun t108 => (if t108 < 0 then (some (-1)) else (some t108))))))
set_option maxHeartbeats 8000000 in
set_option maxRecDepth 100000 in
theorem laws_szFrame.calls (a0_0 : Int) (a0_1 : Int) (a0_2 : Int) (a0_3 : Int) (a0_4 : Bool) (A0_5 : Option Addr) (c0_5 : Nat) (l0_5 : List Int) (A0_6 : Option Addr) (c0_6 : Nat) (l0_6 : List Int) (A0_7 : Option Addr) (c0_7 : Nat) (l0_7 : List (S107)) (a1 : Int) (r : Int) (w : World) (hr0_5 : Kd.C (Kd.int .u8) w A0_5 l0_5.length l0_5) (hc0_5 : l0_5.length ≤ c0_5) (hr0_6 : Kd.C (Kd.int .u8) w A0_6 l0_6.length l0_6) (hc0_6 : l0_6.length ≤ c0_6) (hr0_7 : Kd.C k107 w A0_7 l0_7.length l0_7) (hc0_7 : l0_7.length ≤ c0_7) (h : laws_szFrame.f a0_0 a0_1 a0_2 a0_3 a0_4 l0_5 l0_6 l0_7 a1 = some r) :
  Calls Try.prog 38 #[.agg #[.int .i64 a0_0, .int .i64 a0_1, .int .i64 a0_2, .int .i64 a0_3, .bool a0_4, .slice A0_5 l0_5.length c0_5, .slice A0_6 l0_6.length c0_6, .slice A0_7 l0_7.length c0_7], .int .i64 a1] w fun e w' => e = .returned (.int .i64 r) ∧ Below w.heap.size w w' := by
 have hu50 := Try.underlying50
 have HR0_5 := qm hr0_5
 have HC0_5 := qm hc0_5
 clear hr0_5 hc0_5
 have HR0_6 := qm hr0_6
 have HC0_6 := qm hc0_6
 clear hr0_6 hc0_6
 have HR0_7 := qm hr0_7
 have HC0_7 := qm hc0_7
 clear hr0_7 hc0_7
 have HB := qm (Below.refl w.heap.size w)
 have H : ((laws_szByteS.f l0_5 a1).bind fun t106 => (if t106 < 0 then (some (-1)) else ((laws_szByteS.f l0_6 t106).bind fun t107 => (if t107 < 0 then (some (-1)) else ((laws_szRangeS.f l0_7 t107).bind fun t108 => (if t108 < 0 then (some (-1)) else (some t108))))))) = some r := h
 clear h
 replace H := Option.bind_eq_some_iff.mp H
 obtain ⟨t106, A30, H⟩ := H
 try dsimp only at H
 have A3 := qm A30
 clear A30
 by_cases c4 : t106 < 0
 ·rw [if_pos c4] at H
  have c4b0 : decide (t106 < 0) = true := decide_eq_true c4
  clear c4
  obtain rfl := Option.some.inj H
  go_enter Try.func38, Try.ntmps38
  go_wp2_with (first | ((with_reducible refine gate_dst (N := 2) rfl ?_); refine box_event (by rfl) (N := 2) (by rfl) (cs := #[.int .i64 a0_0, .int .i64 a0_1, .int .i64 a0_2, .int .i64 a0_3, .bool a0_4, .slice A0_5 l0_5.length c0_5, .slice A0_6 l0_6.length c0_6, .slice A0_7 l0_7.length c0_7]) (t := 50) (by first | (go_simp; done) | (go_simp; rfl)) ?_; intro gb105 hg w5 hbox hb; have n0_ := qm (qt HB.out hb); have n1_ := qm (hbox); have n2_ := qm ((by rw [hg]; exact (qs HB.out) : w.heap.size ≤ gb105)); have n3_ := qm ((by rw [hg]; exact (qs HB.out) : w.heap.size ≤ gb105)); clear HB; have HB := n0_; have BK105 := n1_; have GW105 := n2_; have GE105 := n3_; clear hb hbox hg; obtain ⟨_, _, _, _, _, _, _, _, _, _, _, _, _, _, _, _⟩ := fc8 BK105.out) | ((with_reducible refine gate_callee (f := 65) rfl ?_); refine goesL_ (some 8) rfl rfl Try.func65 (by kernel_rfl) rfl #[.slice A0_5 l0_5.length c0_5, .int .i64 a1] rfl (by (try simp only [m1, m2, m3]); first | done | rfl) ?_; (with_reducible refine (laws_szByteS.calls _ _ l0_5 a1 t106 _ ?side1 ?side2 A3.out).mono ?_); (case side1 => repeat (first | exact (Kd.C_below HR0_5.out HB.out) | (with_reducible refine Kd.C_alloc ?_ _) | (with_reducible refine Kd.C_drewN ?_ _) | (with_reducible refine Kd.C_drew ?_))); (case side2 => exact HC0_5.out); rintro e w' ⟨rfl, ⟨nd, rfl⟩⟩; refine ⟨_, rfl, ?_⟩))
  go_ret
  exact ⟨by first | rfl | (simp <;> rfl) | (simp [*] <;> rfl), by repeat (first | (with_reducible first | exact HB.out | apply qh | apply qi | apply qj | refine qk ?_ GE105.out) | exact HB.out)⟩
 rw [if_neg c4] at H
 have c4b0 : decide (t106 < 0) = false := decide_eq_false c4
 clear c4
 replace H := Option.bind_eq_some_iff.mp H
 obtain ⟨t107, A70, H⟩ := H
 try dsimp only at H
 have A7 := qm A70
 clear A70
 by_cases c8 : t107 < 0
 ·rw [if_pos c8] at H
  have c8b0 : decide (t107 < 0) = true := decide_eq_true c8
  clear c8
  obtain rfl := Option.some.inj H
  go_enter Try.func38, Try.ntmps38
  go_wp2_with (first | ((with_reducible refine gate_dst (N := 2) rfl ?_); refine box_event (by rfl) (N := 2) (by rfl) (cs := #[.int .i64 a0_0, .int .i64 a0_1, .int .i64 a0_2, .int .i64 a0_3, .bool a0_4, .slice A0_5 l0_5.length c0_5, .slice A0_6 l0_6.length c0_6, .slice A0_7 l0_7.length c0_7]) (t := 50) (by first | (go_simp; done) | (go_simp; rfl)) ?_; intro gb105 hg w9 hbox hb; have n0_ := qm (qt HB.out hb); have n1_ := qm (hbox); have n2_ := qm ((by rw [hg]; exact (qs HB.out) : w.heap.size ≤ gb105)); have n3_ := qm ((by rw [hg]; exact (qs HB.out) : w.heap.size ≤ gb105)); clear HB; have HB := n0_; have BK105 := n1_; have GW105 := n2_; have GE105 := n3_; clear hb hbox hg; obtain ⟨_, _, _, _, _, _, _, _, _, _, _, _, _, _, _, _⟩ := fc8 BK105.out) | ((with_reducible refine gate_callee (f := 65) rfl ?_); refine goesL_ (some 8) rfl rfl Try.func65 (by kernel_rfl) rfl #[.slice A0_5 l0_5.length c0_5, .int .i64 a1] rfl (by (try simp only [m1, m2, m3]); first | done | rfl) ?_; (with_reducible refine (laws_szByteS.calls _ _ l0_5 a1 t106 _ ?side1 ?side2 A3.out).mono ?_); (case side1 => repeat (first | exact (Kd.C_below HR0_5.out HB.out) | (with_reducible refine Kd.C_alloc ?_ _) | (with_reducible refine Kd.C_drewN ?_ _) | (with_reducible refine Kd.C_drew ?_))); (case side2 => exact HC0_5.out); rintro e w' ⟨rfl, ⟨nd, rfl⟩⟩; refine ⟨_, rfl, ?_⟩) | ((with_reducible refine gate_callee (f := 65) rfl ?_); refine goesL_ (some 14) rfl rfl Try.func65 (by kernel_rfl) rfl #[.slice A0_6 l0_6.length c0_6, .int .i64 t106] rfl (by (try simp only [m1, m2, m3]); first | done | rfl) ?_; (with_reducible refine (laws_szByteS.calls _ _ l0_6 t106 t107 _ ?side1 ?side2 A7.out).mono ?_); (case side1 => repeat (first | exact (Kd.C_below HR0_6.out (by repeat (first | (with_reducible first | exact HB.out | apply qh | apply qi | apply qj | refine qk ?_ GE105.out) | exact HB.out))) | (with_reducible refine Kd.C_alloc ?_ _) | (with_reducible refine Kd.C_drewN ?_ _) | (with_reducible refine Kd.C_drew ?_))); (case side2 => exact HC0_6.out); rintro e w' ⟨rfl, ⟨nd, rfl⟩⟩; refine ⟨_, rfl, ?_⟩))
  go_ret
  exact ⟨by first | rfl | (simp <;> rfl) | (simp [*] <;> rfl), by repeat (first | (with_reducible first | exact HB.out | apply qh | apply qi | apply qj | refine qk ?_ GE105.out) | exact HB.out)⟩
 rw [if_neg c8] at H
 have c8b0 : decide (t107 < 0) = false := decide_eq_false c8
 clear c8
 replace H := Option.bind_eq_some_iff.mp H
 obtain ⟨t108, A110, H⟩ := H
 try dsimp only at H
 have A11 := qm A110
 clear A110
 by_cases c12 : t108 < 0
 ·rw [if_pos c12] at H
  have c12b0 : decide (t108 < 0) = true := decide_eq_true c12
  clear c12
  obtain rfl := Option.some.inj H
  go_enter Try.func38, Try.ntmps38
  go_wp2_with (first | ((with_reducible refine gate_dst (N := 2) rfl ?_); refine box_event (by rfl) (N := 2) (by rfl) (cs := #[.int .i64 a0_0, .int .i64 a0_1, .int .i64 a0_2, .int .i64 a0_3, .bool a0_4, .slice A0_5 l0_5.length c0_5, .slice A0_6 l0_6.length c0_6, .slice A0_7 l0_7.length c0_7]) (t := 50) (by first | (go_simp; done) | (go_simp; rfl)) ?_; intro gb105 hg w13 hbox hb; have n0_ := qm (qt HB.out hb); have n1_ := qm (hbox); have n2_ := qm ((by rw [hg]; exact (qs HB.out) : w.heap.size ≤ gb105)); have n3_ := qm ((by rw [hg]; exact (qs HB.out) : w.heap.size ≤ gb105)); clear HB; have HB := n0_; have BK105 := n1_; have GW105 := n2_; have GE105 := n3_; clear hb hbox hg; obtain ⟨_, _, _, _, _, _, _, _, _, _, _, _, _, _, _, _⟩ := fc8 BK105.out) | ((with_reducible refine gate_callee (f := 65) rfl ?_); refine goesL_ (some 8) rfl rfl Try.func65 (by kernel_rfl) rfl #[.slice A0_5 l0_5.length c0_5, .int .i64 a1] rfl (by (try simp only [m1, m2, m3]); first | done | rfl) ?_; (with_reducible refine (laws_szByteS.calls _ _ l0_5 a1 t106 _ ?side1 ?side2 A3.out).mono ?_); (case side1 => repeat (first | exact (Kd.C_below HR0_5.out HB.out) | (with_reducible refine Kd.C_alloc ?_ _) | (with_reducible refine Kd.C_drewN ?_ _) | (with_reducible refine Kd.C_drew ?_))); (case side2 => exact HC0_5.out); rintro e w' ⟨rfl, ⟨nd, rfl⟩⟩; refine ⟨_, rfl, ?_⟩) | ((with_reducible refine gate_callee (f := 65) rfl ?_); refine goesL_ (some 14) rfl rfl Try.func65 (by kernel_rfl) rfl #[.slice A0_6 l0_6.length c0_6, .int .i64 t106] rfl (by (try simp only [m1, m2, m3]); first | done | rfl) ?_; (with_reducible refine (laws_szByteS.calls _ _ l0_6 t106 t107 _ ?side1 ?side2 A7.out).mono ?_); (case side1 => repeat (first | exact (Kd.C_below HR0_6.out (by repeat (first | (with_reducible first | exact HB.out | apply qh | apply qi | apply qj | refine qk ?_ GE105.out) | exact HB.out))) | (with_reducible refine Kd.C_alloc ?_ _) | (with_reducible refine Kd.C_drewN ?_ _) | (with_reducible refine Kd.C_drew ?_))); (case side2 => exact HC0_6.out); rintro e w' ⟨rfl, ⟨nd, rfl⟩⟩; refine ⟨_, rfl, ?_⟩) | ((with_reducible refine gate_callee (f := 73) rfl ?_); refine goesL_ (some 20) rfl rfl Try.func73 (by kernel_rfl) rfl #[.slice A0_7 l0_7.length c0_7, .int .i64 t107] rfl (by (try simp only [m1, m2, m3]); first | done | rfl) ?_; (with_reducible refine (laws_szRangeS.calls _ _ l0_7 t107 t108 _ ?side1 ?side2 A11.out).mono ?_); (case side1 => repeat (first | exact (Kd.C_below HR0_7.out (by repeat (first | (with_reducible first | exact HB.out | apply qh | apply qi | apply qj | refine qk ?_ GE105.out) | exact HB.out))) | (with_reducible refine Kd.C_alloc ?_ _) | (with_reducible refine Kd.C_drewN ?_ _) | (with_reducible refine Kd.C_drew ?_))); (case side2 => exact HC0_7.out); rintro e w' ⟨rfl, ⟨nd, rfl⟩⟩; refine ⟨_, rfl, ?_⟩))
  go_ret
  exact ⟨by first | rfl | (simp <;> rfl) | (simp [*] <;> rfl), by repeat (first | (with_reducible first | exact HB.out | apply qh | apply qi | apply qj | refine qk ?_ GE105.out) | exact HB.out)⟩
 rw [if_neg c12] at H
 have c12b0 : decide (t108 < 0) = false := decide_eq_false c12
 clear c12
 obtain rfl := Option.some.inj H
 go_enter Try.func38, Try.ntmps38
 go_wp2_with (first | ((with_reducible refine gate_dst (N := 2) rfl ?_); refine box_event (by rfl) (N := 2) (by rfl) (cs := #[.int .i64 a0_0, .int .i64 a0_1, .int .i64 a0_2, .int .i64 a0_3, .bool a0_4, .slice A0_5 l0_5.length c0_5, .slice A0_6 l0_6.length c0_6, .slice A0_7 l0_7.length c0_7]) (t := 50) (by first | (go_simp; done) | (go_simp; rfl)) ?_; intro gb105 hg w15 hbox hb; have n0_ := qm (qt HB.out hb); have n1_ := qm (hbox); have n2_ := qm ((by rw [hg]; exact (qs HB.out) : w.heap.size ≤ gb105)); have n3_ := qm ((by rw [hg]; exact (qs HB.out) : w.heap.size ≤ gb105)); clear HB; have HB := n0_; have BK105 := n1_; have GW105 := n2_; have GE105 := n3_; clear hb hbox hg; obtain ⟨_, _, _, _, _, _, _, _, _, _, _, _, _, _, _, _⟩ := fc8 BK105.out) | ((with_reducible refine gate_callee (f := 65) rfl ?_); refine goesL_ (some 8) rfl rfl Try.func65 (by kernel_rfl) rfl #[.slice A0_5 l0_5.length c0_5, .int .i64 a1] rfl (by (try simp only [m1, m2, m3]); first | done | rfl) ?_; (with_reducible refine (laws_szByteS.calls _ _ l0_5 a1 t106 _ ?side1 ?side2 A3.out).mono ?_); (case side1 => repeat (first | exact (Kd.C_below HR0_5.out HB.out) | (with_reducible refine Kd.C_alloc ?_ _) | (with_reducible refine Kd.C_drewN ?_ _) | (with_reducible refine Kd.C_drew ?_))); (case side2 => exact HC0_5.out); rintro e w' ⟨rfl, ⟨nd, rfl⟩⟩; refine ⟨_, rfl, ?_⟩) | ((with_reducible refine gate_callee (f := 65) rfl ?_); refine goesL_ (some 14) rfl rfl Try.func65 (by kernel_rfl) rfl #[.slice A0_6 l0_6.length c0_6, .int .i64 t106] rfl (by (try simp only [m1, m2, m3]); first | done | rfl) ?_; (with_reducible refine (laws_szByteS.calls _ _ l0_6 t106 t107 _ ?side1 ?side2 A7.out).mono ?_); (case side1 => repeat (first | exact (Kd.C_below HR0_6.out (by repeat (first | (with_reducible first | exact HB.out | apply qh | apply qi | apply qj | refine qk ?_ GE105.out) | exact HB.out))) | (with_reducible refine Kd.C_alloc ?_ _) | (with_reducible refine Kd.C_drewN ?_ _) | (with_reducible refine Kd.C_drew ?_))); (case side2 => exact HC0_6.out); rintro e w' ⟨rfl, ⟨nd, rfl⟩⟩; refine ⟨_, rfl, ?_⟩) | ((with_reducible refine gate_callee (f := 73) rfl ?_); refine goesL_ (some 20) rfl rfl Try.func73 (by kernel_rfl) rfl #[.slice A0_7 l0_7.length c0_7, .int .i64 t107] rfl (by (try simp only [m1, m2, m3]); first | done | rfl) ?_; (with_reducible refine (laws_szRangeS.calls _ _ l0_7 t107 t108 _ ?side1 ?side2 A11.out).mono ?_); (case side1 => repeat (first | exact (Kd.C_below HR0_7.out (by repeat (first | (with_reducible first | exact HB.out | apply qh | apply qi | apply qj | refine qk ?_ GE105.out) | exact HB.out))) | (with_reducible refine Kd.C_alloc ?_ _) | (with_reducible refine Kd.C_drewN ?_ _) | (with_reducible refine Kd.C_drew ?_))); (case side2 => exact HC0_7.out); rintro e w' ⟨rfl, ⟨nd, rfl⟩⟩; refine ⟨_, rfl, ?_⟩))
 go_ret
 exact ⟨by first | rfl | (simp <;> rfl) | (simp [*] <;> rfl), by repeat (first | (with_reducible first | exact HB.out | apply qh | apply qi | apply qj | refine qk ?_ GE105.out) | exact HB.out)⟩
/-! ### laws_toByteS: function 25 -/
def laws_toByteS.l0 : Nat → List Int → List Int → Int → Option (List Int)
 | 0, _, _, _ => none
 | k + 1, x0, x3, x4 => if x4 < (x0.length : Int) then (if 0 ≤ x4 then (if x4 < (x3.length : Int) then (laws_toByteS.l0 k x0 (x3.set (x4 : Int).toNat (rd x0 x4)) (wrap64 (x4 + 1))) else (none)) else (none)) else (some x3)
def laws_toByteS.f (k : Nat) (l0 : List Int) : Option (List Int) := if 0 ≤ (l0.length : Int) then (if ((l0.length : Int) : Int).toNat ≤ 281474976710656 then (laws_toByteS.l0 k l0 (List.replicate ((l0.length : Int) : Int).toNat 0) 0) else (none)) else (none)
theorem laws_toByteS.mono_l : ∀ k, (∀ y0 y1 y2, LeO (laws_toByteS.l0 k y0 y1 y2) (laws_toByteS.l0 (k + 1) y0 y1 y2))
 | 0 => fun _ _ _ r h => by simp [laws_toByteS.l0] at h
 | k + 1 => by
  have ih0 := laws_toByteS.mono_l k
  ·intro y0 y1 y2
   unfold laws_toByteS.l0
   repeat' first
   | (with_reducible apply ih0)
   | (with_reducible exact LeO.refl _)
   | (with_reducible exact LeO.none _)
   | (with_reducible refine LeO.ite ?_ ?_)
   | (with_reducible refine LeO.bind ?_ (fun _ => ?_))
theorem laws_toByteS.mono : ∀ a0 k, LeO (laws_toByteS.f k a0) (laws_toByteS.f (k + 1) a0) := by
 intro a0 k
 have ih0 := laws_toByteS.mono_l k
 unfold laws_toByteS.f
 repeat' first
   | (with_reducible apply ih0)
   | (with_reducible exact LeO.refl _)
   | (with_reducible exact LeO.none _)
   | (with_reducible refine LeO.ite ?_ ?_)
   | (with_reducible refine LeO.bind ?_ (fun _ => ?_))
set_option maxHeartbeats 8000000 in
set_option maxRecDepth 100000 in
theorem laws_toByteS.calls (k : Nat) (A0 : Option Addr) (c0 : Nat) (l0 : List Int) (r : List Int) (w : World) (hr0 : Kd.C (Kd.int .u8) w A0 l0.length l0) (hc0 : l0.length ≤ c0) (h : laws_toByteS.f k l0 = some r) :
  Calls Try.prog 25 #[.slice A0 l0.length c0] w fun e w' => ∃ v0_ : Value, e = .returned (v0_) ∧ Kd.R (Kd.int .u8) 5 w' w.heap.size (fun _ => True) v0_ r ∧ Below w.heap.size w w' := by
 have HR0 := qm hr0
 have HC0 := qm hc0
 clear hr0 hc0
 have HB := qm (Below.refl w.heap.size w)
 have H : (if 0 ≤ (l0.length : Int) then (if ((l0.length : Int) : Int).toNat ≤ 281474976710656 then (laws_toByteS.l0 k l0 (List.replicate ((l0.length : Int) : Int).toNat 0) 0) else (none)) else (none)) = some r := h
 clear h
 by_cases c2 : 0 ≤ (l0.length : Int)
 ·rw [if_pos c2] at H
  have c2b0 := eq_true c2
  have c2b1 : decide (0 ≤ (l0.length : Int)) = true := decide_eq_true c2
  clear c2
  by_cases c3 : ((l0.length : Int) : Int).toNat ≤ 281474976710656
  ·rw [if_pos c3] at H
   have c3b0 := eq_true c3
   have c3b1 : decide (((l0.length : Int) : Int).toNat ≤ 281474976710656) = true := decide_eq_true c3
   clear c3
   obtain ⟨y109, hy109⟩ : ∃ y_ : List Int, y_ = (List.replicate ((l0.length : Int) : Int).toNat 0) := ⟨_, rfl⟩
   replace H : (laws_toByteS.l0 k l0 y109 0) = some r := by first | (rw [hy109]; with_reducible exact H) | (have H2_ := (Option.bind_some _ _).symm.trans H; rw [hy109]; with_reducible exact H2_) | (have H2_ := (Option.bind_some _ _).symm.trans H; with_reducible exact H2_) | with_reducible exact H | (rw [hy109]; exact H) | exact H
   have Ny109 := qm hy109
   clear hy109
   have H' := qm H
   clear H
   go_enter Try.func25, Try.ntmps25
   go_wp2_with (first | ((with_reducible refine gate_dst (N := 7) rfl ?_); refine Kd.R_make (Kd.int .u8) _ 5 rfl (N := 7) rfl 22 _ _ rfl (l0.length : Int) rfl rfl Try.underlying22 (.int .u8 0) 1 info5 rfl (by decide) (by omega) 0 (ok := fun _ => True) (okp := fun _ => True) rfl (fun _ hk => hk) trivial (of_decide_eq_true (by assumption)) (Nat.le_trans (Nat.mul_le_mul_right _ (of_decide_eq_true (by assumption) : (l0.length : Int).toNat ≤ 281474976710656)) (by omega)) (Below.refl _ _) (Nat.le_refl _) ?_; intro v110 w4 ho5 hb hg_ hnew_; clear hg_ hnew_; (first | rw [← Ny109.out] at ho5 | (simp only [Int.reduceToNat] at ho5; rw [← Ny109.out] at ho5)); have n0_ := qm (Kd.R_lower ho5 (qs HB.out)); have n1_ := qm (qt HB.out hb); clear HB; have HO111 := n0_; have HB := n1_; clear hb ho5))
   go_loopg [4] k (fun kq v4 w' => ∃ (x3_1 : List Int) (x4_1 : Int), v4 = .int .i64 x4_1 ∧ Aside0 (laws_toByteS.l0 kq l0 x3_1 x4_1 = some r) ∧ Aside0 (kq ≤ k) ∧ Aside0 (Kd.R (Kd.int .u8) 5 w' w.heap.size (fun _ => True) v110 x3_1) ∧ Aside0 (Below w.heap.size w w'))
   case atStart => exact ⟨(y109), (0), (by first | rfl | (simp; done) | (simp [*]; done)), H', ⟨Nat.le_refl _⟩, ⟨HO111.out⟩, ⟨HB.out⟩⟩
   case round =>
    clear H'
    try clear c2
    try clear c2b0
    try clear c2b1
    try clear c3
    try clear c3b0
    try clear c3b1
    obtain ⟨x3_1, x4_1, rfl, HA, HK1, HO_3, HB⟩ := hrel
    cases gk with
    | zero => exact absurd HA.out (by simp [laws_toByteS.l0])
    | succ k1 => ?_
    have H := HA.out
    clear HA
    simp only [laws_toByteS.l0] at H
    by_cases c6 : x4_1 < (l0.length : Int)
    ·rw [if_pos c6] at H
     have c6b0 : decide (x4_1 < (l0.length : Int)) = true := decide_eq_true c6
     clear c6
     by_cases c7 : 0 ≤ x4_1
     ·rw [if_pos c7] at H
      have c7b0 : decide (0 ≤ x4_1) = true := decide_eq_true c7
      clear c7
      by_cases c8 : x4_1 < (x3_1.length : Int)
      ·rw [if_pos c8] at H
       have c8b0 : decide (x4_1 < (x3_1.length : Int)) = true := decide_eq_true c8
       clear c8
       obtain ⟨y113, hy113⟩ : ∃ y_ : List Int, y_ = (x3_1.set (x4_1 : Int).toNat (rd l0 x4_1)) := ⟨_, rfl⟩
       replace H : (laws_toByteS.l0 k1 l0 y113 (wrap64 (x4_1 + 1))) = some r := by first | (rw [hy113]; with_reducible exact H) | (have H2_ := (Option.bind_some _ _).symm.trans H; rw [hy113]; with_reducible exact H2_) | (have H2_ := (Option.bind_some _ _).symm.trans H; with_reducible exact H2_) | with_reducible exact H | (rw [hy113]; exact H) | exact H
       have Ny113 := qm hy113
       clear hy113
       have H' := qm H
       clear H
       have p112 : 0 ≤ (x4_1 : Int) := of_decide_eq_true (by assumption)
       have q112 : x4_1 < (l0.length : Int) := of_decide_eq_true (by assumption)
       obtain ⟨ad112, e112, hx112_0⟩ := Kd.at_int HR0.out x4_1 p112 q112
       cases e112
       replace hx112_0 := (HB.out.cell (World.block_lt_of_cell? w _ hx112_0)).trans hx112_0
       replace p112 := eq_true p112
       replace q112 := eq_true q112
       have p9 : 0 ≤ (x4_1 : Int) := of_decide_eq_true (by assumption)
       have q9 : (x4_1 : Int) < ((x3_1.length : Int) : Int) := of_decide_eq_true (by assumption)
       obtain ⟨go9, co9, eo9, gb9, gl9, cl9, HG9⟩ := Kd.R_form HO_3.out (by omega)
       (first | cases eo9 | (injection eo9 with ea_ en_ ec_; (first | subst ea_ | (injection ea_ with ea_; subst ea_)); subst ec_; clear en_))
       have GB9 := qm gb9
       have GG9 := qm HG9
       clear gb9 gl9 HG9
       obtain ⟨hx9_0, hf9_0⟩ := Kd.R_celln 0 HO_3.out (x4_1 : Int) p9 q9
       replace p9 := eq_true p9
       replace q9 := eq_true q9
       have HP10 := Kd.R_putg HO_3.out (x4_1 : Int) (rd l0 x4_1)
       go_wp2_with (first | ((with_reducible refine gate_store (t := 5) (p := 20) rfl ?_); refine store_event (t := 5) (p := 20) (v := ?vo_w11) (w1 := (wr.setCell ⟨go9, (x4_1 : Int).toNat, none⟩ (.int .u8 (rd l0 x4_1)))) ?hg ?ho ?hn ?hr ?_; (case ho => rfl); (case hg => rfl); (case hn => rfl); (case hr => first | (go_simp; done) | (go_simp; rfl)); intro w11 hw; have hg : wr.grownBy w11 (some go9) := (by rw [hw]; exact HP10.2); have hp_ : Kd.R (Kd.int .u8) 5 w11 w.heap.size (fun _ => True) (.slice (some ⟨go9, 0, none⟩) x3_1.length co9) y113 := (by rw [hw, Ny113.out]; exact HP10.1); clear HP10; have n0_ := qm (hp_); have n1_ := qm ((by rw [hw]; exact qk (HB.out) GB9.out : Below w.heap.size w w11)); clear HO_3; clear HB; have HO_3 := n0_; have HB := n1_; clear hg hw hp_))
       go_roundg k1
       case measure => have := HK1.out; omega
       case rel => exact ⟨(y113), (wrap64 (x4_1 + 1)), rfl, H', ⟨by have := HK1.out; omega⟩, ⟨HO_3.out⟩, ⟨HB.out⟩⟩
      rw [if_neg c8] at H
      exact absurd H (by simp)
     rw [if_neg c7] at H
     exact absurd H (by simp)
    rw [if_neg c6] at H
    have c6b0 : decide (x4_1 < (l0.length : Int)) = false := decide_eq_false c6
    clear c6
    obtain rfl := Option.some.inj H
    go_wp2
    go_ret
    exact ⟨_, by first | rfl | (simp <;> rfl) | (simp [*] <;> rfl), HO_3.out, HB.out⟩
  rw [if_neg c3] at H
  exact absurd H (by simp)
 rw [if_neg c2] at H
 exact absurd H (by simp)
/-! ### laws_toRange: function 97 -/
def laws_toRange.f (a0_0 : Int) (a0_1 : Int) : Option (Int × Int) := some (a0_0, a0_1)
set_option maxHeartbeats 8000000 in
set_option maxRecDepth 100000 in
theorem laws_toRange.calls (a0_0 : Int) (a0_1 : Int) (r1 : Int) (r2 : Int) (w : World) (h : laws_toRange.f a0_0 a0_1 = some (r1, r2)) :
  Calls Try.prog 97 #[.agg #[.int .i64 a0_0, .int .i64 a0_1]] w fun e w' => e = .returned (.agg #[.int .i64 r1, .int .i64 r2]) ∧ Below w.heap.size w w' := by
 have hu107 := Try.underlying107
 have hu105 := Try.underlying105
 have HB := qm (Below.refl w.heap.size w)
 have H : (some (a0_0, a0_1)) = some (r1, r2) := h
 clear h
 simp only [Option.some.injEq, Prod.mk.injEq] at H
 obtain ⟨rfl, rfl⟩ := H
 go_enter Try.func97, Try.ntmps97
 go_wp2_with (first | ((with_reducible refine gate_dst (N := 1) rfl ?_); refine box_event (by rfl) (N := 1) (by rfl) (cs := #[.int .i64 a0_0, .int .i64 a0_1]) (t := 107) (by first | (go_simp; done) | (go_simp; rfl)) ?_; intro gb114 hg w2 hbox hb; have n0_ := qm (qt HB.out hb); have n1_ := qm (hbox); have n2_ := qm ((by rw [hg]; exact (qs HB.out) : w.heap.size ≤ gb114)); have n3_ := qm ((by rw [hg]; exact (qs HB.out) : w.heap.size ≤ gb114)); clear HB; have HB := n0_; have BK114 := n1_; have GW114 := n2_; have GE114 := n3_; clear hb hbox hg) | ((with_reducible refine gate_dst (N := 2) rfl ?_); refine box_event (by rfl) (N := 2) (by rfl) (cs := #[.int .i64 0, .int .i64 0]) (t := 105) (by first | (go_simp; done) | (go_simp; rfl)) ?_; intro gb115 hg w3 hbox hb; have n0_ := qm (qv (g := gb114) BK114.out hb); have n1_ := qm (qt (by repeat (first | (with_reducible first | exact HB.out | apply qh | apply qi | apply qj | refine qk ?_ GE114.out) | exact HB.out)) hb); have n2_ := qm (hbox); have n3_ := qm ((by rw [hg]; exact (qs (by repeat (first | (with_reducible first | exact HB.out | apply qh | apply qi | apply qj | refine qk ?_ GE114.out) | exact HB.out))) : w.heap.size ≤ gb115)); have n4_ := qm ((by rw [hg]; exact (qs (by repeat (first | (with_reducible first | exact HB.out | apply qh | apply qi | apply qj | refine qk ?_ GE114.out) | exact HB.out))) : w.heap.size ≤ gb115)); have n5_ := qm ((by rw [hg]; exact Nat.ne_of_lt (blk_lt (g := gb114) (o := .cells #[.int .i64 a0_0, .int .i64 a0_1] 107 (0, 0)) BK114.out) : gb114 ≠ gb115)); have n6_ := qm ((by rw [hg]; exact Nat.ne_of_gt (blk_lt (g := gb114) (o := .cells #[.int .i64 a0_0, .int .i64 a0_1] 107 (0, 0)) BK114.out) : gb115 ≠ gb114)); clear BK114; clear HB; have BK114 := n0_; have HB := n1_; have BK115 := n2_; have GW115 := n3_; have GE115 := n4_; have NB114_115 := n5_; have NB115_114 := n6_; clear hb hbox hg) | ((with_reducible refine gate_dst (N := 3) rfl ?_); refine box_event (by rfl) (N := 3) (by rfl) (cs := #[.int .i64 0, .int .i64 0]) (t := 105) (by first | (go_simp; done) | (go_simp; rfl)) ?_; intro gb116 hg w4 hbox hb; have n0_ := qm (qv (g := gb114) BK114.out hb); have n1_ := qm (qv (g := gb115) BK115.out hb); have n2_ := qm (qt (by repeat (first | (with_reducible first | exact HB.out | apply qh | apply qi | apply qj | refine qk ?_ GE114.out | refine qk ?_ GE115.out) | exact HB.out)) hb); have n3_ := qm (hbox); have n4_ := qm ((by rw [hg]; exact (qs (by repeat (first | (with_reducible first | exact HB.out | apply qh | apply qi | apply qj | refine qk ?_ GE114.out | refine qk ?_ GE115.out) | exact HB.out))) : w.heap.size ≤ gb116)); have n5_ := qm ((by rw [hg]; exact (qs (by repeat (first | (with_reducible first | exact HB.out | apply qh | apply qi | apply qj | refine qk ?_ GE114.out | refine qk ?_ GE115.out) | exact HB.out))) : w.heap.size ≤ gb116)); have n6_ := qm ((by rw [hg]; exact Nat.ne_of_lt (blk_lt (g := gb114) (o := .cells #[.int .i64 a0_0, .int .i64 a0_1] 107 (0, 0)) BK114.out) : gb114 ≠ gb116)); have n7_ := qm ((by rw [hg]; exact Nat.ne_of_gt (blk_lt (g := gb114) (o := .cells #[.int .i64 a0_0, .int .i64 a0_1] 107 (0, 0)) BK114.out) : gb116 ≠ gb114)); have n8_ := qm ((by rw [hg]; exact Nat.ne_of_lt (blk_lt (g := gb115) (o := .cells #[.int .i64 0, .int .i64 0] 105 (0, 0)) BK115.out) : gb115 ≠ gb116)); have n9_ := qm ((by rw [hg]; exact Nat.ne_of_gt (blk_lt (g := gb115) (o := .cells #[.int .i64 0, .int .i64 0] 105 (0, 0)) BK115.out) : gb116 ≠ gb115)); clear BK114; clear BK115; clear HB; have BK114 := n0_; have BK115 := n1_; have HB := n2_; have BK116 := n3_; have GW116 := n4_; have GE116 := n5_; have NB114_116 := n6_; have NB116_114 := n7_; have NB115_116 := n8_; have NB116_115 := n9_; clear hb hbox hg; have hnb5 := NB114_115.out; have hnc5 := NB115_114.out; have hnb6 := NB114_116.out; have hnc6 := NB116_114.out; obtain ⟨_, _, _, _⟩ := fc2 BK114.out; have hnb8 := NB116_115.out; have hnc8 := NB115_116.out; obtain ⟨_, _, _, _⟩ := fc2 BK116.out; obtain ⟨_, _, _, _⟩ := fc2 BK115.out))
 refine bodyPost_ret (results_cell_row rfl _ _ gb115 105 #[.int .i64 a0_0, .int .i64 a0_1] (0, 0) _ rfl (by (with_reducible repeat (first | refine ql ?_ _ | refine qn ?_ | refine qo ?_ _)); refine qp (cs := #[.int .i64 a0_0, .int .i64 0]) ?_ 1 _ rfl; refine qp (cs := #[.int .i64 0, .int .i64 0]) ?_ 0 _ rfl; refine qr ?_ NB115_116.out _; refine qr ?_ NB115_116.out _; (with_reducible repeat (first | refine ql ?_ _ | refine qn ?_ | refine qo ?_ _)); exact BK115.out) Try.underlying105 rfl (by kernel_rfl)) rfl ?_
 exact ⟨by first | rfl | (simp <;> rfl) | (simp [*] <;> rfl), by repeat (first | (with_reducible first | exact HB.out | apply qh | apply qi | apply qj | refine qk ?_ GE114.out | refine qk ?_ GE115.out | refine qk ?_ GE116.out) | exact HB.out)⟩
/-! ### laws_toRangeS: function 76 -/
def laws_toRangeS.l0 : Nat → List (S107) → List (S105) → Int → Option ((List (S105)))
 | 0, _, _, _ => none
 | k + 1, x0, x3, x4 => if x4 < (x0.length : Int) then (if 0 ≤ x4 then ((laws_toRange.f ((rd_T107 x0 x4).f0) ((rd_T107 x0 x4).f1)).bind fun bt121 => (if x4 < (x3.length : Int) then (laws_toRangeS.l0 k x0 (x3.set (x4 : Int).toNat (⟨bt121.1, bt121.2⟩ : S105)) (wrap64 (x4 + 1))) else (none))) else (none)) else (some x3)
def laws_toRangeS.f (k : Nat) (l0 : List (S107)) : Option ((List (S105))) := if 0 ≤ (l0.length : Int) then (if ((l0.length : Int) : Int).toNat ≤ 17592186044416 then (laws_toRangeS.l0 k l0 (List.replicate ((l0.length : Int) : Int).toNat z105) 0) else (none)) else (none)
theorem laws_toRangeS.mono_l : ∀ k, (∀ y0 y1 y2, LeO (laws_toRangeS.l0 k y0 y1 y2) (laws_toRangeS.l0 (k + 1) y0 y1 y2))
 | 0 => fun _ _ _ r h => by simp [laws_toRangeS.l0] at h
 | k + 1 => by
  have ih0 := laws_toRangeS.mono_l k
  ·intro y0 y1 y2
   unfold laws_toRangeS.l0
   repeat' first
   | (with_reducible apply ih0)
   | (with_reducible exact LeO.refl _)
   | (with_reducible exact LeO.none _)
   | (with_reducible refine LeO.ite ?_ ?_)
   | (with_reducible refine LeO.bind ?_ (fun _ => ?_))
theorem laws_toRangeS.mono : ∀ a0 k, LeO (laws_toRangeS.f k a0) (laws_toRangeS.f (k + 1) a0) := by
 intro a0 k
 have ih0 := laws_toRangeS.mono_l k
 unfold laws_toRangeS.f
 repeat' first
   | (with_reducible apply ih0)
   | (with_reducible exact LeO.refl _)
   | (with_reducible exact LeO.none _)
   | (with_reducible refine LeO.ite ?_ ?_)
   | (with_reducible refine LeO.bind ?_ (fun _ => ?_))
set_option maxHeartbeats 8000000 in
set_option maxRecDepth 100000 in
theorem laws_toRangeS.calls (k : Nat) (A0 : Option Addr) (c0 : Nat) (l0 : List (S107)) (r : List (S105)) (w : World) (hr0 : Kd.C k107 w A0 l0.length l0) (hc0 : l0.length ≤ c0) (h : laws_toRangeS.f k l0 = some r) :
  Calls Try.prog 76 #[.slice A0 l0.length c0] w fun e w' => ∃ v0_ : Value, e = .returned (v0_) ∧ Kd.R k105 105 w' w.heap.size (fun _ => True) v0_ r ∧ Below w.heap.size w w' := by
 have hu107 := Try.underlying107
 have hu105 := Try.underlying105
 have HR0 := qm hr0
 have HC0 := qm hc0
 clear hr0 hc0
 have HB := qm (Below.refl w.heap.size w)
 have H : (if 0 ≤ (l0.length : Int) then (if ((l0.length : Int) : Int).toNat ≤ 17592186044416 then (laws_toRangeS.l0 k l0 (List.replicate ((l0.length : Int) : Int).toNat z105) 0) else (none)) else (none)) = some r := h
 clear h
 by_cases c2 : 0 ≤ (l0.length : Int)
 ·rw [if_pos c2] at H
  have c2b0 := eq_true c2
  have c2b1 : decide (0 ≤ (l0.length : Int)) = true := decide_eq_true c2
  clear c2
  by_cases c3 : ((l0.length : Int) : Int).toNat ≤ 17592186044416
  ·rw [if_pos c3] at H
   have c3b0 := eq_true c3
   have c3b1 : decide (((l0.length : Int) : Int).toNat ≤ 17592186044416) = true := decide_eq_true c3
   clear c3
   obtain ⟨y117, hy117⟩ : ∃ y_ : List (S105), y_ = (List.replicate ((l0.length : Int) : Int).toNat z105) := ⟨_, rfl⟩
   replace H : (laws_toRangeS.l0 k l0 y117 0) = some r := by first | (rw [hy117]; with_reducible exact H) | (have H2_ := (Option.bind_some _ _).symm.trans H; rw [hy117]; with_reducible exact H2_) | (have H2_ := (Option.bind_some _ _).symm.trans H; with_reducible exact H2_) | with_reducible exact H | (rw [hy117]; exact H) | exact H
   have Ny117 := qm hy117
   clear hy117
   have H' := qm H
   clear H
   go_enter Try.func76, Try.ntmps76
   go_wp2_with (first | ((with_reducible refine gate_dst (N := 7) rfl ?_); refine Kd.R_make k105 _ 105 rfl (N := 7) rfl 53 _ _ rfl (l0.length : Int) rfl rfl Try.underlying53 (.agg #[(.int .i64 0), (.int .i64 0)]) 16 info105 rfl (by decide) (by omega) z105 (ok := fun _ => True) (okp := fun _ => True) (k105_mkM _ _ _ z105 ) (fun _ hk => hk) trivial (of_decide_eq_true (by assumption)) (Nat.le_trans (Nat.mul_le_mul_right _ (of_decide_eq_true (by assumption) : (l0.length : Int).toNat ≤ 17592186044416)) (by omega)) (Below.refl _ _) (Nat.le_refl _) ?_; intro v118 w4 ho5 hb hg_ hnew_; clear hg_ hnew_; (first | rw [← Ny117.out] at ho5 | (simp only [Int.reduceToNat] at ho5; rw [← Ny117.out] at ho5)); have n0_ := qm (Kd.R_lower ho5 (qs HB.out)); have n1_ := qm (qt HB.out hb); clear HB; have HO119 := n0_; have HB := n1_; clear hb ho5))
   go_loopg [4] k (fun kq v4 w' => ∃ (x3_1 : List (S105)) (x4_1 : Int), v4 = .int .i64 x4_1 ∧ Aside0 (laws_toRangeS.l0 kq l0 x3_1 x4_1 = some r) ∧ Aside0 (kq ≤ k) ∧ Aside0 (Kd.R k105 105 w' w.heap.size (fun _ => True) v118 x3_1) ∧ Aside0 (Below w.heap.size w w'))
   case atStart => exact ⟨(y117), (0), (by first | rfl | (simp; done) | (simp [*]; done)), H', ⟨Nat.le_refl _⟩, ⟨HO119.out⟩, ⟨HB.out⟩⟩
   case round =>
    clear H'
    try clear c2
    try clear c2b0
    try clear c2b1
    try clear c3
    try clear c3b0
    try clear c3b1
    obtain ⟨x3_1, x4_1, rfl, HA, HK1, HO_3, HB⟩ := hrel
    cases gk with
    | zero => exact absurd HA.out (by simp [laws_toRangeS.l0])
    | succ k1 => ?_
    have H := HA.out
    clear HA
    simp only [laws_toRangeS.l0] at H
    by_cases c6 : x4_1 < (l0.length : Int)
    ·rw [if_pos c6] at H
     have c6b0 : decide (x4_1 < (l0.length : Int)) = true := decide_eq_true c6
     clear c6
     by_cases c7 : 0 ≤ x4_1
     ·rw [if_pos c7] at H
      have c7b0 : decide (0 ≤ x4_1) = true := decide_eq_true c7
      clear c7
      replace H := Option.bind_eq_some_iff.mp H
      obtain ⟨⟨t121, t122⟩, A80, H⟩ := H
      try dsimp only at H
      have A8 := qm A80
      clear A80
      by_cases c9 : x4_1 < (x3_1.length : Int)
      ·rw [if_pos c9] at H
       have c9b0 : decide (x4_1 < (x3_1.length : Int)) = true := decide_eq_true c9
       clear c9
       obtain ⟨y123, hy123⟩ : ∃ y_ : List (S105), y_ = (x3_1.set (x4_1 : Int).toNat (⟨t121, t122⟩ : S105)) := ⟨_, rfl⟩
       replace H : (laws_toRangeS.l0 k1 l0 y123 (wrap64 (x4_1 + 1))) = some r := by first | (rw [hy123]; with_reducible exact H) | (have H2_ := (Option.bind_some _ _).symm.trans H; rw [hy123]; with_reducible exact H2_) | (have H2_ := (Option.bind_some _ _).symm.trans H; with_reducible exact H2_) | with_reducible exact H | (rw [hy123]; exact H) | exact H
       have Ny123 := qm hy123
       clear hy123
       have H' := qm H
       clear H
       have p120 : 0 ≤ (x4_1 : Int) := of_decide_eq_true (by assumption)
       have q120 : x4_1 < (l0.length : Int) := of_decide_eq_true (by assumption)
       obtain ⟨ad120, e120, hx120_0, hx120_1⟩ := at_T107 HR0.out x4_1 p120 q120
       cases e120
       replace hx120_0 := (HB.out.cell (World.block_lt_of_cell? w _ hx120_0)).trans hx120_0
       replace hx120_1 := (HB.out.cell (World.block_lt_of_cell? w _ hx120_1)).trans hx120_1
       replace p120 := eq_true p120
       replace q120 := eq_true q120
       go_wp2_with (first | ((with_reducible refine gate_callee (f := 97) rfl ?_); refine goesL_ (some 20) rfl rfl Try.func97 (by kernel_rfl) rfl #[.agg #[.int .i64 ((rd_T107 l0 x4_1).f0), .int .i64 ((rd_T107 l0 x4_1).f1)]] rfl (by (try simp only [m1, m2, m3]); first | done | rfl) ?_; (with_reducible refine (laws_toRange.calls ((rd_T107 l0 x4_1).f0) ((rd_T107 l0 x4_1).f1) t121 t122 _ A8.out).mono ?_); rintro e w11 ⟨rfl, hb⟩; refine ⟨_, rfl, ?_⟩; have n0_ := qm (qf HO_3.out hb); have n1_ := qm (qt HB.out hb); clear HO_3; clear HB; have HO_3 := n0_; have HB := n1_; have p10 : 0 ≤ (x4_1 : Int) := of_decide_eq_true (by assumption); have q10 : (x4_1 : Int) < ((x3_1.length : Int) : Int) := of_decide_eq_true (by assumption); obtain ⟨go10, co10, eo10, gb10, gl10, cl10, HG10⟩ := Kd.R_form HO_3.out (by omega); (first | cases eo10 | (injection eo10 with ea_ en_ ec_; (first | subst ea_ | (injection ea_ with ea_; subst ea_)); subst ec_; clear en_)); have GB10 := qm gb10; have GG10 := qm HG10; clear gb10 gl10 HG10; obtain ⟨ce10, hcl10, hM10, hcc10, hfr10⟩ := Kd.R_elem HO_3.out z105 (x4_1 : Int) p10 q10; obtain rfl := k105_openM hM10; have hx10_0 : w11.cell? ⟨go10, (x4_1 : Int).toNat * 2, none⟩ = some (.int .i64 ((rd_T105 x3_1 x4_1).f0)) := hcc10 0 _ rfl; have hx10_1 : w11.cell? ⟨go10, (x4_1 : Int).toNat * 2 + 1, none⟩ = some (.int .i64 ((rd_T105 x3_1 x4_1).f1)) := hcc10 1 _ rfl; have hf10_0 : w11.frozen? ⟨go10, (x4_1 : Int).toNat * 2, none⟩ = false := hfr10 0; have hf10_1 : w11.frozen? ⟨go10, (x4_1 : Int).toNat * 2 + 1, none⟩ = false := hfr10 1; clear hcl10 hcc10 hfr10 hM10; replace p10 := eq_true p10; replace q10 := eq_true q10; have HX12 := qm (show Kd.R k105 105 w11 w.heap.size (fun _ => True) (.slice (some ⟨go10, 0, none⟩) x3_1.length co10) x3_1 from HO_3.out); obtain ⟨ce12, hcl12, hM12, hcc12, hfr12⟩ := Kd.R_elem HX12.out z105 (x4_1 : Int) (of_decide_eq_true (by assumption)) (by have h_ : (x4_1 : Int) < ((x3_1.length : Int) : Int) := of_decide_eq_true (by assumption); first | exact h_ | (have e_ := (qe HO_3.out).1; omega) | simpa using h_); obtain rfl := k105_openM hM12; have HP12 := Kd.R_seg HX12.out (x4_1 : Int) (of_decide_eq_true (by assumption)) (by have h_ : (x4_1 : Int) < ((x3_1.length : Int) : Int) := of_decide_eq_true (by assumption); first | exact h_ | (have e_ := (qe HO_3.out).1; omega) | simpa using h_) (seg := [.int .i64 t121, .int .i64 t122]) (j := 0) hcl12 hcc12 (show 2 ≤ 2 from by decide) (x' := (⟨t121, t122⟩ : S105)) (k105_mkM _ _ _ (⟨t121, t122⟩ : S105) ) (fun _ hk => hk); have hx12_0 := hcc12 0 _ rfl; (try simp only [show (k105).sz = 2 from rfl, Nat.mul_one, Nat.add_zero] at hx12_0); have hf12_0 := hfr12 0; (try simp only [show (k105).sz = 2 from rfl, Nat.mul_one, Nat.add_zero] at hf12_0); have hx12_1 := hcc12 1 _ rfl; (try simp only [show (k105).sz = 2 from rfl, Nat.mul_one, Nat.add_zero] at hx12_1); have hf12_1 := hfr12 1; (try simp only [show (k105).sz = 2 from rfl, Nat.mul_one, Nat.add_zero] at hf12_1); clear hcl12 hcc12 hfr12 hM12) | ((with_reducible refine gate_store (t := 105) (p := 21) rfl ?_); refine store_event (t := 105) (p := 21) (v := ?vo_w13) (w1 := ((w11.setCell ⟨go10, (x4_1 : Int).toNat * 2, none⟩ (.int .i64 t121)).setCell ⟨go10, (x4_1 : Int).toNat * 2 + 1, none⟩ (.int .i64 t122))) ?hg ?ho ?hn ?hr ?_; (case ho => rfl); (case hg => rfl); (case hn => rfl); (case hr => first | (go_simp; done) | (go_simp; rfl)); intro w13 hw; have hg : w11.grownBy w13 (some go10) := (by rw [hw]; exact HP12.2); have hp_ : Kd.R k105 105 w13 w.heap.size (fun _ => True) (.slice (some ⟨go10, 0, none⟩) x3_1.length co10) y123 := (by rw [hw, Ny123.out]; exact HP12.1); clear HP12; have n0_ := qm (hp_); have n1_ := qm ((by rw [hw]; exact qk (qk (HB.out) GB10.out) GB10.out : Below w.heap.size w w13)); clear HO_3; clear HB; have HO_3 := n0_; have HB := n1_; clear hg hw hp_))
       go_roundg k1
       case measure => have := HK1.out; omega
       case rel => exact ⟨(y123), (wrap64 (x4_1 + 1)), rfl, H', ⟨by have := HK1.out; omega⟩, ⟨HO_3.out⟩, ⟨HB.out⟩⟩
      rw [if_neg c9] at H
      exact absurd H (by simp)
     rw [if_neg c7] at H
     exact absurd H (by simp)
    rw [if_neg c6] at H
    have c6b0 : decide (x4_1 < (l0.length : Int)) = false := decide_eq_false c6
    clear c6
    obtain rfl := Option.some.inj H
    go_wp2
    go_ret
    exact ⟨_, by first | rfl | (simp <;> rfl) | (simp [*] <;> rfl), HO_3.out, HB.out⟩
  rw [if_neg c3] at H
  exact absurd H (by simp)
 rw [if_neg c2] at H
 exact absurd H (by simp)
/-! ### laws_toFrame: function 40 -/
def laws_toFrame.f (k : Nat) (a0_0 : Int) (a0_1 : Int) (a0_2 : Int) (a0_3 : Int) (a0_4 : Bool) (l0_5 : List Int) (l0_6 : List Int) (l0_7 : List (S107)) : Option (Int × Int × Int × Int × Bool × List Int × List Int × (List (S105))) := (laws_toByteS.f k l0_5).bind fun t127 => ((laws_toByteS.f k l0_6).bind fun t130 => ((laws_toRangeS.f k l0_7).bind fun t133 => (some (a0_0, a0_1, a0_2, a0_3, a0_4, t127, t130, t133))))
theorem laws_toFrame.mono : ∀ a0 a1 a2 a3 a4 a5 a6 a7 k, LeO (laws_toFrame.f k a0 a1 a2 a3 a4 a5 a6 a7) (laws_toFrame.f (k + 1) a0 a1 a2 a3 a4 a5 a6 a7) := by
 intro a0 a1 a2 a3 a4 a5 a6 a7 k
 unfold laws_toFrame.f
 repeat' first
   | (with_reducible apply laws_toByteS.mono)
   | (with_reducible apply laws_toRangeS.mono)
   | (with_reducible exact LeO.refl _)
   | (with_reducible exact LeO.none _)
   | (with_reducible refine LeO.ite ?_ ?_)
   | (with_reducible refine LeO.bind ?_ (fun _ => ?_))
set_option maxHeartbeats 8000000 in
set_option maxRecDepth 100000 in
theorem laws_toFrame.calls (k : Nat) (a0_0 : Int) (a0_1 : Int) (a0_2 : Int) (a0_3 : Int) (a0_4 : Bool) (A0_5 : Option Addr) (c0_5 : Nat) (l0_5 : List Int) (A0_6 : Option Addr) (c0_6 : Nat) (l0_6 : List Int) (A0_7 : Option Addr) (c0_7 : Nat) (l0_7 : List (S107)) (r1 : Int) (r2 : Int) (r3 : Int) (r4 : Int) (r5 : Bool) (r6 : List Int) (r7 : List Int) (r8 : List (S105)) (w : World) (hr0_5 : Kd.C (Kd.int .u8) w A0_5 l0_5.length l0_5) (hc0_5 : l0_5.length ≤ c0_5) (hr0_6 : Kd.C (Kd.int .u8) w A0_6 l0_6.length l0_6) (hc0_6 : l0_6.length ≤ c0_6) (hr0_7 : Kd.C k107 w A0_7 l0_7.length l0_7) (hc0_7 : l0_7.length ≤ c0_7) (h : laws_toFrame.f k a0_0 a0_1 a0_2 a0_3 a0_4 l0_5 l0_6 l0_7 = some (r1, r2, r3, r4, r5, r6, r7, r8)) :
  Calls Try.prog 40 #[.agg #[.int .i64 a0_0, .int .i64 a0_1, .int .i64 a0_2, .int .i64 a0_3, .bool a0_4, .slice A0_5 l0_5.length c0_5, .slice A0_6 l0_6.length c0_6, .slice A0_7 l0_7.length c0_7]] w fun e w' => ∃ v5_ v6_ v7_ : Value, e = .returned (.agg #[.int .i64 r1, .int .i64 r2, .int .i64 r3, .int .i64 r4, .bool r5, v5_, v6_, v7_]) ∧ Kd.R (Kd.int .u8) 5 w' w.heap.size (fun k_ => some k_ ≠ (v6_ : Value).ownBlock) v5_ r6 ∧ Kd.R (Kd.int .u8) 5 w' w.heap.size (fun k_ => some k_ ≠ (v5_ : Value).ownBlock) v6_ r7 ∧ Kd.R k105 105 w' w.heap.size (fun _ => True) v7_ r8 ∧ Below w.heap.size w w' := by
 have hu50 := Try.underlying50
 have hu55 := Try.underlying55
 have HR0_5 := qm hr0_5
 have HC0_5 := qm hc0_5
 clear hr0_5 hc0_5
 have HR0_6 := qm hr0_6
 have HC0_6 := qm hc0_6
 clear hr0_6 hc0_6
 have HR0_7 := qm hr0_7
 have HC0_7 := qm hc0_7
 clear hr0_7 hc0_7
 have HB := qm (Below.refl w.heap.size w)
 have H : ((laws_toByteS.f k l0_5).bind fun t127 => ((laws_toByteS.f k l0_6).bind fun t130 => ((laws_toRangeS.f k l0_7).bind fun t133 => (some (a0_0, a0_1, a0_2, a0_3, a0_4, t127, t130, t133))))) = some (r1, r2, r3, r4, r5, r6, r7, r8) := h
 clear h
 replace H := Option.bind_eq_some_iff.mp H
 obtain ⟨t127, A20, H⟩ := H
 try dsimp only at H
 have A2 := qm A20
 clear A20
 replace H := Option.bind_eq_some_iff.mp H
 obtain ⟨t130, A30, H⟩ := H
 try dsimp only at H
 have A3 := qm A30
 clear A30
 replace H := Option.bind_eq_some_iff.mp H
 obtain ⟨t133, A40, H⟩ := H
 try dsimp only at H
 have A4 := qm A40
 clear A40
 simp only [Option.some.injEq, Prod.mk.injEq] at H
 obtain ⟨rfl, rfl, rfl, rfl, rfl, rfl, rfl, rfl⟩ := H
 go_enter Try.func40, Try.ntmps40
 go_wp2_with (first | ((with_reducible refine gate_dst (N := 1) rfl ?_); refine box_event ?hg (N := 1) ?hd (cs := #[.int .i64 a0_0, .int .i64 a0_1, .int .i64 a0_2, .int .i64 a0_3, .bool a0_4, .slice A0_5 l0_5.length c0_5, .slice A0_6 l0_6.length c0_6, .slice A0_7 l0_7.length c0_7]) (t := 50) ?hr ?_; (case hd => rfl); (case hg => rfl); (case hr => first | (go_simp; done) | (go_simp; rfl)); intro gb124 hg w5 hbox hb; have n0_ := qm (qt (by repeat (first | (with_reducible first | exact HB.out | apply qh | apply qi | apply qj) | exact HB.out)) hb); have n1_ := qm (hbox); have n2_ := qm ((by rw [hg]; exact (qs (by repeat (first | (with_reducible first | exact HB.out | apply qh | apply qi | apply qj) | exact HB.out))) : w.heap.size ≤ gb124)); have n3_ := qm ((by rw [hg]; exact (qs (by repeat (first | (with_reducible first | exact HB.out | apply qh | apply qi | apply qj) | exact HB.out))) : w.heap.size ≤ gb124)); clear HB; have HB := n0_; have BK124 := n1_; have GW124 := n2_; have GE124 := n3_; clear n0_ n1_ n2_ n3_; clear hb hbox hg) | ((with_reducible refine gate_dst (N := 2) rfl ?_); refine box_event ?hg (N := 2) ?hd (cs := #[.int .i64 0, .int .i64 0, .int .i64 0, .int .i64 0, .bool false, .slice none 0 0, .slice none 0 0, .slice none 0 0]) (t := 55) ?hr ?_; (case hd => rfl); (case hg => rfl); (case hr => first | (go_simp; done) | (go_simp; rfl)); intro gb125 hg w6 hbox hb; have n0_ := qm (qv (g := gb124) (o := .cells #[.int .i64 a0_0, .int .i64 a0_1, .int .i64 a0_2, .int .i64 a0_3, .bool a0_4, .slice A0_5 l0_5.length c0_5, .slice A0_6 l0_6.length c0_6, .slice A0_7 l0_7.length c0_7] 50 (0, 0)) (by (with_reducible repeat (first | refine ql ?_ _ | refine qn ?_ | refine qo ?_ _)); exact BK124.out) hb); have n1_ := qm (qt (by repeat (first | (with_reducible first | exact HB.out | apply qh | apply qi | apply qj | refine qk ?_ GE124.out) | exact HB.out)) hb); have n2_ := qm (hbox); have n3_ := qm ((by rw [hg]; exact (qs (by repeat (first | (with_reducible first | exact HB.out | apply qh | apply qi | apply qj | refine qk ?_ GE124.out) | exact HB.out))) : w.heap.size ≤ gb125)); have n4_ := qm ((by rw [hg]; exact (qs (by repeat (first | (with_reducible first | exact HB.out | apply qh | apply qi | apply qj | refine qk ?_ GE124.out) | exact HB.out))) : w.heap.size ≤ gb125)); have n5_ := qm ((by rw [hg]; exact Nat.ne_of_lt (blk_lt (g := gb124) (o := .cells #[.int .i64 a0_0, .int .i64 a0_1, .int .i64 a0_2, .int .i64 a0_3, .bool a0_4, .slice A0_5 l0_5.length c0_5, .slice A0_6 l0_6.length c0_6, .slice A0_7 l0_7.length c0_7] 50 (0, 0)) (by (with_reducible repeat (first | refine ql ?_ _ | refine qn ?_ | refine qo ?_ _)); exact BK124.out)) : gb124 ≠ gb125)); have n6_ := qm ((by rw [hg]; exact Nat.ne_of_gt (blk_lt (g := gb124) (o := .cells #[.int .i64 a0_0, .int .i64 a0_1, .int .i64 a0_2, .int .i64 a0_3, .bool a0_4, .slice A0_5 l0_5.length c0_5, .slice A0_6 l0_6.length c0_6, .slice A0_7 l0_7.length c0_7] 50 (0, 0)) (by (with_reducible repeat (first | refine ql ?_ _ | refine qn ?_ | refine qo ?_ _)); exact BK124.out)) : gb125 ≠ gb124)); clear BK124; clear HB; have BK124 := n0_; have HB := n1_; have BK125 := n2_; have GW125 := n3_; have GE125 := n4_; have NB124_125 := n5_; have NB125_124 := n6_; clear n0_ n1_ n2_ n3_ n4_ n5_ n6_; clear hb hbox hg) | ((with_reducible refine gate_dst (N := 3) rfl ?_); refine box_event ?hg (N := 3) ?hd (cs := #[.int .i64 0, .int .i64 0, .int .i64 0, .int .i64 0, .bool false, .slice none 0 0, .slice none 0 0, .slice none 0 0]) (t := 55) ?hr ?_; (case hd => rfl); (case hg => rfl); (case hr => first | (go_simp; done) | (go_simp; rfl)); intro gb126 hg w7 hbox hb; have n0_ := qm (qv (g := gb124) (o := .cells #[.int .i64 a0_0, .int .i64 a0_1, .int .i64 a0_2, .int .i64 a0_3, .bool a0_4, .slice A0_5 l0_5.length c0_5, .slice A0_6 l0_6.length c0_6, .slice A0_7 l0_7.length c0_7] 50 (0, 0)) (by (with_reducible repeat (first | refine ql ?_ _ | refine qn ?_ | refine qo ?_ _)); exact BK124.out) hb); have n1_ := qm (qv (g := gb125) (o := .cells #[.int .i64 0, .int .i64 0, .int .i64 0, .int .i64 0, .bool false, .slice none 0 0, .slice none 0 0, .slice none 0 0] 55 (0, 0)) (by (with_reducible repeat (first | refine ql ?_ _ | refine qn ?_ | refine qo ?_ _)); exact BK125.out) hb); have n2_ := qm (qt (by repeat (first | (with_reducible first | exact HB.out | apply qh | apply qi | apply qj | refine qk ?_ GE124.out | refine qk ?_ GE125.out) | exact HB.out)) hb); have n3_ := qm (hbox); have n4_ := qm ((by rw [hg]; exact (qs (by repeat (first | (with_reducible first | exact HB.out | apply qh | apply qi | apply qj | refine qk ?_ GE124.out | refine qk ?_ GE125.out) | exact HB.out))) : w.heap.size ≤ gb126)); have n5_ := qm ((by rw [hg]; exact (qs (by repeat (first | (with_reducible first | exact HB.out | apply qh | apply qi | apply qj | refine qk ?_ GE124.out | refine qk ?_ GE125.out) | exact HB.out))) : w.heap.size ≤ gb126)); have n6_ := qm ((by rw [hg]; exact Nat.ne_of_lt (blk_lt (g := gb124) (o := .cells #[.int .i64 a0_0, .int .i64 a0_1, .int .i64 a0_2, .int .i64 a0_3, .bool a0_4, .slice A0_5 l0_5.length c0_5, .slice A0_6 l0_6.length c0_6, .slice A0_7 l0_7.length c0_7] 50 (0, 0)) (by (with_reducible repeat (first | refine ql ?_ _ | refine qn ?_ | refine qo ?_ _)); exact BK124.out)) : gb124 ≠ gb126)); have n7_ := qm ((by rw [hg]; exact Nat.ne_of_gt (blk_lt (g := gb124) (o := .cells #[.int .i64 a0_0, .int .i64 a0_1, .int .i64 a0_2, .int .i64 a0_3, .bool a0_4, .slice A0_5 l0_5.length c0_5, .slice A0_6 l0_6.length c0_6, .slice A0_7 l0_7.length c0_7] 50 (0, 0)) (by (with_reducible repeat (first | refine ql ?_ _ | refine qn ?_ | refine qo ?_ _)); exact BK124.out)) : gb126 ≠ gb124)); have n8_ := qm ((by rw [hg]; exact Nat.ne_of_lt (blk_lt (g := gb125) (o := .cells #[.int .i64 0, .int .i64 0, .int .i64 0, .int .i64 0, .bool false, .slice none 0 0, .slice none 0 0, .slice none 0 0] 55 (0, 0)) (by (with_reducible repeat (first | refine ql ?_ _ | refine qn ?_ | refine qo ?_ _)); exact BK125.out)) : gb125 ≠ gb126)); have n9_ := qm ((by rw [hg]; exact Nat.ne_of_gt (blk_lt (g := gb125) (o := .cells #[.int .i64 0, .int .i64 0, .int .i64 0, .int .i64 0, .bool false, .slice none 0 0, .slice none 0 0, .slice none 0 0] 55 (0, 0)) (by (with_reducible repeat (first | refine ql ?_ _ | refine qn ?_ | refine qo ?_ _)); exact BK125.out)) : gb126 ≠ gb125)); clear BK124; clear BK125; clear HB; have BK124 := n0_; have BK125 := n1_; have HB := n2_; have BK126 := n3_; have GW126 := n4_; have GE126 := n5_; have NB124_126 := n6_; have NB126_124 := n7_; have NB125_126 := n8_; have NB126_125 := n9_; clear n0_ n1_ n2_ n3_ n4_ n5_ n6_ n7_ n8_ n9_; clear hb hbox hg; have hnb8 := NB124_125.out; have hnc8 := NB125_124.out; have hnb9 := NB124_126.out; have hnc9 := NB126_124.out; obtain ⟨z8_0, z8_1, z8_2, z8_3, z8_4, z8_5, z8_6, z8_7, z8_8, z8_9, z8_10, z8_11, z8_12, z8_13, z8_14, z8_15⟩ := fc8 BK124.out; have hnb11 := NB126_125.out; have hnc11 := NB125_126.out; obtain ⟨z8_0, z8_1, z8_2, z8_3, z8_4, z8_5, z8_6, z8_7, z8_8, z8_9, z8_10, z8_11, z8_12, z8_13, z8_14, z8_15⟩ := fc8 BK126.out) | ((with_reducible refine gate_callee (f := 25) rfl ?_); refine goesL_ (some 21) rfl rfl Try.func25 (by kernel_rfl) rfl #[.slice A0_5 l0_5.length c0_5] rfl (by (try simp only [m1, m2, m3]); first | done | rfl) ?_; (with_reducible refine (laws_toByteS.calls k _ _ l0_5 t127 _ ?side1 ?side2 A2.out).mono ?_); (case side1 => exact Kd.C_below HR0_5.out (by repeat (first | (with_reducible first | exact HB.out | apply qh | apply qi | apply qj | refine qk ?_ GE124.out | refine qk ?_ GE125.out | refine qk ?_ GE126.out) | exact HB.out))); (case side2 => exact HC0_5.out); rintro e w13 ⟨v128, rfl, ho0, hb⟩; refine ⟨_, rfl, ?_⟩; have n0_ := qm (Kd.R_lower ho0 (qs (by repeat (first | (with_reducible first | exact HB.out | apply qh | apply qi | apply qj | refine qk ?_ GE124.out | refine qk ?_ GE125.out | refine qk ?_ GE126.out) | exact HB.out)))); have n1_ := qm (qv (g := gb124) (o := .cells #[.int .i64 a0_0, .int .i64 a0_1, .int .i64 a0_2, .int .i64 a0_3, .bool a0_4, .slice A0_5 l0_5.length c0_5, .slice A0_6 l0_6.length c0_6, .slice A0_7 l0_7.length c0_7] 50 (0, 0)) (by (with_reducible repeat (first | refine ql ?_ _ | refine qn ?_ | refine qo ?_ _)); refine qr ?_ NB124_126.out _; (with_reducible repeat (first | refine ql ?_ _ | refine qn ?_ | refine qo ?_ _)); refine qr ?_ NB124_126.out _; (with_reducible repeat (first | refine ql ?_ _ | refine qn ?_ | refine qo ?_ _)); refine qr ?_ NB124_126.out _; (with_reducible repeat (first | refine ql ?_ _ | refine qn ?_ | refine qo ?_ _)); refine qr ?_ NB124_126.out _; (with_reducible repeat (first | refine ql ?_ _ | refine qn ?_ | refine qo ?_ _)); refine qr ?_ NB124_126.out _; (with_reducible repeat (first | refine ql ?_ _ | refine qn ?_ | refine qo ?_ _)); exact BK124.out) hb); have n2_ := qm (qv (g := gb125) (o := .cells #[.int .i64 0, .int .i64 0, .int .i64 0, .int .i64 0, .bool false, .slice none 0 0, .slice none 0 0, .slice none 0 0] 55 (0, 0)) (by (with_reducible repeat (first | refine ql ?_ _ | refine qn ?_ | refine qo ?_ _)); refine qr ?_ NB125_126.out _; (with_reducible repeat (first | refine ql ?_ _ | refine qn ?_ | refine qo ?_ _)); refine qr ?_ NB125_126.out _; (with_reducible repeat (first | refine ql ?_ _ | refine qn ?_ | refine qo ?_ _)); refine qr ?_ NB125_126.out _; (with_reducible repeat (first | refine ql ?_ _ | refine qn ?_ | refine qo ?_ _)); refine qr ?_ NB125_126.out _; (with_reducible repeat (first | refine ql ?_ _ | refine qn ?_ | refine qo ?_ _)); refine qr ?_ NB125_126.out _; (with_reducible repeat (first | refine ql ?_ _ | refine qn ?_ | refine qo ?_ _)); exact BK125.out) hb); have n3_ := qm (qv (g := gb126) (o := .cells #[.int .i64 a0_0, .int .i64 a0_1, .int .i64 a0_2, .int .i64 a0_3, .bool a0_4, .slice none 0 0, .slice none 0 0, .slice none 0 0] 55 (0, 0)) (by (with_reducible repeat (first | refine ql ?_ _ | refine qn ?_ | refine qo ?_ _)); refine qp (cs := #[.int .i64 a0_0, .int .i64 a0_1, .int .i64 a0_2, .int .i64 a0_3, .bool false, .slice none 0 0, .slice none 0 0, .slice none 0 0]) ?_ 4 _ rfl; (with_reducible repeat (first | refine ql ?_ _ | refine qn ?_ | refine qo ?_ _)); refine qp (cs := #[.int .i64 a0_0, .int .i64 a0_1, .int .i64 a0_2, .int .i64 0, .bool false, .slice none 0 0, .slice none 0 0, .slice none 0 0]) ?_ 3 _ rfl; (with_reducible repeat (first | refine ql ?_ _ | refine qn ?_ | refine qo ?_ _)); refine qp (cs := #[.int .i64 a0_0, .int .i64 a0_1, .int .i64 0, .int .i64 0, .bool false, .slice none 0 0, .slice none 0 0, .slice none 0 0]) ?_ 2 _ rfl; (with_reducible repeat (first | refine ql ?_ _ | refine qn ?_ | refine qo ?_ _)); refine qp (cs := #[.int .i64 a0_0, .int .i64 0, .int .i64 0, .int .i64 0, .bool false, .slice none 0 0, .slice none 0 0, .slice none 0 0]) ?_ 1 _ rfl; (with_reducible repeat (first | refine ql ?_ _ | refine qn ?_ | refine qo ?_ _)); refine qp (cs := #[.int .i64 0, .int .i64 0, .int .i64 0, .int .i64 0, .bool false, .slice none 0 0, .slice none 0 0, .slice none 0 0]) ?_ 0 _ rfl; (with_reducible repeat (first | refine ql ?_ _ | refine qn ?_ | refine qo ?_ _)); exact BK126.out) hb); have n4_ := qm (qt (by repeat (first | (with_reducible first | exact HB.out | apply qh | apply qi | apply qj | refine qk ?_ GE124.out | refine qk ?_ GE125.out | refine qk ?_ GE126.out) | exact HB.out)) hb); clear BK124; clear BK125; clear BK126; clear HB; have HO129 := n0_; have BK124 := n1_; have BK125 := n2_; have BK126 := n3_; have HB := n4_; clear n0_ n1_ n2_ n3_ n4_; (try clear hb); (try clear hb2); (try clear hk); (try clear hi); (try clear ho0); obtain ⟨Ao14, co14, eo14⟩ := Kd.R_slice HO129.out; subst eo14; obtain ⟨z8_0, z8_1, z8_2, z8_3, z8_4, z8_5, z8_6, z8_7, z8_8, z8_9, z8_10, z8_11, z8_12, z8_13, z8_14, z8_15⟩ := fc8 BK126.out; obtain ⟨z8_0, z8_1, z8_2, z8_3, z8_4, z8_5, z8_6, z8_7, z8_8, z8_9, z8_10, z8_11, z8_12, z8_13, z8_14, z8_15⟩ := fc8 BK124.out) | ((with_reducible refine gate_callee (f := 25) rfl ?_); refine goesL_ (some 25) rfl rfl Try.func25 (by kernel_rfl) rfl #[.slice A0_6 l0_6.length c0_6] rfl (by (try simp only [m1, m2, m3]); first | done | rfl) ?_; (with_reducible refine (laws_toByteS.calls k _ _ l0_6 t130 _ ?side1 ?side2 A3.out).mono ?_); (case side1 => exact Kd.C_below HR0_6.out (by repeat (first | (with_reducible first | exact HB.out | apply qh | apply qi | apply qj | refine qk ?_ GE124.out | refine qk ?_ GE125.out | refine qk ?_ GE126.out) | exact HB.out))); (case side2 => exact HC0_6.out); rintro e w17 ⟨v131, rfl, ho0, hb⟩; refine ⟨_, rfl, ?_⟩; have n0_ := qm (Kd.R_elder' (by (with_reducible repeat (first | apply qb | apply qc | apply qd)); exact (qg (qa (p := ⟨gb126, 5, none⟩) (Kd.R_types HO129.out BK126.out (by decide)) (fun _ hk => hk.2) (.slice Ao14 t127.length co14)) (fun _ h_ => h_.1))) (Kd.R_base ho0) hb); have n1_ := qm (Kd.R_lower (Kd.R_new' ho0 (Kd.R_lt (by (with_reducible repeat (first | apply qb | apply qc | apply qd)); exact (qg (qa (p := ⟨gb126, 5, none⟩) (Kd.R_types HO129.out BK126.out (by decide)) (fun _ hk => hk.2) (.slice Ao14 t127.length co14)) (fun _ h_ => h_.1))))) (qs (by repeat (first | (with_reducible first | exact HB.out | apply qh | apply qi | apply qj | refine qk ?_ GE124.out | refine qk ?_ GE125.out | refine qk ?_ GE126.out) | exact HB.out)))); have n2_ := qm (qv (g := gb124) (o := .cells #[.int .i64 a0_0, .int .i64 a0_1, .int .i64 a0_2, .int .i64 a0_3, .bool a0_4, .slice A0_5 l0_5.length c0_5, .slice A0_6 l0_6.length c0_6, .slice A0_7 l0_7.length c0_7] 50 (0, 0)) (by (with_reducible repeat (first | refine ql ?_ _ | refine qn ?_ | refine qo ?_ _)); refine qr ?_ NB124_126.out _; (with_reducible repeat (first | refine ql ?_ _ | refine qn ?_ | refine qo ?_ _)); exact BK124.out) hb); have n3_ := qm (qv (g := gb125) (o := .cells #[.int .i64 0, .int .i64 0, .int .i64 0, .int .i64 0, .bool false, .slice none 0 0, .slice none 0 0, .slice none 0 0] 55 (0, 0)) (by (with_reducible repeat (first | refine ql ?_ _ | refine qn ?_ | refine qo ?_ _)); refine qr ?_ NB125_126.out _; (with_reducible repeat (first | refine ql ?_ _ | refine qn ?_ | refine qo ?_ _)); exact BK125.out) hb); have n4_ := qm (qv (g := gb126) (o := .cells #[.int .i64 a0_0, .int .i64 a0_1, .int .i64 a0_2, .int .i64 a0_3, .bool a0_4, .slice Ao14 t127.length co14, .slice none 0 0, .slice none 0 0] 55 (0, 0)) (by (with_reducible repeat (first | refine ql ?_ _ | refine qn ?_ | refine qo ?_ _)); refine qp (cs := #[.int .i64 a0_0, .int .i64 a0_1, .int .i64 a0_2, .int .i64 a0_3, .bool a0_4, .slice none 0 0, .slice none 0 0, .slice none 0 0]) ?_ 5 _ rfl; (with_reducible repeat (first | refine ql ?_ _ | refine qn ?_ | refine qo ?_ _)); exact BK126.out) hb); have n5_ := qm (qt (by repeat (first | (with_reducible first | exact HB.out | apply qh | apply qi | apply qj | refine qk ?_ GE124.out | refine qk ?_ GE125.out | refine qk ?_ GE126.out) | exact HB.out)) hb); clear HO129; clear BK124; clear BK125; clear BK126; clear HB; have HO129 := n0_; have HO132 := n1_; have BK124 := n2_; have BK125 := n3_; have BK126 := n4_; have HB := n5_; clear n0_ n1_ n2_ n3_ n4_ n5_; (try clear hb); (try clear hb2); (try clear hk); (try clear hi); (try clear ho0); obtain ⟨Ao18, co18, eo18⟩ := Kd.R_slice HO132.out; subst eo18; obtain ⟨z8_0, z8_1, z8_2, z8_3, z8_4, z8_5, z8_6, z8_7, z8_8, z8_9, z8_10, z8_11, z8_12, z8_13, z8_14, z8_15⟩ := fc8 BK126.out; obtain ⟨z8_0, z8_1, z8_2, z8_3, z8_4, z8_5, z8_6, z8_7, z8_8, z8_9, z8_10, z8_11, z8_12, z8_13, z8_14, z8_15⟩ := fc8 BK124.out) | ((with_reducible refine gate_callee (f := 76) rfl ?_); refine goesL_ (some 29) rfl rfl Try.func76 (by kernel_rfl) rfl #[.slice A0_7 l0_7.length c0_7] rfl (by (try simp only [m1, m2, m3]); first | done | rfl) ?_; (with_reducible refine (laws_toRangeS.calls k _ _ l0_7 t133 _ ?side1 ?side2 A4.out).mono ?_); (case side1 => exact Kd.C_below HR0_7.out (by repeat (first | (with_reducible first | exact HB.out | apply qh | apply qi | apply qj | refine qk ?_ GE124.out | refine qk ?_ GE125.out | refine qk ?_ GE126.out) | exact HB.out))); (case side2 => exact HC0_7.out); rintro e w21 ⟨v134, rfl, ho0, hb⟩; refine ⟨_, rfl, ?_⟩; have n0_ := qm (qf (by (with_reducible repeat (first | apply qb | apply qc | apply qd)); exact (qg (qa (p := ⟨gb126, 6, none⟩) (Kd.R_types HO129.out BK126.out (by decide)) (fun _ hk => hk.2) (.slice Ao18 t130.length co18)) (fun _ h_ => h_.1))) hb); have n1_ := qm (qf (by (with_reducible repeat (first | apply qb | apply qc | apply qd)); exact (qg (qa (p := ⟨gb126, 6, none⟩) (Kd.R_types HO132.out BK126.out (by decide)) (fun _ hk => hk.2) (.slice Ao18 t130.length co18)) (fun _ h_ => h_.1))) hb); have n2_ := qm (Kd.R_lower ho0 (qs (by repeat (first | (with_reducible first | exact HB.out | apply qh | apply qi | apply qj | refine qk ?_ GE124.out | refine qk ?_ GE125.out | refine qk ?_ GE126.out) | exact HB.out)))); have n3_ := qm (qv (g := gb124) (o := .cells #[.int .i64 a0_0, .int .i64 a0_1, .int .i64 a0_2, .int .i64 a0_3, .bool a0_4, .slice A0_5 l0_5.length c0_5, .slice A0_6 l0_6.length c0_6, .slice A0_7 l0_7.length c0_7] 50 (0, 0)) (by (with_reducible repeat (first | refine ql ?_ _ | refine qn ?_ | refine qo ?_ _)); refine qr ?_ NB124_126.out _; (with_reducible repeat (first | refine ql ?_ _ | refine qn ?_ | refine qo ?_ _)); exact BK124.out) hb); have n4_ := qm (qv (g := gb125) (o := .cells #[.int .i64 0, .int .i64 0, .int .i64 0, .int .i64 0, .bool false, .slice none 0 0, .slice none 0 0, .slice none 0 0] 55 (0, 0)) (by (with_reducible repeat (first | refine ql ?_ _ | refine qn ?_ | refine qo ?_ _)); refine qr ?_ NB125_126.out _; (with_reducible repeat (first | refine ql ?_ _ | refine qn ?_ | refine qo ?_ _)); exact BK125.out) hb); have n5_ := qm (qv (g := gb126) (o := .cells #[.int .i64 a0_0, .int .i64 a0_1, .int .i64 a0_2, .int .i64 a0_3, .bool a0_4, .slice Ao14 t127.length co14, .slice Ao18 t130.length co18, .slice none 0 0] 55 (0, 0)) (by (with_reducible repeat (first | refine ql ?_ _ | refine qn ?_ | refine qo ?_ _)); refine qp (cs := #[.int .i64 a0_0, .int .i64 a0_1, .int .i64 a0_2, .int .i64 a0_3, .bool a0_4, .slice Ao14 t127.length co14, .slice none 0 0, .slice none 0 0]) ?_ 6 _ rfl; (with_reducible repeat (first | refine ql ?_ _ | refine qn ?_ | refine qo ?_ _)); exact BK126.out) hb); have n6_ := qm (qt (by repeat (first | (with_reducible first | exact HB.out | apply qh | apply qi | apply qj | refine qk ?_ GE124.out | refine qk ?_ GE125.out | refine qk ?_ GE126.out) | exact HB.out)) hb); clear HO129; clear HO132; clear BK124; clear BK125; clear BK126; clear HB; have HO129 := n0_; have HO132 := n1_; have HO135 := n2_; have BK124 := n3_; have BK125 := n4_; have BK126 := n5_; have HB := n6_; clear n0_ n1_ n2_ n3_ n4_ n5_ n6_; (try clear hb); (try clear hb2); (try clear hk); (try clear hi); (try clear ho0); obtain ⟨Ao22, co22, eo22⟩ := Kd.R_slice HO135.out; subst eo22; obtain ⟨z8_0, z8_1, z8_2, z8_3, z8_4, z8_5, z8_6, z8_7, z8_8, z8_9, z8_10, z8_11, z8_12, z8_13, z8_14, z8_15⟩ := fc8 BK126.out; obtain ⟨z8_0, z8_1, z8_2, z8_3, z8_4, z8_5, z8_6, z8_7, z8_8, z8_9, z8_10, z8_11, z8_12, z8_13, z8_14, z8_15⟩ := fc8 BK125.out))
 refine bodyPost_ret (results_cell_row rfl _ _ gb125 55 #[.int .i64 a0_0, .int .i64 a0_1, .int .i64 a0_2, .int .i64 a0_3, .bool a0_4, .slice Ao14 t127.length co14, .slice Ao18 t130.length co18, .slice Ao22 t133.length co22] (0, 0) _ rfl (by (with_reducible repeat (first | refine ql ?_ _ | refine qn ?_ | refine qo ?_ _)); refine qp (cs := #[.int .i64 a0_0, .int .i64 a0_1, .int .i64 a0_2, .int .i64 a0_3, .bool a0_4, .slice Ao14 t127.length co14, .slice Ao18 t130.length co18, .slice none 0 0]) ?_ 7 _ rfl; refine qp (cs := #[.int .i64 a0_0, .int .i64 a0_1, .int .i64 a0_2, .int .i64 a0_3, .bool a0_4, .slice Ao14 t127.length co14, .slice none 0 0, .slice none 0 0]) ?_ 6 _ rfl; refine qp (cs := #[.int .i64 a0_0, .int .i64 a0_1, .int .i64 a0_2, .int .i64 a0_3, .bool a0_4, .slice none 0 0, .slice none 0 0, .slice none 0 0]) ?_ 5 _ rfl; refine qp (cs := #[.int .i64 a0_0, .int .i64 a0_1, .int .i64 a0_2, .int .i64 a0_3, .bool false, .slice none 0 0, .slice none 0 0, .slice none 0 0]) ?_ 4 _ rfl; refine qp (cs := #[.int .i64 a0_0, .int .i64 a0_1, .int .i64 a0_2, .int .i64 0, .bool false, .slice none 0 0, .slice none 0 0, .slice none 0 0]) ?_ 3 _ rfl; refine qp (cs := #[.int .i64 a0_0, .int .i64 a0_1, .int .i64 0, .int .i64 0, .bool false, .slice none 0 0, .slice none 0 0, .slice none 0 0]) ?_ 2 _ rfl; refine qp (cs := #[.int .i64 a0_0, .int .i64 0, .int .i64 0, .int .i64 0, .bool false, .slice none 0 0, .slice none 0 0, .slice none 0 0]) ?_ 1 _ rfl; refine qp (cs := #[.int .i64 0, .int .i64 0, .int .i64 0, .int .i64 0, .bool false, .slice none 0 0, .slice none 0 0, .slice none 0 0]) ?_ 0 _ rfl; refine qr ?_ NB125_126.out _; (with_reducible repeat (first | refine ql ?_ _ | refine qn ?_ | refine qo ?_ _)); exact BK125.out) Try.underlying55 rfl (by kernel_rfl)) rfl ?_
 exact ⟨_, _, _, by first | rfl | (simp <;> rfl) | (simp [*] <;> rfl), by (with_reducible repeat (first | apply qb | apply qc | apply qd)); exact qg (qa (p := ⟨gb125, 7, none⟩) (qa (p := ⟨gb125, 6, none⟩) (qa (p := ⟨gb125, 5, none⟩) (qa (p := ⟨gb125, 4, none⟩) (qa (p := ⟨gb125, 3, none⟩) (qa (p := ⟨gb125, 2, none⟩) (qa (p := ⟨gb125, 1, none⟩) (qa (p := ⟨gb125, 0, none⟩) (qa (p := ⟨gb126, 7, none⟩) (Kd.R_types (Kd.R_types HO129.out BK126.out (by decide)) BK125.out (by decide)) (fun _ hk => hk.1.2) (.slice Ao22 t133.length co22)) (fun _ hk => hk.2) (.int .i64 a0_0)) (fun _ hk => hk.2) (.int .i64 a0_1)) (fun _ hk => hk.2) (.int .i64 a0_2)) (fun _ hk => hk.2) (.int .i64 a0_3)) (fun _ hk => hk.2) (.bool a0_4)) (fun _ hk => hk.2) (.slice Ao14 t127.length co14)) (fun _ hk => hk.2) (.slice Ao18 t130.length co18)) (fun _ hk => hk.2) (.slice Ao22 t133.length co22)) (fun _ hk => hk.1.1.2), by (with_reducible repeat (first | apply qb | apply qc | apply qd)); exact qg (qa (p := ⟨gb125, 7, none⟩) (qa (p := ⟨gb125, 6, none⟩) (qa (p := ⟨gb125, 5, none⟩) (qa (p := ⟨gb125, 4, none⟩) (qa (p := ⟨gb125, 3, none⟩) (qa (p := ⟨gb125, 2, none⟩) (qa (p := ⟨gb125, 1, none⟩) (qa (p := ⟨gb125, 0, none⟩) (qa (p := ⟨gb126, 7, none⟩) (Kd.R_types (Kd.R_types HO132.out BK126.out (by decide)) BK125.out (by decide)) (fun _ hk => hk.1.2) (.slice Ao22 t133.length co22)) (fun _ hk => hk.2) (.int .i64 a0_0)) (fun _ hk => hk.2) (.int .i64 a0_1)) (fun _ hk => hk.2) (.int .i64 a0_2)) (fun _ hk => hk.2) (.int .i64 a0_3)) (fun _ hk => hk.2) (.bool a0_4)) (fun _ hk => hk.2) (.slice Ao14 t127.length co14)) (fun _ hk => hk.2) (.slice Ao18 t130.length co18)) (fun _ hk => hk.2) (.slice Ao22 t133.length co22)) (fun _ hk => hk.1.1.2), by (with_reducible repeat (first | apply qb | apply qc | apply qd)); exact qg (qa (p := ⟨gb125, 7, none⟩) (qa (p := ⟨gb125, 6, none⟩) (qa (p := ⟨gb125, 5, none⟩) (qa (p := ⟨gb125, 4, none⟩) (qa (p := ⟨gb125, 3, none⟩) (qa (p := ⟨gb125, 2, none⟩) (qa (p := ⟨gb125, 1, none⟩) (qa (p := ⟨gb125, 0, none⟩) (qa (p := ⟨gb126, 7, none⟩) (Kd.R_types (Kd.R_types HO135.out BK126.out (by decide)) BK125.out (by decide)) (fun _ hk => hk.1.2) (.slice Ao22 t133.length co22)) (fun _ hk => hk.2) (.int .i64 a0_0)) (fun _ hk => hk.2) (.int .i64 a0_1)) (fun _ hk => hk.2) (.int .i64 a0_2)) (fun _ hk => hk.2) (.int .i64 a0_3)) (fun _ hk => hk.2) (.bool a0_4)) (fun _ hk => hk.2) (.slice Ao14 t127.length co14)) (fun _ hk => hk.2) (.slice Ao18 t130.length co18)) (fun _ hk => hk.2) (.slice Ao22 t133.length co22)) (fun _ hk => trivial), by repeat (first | (with_reducible first | exact HB.out | apply qh | apply qi | apply qj | refine qk ?_ GE124.out | refine qk ?_ GE125.out | refine qk ?_ GE126.out) | exact HB.out)⟩
/-! ### laws_eqRange: function 98 -/
def laws_eqRange.f (a0_0 : Int) (a0_1 : Int) (a1_0 : Int) (a1_1 : Int) : Option (Bool) := if a0_0 = a1_0 then (if a0_1 = a1_1 then (some true) else (some false)) else (some false)
set_option maxHeartbeats 8000000 in
set_option maxRecDepth 100000 in
theorem laws_eqRange.calls (a0_0 : Int) (a0_1 : Int) (a1_0 : Int) (a1_1 : Int) (r : Bool) (w : World) (h : laws_eqRange.f a0_0 a0_1 a1_0 a1_1 = some r) :
  Calls Try.prog 98 #[.agg #[.int .i64 a0_0, .int .i64 a0_1], .agg #[.int .i64 a1_0, .int .i64 a1_1]] w fun e w' => e = .returned (.bool r) ∧ Below w.heap.size w w' := by
 have hu105 := Try.underlying105
 have HB := qm (Below.refl w.heap.size w)
 have H : (if a0_0 = a1_0 then (if a0_1 = a1_1 then (some true) else (some false)) else (some false)) = some r := h
 clear h
 by_cases c3 : a0_0 = a1_0
 ·rw [if_pos c3] at H
  have c3b0 : (a0_0 == a1_0) = true := beq_iff_eq.mpr c3
  have c3b1 : (a0_0 != a1_0) = false := bne_eq_false_iff_eq.mpr c3
  clear c3
  by_cases c4 : a0_1 = a1_1
  ·rw [if_pos c4] at H
   have c4b0 : (a0_1 == a1_1) = true := beq_iff_eq.mpr c4
   have c4b1 : (a0_1 != a1_1) = false := bne_eq_false_iff_eq.mpr c4
   clear c4
   obtain rfl := Option.some.inj H
   go_enter Try.func98, Try.ntmps98
   go_wp2_with (first | ((with_reducible refine gate_dst (N := 2) rfl ?_); refine box_event (by rfl) (N := 2) (by rfl) (cs := #[.int .i64 a0_0, .int .i64 a0_1]) (t := 105) (by first | (go_simp; done) | (go_simp; rfl)) ?_; intro gb136 hg w5 hbox hb; have n0_ := qm (qt HB.out hb); have n1_ := qm (hbox); have n2_ := qm ((by rw [hg]; exact (qs HB.out) : w.heap.size ≤ gb136)); have n3_ := qm ((by rw [hg]; exact (qs HB.out) : w.heap.size ≤ gb136)); clear HB; have HB := n0_; have BK136 := n1_; have GW136 := n2_; have GE136 := n3_; clear hb hbox hg) | ((with_reducible refine gate_dst (N := 3) rfl ?_); refine box_event (by rfl) (N := 3) (by rfl) (cs := #[.int .i64 a1_0, .int .i64 a1_1]) (t := 105) (by first | (go_simp; done) | (go_simp; rfl)) ?_; intro gb137 hg w6 hbox hb; have n0_ := qm (qv (g := gb136) BK136.out hb); have n1_ := qm (qt (by repeat (first | (with_reducible first | exact HB.out | apply qh | apply qi | apply qj | refine qk ?_ GE136.out) | exact HB.out)) hb); have n2_ := qm (hbox); have n3_ := qm ((by rw [hg]; exact (qs (by repeat (first | (with_reducible first | exact HB.out | apply qh | apply qi | apply qj | refine qk ?_ GE136.out) | exact HB.out))) : w.heap.size ≤ gb137)); have n4_ := qm ((by rw [hg]; exact (qs (by repeat (first | (with_reducible first | exact HB.out | apply qh | apply qi | apply qj | refine qk ?_ GE136.out) | exact HB.out))) : w.heap.size ≤ gb137)); have n5_ := qm ((by rw [hg]; exact Nat.ne_of_lt (blk_lt (g := gb136) (o := .cells #[.int .i64 a0_0, .int .i64 a0_1] 105 (0, 0)) BK136.out) : gb136 ≠ gb137)); have n6_ := qm ((by rw [hg]; exact Nat.ne_of_gt (blk_lt (g := gb136) (o := .cells #[.int .i64 a0_0, .int .i64 a0_1] 105 (0, 0)) BK136.out) : gb137 ≠ gb136)); clear BK136; clear HB; have BK136 := n0_; have HB := n1_; have BK137 := n2_; have GW137 := n3_; have GE137 := n4_; have NB136_137 := n5_; have NB137_136 := n6_; clear hb hbox hg; have hnb7 := NB136_137.out; have hnc7 := NB137_136.out; obtain ⟨_, _, _, _⟩ := fc2 BK136.out; obtain ⟨_, _, _, _⟩ := fc2 BK137.out))
   go_ret
   exact ⟨by first | rfl | (simp <;> rfl) | (simp [*] <;> rfl), by repeat (first | (with_reducible first | exact HB.out | apply qh | apply qi | apply qj | refine qk ?_ GE136.out | refine qk ?_ GE137.out) | exact HB.out)⟩
  rw [if_neg c4] at H
  have c4b0 : (a0_1 == a1_1) = false := beq_eq_false_iff_ne.mpr c4
  have c4b1 : (a0_1 != a1_1) = true := bne_iff_ne.mpr c4
  obtain rfl := Option.some.inj H
  go_enter Try.func98, Try.ntmps98
  go_wp2_with (first | ((with_reducible refine gate_dst (N := 2) rfl ?_); refine box_event (by rfl) (N := 2) (by rfl) (cs := #[.int .i64 a0_0, .int .i64 a0_1]) (t := 105) (by first | (go_simp; done) | (go_simp; rfl)) ?_; intro gb136 hg w10 hbox hb; have n0_ := qm (qt HB.out hb); have n1_ := qm (hbox); have n2_ := qm ((by rw [hg]; exact (qs HB.out) : w.heap.size ≤ gb136)); have n3_ := qm ((by rw [hg]; exact (qs HB.out) : w.heap.size ≤ gb136)); clear HB; have HB := n0_; have BK136 := n1_; have GW136 := n2_; have GE136 := n3_; clear hb hbox hg) | ((with_reducible refine gate_dst (N := 3) rfl ?_); refine box_event (by rfl) (N := 3) (by rfl) (cs := #[.int .i64 a1_0, .int .i64 a1_1]) (t := 105) (by first | (go_simp; done) | (go_simp; rfl)) ?_; intro gb137 hg w11 hbox hb; have n0_ := qm (qv (g := gb136) BK136.out hb); have n1_ := qm (qt (by repeat (first | (with_reducible first | exact HB.out | apply qh | apply qi | apply qj | refine qk ?_ GE136.out) | exact HB.out)) hb); have n2_ := qm (hbox); have n3_ := qm ((by rw [hg]; exact (qs (by repeat (first | (with_reducible first | exact HB.out | apply qh | apply qi | apply qj | refine qk ?_ GE136.out) | exact HB.out))) : w.heap.size ≤ gb137)); have n4_ := qm ((by rw [hg]; exact (qs (by repeat (first | (with_reducible first | exact HB.out | apply qh | apply qi | apply qj | refine qk ?_ GE136.out) | exact HB.out))) : w.heap.size ≤ gb137)); have n5_ := qm ((by rw [hg]; exact Nat.ne_of_lt (blk_lt (g := gb136) (o := .cells #[.int .i64 a0_0, .int .i64 a0_1] 105 (0, 0)) BK136.out) : gb136 ≠ gb137)); have n6_ := qm ((by rw [hg]; exact Nat.ne_of_gt (blk_lt (g := gb136) (o := .cells #[.int .i64 a0_0, .int .i64 a0_1] 105 (0, 0)) BK136.out) : gb137 ≠ gb136)); clear BK136; clear HB; have BK136 := n0_; have HB := n1_; have BK137 := n2_; have GW137 := n3_; have GE137 := n4_; have NB136_137 := n5_; have NB137_136 := n6_; clear hb hbox hg; have hnb12 := NB136_137.out; have hnc12 := NB137_136.out; obtain ⟨_, _, _, _⟩ := fc2 BK136.out; obtain ⟨_, _, _, _⟩ := fc2 BK137.out))
  go_ret
  exact ⟨by first | rfl | (simp <;> rfl) | (simp [*] <;> rfl), by repeat (first | (with_reducible first | exact HB.out | apply qh | apply qi | apply qj | refine qk ?_ GE136.out | refine qk ?_ GE137.out) | exact HB.out)⟩
 rw [if_neg c3] at H
 have c3b0 : (a0_0 == a1_0) = false := beq_eq_false_iff_ne.mpr c3
 have c3b1 : (a0_0 != a1_0) = true := bne_iff_ne.mpr c3
 obtain rfl := Option.some.inj H
 go_enter Try.func98, Try.ntmps98
 go_wp2_with (first | ((with_reducible refine gate_dst (N := 2) rfl ?_); refine box_event (by rfl) (N := 2) (by rfl) (cs := #[.int .i64 a0_0, .int .i64 a0_1]) (t := 105) (by first | (go_simp; done) | (go_simp; rfl)) ?_; intro gb136 hg w15 hbox hb; have n0_ := qm (qt HB.out hb); have n1_ := qm (hbox); have n2_ := qm ((by rw [hg]; exact (qs HB.out) : w.heap.size ≤ gb136)); have n3_ := qm ((by rw [hg]; exact (qs HB.out) : w.heap.size ≤ gb136)); clear HB; have HB := n0_; have BK136 := n1_; have GW136 := n2_; have GE136 := n3_; clear hb hbox hg) | ((with_reducible refine gate_dst (N := 3) rfl ?_); refine box_event (by rfl) (N := 3) (by rfl) (cs := #[.int .i64 a1_0, .int .i64 a1_1]) (t := 105) (by first | (go_simp; done) | (go_simp; rfl)) ?_; intro gb137 hg w16 hbox hb; have n0_ := qm (qv (g := gb136) BK136.out hb); have n1_ := qm (qt (by repeat (first | (with_reducible first | exact HB.out | apply qh | apply qi | apply qj | refine qk ?_ GE136.out) | exact HB.out)) hb); have n2_ := qm (hbox); have n3_ := qm ((by rw [hg]; exact (qs (by repeat (first | (with_reducible first | exact HB.out | apply qh | apply qi | apply qj | refine qk ?_ GE136.out) | exact HB.out))) : w.heap.size ≤ gb137)); have n4_ := qm ((by rw [hg]; exact (qs (by repeat (first | (with_reducible first | exact HB.out | apply qh | apply qi | apply qj | refine qk ?_ GE136.out) | exact HB.out))) : w.heap.size ≤ gb137)); have n5_ := qm ((by rw [hg]; exact Nat.ne_of_lt (blk_lt (g := gb136) (o := .cells #[.int .i64 a0_0, .int .i64 a0_1] 105 (0, 0)) BK136.out) : gb136 ≠ gb137)); have n6_ := qm ((by rw [hg]; exact Nat.ne_of_gt (blk_lt (g := gb136) (o := .cells #[.int .i64 a0_0, .int .i64 a0_1] 105 (0, 0)) BK136.out) : gb137 ≠ gb136)); clear BK136; clear HB; have BK136 := n0_; have HB := n1_; have BK137 := n2_; have GW137 := n3_; have GE137 := n4_; have NB136_137 := n5_; have NB137_136 := n6_; clear hb hbox hg; have hnb17 := NB136_137.out; have hnc17 := NB137_136.out; obtain ⟨_, _, _, _⟩ := fc2 BK136.out; obtain ⟨_, _, _, _⟩ := fc2 BK137.out))
 go_ret
 exact ⟨by first | rfl | (simp <;> rfl) | (simp [*] <;> rfl), by repeat (first | (with_reducible first | exact HB.out | apply qh | apply qi | apply qj | refine qk ?_ GE136.out | refine qk ?_ GE137.out) | exact HB.out)⟩
end Go.Proofs.Ytdojcdhlcnlohaa.SFnExactFrameBytes
