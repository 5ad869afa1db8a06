/- For all lists of bytes and whole numbers of Go's int: the program's GetVar and the reference's tell the same three answers. No condition. -/
import Derived.Test.YtkfoneckbnggoaaMFnExactGetVarx2
import Derived.Test.YtkfoneckbnggoaaMath
namespace Go.Proofs.Ytkfoneckbnggoaa.Pure
open Go.RowKit Go.Proofs.Ytkfoneckbnggoaa.MFnExactGetVar Go.Proofs.YtkfoneckbnggoaaW.PrintWords Go.Proofs.YtkfoneckbnggoaaW.PrintLast Go.Proofs.YtkfoneckbnggoaaW.PrintMore Go.Proofs.Ytkfoneckbnggoaa.Math
set_option linter.unusedVariables false
set_option linter.unusedSimpArgs false

theorem toByteS_loop (l : List Int) (hl : l.length ≤ 281474976710656) (n : Nat) : ∀ (x : List Int) (i : Nat), l.length - i = n → i ≤ l.length → x.length = l.length → (∀ j, j < i → x[j]? = l[j]?) → Ev (fun k => laws_toByteS.l0 k l x (i : Int)) l := by
  induction n with
  | zero =>
    intro x i hn hi hx h
    refine Ev.step (fun k => rfl) ?_
    simp only [laws_toByteS.l0, show ¬ ((i : Int) < (l.length : Int)) by omega, if_false]
    exact Ev_now (prefix_all hx (fun j hj => h j (by omega)))
  | succ n ih =>
    intro x i hn hi hx h
    have hil : i < l.length := by omega
    have H := ih (x.set i (rd l (i : Int))) (i + 1) (by omega) (by omega) (by rw [List.length_set]; exact hx) (set_prefix hx (rd_get l hil) h)
    refine Ev.step (fun k => rfl) ?_
    simp only [laws_toByteS.l0, show ((i : Int) < (l.length : Int)) by omega, show (0 : Int) ≤ (i : Int) by omega, show ((i : Int) < (x.length : Int)) by omega, if_true, Int.toNat_natCast, next64 (show i < 4611686018427387904 by omega)]
    exact H
theorem toByteS_ev (l : List Int) (hl : l.length ≤ 281474976710656) : Ev (fun k => laws_toByteS.f k l) l := by
  simp only [laws_toByteS.f, show (0 : Int) ≤ (l.length : Int) by omega, if_true, Int.toNat_natCast, hl]
  exact toByteS_loop l hl l.length _ 0 (by omega) (by omega) (by simp) (fun j hj => by omega)
theorem eqByteS_loop (l : List Int) (hl : l.length ≤ 281474976710656) (n : Nat) : ∀ (i : Nat), l.length - i = n → i ≤ l.length → Ev (fun k => laws_eqByteS.l0 k l l (i : Int)) true := by
  induction n with
  | zero =>
    intro i hn hi
    refine Ev.step (fun k => rfl) ?_
    simp only [laws_eqByteS.l0, show ¬ ((i : Int) < (l.length : Int)) by omega, if_false]
    exact Ev.now _
  | succ n ih =>
    intro i hn hi
    have H := ih (i + 1) (by omega) (by omega)
    refine Ev.step (fun k => rfl) ?_
    simp only [laws_eqByteS.l0, show ((i : Int) < (l.length : Int)) by omega, show (0 : Int) ≤ (i : Int) by omega, if_true, next64 (show i < 4611686018427387904 by omega)]
    exact H
theorem eqByteS_ev (l : List Int) (hl : l.length ≤ 281474976710656) : Ev (fun k => laws_eqByteS.f k l l) true := by
  simp only [laws_eqByteS.f, if_true]
  exact eqByteS_loop l hl l.length 0 (by omega) (by omega)
theorem bytes_of {l : List Int} (h : ∀ x ∈ l, (Lit.int .u8 x).wf = true) : ∀ x ∈ l, 0 ≤ x ∧ x < 256 := fun x hx => by
  have := bounds_u8 (h x hx)
  omega
theorem take_snoc (l : List Int) {i : Nat} (h : i < l.length) : l.take (i + 1) = l.take i ++ [rd l (i : Int)] := by
  rw [List.take_succ_eq_append_getElem h, rd_some (List.getElem?_eq_getElem h)]
theorem byte_at {l : List Int} (hb : ∀ x ∈ l, 0 ≤ x ∧ x < 256) {i : Nat} (h : i < l.length) : 0 ≤ rd l (i : Int) ∧ rd l (i : Int) < 256 :=
  hb _ (List.mem_of_getElem? (rd_get l h))
theorem unfixed_loop (l : List Int) (hl : l.length ≤ 281474976710656) (hb : ∀ x ∈ l, 0 ≤ x ∧ x < 256) (n : Nat) : ∀ i : Nat, l.length - i = n → i ≤ l.length → Ev (fun k => impl_unfixed.l0 k (val 0 (l.take i) % 18446744073709551616) l (l.length : Int) (i : Int)) (wrap64 (val 0 l)) := by
  induction n with
  | zero =>
    intro i hn hi
    refine Ev.step (fun k => rfl) ?_
    simp only [impl_unfixed.l0, show ¬ ((i : Int) < (l.length : Int)) by omega, if_false]
    exact Ev_now (by rw [List.take_of_length_le (by omega), wrap64_emod])
  | succ n ih =>
    intro i hn hi
    have H := ih (i + 1) (by omega) (by omega)
    have hbi := byte_at hb (show i < l.length by omega)
    rw [take_snoc l (by omega), val_snoc] at H
    refine Ev.step (fun k => rfl) ?_
    simp only [impl_unfixed.l0, show ((i : Int) < (l.length : Int)) by omega, show (0 : Int) ≤ (i : Int) by omega, if_true, u64_step _ _ hbi.1 hbi.2, next64 (show i < 4611686018427387904 by omega)]
    exact H
theorem unfixed_ev (l : List Int) (hl : l.length ≤ 281474976710656) (hb : ∀ x ∈ l, 0 ≤ x ∧ x < 256) : Ev (fun k => impl_unfixed.f k l) (wrap64 (val 0 l)) :=
  unfixed_loop l hl hb l.length 0 (by omega) (by omega)

theorem pow256 {j : Nat} (h : j ≤ 7) : (256 : Int) ^ j ≤ 72057594037927936 := by
  have h1 : 256 ^ j ≤ 256 ^ 7 := Nat.pow_le_pow_right (by decide) h
  have h2 : ((256 ^ j : Nat) : Int) ≤ ((256 ^ 7 : Nat) : Int) := by omega
  simpa using h2
theorem val_lt (a : Int) (l : List Int) (ha : 0 ≤ a ∧ a < 64) (h : ∀ x ∈ l, 0 ≤ x ∧ x < 256) (hl : l.length ≤ 7) : 0 ≤ val a l ∧ val a l < 4611686018427387904 := by
  have hb := val_bounds l h
  have hp := pow256 hl
  have hq : (0 : Int) < 256 ^ l.length := Int.pow_pos (by decide)
  rw [val_split]
  generalize (256 : Int) ^ l.length = p at *
  have h1 : a * p ≤ 63 * p := Int.mul_le_mul_of_nonneg_right (by omega) (by omega)
  have h2 : 0 ≤ a * p := Int.mul_nonneg (by omega) (by omega)
  omega
theorem val_mask (b : Int) (l : List Int) (h : ∀ x ∈ l, 0 ≤ x ∧ x < 256) (hb : 0 ≤ b) : val b l % (64 * 256 ^ l.length) = val (b % 64) l := by
  have hv := val_bounds l h
  have hq : (0 : Int) < 256 ^ l.length := Int.pow_pos (by decide)
  rw [val_split, val_split l (b % 64)]
  generalize (256 : Int) ^ l.length = p at *
  have hd : b * p = (b % 64) * p + 64 * p * (b / 64) := by
    have := Int.emod_add_mul_ediv b 64
    rw [Int.mul_comm 64 p, Int.mul_assoc, Int.mul_comm (b % 64) p, ← Int.mul_add, this, Int.mul_comm]
  have h1 : (b % 64) * p ≤ 63 * p := Int.mul_le_mul_of_nonneg_right (by omega) (by omega)
  have h2 : 0 ≤ (b % 64) * p := Int.mul_nonneg (by omega) (by omega)
  rw [show b * p + val 0 l = ((b % 64) * p + val 0 l) + 64 * p * (b / 64) by omega, Int.add_mul_emod_self_left, Int.emod_eq_of_lt (by omega) (by omega)]

theorem l1_loop (l : List Int) (a n : Nat) (hl : l.length ≤ 1048576) (hb : ∀ x ∈ l, 0 ≤ x ∧ x < 256) (hn : 1 ≤ n ∧ n ≤ 8) (han : a + n ≤ l.length) (c : Int) (hc : 0 ≤ c ∧ c < 64) (d : Nat) : ∀ j : Nat, n - 1 - j = d → j ≤ n - 1 →
    Ev (fun k => spec_GetVar.l1 k l (a : Int) (n : Int) (val c (((l.take (a + n)).drop (a + 1)).take j)) ((j : Int) + 1)) (val c ((l.take (a + n)).drop (a + 1)), (a : Int) + n, 0) := by
  have hlen : ((l.take (a + n)).drop (a + 1)).length = n - 1 := by simp; omega
  induction d with
  | zero =>
    intro j hd hj
    refine Ev.step (fun k => rfl) ?_
    simp only [spec_GetVar.l1, show ¬ ((j : Int) + 1 < (n : Int)) by omega, if_false, w64 (x := (a : Int) + n) (by omega) (by omega)]
    exact Ev_now (by rw [List.take_of_length_le (by omega)])
  | succ d ih =>
    intro j hd hj
    have H := ih (j + 1) (by omega) (by omega)
    have hg : rd ((l.take (a + n)).drop (a + 1)) (j : Int) = rd l ((a : Int) + ((j : Int) + 1)) := by
      refine rd_some ?_
      rw [List.getElem?_drop, List.getElem?_take_of_lt (by omega), show (a : Int) + ((j : Int) + 1) = ((a + 1 + j : Nat) : Int) by omega]
      exact rd_get l (by omega)
    have hbj := byte_at hb (show a + 1 + j < l.length by omega)
    rw [show ((a + 1 + j : Nat) : Int) = (a : Int) + ((j : Int) + 1) by omega] at hbj
    have hv := val_lt c (((l.take (a + n)).drop (a + 1)).take j) hc (fun x hx => hb x (List.mem_of_mem_take (List.mem_of_mem_drop (List.mem_of_mem_take hx)))) (by simp; omega)
    have hv2 := val_lt c (((l.take (a + n)).drop (a + 1)).take (j + 1)) hc (fun x hx => hb x (List.mem_of_mem_take (List.mem_of_mem_drop (List.mem_of_mem_take hx)))) (by simp; omega)
    rw [take_snoc _ (by omega), val_snoc, hg] at H hv2
    rw [show (((j + 1 : Nat) : Int) + 1) = (j : Int) + 1 + 1 by omega] at H
    refine Ev.step (fun k => rfl) ?_
    simp only [spec_GetVar.l1, show ((j : Int) + 1 < (n : Int)) by omega, w64 (x := (a : Int) + ((j : Int) + 1)) (by omega) (by omega), show (0 : Int) ≤ (a : Int) + ((j : Int) + 1) by omega, show (a : Int) + ((j : Int) + 1) < (l.length : Int) by omega, if_true,
      w64 (x := rd l ((a : Int) + ((j : Int) + 1))) (by omega) (by omega), w64 (x := (j : Int) + 1 + 1) (by omega) (by omega), w64 (x := val c (((l.take (a + n)).drop (a + 1)).take j) * 256) (by omega) (by omega), w64 (x := val c (((l.take (a + n)).drop (a + 1)).take j) * 256 + rd l ((a : Int) + ((j : Int) + 1))) (by omega) (by omega)]
    exact H

/-- What both tell of a number's bytes, from place a on: q tells how many. -/
theorem both_at (l : List Int) (a n q : Nat) (hl : l.length ≤ 65536) (hb : ∀ x ∈ l, 0 ≤ x ∧ x < 256) (ha : a < l.length) (hq : rd l (a : Int) / 64 = q) (hn : n = 2 ^ q) :
    ∃ r, Ev (fun k => spec_GetVar.l0 k l (a : Int) (n : Int) 0) r ∧ Ev (fun k => impl_GetVar.j0 k l (a : Int) false) r := by
  have hba := byte_at hb ha
  have hq4 : q = 0 ∨ q = 1 ∨ q = 2 ∨ q = 3 := by omega
  have hn8 : 1 ≤ n ∧ n ≤ 8 := by rcases hq4 with rfl | rfl | rfl | rfl <;> omega
  have hs : shl .i64 1 (q : Int) = n := by rcases hq4 with rfl | rfl | rfl | rfl <;> subst hn <;> decide +kernel
  have hm : 0 ≤ wrap64 (wrap64 (8 * (n : Int)) - 2) ∧ wrap64 (shl .i64 1 (wrap64 (wrap64 (8 * (n : Int)) - 2)) - 1) = 2 ^ (8 * n - 2) - 1 ∧ (2 : Int) ^ (8 * n - 2) = 64 * 256 ^ (n - 1) ∧ 8 * n - 2 ≤ 62 := by
    rcases hq4 with rfl | rfl | rfl | rfl <;> subst hn <;> decide +kernel
  have w0 : wrap64 ((l.length : Int) - (a : Int)) = (l.length : Int) - a := w64 (by omega) (by omega)
  by_cases c5 : (l.length : Int) - a < n
  · refine ⟨(0, 0, 2), ?_, ?_⟩
    · refine Ev.step (fun k => rfl) ?_
      simp only [spec_GetVar.l0, show ¬ ((0 : Int) > 0) by decide, if_false, w0, c5, if_true]
      exact Ev.now _
    · refine Ev.step (fun k => rfl) ?_
      simp only [impl_GetVar.j0, Bool.false_eq_true, if_false, show ¬ ((a : Int) = (l.length : Int)) by omega, show (0 : Int) ≤ (a : Int) by omega, show (a : Int) < (l.length : Int) by omega, if_true, hq, show (0 : Int) ≤ (q : Int) by omega, w0, hs, c5]
      exact Ev.now _
  · have hsub : ∀ x ∈ (l.take (a + n)).drop a, 0 ≤ x ∧ x < 256 := fun x hx => hb x (List.mem_of_mem_take (List.mem_of_mem_drop hx))
    have hrest : ∀ x ∈ (l.take (a + n)).drop (a + 1), 0 ≤ x ∧ x < 256 := fun x hx => hb x (List.mem_of_mem_take (List.mem_of_mem_drop hx))
    have hlen : ((l.take (a + n)).drop (a + 1)).length = n - 1 := by simp; omega
    have hcons : (l.take (a + n)).drop a = rd l (a : Int) :: (l.take (a + n)).drop (a + 1) := by
      rw [List.drop_eq_getElem_cons (by simp; omega), List.getElem_take, rd_some (List.getElem?_eq_getElem ha)]
    have hi := unfixed_ev _ (by simp; omega) hsub
    have hl1 := l1_loop l a n (by omega) hb hn8 (by omega) (rd l (a : Int) % 64) (by omega) (n - 1) 0 (by omega) (by omega)
    rw [List.take_zero, val_nil] at hl1
    have ev : Go.bits .and .i64 (wrap64 (val 0 ((l.take (a + n)).drop a))) (2 ^ (8 * n - 2) - 1) = val (rd l (a : Int) % 64) ((l.take (a + n)).drop (a + 1)) := by
      rw [i64_mask_any _ _ hm.2.2.2, hm.2.2.1, hcons, val_cons, show (0 : Int) * 256 + rd l (a : Int) = rd l (a : Int) by omega]
      have := val_mask (rd l (a : Int)) _ hrest hba.1
      rw [hlen] at this
      exact this
    refine ⟨(val (rd l (a : Int) % 64) ((l.take (a + n)).drop (a + 1)), (a : Int) + (n : Int), 0), ?_, ?_⟩
    · refine Ev.step (fun k => rfl) ?_
      simp only [spec_GetVar.l0, show ¬ ((0 : Int) > 0) by decide, if_false, w0, c5, show (0 : Int) ≤ (a : Int) by omega, show (a : Int) < (l.length : Int) by omega, if_true, w64 (x := rd l (a : Int)) (by omega) (by omega), tmod_nn hba.1]
      exact hl1
    · refine Ev.step (fun k => rfl) ?_
      simp only [impl_GetVar.j0, Bool.false_eq_true, if_false, show ¬ ((a : Int) = (l.length : Int)) by omega, show (0 : Int) ≤ (a : Int) by omega, show (a : Int) < (l.length : Int) by omega, if_true, hq, show (0 : Int) ≤ (q : Int) by omega, w0, hs, c5,
        w64 (x := (a : Int) + (n : Int)) (by omega) (by omega), show (a : Int) ≤ (a : Int) + (n : Int) by omega, show (a : Int) + (n : Int) ≤ (l.length : Int) by omega, show ((a : Int) + (n : Int)).toNat = a + n by omega, Int.toNat_natCast, hm.1, hm.2.1]
      refine Ev.bind hi ?_
      rw [ev]
      exact Ev.now _

theorem l0_rounds (l : List Int) (a : Int) (r : Int × Int × Int) (q : Nat) (hq : q ≤ 3) (h : Ev (fun k => spec_GetVar.l0 k l a ((2 ^ q : Nat) : Int) 0) r) : Ev (fun k => spec_GetVar.l0 k l a 1 (q : Int)) r := by
  have hq4 : q = 0 ∨ q = 1 ∨ q = 2 ∨ q = 3 := by omega
  rcases hq4 with rfl | rfl | rfl | rfl
  · exact h
  · refine Ev.step (fun k => rfl) ?_
    simp only [spec_GetVar.l0, show ((1 : Nat) : Int) > 0 by decide, if_true, show wrap64 (2 * 1) = 2 by decide +kernel, show wrap64 (((1 : Nat) : Int) - 1) = 0 by decide +kernel]
    exact h
  · refine Ev.step (fun k => rfl) ?_
    simp only [spec_GetVar.l0, show ((2 : Nat) : Int) > 0 by decide, if_true, show wrap64 (2 * 1) = 2 by decide +kernel, show wrap64 (((2 : Nat) : Int) - 1) = 1 by decide +kernel]
    refine Ev.step (fun k => rfl) ?_
    simp only [spec_GetVar.l0, show (1 : Int) > 0 by decide, if_true, show wrap64 (2 * 2) = 4 by decide +kernel, show wrap64 (1 - 1) = 0 by decide +kernel]
    exact h
  · refine Ev.step (fun k => rfl) ?_
    simp only [spec_GetVar.l0, show ((3 : Nat) : Int) > 0 by decide, if_true, show wrap64 (2 * 1) = 2 by decide +kernel, show wrap64 (((3 : Nat) : Int) - 1) = 2 by decide +kernel]
    refine Ev.step (fun k => rfl) ?_
    simp only [spec_GetVar.l0, show (2 : Int) > 0 by decide, if_true, show wrap64 (2 * 2) = 4 by decide +kernel, show wrap64 (2 - 1) = 1 by decide +kernel]
    refine Ev.step (fun k => rfl) ?_
    simp only [spec_GetVar.l0, show (1 : Int) > 0 by decide, if_true, show wrap64 (2 * 4) = 8 by decide +kernel, show wrap64 (1 - 1) = 0 by decide +kernel]
    exact h

/-- Both answer, and the same. -/
theorem both (l : List Int) (at_ : Int) (hl : l.length ≤ 1048576) (hb : ∀ x ∈ l, 0 ≤ x ∧ x < 256) : ∃ r, Ev (fun k => spec_GetVar.f k l at_) r ∧ Ev (fun k => impl_GetVar.f k l at_) r := by
  have yes : Ev (fun k => spec_GetVar.j0 k l at_ true) (0, 0, 1) ∧ Ev (fun k => impl_GetVar.j0 k l at_ true) (0, 0, 1) :=
    ⟨Ev.step (f := fun _ => some (0, 0, 1)) (fun k => by simp only [spec_GetVar.j0, if_true]) (Ev.now _), Ev.step (f := fun _ => some (0, 0, 1)) (fun k => by simp only [impl_GetVar.j0, if_true]) (Ev.now _)⟩
  simp only [spec_GetVar.f, impl_GetVar.f, impl_tooLong.f, Option.bind_some, decide_eq_true_eq]
  by_cases c0 : (l.length : Int) > 65536
  · simp only [c0, if_true]; exact ⟨_, Ev.now _, Ev.now _⟩
  by_cases c1 : at_ < 0
  · simp only [c0, c1, if_true, if_false]; exact ⟨_, yes⟩
  by_cases c2 : at_ > (l.length : Int)
  · simp only [c0, c1, c2, decide_true, if_false]; exact ⟨_, yes⟩
  simp only [c0, c1, c2, decide_false, if_false]
  by_cases c3 : at_ = (l.length : Int)
  · refine ⟨(0, 0, 2), ?_, ?_⟩
    · refine Ev.step (fun k => rfl) ?_; simp only [spec_GetVar.j0, Bool.false_eq_true, if_false, if_pos c3]; exact Ev.now _
    · refine Ev.step (fun k => rfl) ?_; simp only [impl_GetVar.j0, Bool.false_eq_true, if_false, if_pos c3]; exact Ev.now _
  obtain ⟨a, rfl⟩ := Int.eq_ofNat_of_zero_le (show 0 ≤ at_ by omega)
  have ha : a < l.length := by omega
  have hba := byte_at hb ha
  obtain ⟨q, hq⟩ := Int.eq_ofNat_of_zero_le (show 0 ≤ rd l (a : Int) / 64 by omega)
  obtain ⟨r, hs, hi⟩ := both_at l a (2 ^ q) q (by omega) hb ha hq rfl
  refine ⟨r, ?_, hi⟩
  refine Ev.step (fun k => rfl) ?_
  simp only [spec_GetVar.j0, Bool.false_eq_true, if_false, if_neg c3, show (0 : Int) ≤ (a : Int) by omega, show (a : Int) < (l.length : Int) by omega, if_true, w64 (x := rd l (a : Int)) (by omega) (by omega), tdiv_nn hba.1, hq, w64 (x := (q : Int)) (by omega) (by omega)]
  exact l0_rounds l (a : Int) r q (by omega) hs

theorem FnExactGetVar (l0 : List Int) (a1 : Int) (q0 : l0.length ≤ maxLen ∧ ∀ x ∈ l0, (Lit.int .u8 x).wf = true) (h1 : (Lit.int .i64 a1).wf = true) : ∃ k, laws_FnExactGetVar.f k l0 a1 = some true := by
  refine Ev.rounds (g := fun k => laws_FnExactGetVar.f k l0 a1) ?_
  simp only [laws_FnExactGetVar.f]
  refine Ev_ite (fun _ => Ev.now _) (fun c0 => ?_)
  obtain ⟨⟨r1, r2, r3⟩, hs, hi⟩ := both l0 a1 (by omega) (bytes_of q0.2)
  repeat' first
    | exact Ev.now _
    | refine Ev.bind hs ?_
    | refine Ev.bind hi ?_
    | refine Ev.bind (toByteS_ev _ (by omega)) ?_
    | refine Ev.bind (eqByteS_ev _ (by omega)) ?_
    | simp only [if_true, if_false, bne_self_eq_false, Bool.false_eq_true]
    | (refine Ev.step (fun k => rfl) ?_; simp only [laws_FnExactGetVar.j0])

end Go.Proofs.Ytkfoneckbnggoaa.Pure
