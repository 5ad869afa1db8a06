/- For all lists of bytes and whole numbers of Go's int: the program's GetFixed and the reference's tell the same three answers. No condition. -/
import Derived.Test.YtkfoneckbnggoaaPFnExactGetFixedx2
import Derived.Test.YtkfoneckbnggoaaMath
namespace Go.Proofs.Ytkfoneckbnggoaa.Pure
open Go.RowKit Go.Proofs.Ytkfoneckbnggoaa.PFnExactGetFixed Go.Proofs.YtkfoneckbnggoaaW.PrintWords Go.Proofs.YtkfoneckbnggoaaW.PrintLast Go.Proofs.YtkfoneckbnggoaaW.PrintMore Go.Proofs.Ytkfoneckbnggoaa.Math
set_option linter.unusedVariables false
set_option linter.unusedSimpArgs false

theorem toByteS_loop (l : List Int) (hl : l.length ≤ 281474976710656) (n : Nat) : ∀ (x : List Int) (i : Nat), l.length - i = n → i ≤ l.length → x.length = l.length → (∀ j, j < i → x[j]? = l[j]?) → Ev (fun k => laws_toByteS.l0 k l x (i : Int)) l := by
  induction n with
  | zero =>
    intro x i hn hi hx h
    refine Ev.step (fun k => rfl) ?_
    simp only [laws_toByteS.l0, show ¬ ((i : Int) < (l.length : Int)) by omega, if_false]
    exact Ev_now (prefix_all hx (fun j hj => h j (by omega)))
  | succ n ih =>
    intro x i hn hi hx h
    have hil : i < l.length := by omega
    have H := ih (x.set i (rd l (i : Int))) (i + 1) (by omega) (by omega) (by rw [List.length_set]; exact hx) (set_prefix hx (rd_get l hil) h)
    refine Ev.step (fun k => rfl) ?_
    simp only [laws_toByteS.l0, show ((i : Int) < (l.length : Int)) by omega, show (0 : Int) ≤ (i : Int) by omega, show ((i : Int) < (x.length : Int)) by omega, if_true, Int.toNat_natCast, next64 (show i < 4611686018427387904 by omega)]
    exact H
theorem toByteS_ev (l : List Int) (hl : l.length ≤ 281474976710656) : Ev (fun k => laws_toByteS.f k l) l := by
  simp only [laws_toByteS.f, show (0 : Int) ≤ (l.length : Int) by omega, if_true, Int.toNat_natCast, hl]
  exact toByteS_loop l hl l.length _ 0 (by omega) (by omega) (by simp) (fun j hj => by omega)
theorem eqByteS_loop (l : List Int) (hl : l.length ≤ 281474976710656) (n : Nat) : ∀ (i : Nat), l.length - i = n → i ≤ l.length → Ev (fun k => laws_eqByteS.l0 k l l (i : Int)) true := by
  induction n with
  | zero =>
    intro i hn hi
    refine Ev.step (fun k => rfl) ?_
    simp only [laws_eqByteS.l0, show ¬ ((i : Int) < (l.length : Int)) by omega, if_false]
    exact Ev.now _
  | succ n ih =>
    intro i hn hi
    have H := ih (i + 1) (by omega) (by omega)
    refine Ev.step (fun k => rfl) ?_
    simp only [laws_eqByteS.l0, show ((i : Int) < (l.length : Int)) by omega, show (0 : Int) ≤ (i : Int) by omega, if_true, next64 (show i < 4611686018427387904 by omega)]
    exact H
theorem eqByteS_ev (l : List Int) (hl : l.length ≤ 281474976710656) : Ev (fun k => laws_eqByteS.f k l l) true := by
  simp only [laws_eqByteS.f, if_true]
  exact eqByteS_loop l hl l.length 0 (by omega) (by omega)
theorem bytes_of {l : List Int} (h : ∀ x ∈ l, (Lit.int .u8 x).wf = true) : ∀ x ∈ l, 0 ≤ x ∧ x < 256 := fun x hx => by
  have := bounds_u8 (h x hx)
  omega
theorem take_snoc (l : List Int) {i : Nat} (h : i < l.length) : l.take (i + 1) = l.take i ++ [rd l (i : Int)] := by
  rw [List.take_succ_eq_append_getElem h, rd_some (List.getElem?_eq_getElem h)]
theorem byte_at {l : List Int} (hb : ∀ x ∈ l, 0 ≤ x ∧ x < 256) {i : Nat} (h : i < l.length) : 0 ≤ rd l (i : Int) ∧ rd l (i : Int) < 256 :=
  hb _ (List.mem_of_getElem? (rd_get l h))
theorem value_loop (l : List Int) (hl : l.length ≤ 281474976710656) (hb : ∀ x ∈ l, 0 ≤ x ∧ x < 256) (n : Nat) : ∀ i : Nat, l.length - i = n → i ≤ l.length → Ev (fun k => spec_l01Value.l0 k l (wrap64 (val 0 (l.take i))) (i : Int)) (wrap64 (val 0 l)) := by
  induction n with
  | zero =>
    intro i hn hi
    refine Ev.step (fun k => rfl) ?_
    simp only [spec_l01Value.l0, show ¬ ((i : Int) < (l.length : Int)) by omega, if_false]
    exact Ev_now (by rw [List.take_of_length_le (by omega)])
  | succ n ih =>
    intro i hn hi
    have H := ih (i + 1) (by omega) (by omega)
    have hbi := byte_at hb (show i < l.length by omega)
    rw [take_snoc l (by omega), val_snoc] at H
    refine Ev.step (fun k => rfl) ?_
    simp only [spec_l01Value.l0, show ((i : Int) < (l.length : Int)) by omega, show (0 : Int) ≤ (i : Int) by omega, if_true, wrap64_step _ _ hbi.1 hbi.2, next64 (show i < 4611686018427387904 by omega)]
    exact H
theorem value_ev (l : List Int) (hl : l.length ≤ 281474976710656) (hb : ∀ x ∈ l, 0 ≤ x ∧ x < 256) : Ev (fun k => spec_l01Value.f k l) (wrap64 (val 0 l)) := by
  have H := value_loop l hl hb l.length 0 (by omega) (by omega)
  rw [List.take_zero, val_nil, w64 (by omega) (by omega)] at H
  exact H
theorem unfixed_loop (l : List Int) (hl : l.length ≤ 281474976710656) (hb : ∀ x ∈ l, 0 ≤ x ∧ x < 256) (n : Nat) : ∀ i : Nat, l.length - i = n → i ≤ l.length → Ev (fun k => impl_unfixed.l0 k (val 0 (l.take i) % 18446744073709551616) l (l.length : Int) (i : Int)) (wrap64 (val 0 l)) := by
  induction n with
  | zero =>
    intro i hn hi
    refine Ev.step (fun k => rfl) ?_
    simp only [impl_unfixed.l0, show ¬ ((i : Int) < (l.length : Int)) by omega, if_false]
    exact Ev_now (by rw [List.take_of_length_le (by omega), wrap64_emod])
  | succ n ih =>
    intro i hn hi
    have H := ih (i + 1) (by omega) (by omega)
    have hbi := byte_at hb (show i < l.length by omega)
    rw [take_snoc l (by omega), val_snoc] at H
    refine Ev.step (fun k => rfl) ?_
    simp only [impl_unfixed.l0, show ((i : Int) < (l.length : Int)) by omega, show (0 : Int) ≤ (i : Int) by omega, if_true, u64_step _ _ hbi.1 hbi.2, next64 (show i < 4611686018427387904 by omega)]
    exact H
theorem unfixed_ev (l : List Int) (hl : l.length ≤ 281474976710656) (hb : ∀ x ∈ l, 0 ≤ x ∧ x < 256) : Ev (fun k => impl_unfixed.f k l) (wrap64 (val 0 l)) :=
  unfixed_loop l hl hb l.length 0 (by omega) (by omega)

/-- Both answer, and the same. -/
theorem both (l : List Int) (at_ n : Int) (hl : l.length ≤ 1048576) (hb : ∀ x ∈ l, 0 ≤ x ∧ x < 256) : ∃ r, Ev (fun k => spec_GetFixed.f k l at_ n) r ∧ Ev (fun k => impl_GetFixed.f k l at_ n) r := by
  have yes : Ev (fun k => spec_GetFixed.j0 k l at_ n true) (0, 0, 1) ∧ Ev (fun k => impl_GetFixed.j0 k l at_ n true) (0, 0, 1) :=
    ⟨Ev.step (f := fun _ => some (0, 0, 1)) (fun k => by simp only [spec_GetFixed.j0, if_true]) (Ev.now _), Ev.step (f := fun _ => some (0, 0, 1)) (fun k => by simp only [impl_GetFixed.j0, if_true]) (Ev.now _)⟩
  simp only [spec_GetFixed.f, impl_GetFixed.f, impl_tooLong.f, Option.bind_some, decide_eq_true_eq]
  by_cases c0 : (l.length : Int) > 65536
  · simp only [c0, if_true]; exact ⟨_, Ev.now _, Ev.now _⟩
  by_cases c1 : n < 1
  · simp only [c0, c1, if_true, if_false]; exact ⟨_, yes⟩
  by_cases c2 : n > 8
  · simp only [c0, c1, c2, if_true, if_false]; exact ⟨_, yes⟩
  by_cases c3 : at_ < 0
  · simp only [c0, c1, c2, c3, if_true, if_false]; exact ⟨_, yes⟩
  by_cases c4 : at_ > (l.length : Int)
  · simp only [c0, c1, c2, c3, c4, decide_true, if_false]; exact ⟨_, yes⟩
  simp only [c0, c1, c2, c3, c4, decide_false, if_false]
  have w0 : wrap64 ((l.length : Int) - at_) = (l.length : Int) - at_ := w64 (by omega) (by omega)
  by_cases c5 : (l.length : Int) - at_ < n
  · refine ⟨(0, 0, 2), ?_, ?_⟩
    · refine Ev.step (fun k => rfl) ?_; simp only [spec_GetFixed.j0, Bool.false_eq_true, if_false, w0, c5, if_true]; exact Ev.now _
    · refine Ev.step (fun k => rfl) ?_; simp only [impl_GetFixed.j0, Bool.false_eq_true, if_false, w0, c5, if_true]; exact Ev.now _
  have w1 : wrap64 (at_ + n) = at_ + n := w64 (by omega) (by omega)
  have hsub : ∀ x ∈ (l.take (at_ + n).toNat).drop at_.toNat, 0 ≤ x ∧ x < 256 := fun x hx => hb x (List.mem_of_mem_take (List.mem_of_mem_drop hx))
  have hs := value_ev _ (by simp; omega) hsub
  have hi := unfixed_ev _ (by simp; omega) hsub
  by_cases c6 : n = 8
  · by_cases c7 : rd l at_ ≥ 128
    · refine ⟨(0, 0, 3), ?_, ?_⟩
      · refine Ev.step (fun k => rfl) ?_; simp only [spec_GetFixed.j0, Bool.false_eq_true, if_false, w0, c5, if_true, c6, c7, show (0 : Int) ≤ at_ by omega, show at_ < (l.length : Int) by omega, show ¬ ((l.length : Int) - at_ < 8) by omega]; exact Ev.now _
      · refine Ev.step (fun k => rfl) ?_; simp only [impl_GetFixed.j0, Bool.false_eq_true, if_false, w0, c5, if_true, c6, c7, show (0 : Int) ≤ at_ by omega, show at_ < (l.length : Int) by omega, show ¬ ((l.length : Int) - at_ < 8) by omega]; exact Ev.now _
    · refine ⟨(wrap64 (val 0 ((l.take (at_ + n).toNat).drop at_.toNat)), at_ + n, 0), ?_, ?_⟩
      · refine Ev.step (fun k => rfl) ?_; simp only [spec_GetFixed.j0, Bool.false_eq_true, if_false, w0, w1, c5, if_true, if_pos c6, c7, show (0 : Int) ≤ at_ by omega, show at_ < (l.length : Int) by omega, show at_ ≤ at_ + n by omega, show at_ + n ≤ (l.length : Int) by omega]
        exact Ev.bind hs (Ev.now _)
      · refine Ev.step (fun k => rfl) ?_; simp only [impl_GetFixed.j0, Bool.false_eq_true, if_false, w0, w1, c5, if_true, if_pos c6, c7, show (0 : Int) ≤ at_ by omega, show at_ < (l.length : Int) by omega, show at_ ≤ at_ + n by omega, show at_ + n ≤ (l.length : Int) by omega]
        exact Ev.bind hi (Ev.now _)
  · refine ⟨(wrap64 (val 0 ((l.take (at_ + n).toNat).drop at_.toNat)), at_ + n, 0), ?_, ?_⟩
    · refine Ev.step (fun k => rfl) ?_; simp only [spec_GetFixed.j0, Bool.false_eq_true, if_false, w0, w1, c5, if_true, if_neg c6, show (0 : Int) ≤ at_ by omega, show at_ ≤ at_ + n by omega, show at_ + n ≤ (l.length : Int) by omega]
      exact Ev.bind hs (Ev.now _)
    · refine Ev.step (fun k => rfl) ?_; simp only [impl_GetFixed.j0, Bool.false_eq_true, if_false, w0, w1, c5, if_true, if_neg c6, show (0 : Int) ≤ at_ by omega, show at_ ≤ at_ + n by omega, show at_ + n ≤ (l.length : Int) by omega]
      exact Ev.bind hi (Ev.now _)

theorem FnExactGetFixed (l0 : List Int) (a1 a2 : Int) (q0 : l0.length ≤ maxLen ∧ ∀ x ∈ l0, (Lit.int .u8 x).wf = true) (h1 : (Lit.int .i64 a1).wf = true) (h2 : (Lit.int .i64 a2).wf = true) : ∃ k, laws_FnExactGetFixed.f k l0 a1 a2 = some true := by
  refine Ev.rounds (g := fun k => laws_FnExactGetFixed.f k l0 a1 a2) ?_
  simp only [laws_FnExactGetFixed.f]
  refine Ev_ite (fun _ => Ev.now _) (fun c0 => ?_)
  obtain ⟨⟨r1, r2, r3⟩, hs, hi⟩ := both l0 a1 a2 (by omega) (bytes_of q0.2)
  repeat' first
    | exact Ev.now _
    | refine Ev.bind hs ?_
    | refine Ev.bind hi ?_
    | refine Ev.bind (toByteS_ev _ (by omega)) ?_
    | refine Ev.bind (eqByteS_ev _ (by omega)) ?_
    | simp only [if_true, if_false, bne_self_eq_false, Bool.false_eq_true]
    | (refine Ev.step (fun k => rfl) ?_; simp only [laws_FnExactGetFixed.j0])

end Go.Proofs.Ytkfoneckbnggoaa.Pure
