/- For all lists of bytes and lists of such lists: the program's IsReset and the reference's tell the same number. No condition. -/
import Derived.Test.YtkfoneckbnggoaaMFnExactIsResetx2
import Derived.Test.YtkfoneckbnggoaaMath
namespace Go.Proofs.Ytkfoneckbnggoaa.Pure
open Go.RowKit Go.Proofs.Ytkfoneckbnggoaa.MFnExactIsReset Go.Proofs.YtkfoneckbnggoaaW.PrintWords Go.Proofs.YtkfoneckbnggoaaW.PrintLast Go.Proofs.YtkfoneckbnggoaaW.PrintMore Go.Proofs.Ytkfoneckbnggoaa.Math
set_option linter.unusedVariables false
set_option linter.unusedSimpArgs false

theorem toByteS_loop (l : List Int) (hl : l.length ≤ 281474976710656) (n : Nat) : ∀ (x : List Int) (i : Nat), l.length - i = n → i ≤ l.length → x.length = l.length → (∀ j, j < i → x[j]? = l[j]?) → Ev (fun k => laws_toByteS.l0 k l x (i : Int)) l := by
  induction n with
  | zero =>
    intro x i hn hi hx h
    refine Ev.step (fun k => rfl) ?_
    simp only [laws_toByteS.l0, show ¬ ((i : Int) < (l.length : Int)) by omega, if_false]
    exact Ev_now (prefix_all hx (fun j hj => h j (by omega)))
  | succ n ih =>
    intro x i hn hi hx h
    have hil : i < l.length := by omega
    have H := ih (x.set i (rd l (i : Int))) (i + 1) (by omega) (by omega) (by rw [List.length_set]; exact hx) (set_prefix hx (rd_get l hil) h)
    refine Ev.step (fun k => rfl) ?_
    simp only [laws_toByteS.l0, show ((i : Int) < (l.length : Int)) by omega, show (0 : Int) ≤ (i : Int) by omega, show ((i : Int) < (x.length : Int)) by omega, if_true, Int.toNat_natCast, next64 (show i < 4611686018427387904 by omega)]
    exact H
theorem toByteS_ev (l : List Int) (hl : l.length ≤ 281474976710656) : Ev (fun k => laws_toByteS.f k l) l := by
  simp only [laws_toByteS.f, show (0 : Int) ≤ (l.length : Int) by omega, if_true, Int.toNat_natCast, hl]
  exact toByteS_loop l hl l.length _ 0 (by omega) (by omega) (by simp) (fun j hj => by omega)
theorem eqByteS_loop (l : List Int) (hl : l.length ≤ 281474976710656) (n : Nat) : ∀ (i : Nat), l.length - i = n → i ≤ l.length → Ev (fun k => laws_eqByteS.l0 k l l (i : Int)) true := by
  induction n with
  | zero =>
    intro i hn hi
    refine Ev.step (fun k => rfl) ?_
    simp only [laws_eqByteS.l0, show ¬ ((i : Int) < (l.length : Int)) by omega, if_false]
    exact Ev.now _
  | succ n ih =>
    intro i hn hi
    have H := ih (i + 1) (by omega) (by omega)
    refine Ev.step (fun k => rfl) ?_
    simp only [laws_eqByteS.l0, show ((i : Int) < (l.length : Int)) by omega, show (0 : Int) ≤ (i : Int) by omega, if_true, next64 (show i < 4611686018427387904 by omega)]
    exact H
theorem eqByteS_ev (l : List Int) (hl : l.length ≤ 281474976710656) : Ev (fun k => laws_eqByteS.f k l l) true := by
  simp only [laws_eqByteS.f, if_true]
  exact eqByteS_loop l hl l.length 0 (by omega) (by omega)

theorem rdL_some {l : List (List Int)} {i : Nat} {v : List Int} (h : l[i]? = some v) : rd_L1 l (i : Int) = v := by
  unfold rd_L1; rw [Int.toNat_natCast, List.getD_eq_getElem?_getD, h]; rfl
theorem rdL_get (l : List (List Int)) {i : Nat} (h : i < l.length) : l[i]? = some (rd_L1 l (i : Int)) := by
  have e := List.getElem?_eq_getElem h
  rw [rdL_some e]; exact e
theorem szByteS_at (l : List Int) (m : Int) (hl : l.length ≤ maxLen) (hm : 0 ≤ m ∧ m ≤ 1048576) : (m < l.length ∧ laws_szByteS.f l m = some (-1)) ∨ (l.length ≤ m ∧ laws_szByteS.f l m = some (m - l.length)) := by
  unfold maxLen at hl
  unfold laws_szByteS.f
  rw [w64 (by omega) (by omega)]
  by_cases h : m - (l.length : Int) < 0
  · rw [if_pos h]; exact .inl ⟨by omega, rfl⟩
  · rw [if_neg h]; exact .inr ⟨by omega, rfl⟩
theorem szSS_loop (l : List (List Int)) (hl : l.length ≤ 1048576) (hb : ∀ x ∈ l, x.length ≤ maxLen) (n : Nat) : ∀ (i : Nat) (m : Int), l.length - i = n → i ≤ l.length → 0 ≤ m ∧ m ≤ 1048576 → ∃ r, Ev (fun k => laws_szByteSS.l0 k l m (i : Int)) r ∧ (r < 0 ∨ ∀ j, i ≤ j → j < l.length → (rd_L1 l (j : Int)).length ≤ 1048576) := by
  induction n with
  | zero =>
    intro i m hn hi hm
    refine ⟨m, ?_, .inr fun j h1 h2 => by omega⟩
    refine Ev.step (fun k => rfl) ?_
    simp only [laws_szByteSS.l0, show ¬ ((i : Int) < (l.length : Int)) by omega, if_false]
    exact Ev.now _
  | succ n ih =>
    intro i m hn hi hm
    have hx := hb _ (List.mem_of_getElem? (rdL_get l (show i < l.length by omega)))
    rcases szByteS_at (rd_L1 l (i : Int)) m hx hm with ⟨h1, e⟩ | ⟨h1, e⟩
    · refine ⟨-1, ?_, .inl (by decide)⟩
      refine Ev.step (fun k => rfl) ?_
      simp only [laws_szByteSS.l0, show ((i : Int) < (l.length : Int)) by omega, show (0 : Int) ≤ (i : Int) by omega, e, Option.bind_some, show (-1 : Int) < 0 by decide, if_true]
      exact Ev.now _
    · obtain ⟨r, hr, hq⟩ := ih (i + 1) (m - (rd_L1 l (i : Int)).length) (by omega) (by omega) (by omega)
      refine ⟨r, ?_, ?_⟩
      · refine Ev.step (fun k => rfl) ?_
        simp only [laws_szByteSS.l0, show ((i : Int) < (l.length : Int)) by omega, show (0 : Int) ≤ (i : Int) by omega, e, Option.bind_some, show ¬ (m - ((rd_L1 l (i : Int)).length : Int) < 0) by omega, if_true, if_false, next64 (show i < 4611686018427387904 by omega)]
        exact hr
      · rcases hq with h | h
        · exact .inl h
        · refine .inr fun j hj hj2 => ?_
          by_cases ej : j = i
          · subst ej; omega
          · exact h j (by omega) hj2
theorem szSS_ev (l : List (List Int)) (hl : l.length ≤ maxLen) (hb : ∀ x ∈ l, x.length ≤ maxLen) : ∃ r, Ev (fun k => laws_szByteSS.f k l 1048576) r ∧ (r < 0 ∨ (l.length ≤ 1048576 ∧ ∀ x ∈ l, x.length ≤ 1048576)) := by
  unfold maxLen at hl
  simp only [laws_szByteSS.f, w64 (x := (1048576 : Int) - (l.length : Int)) (by omega) (by omega)]
  by_cases h : (1048576 : Int) - (l.length : Int) < 0
  · simp only [h, if_true]; exact ⟨-1, Ev.now _, .inl (by decide)⟩
  · simp only [h, if_false]
    obtain ⟨r, hr, hq⟩ := szSS_loop l (by omega) hb l.length 0 (1048576 - (l.length : Int)) (by omega) (by omega) (by omega)
    refine ⟨r, hr, ?_⟩
    rcases hq with h1 | h1
    · exact .inl h1
    · refine .inr ⟨by omega, fun x hx => ?_⟩
      obtain ⟨j, hj, rfl⟩ := List.mem_iff_getElem.1 hx
      have := h1 j (by omega) hj
      rwa [rdL_some (List.getElem?_eq_getElem hj)] at this
theorem toSS_loop (l : List (List Int)) (hl : l.length ≤ 1048576) (hb : ∀ x ∈ l, x.length ≤ 1048576) (n : Nat) : ∀ (x : List (List Int)) (i : Nat), l.length - i = n → i ≤ l.length → x.length = l.length → (∀ j, j < i → x[j]? = l[j]?) → Ev (fun k => laws_toByteSS.l0 k l x (i : Int)) l := by
  induction n with
  | zero =>
    intro x i hn hi hx h
    refine Ev.step (fun k => rfl) ?_
    simp only [laws_toByteSS.l0, show ¬ ((i : Int) < (l.length : Int)) by omega, if_false]
    exact Ev_now (prefix_all hx (fun j hj => h j (by omega)))
  | succ n ih =>
    intro x i hn hi hx h
    have hil : i < l.length := by omega
    have hy := hb _ (List.mem_of_getElem? (rdL_get l hil))
    have H := ih (x.set i (rd_L1 l (i : Int))) (i + 1) (by omega) (by omega) (by rw [List.length_set]; exact hx) (set_prefix hx (rdL_get l hil) h)
    refine Ev.step (fun k => rfl) ?_
    simp only [laws_toByteSS.l0, show ((i : Int) < (l.length : Int)) by omega, show (0 : Int) ≤ (i : Int) by omega, show ((i : Int) < (x.length : Int)) by omega, if_true, Int.toNat_natCast, next64 (show i < 4611686018427387904 by omega)]
    exact Ev.bind (toByteS_ev _ (by omega)) H
theorem toSS_ev (l : List (List Int)) (hl : l.length ≤ 1048576) (hb : ∀ x ∈ l, x.length ≤ 1048576) : Ev (fun k => laws_toByteSS.f k l) l := by
  simp only [laws_toByteSS.f, show (0 : Int) ≤ (l.length : Int) by omega, if_true, Int.toNat_natCast, show l.length ≤ 11728124029610 by omega]
  exact toSS_loop l hl hb l.length _ 0 (by omega) (by omega) (by simp) (fun j hj => by omega)
theorem eqSS_loop (l : List (List Int)) (hl : l.length ≤ 1048576) (hb : ∀ x ∈ l, x.length ≤ 1048576) (n : Nat) : ∀ (i : Nat), l.length - i = n → i ≤ l.length → Ev (fun k => laws_eqByteSS.l0 k l l (i : Int)) true := by
  induction n with
  | zero =>
    intro i hn hi
    refine Ev.step (fun k => rfl) ?_
    simp only [laws_eqByteSS.l0, show ¬ ((i : Int) < (l.length : Int)) by omega, if_false]
    exact Ev.now _
  | succ n ih =>
    intro i hn hi
    have H := ih (i + 1) (by omega) (by omega)
    have hy := hb _ (List.mem_of_getElem? (rdL_get l (show i < l.length by omega)))
    refine Ev.step (fun k => rfl) ?_
    simp only [laws_eqByteSS.l0, show ((i : Int) < (l.length : Int)) by omega, show (0 : Int) ≤ (i : Int) by omega, if_true, next64 (show i < 4611686018427387904 by omega)]
    refine Ev.bind (eqByteS_ev _ (by omega)) ?_
    simp only [if_true]
    exact H
theorem eqSS_ev (l : List (List Int)) (hl : l.length ≤ 1048576) (hb : ∀ x ∈ l, x.length ≤ 1048576) : Ev (fun k => laws_eqByteSS.f k l l) true := by
  simp only [laws_eqByteSS.f, if_true]
  exact eqSS_loop l hl hb l.length 0 (by omega) (by omega)

theorem reset_loop (b : List Int) (l : List (List Int)) (hb : 21 ≤ b.length ∧ b.length ≤ 65536) (hl : l.length ≤ 1048576) (n : Nat) : ∀ i : Nat, l.length - i = n → i ≤ l.length → ∃ r, Ev (fun k => spec_IsReset.l0 k b l (i : Int)) r ∧ Ev (fun k => impl_IsReset.l0 k b l (l.length : Int) (i : Int)) r := by
  induction n with
  | zero =>
    intro i hn hi
    refine ⟨-1, ?_, ?_⟩
    · refine Ev.step (fun k => rfl) ?_
      simp only [spec_IsReset.l0, show ¬ ((i : Int) < (l.length : Int)) by omega, if_false]
      exact Ev.now _
    · refine Ev.step (fun k => rfl) ?_
      simp only [impl_IsReset.l0, show ¬ ((i : Int) < (l.length : Int)) by omega, if_false]
      exact Ev.now _
  | succ n ih =>
    intro i hn hi
    obtain ⟨r, hs, hi'⟩ := ih (i + 1) (by omega) (by omega)
    have w0 : wrap64 ((b.length : Int) - 8) = (b.length : Int) - 8 := w64 (by omega) (by omega)
    by_cases c1 : ((rd_L1 l (i : Int)).length : Int) = 8
    · by_cases c2 : (strOfNums (rd_L1 l (i : Int))).toList = (strOfNums (b.drop ((b.length : Int) - 8).toNat)).toList
      · refine ⟨(i : Int), ?_, ?_⟩
        · refine Ev.step (fun k => rfl) ?_
          simp only [spec_IsReset.l0, show ((i : Int) < (l.length : Int)) by omega, show (0 : Int) ≤ (i : Int) by omega, c1, w0, show (0 : Int) ≤ (b.length : Int) - 8 by omega, show (b.length : Int) - 8 ≤ (b.length : Int) by omega, c2, if_true]
          exact Ev.now _
        · refine Ev.step (fun k => rfl) ?_
          simp only [impl_IsReset.l0, show ((i : Int) < (l.length : Int)) by omega, show (0 : Int) ≤ (i : Int) by omega, c1, w0, show (0 : Int) ≤ (b.length : Int) - 8 by omega, show (b.length : Int) - 8 ≤ (b.length : Int) by omega, c2, if_true]
          exact Ev.now _
      · refine ⟨r, ?_, ?_⟩
        · refine Ev.step (fun k => rfl) ?_
          simp only [spec_IsReset.l0, show ((i : Int) < (l.length : Int)) by omega, show (0 : Int) ≤ (i : Int) by omega, c1, w0, show (0 : Int) ≤ (b.length : Int) - 8 by omega, show (b.length : Int) - 8 ≤ (b.length : Int) by omega, c2, if_true, if_false, next64 (show i < 4611686018427387904 by omega)]
          exact hs
        · refine Ev.step (fun k => rfl) ?_
          simp only [impl_IsReset.l0, show ((i : Int) < (l.length : Int)) by omega, show (0 : Int) ≤ (i : Int) by omega, c1, w0, show (0 : Int) ≤ (b.length : Int) - 8 by omega, show (b.length : Int) - 8 ≤ (b.length : Int) by omega, c2, if_true, if_false, next64 (show i < 4611686018427387904 by omega)]
          exact hi'
    · refine ⟨r, ?_, ?_⟩
      · refine Ev.step (fun k => rfl) ?_
        simp only [spec_IsReset.l0, show ((i : Int) < (l.length : Int)) by omega, show (0 : Int) ≤ (i : Int) by omega, c1, if_true, if_false, next64 (show i < 4611686018427387904 by omega)]
        exact hs
      · refine Ev.step (fun k => rfl) ?_
        simp only [impl_IsReset.l0, show ((i : Int) < (l.length : Int)) by omega, show (0 : Int) ≤ (i : Int) by omega, c1, if_true, if_false, next64 (show i < 4611686018427387904 by omega)]
        exact hi'
/-- Both answer, and the same. -/
theorem both (b : List Int) (l : List (List Int)) (hl : l.length ≤ 1048576) : ∃ r, Ev (fun k => spec_IsReset.f k b l) r ∧ Ev (fun k => impl_IsReset.f k b l) r := by
  have yes : Ev (fun k => spec_IsReset.j0 k b l true) (-1) ∧ Ev (fun k => impl_IsReset.j0 k b l true) (-1) :=
    ⟨Ev.step (f := fun _ => some (-1)) (fun k => by simp only [spec_IsReset.j0, if_true]) (Ev.now _), Ev.step (f := fun _ => some (-1)) (fun k => by simp only [impl_IsReset.j0, if_true]) (Ev.now _)⟩
  simp only [spec_IsReset.f, impl_IsReset.f, impl_tooLong.f, Option.bind_some, decide_eq_true_eq]
  by_cases c0 : (b.length : Int) > 65536
  · simp only [c0, if_true]; exact ⟨_, yes⟩
  by_cases c1 : (l.length : Int) > 4096
  · simp only [c0, c1, if_true, if_false]; exact ⟨_, yes⟩
  by_cases c2 : (b.length : Int) < 21
  · simp only [c0, c1, c2, if_true, if_false]; exact ⟨_, yes⟩
  simp only [c0, c1, c2, show (0 : Int) < (b.length : Int) by omega, if_true, if_false]
  by_cases c3 : rd b 0 < 64
  · simp only [c3, if_true]; exact ⟨_, yes⟩
  by_cases c4 : rd b 0 > 127
  · simp only [c3, c4, decide_true, if_false]; exact ⟨_, yes⟩
  simp only [c3, c4, decide_false, if_false]
  obtain ⟨r, hs, hi⟩ := reset_loop b l (by omega) hl l.length 0 (by omega) (by omega)
  refine ⟨r, ?_, ?_⟩
  · refine Ev.step (fun k => rfl) ?_
    simp only [spec_IsReset.j0, Bool.false_eq_true, if_false]; exact hs
  · refine Ev.step (fun k => rfl) ?_
    simp only [impl_IsReset.j0, Bool.false_eq_true, if_false]; exact hi

theorem FnExactIsReset (l0 : List Int) (l1 : List (List Int)) (q0 : l0.length ≤ maxLen ∧ ∀ x ∈ l0, (Lit.int .u8 x).wf = true) (q1 : l1.length ≤ maxLen ∧ ∀ x ∈ l1, x.length ≤ maxLen ∧ ∀ y ∈ x, (Lit.int .u8 y).wf = true) : ∃ k, laws_FnExactIsReset.f k l0 l1 = some true := by
  refine Ev.rounds (g := fun k => laws_FnExactIsReset.f k l0 l1) ?_
  simp only [laws_FnExactIsReset.f]
  refine Ev_ite (fun _ => Ev.now _) (fun c0 => ?_)
  obtain ⟨s, hz, hq⟩ := szSS_ev l1 q1.1 (fun x hx => (q1.2 x hx).1)
  refine Ev.bind hz ?_
  refine Ev_ite (fun _ => Ev.now _) (fun c1 => ?_)
  obtain ⟨hl, hb⟩ := hq.resolve_left (by omega)
  obtain ⟨r, hs, hi⟩ := both l0 l1 hl
  repeat' first
    | exact Ev.now _
    | refine Ev.bind hs ?_
    | refine Ev.bind hi ?_
    | refine Ev.bind (toByteS_ev _ (by omega)) ?_
    | refine Ev.bind (eqByteS_ev _ (by omega)) ?_
    | refine Ev.bind (toSS_ev _ hl hb) ?_
    | refine Ev.bind (eqSS_ev _ hl hb) ?_
    | simp only [if_true, if_false, bne_self_eq_false, Bool.false_eq_true]

end Go.Proofs.Ytkfoneckbnggoaa.Pure
