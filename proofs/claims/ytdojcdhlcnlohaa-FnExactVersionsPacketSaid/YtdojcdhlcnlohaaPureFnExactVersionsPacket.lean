/- For all lists of bytes and of whole numbers: the program's VersionsPacket and the reference's tell the same bytes and code, in memory of its own. No condition. -/
import Derived.Test.YtdojcdhlcnlohaaPFnExactVersionsPacketx4
import Derived.Test.YtdojcdhlcnlohaaMath
namespace Go.Proofs.Ytdojcdhlcnlohaa.Pure
open Go.RowKit Go.Proofs.Ytdojcdhlcnlohaa.PFnExactVersionsPacket Go.Proofs.YtdojcdhlcnlohaaW.PrintWords Go.Proofs.YtdojcdhlcnlohaaW.PrintLast Go.Proofs.YtdojcdhlcnlohaaW.PrintMore Go.Proofs.Ytdojcdhlcnlohaa.Math
set_option linter.unusedVariables false
set_option linter.unusedSimpArgs false

theorem toByteS_loop (l : List Int) (hl : l.length ≤ 281474976710656) (n : Nat) : ∀ (x : List Int) (i : Nat), l.length - i = n → i ≤ l.length → x.length = l.length → (∀ j, j < i → x[j]? = l[j]?) → Ev (fun k => laws_toByteS.l0 k l x (i : Int)) l := by
  induction n with
  | zero =>
    intro x i hn hi hx h
    refine Ev.step (fun k => rfl) ?_
    simp only [laws_toByteS.l0, show ¬ ((i : Int) < (l.length : Int)) by omega, if_false]
    exact Ev_now (prefix_all hx (fun j hj => h j (by omega)))
  | succ n ih =>
    intro x i hn hi hx h
    have hil : i < l.length := by omega
    have H := ih (x.set i (rd l (i : Int))) (i + 1) (by omega) (by omega) (by rw [List.length_set]; exact hx) (set_prefix hx (rd_get l hil) h)
    refine Ev.step (fun k => rfl) ?_
    simp only [laws_toByteS.l0, show ((i : Int) < (l.length : Int)) by omega, show (0 : Int) ≤ (i : Int) by omega, show ((i : Int) < (x.length : Int)) by omega, if_true, Int.toNat_natCast, next64 (show i < 4611686018427387904 by omega)]
    exact H
theorem toByteS_ev (l : List Int) (hl : l.length ≤ 281474976710656) : Ev (fun k => laws_toByteS.f k l) l := by
  simp only [laws_toByteS.f, show (0 : Int) ≤ (l.length : Int) by omega, if_true, Int.toNat_natCast, hl]
  exact toByteS_loop l hl l.length _ 0 (by omega) (by omega) (by simp) (fun j hj => by omega)
theorem eqByteS_loop (l : List Int) (hl : l.length ≤ 281474976710656) (n : Nat) : ∀ (i : Nat), l.length - i = n → i ≤ l.length → Ev (fun k => laws_eqByteS.l0 k l l (i : Int)) true := by
  induction n with
  | zero =>
    intro i hn hi
    refine Ev.step (fun k => rfl) ?_
    simp only [laws_eqByteS.l0, show ¬ ((i : Int) < (l.length : Int)) by omega, if_false]
    exact Ev.now _
  | succ n ih =>
    intro i hn hi
    have H := ih (i + 1) (by omega) (by omega)
    refine Ev.step (fun k => rfl) ?_
    simp only [laws_eqByteS.l0, show ((i : Int) < (l.length : Int)) by omega, show (0 : Int) ≤ (i : Int) by omega, if_true, next64 (show i < 4611686018427387904 by omega)]
    exact H
theorem eqByteS_ev (l : List Int) (hl : l.length ≤ 281474976710656) : Ev (fun k => laws_eqByteS.f k l l) true := by
  simp only [laws_eqByteS.f, if_true]
  exact eqByteS_loop l hl l.length 0 (by omega) (by omega)
theorem markByteS_loop (m : Int) (N : Nat) (hm : 0 ≤ m) (hN : m + N ≤ 4611686018427387903) (n : Nat) : ∀ (x : List Int) (i : Nat), N - i = n → i ≤ N → x.length = N → (∀ j, j < i → x[j]? = (marks m N)[j]?) → Ev (fun k => laws_markByteS.l0 k x (m + i) (i : Int)) (m + N, marks m N) := by
  induction n with
  | zero =>
    intro x i hn hi hx h
    obtain rfl : i = N := by omega
    refine Ev.step (fun k => rfl) ?_
    simp only [laws_markByteS.l0, show ¬ ((i : Int) < (x.length : Int)) by omega, if_false]
    exact Ev_now (by rw [prefix_all (l := marks m i) (by rw [marks_length, hx]) (fun j hj => h j (by rw [marks_length] at hj; exact hj))])
  | succ n ih =>
    intro x i hn hi hx h
    have H := ih (x.set i ((m + i) % 256)) (i + 1) (by omega) (by omega) (by rw [List.length_set]; exact hx) (set_prefix (by rw [marks_length, hx]) (marks_get m (by omega)) h)
    rw [show m + ((i + 1 : Nat) : Int) = m + i + 1 by omega] at H
    refine Ev.step (fun k => rfl) ?_
    simp only [laws_markByteS.l0, show ((i : Int) < (x.length : Int)) by omega, show (0 : Int) ≤ (i : Int) by omega, if_true, Int.toNat_natCast, next64 (show i < 4611686018427387904 by omega), w64 (x := m + i + 1) (by omega) (by omega)]
    exact H
theorem markByteS_ev (x : List Int) (m : Int) (hm : 0 ≤ m) (hN : m + x.length ≤ 4611686018427387903) : Ev (fun k => laws_markByteS.f k x m) (m + x.length, marks m x.length) := by
  have H := markByteS_loop m x.length hm hN x.length x 0 (by omega) (by omega) rfl (fun j hj => by omega)
  rw [show m + ((0 : Nat) : Int) = m by omega] at H
  simp only [laws_markByteS.f]
  exact H
theorem heldByteS_loop (m : Int) (N : Nat) (hm : 0 ≤ m) (hN : m + N ≤ 4611686018427387903) (n : Nat) : ∀ (i : Nat), N - i = n → i ≤ N → Ev (fun k => laws_heldByteS.l0 k (marks m N) (m + i) (i : Int)) (m + N) := by
  induction n with
  | zero =>
    intro i hn hi
    obtain rfl : i = N := by omega
    refine Ev.step (fun k => rfl) ?_
    simp only [laws_heldByteS.l0, marks_length, show ¬ ((i : Int) < (i : Int)) by omega, if_false]
    exact Ev.now _
  | succ n ih =>
    intro i hn hi
    have H := ih (i + 1) (by omega) (by omega)
    rw [show m + ((i + 1 : Nat) : Int) = m + i + 1 by omega] at H
    refine Ev.step (fun k => rfl) ?_
    simp only [laws_heldByteS.l0, marks_length, show ((i : Int) < (N : Int)) by omega, show (0 : Int) ≤ (i : Int) by omega, rd_some (marks_get m (show i < N by omega)), if_true, next64 (show i < 4611686018427387904 by omega), w64 (x := m + i + 1) (by omega) (by omega)]
    exact H
theorem heldByteS_ev (n : Nat) (m : Int) (hm : 0 ≤ m) (hN : m + n ≤ 4611686018427387903) : Ev (fun k => laws_heldByteS.f k (marks m n) m) (m + n) := by
  have H := heldByteS_loop m n hm hN n 0 (by omega) (by omega)
  rw [show m + ((0 : Nat) : Int) = m by omega] at H
  simp only [laws_heldByteS.f]
  exact H
theorem toIntS_loop (l : List Int) (hl : l.length ≤ 281474976710656) (n : Nat) : ∀ (x : List Int) (i : Nat), l.length - i = n → i ≤ l.length → x.length = l.length → (∀ j, j < i → x[j]? = l[j]?) → Ev (fun k => laws_toIntS.l0 k l x (i : Int)) l := by
  induction n with
  | zero =>
    intro x i hn hi hx h
    refine Ev.step (fun k => rfl) ?_
    simp only [laws_toIntS.l0, show ¬ ((i : Int) < (l.length : Int)) by omega, if_false]
    exact Ev_now (prefix_all hx (fun j hj => h j (by omega)))
  | succ n ih =>
    intro x i hn hi hx h
    have hil : i < l.length := by omega
    have H := ih (x.set i (rd l (i : Int))) (i + 1) (by omega) (by omega) (by rw [List.length_set]; exact hx) (set_prefix hx (rd_get l hil) h)
    refine Ev.step (fun k => rfl) ?_
    simp only [laws_toIntS.l0, show ((i : Int) < (l.length : Int)) by omega, show (0 : Int) ≤ (i : Int) by omega, show ((i : Int) < (x.length : Int)) by omega, if_true, Int.toNat_natCast, next64 (show i < 4611686018427387904 by omega)]
    exact H
theorem toIntS_ev (l : List Int) (hl : l.length ≤ 35184372088832) : Ev (fun k => laws_toIntS.f k l) l := by
  simp only [laws_toIntS.f, show (0 : Int) ≤ (l.length : Int) by omega, if_true, Int.toNat_natCast, hl]
  exact toIntS_loop l (by omega) l.length _ 0 (by omega) (by omega) (by simp) (fun j hj => by omega)
theorem eqIntS_loop (l : List Int) (hl : l.length ≤ 281474976710656) (n : Nat) : ∀ (i : Nat), l.length - i = n → i ≤ l.length → Ev (fun k => laws_eqIntS.l0 k l l (i : Int)) true := by
  induction n with
  | zero =>
    intro i hn hi
    refine Ev.step (fun k => rfl) ?_
    simp only [laws_eqIntS.l0, show ¬ ((i : Int) < (l.length : Int)) by omega, if_false]
    exact Ev.now _
  | succ n ih =>
    intro i hn hi
    have H := ih (i + 1) (by omega) (by omega)
    refine Ev.step (fun k => rfl) ?_
    simp only [laws_eqIntS.l0, show ((i : Int) < (l.length : Int)) by omega, show (0 : Int) ≤ (i : Int) by omega, if_true, next64 (show i < 4611686018427387904 by omega)]
    exact H
theorem eqIntS_ev (l : List Int) (hl : l.length ≤ 281474976710656) : Ev (fun k => laws_eqIntS.f k l l) true := by
  simp only [laws_eqIntS.f, if_true]
  exact eqIntS_loop l hl l.length 0 (by omega) (by omega)
theorem markIntS_loop (m : Int) (N : Nat) (hm : 0 ≤ m) (hN : m + N ≤ 4611686018427387903) (n : Nat) : ∀ (x : List Int) (i : Nat), N - i = n → i ≤ N → x.length = N → (∀ j, j < i → x[j]? = (marksI m N)[j]?) → Ev (fun k => laws_markIntS.l0 k x (m + i) (i : Int)) (m + N, marksI m N) := by
  induction n with
  | zero =>
    intro x i hn hi hx h
    obtain rfl : i = N := by omega
    refine Ev.step (fun k => rfl) ?_
    simp only [laws_markIntS.l0, show ¬ ((i : Int) < (x.length : Int)) by omega, if_false]
    exact Ev_now (by rw [prefix_all (l := marksI m i) (by rw [marksI_length, hx]) (fun j hj => h j (by rw [marksI_length] at hj; exact hj))])
  | succ n ih =>
    intro x i hn hi hx h
    have H := ih (x.set i (m + i)) (i + 1) (by omega) (by omega) (by rw [List.length_set]; exact hx) (set_prefix (by rw [marksI_length, hx]) (marksI_get m (by omega)) h)
    rw [show m + ((i + 1 : Nat) : Int) = m + i + 1 by omega] at H
    refine Ev.step (fun k => rfl) ?_
    simp only [laws_markIntS.l0, show ((i : Int) < (x.length : Int)) by omega, show (0 : Int) ≤ (i : Int) by omega, if_true, Int.toNat_natCast, next64 (show i < 4611686018427387904 by omega), w64 (x := m + i + 1) (by omega) (by omega)]
    exact H
theorem markIntS_ev (x : List Int) (m : Int) (hm : 0 ≤ m) (hN : m + x.length ≤ 4611686018427387903) : Ev (fun k => laws_markIntS.f k x m) (m + x.length, marksI m x.length) := by
  have H := markIntS_loop m x.length hm hN x.length x 0 (by omega) (by omega) rfl (fun j hj => by omega)
  rw [show m + ((0 : Nat) : Int) = m by omega] at H
  simp only [laws_markIntS.f]
  exact H
theorem digits_ev (n : Nat) : ∀ v : Int, n ≤ 64 → 0 ≤ v → v ≤ 9223372036854775807 → Ev (fun k => spec_l01Digits.f k v (n : Int)) (dg v n) := by
  induction n with
  | zero =>
    intro v hn h0 h1
    refine Ev.step (fun k => rfl) ?_
    simp only [spec_l01Digits.f, show ((0 : Nat) : Int) = 0 from rfl, if_true]
    exact Ev.now _
  | succ n ih =>
    intro v hn h0 h1
    have H := ih (v / 256) (by omega) (by omega) (by omega)
    refine Ev.step (fun k => rfl) ?_
    simp only [spec_l01Digits.f, show ¬ (((n + 1 : Nat) : Int) = 0) by omega, if_false, tdiv_nn h0, tmod_nn h0, w64 (x := v / 256) (by omega) (by omega), show ((n + 1 : Nat) : Int) - 1 = (n : Int) by omega, w64 (x := (n : Int)) (by omega) (by omega)]
    refine Ev.bind H ?_
    simp only [dg_length, show n < 140737488355328 by omega, if_true]
    exact Ev_now (by rw [dg_snoc v h0 n, Int.emod_emod])
theorem shr_digit (v : Int) (m : Nat) (hm : m ≤ 7) (h0 : 0 ≤ v) (h1 : v ≤ 9223372036854775807) : (shr .u64 (IntKind.u64.wrap v) (wrap64 (8 * (m : Int)))) % 256 = v / 256 ^ m % 256 := by
  have hp : (2 : Int) ^ (8 * m) = 256 ^ m := by rw [Int.pow_mul]; rfl
  have e : min (8 * (m : Int)).toNat IntKind.u64.bits = 8 * m := by simp only [IntKind.bits]; omega
  unfold shr
  rw [wraps_u64 v h0 (by omega), w64 (by omega) (by omega), e, hp]
theorem fixed_loop (v : Int) (h0 : 0 ≤ v) (h1 : v ≤ 9223372036854775807) (m : Nat) : ∀ l : List Int, m ≤ 8 → l.length + m < 140737488355328 → Ev (fun k => impl_fixed.l0 k l v ((m : Int) - 1)) (l ++ dg v m) := by
  induction m with
  | zero =>
    intro l hm hl
    refine Ev.step (fun k => rfl) ?_
    simp only [impl_fixed.l0, show ¬ (((0 : Nat) : Int) - 1 ≥ 0) by omega, if_false]
    exact Ev_now (by simp [dg])
  | succ m ih =>
    intro l hm hl
    have e := shr_digit v m (by omega) h0 h1
    refine Ev.step (fun k => rfl) ?_
    simp only [impl_fixed.l0, show ((m + 1 : Nat) : Int) - 1 = (m : Int) by omega, show (m : Int) ≥ 0 by omega, show (0 : Int) ≤ wrap64 (8 * (m : Int)) by rw [w64 (by omega) (by omega)]; omega, if_true, show l.length < 140737488355328 by omega, e, w64 (x := (m : Int) - 1) (by omega) (by omega)]
    exact Ev_cast (ih (l ++ [v / 256 ^ m % 256]) (by omega) (by simp; omega)) (by simp [dg])
theorem fixed_ev (v : Int) (n : Nat) (l : List Int) (h0 : 0 ≤ v) (h1 : v ≤ 9223372036854775807) (hn : n ≤ 8) (hl : l.length + 8 < 140737488355328) : Ev (fun k => impl_fixed.f k l v (n : Int)) (l ++ dg v n) := by
  simp only [impl_fixed.f, w64 (x := (n : Int) - 1) (by omega) (by omega)]
  exact fixed_loop v h0 h1 n l hn (by omega)
theorem l04Ids_ev (v : Int) (d s : List Int) (h0 : 0 ≤ v) (h1 : v ≤ 9223372036854775807) (hd : d.length ≤ 1048576) (hs : s.length ≤ 1048576) : Ev (fun k => spec_l04Ids.f k v d s) (dg v 4 ++ [(d.length : Int) % 256] ++ d ++ [(s.length : Int) % 256] ++ s) := by
  simp only [spec_l04Ids.f]
  refine Ev.bind (digits_ev 4 v (by omega) h0 h1) ?_
  simp only [dg_length, List.length_append, List.length_cons, List.length_nil, Option.bind_some]
  rw [if_pos (by omega), if_pos (by omega), if_pos (by omega), if_pos (by omega)]
  exact Ev.now _
theorem longBegin_ev (f v : Int) (d s : List Int) (h0 : 0 ≤ v) (h1 : v ≤ 9223372036854775807) (hd : d.length ≤ 1048576) (hs : s.length ≤ 1048576) : Ev (fun k => impl_longBegin.f k f v d s) ([f] ++ dg v 4 ++ [(d.length : Int) % 256] ++ d ++ [(s.length : Int) % 256] ++ s) := by
  simp only [impl_longBegin.f]
  refine Ev.bind (fixed_ev v 4 [f] h0 h1 (by omega) (by simp)) ?_
  simp only [dg_length, List.length_append, List.length_cons, List.length_nil, Option.bind_some]
  rw [if_pos (by omega), if_pos (by omega), if_pos (by omega), if_pos (by omega)]
  exact Ev.now _
theorem vSpec (a : Int) : spec_l04VersionOK.f a = some (decide (1 ≤ a ∧ a ≤ 4294967295)) := by
  unfold spec_l04VersionOK.f
  by_cases h : a ≥ 1
  · rw [if_pos h]; exact congrArg some (by rw [decide_eq_decide]; omega)
  · rw [if_neg h]; exact congrArg some (decide_eq_false (by omega)).symm
theorem vImpl (a : Int) : impl_versionOK.f a = some (decide (1 ≤ a ∧ a ≤ 4294967295)) := by
  unfold impl_versionOK.f
  by_cases h : a ≥ 1
  · rw [if_pos h]; exact congrArg some (by rw [decide_eq_decide]; omega)
  · rw [if_neg h]; exact congrArg some (decide_eq_false (by omega)).symm
theorem v_loop (l : List Int) (hl : l.length ≤ 8) (n : Nat) : ∀ (i : Nat) (o : List Int), l.length - i = n → i ≤ l.length → o.length ≤ 1048576 + 4 * i →
    ∃ w e, Ev (fun k => spec_VersionsPacket.l0 k l o (i : Int)) (w, e) ∧ Ev (fun k => impl_VersionsPacket.l0 k o l (l.length : Int) (i : Int)) (w, e) ∧ w.length ≤ 2097152 := by
  induction n with
  | zero =>
    intro i o hn hi ho
    refine ⟨o, 0, ?_, ?_, by omega⟩
    · refine Ev.step (fun k => rfl) ?_
      simp only [spec_VersionsPacket.l0, show ¬ ((i : Int) < (l.length : Int)) by omega, if_false]
      exact Ev.now _
    · refine Ev.step (fun k => rfl) ?_
      simp only [impl_VersionsPacket.l0, show ¬ ((i : Int) < (l.length : Int)) by omega, if_false]
      exact Ev.now _
  | succ n ih =>
    intro i o hn hi ho
    by_cases c : 1 ≤ rd l (i : Int) ∧ rd l (i : Int) ≤ 4294967295
    · obtain ⟨w, e, hs, hi', hw⟩ := ih (i + 1) (o ++ dg (rd l (i : Int)) 4) (by omega) (by omega) (by rw [List.length_append, dg_length]; omega)
      refine ⟨w, e, ?_, ?_, hw⟩
      · refine Ev.step (fun k => rfl) ?_
        simp only [spec_VersionsPacket.l0, show ((i : Int) < (l.length : Int)) by omega, show (0 : Int) ≤ (i : Int) by omega, if_true, vSpec, Option.bind_some, decide_eq_true c, next64 (show i < 4611686018427387904 by omega)]
        refine Ev.bind (digits_ev 4 _ (by omega) (by omega) (by omega)) ?_
        simp only [dg_length, show o.length + 4 < 140737488355328 by omega, if_true]
        exact hs
      · refine Ev.step (fun k => rfl) ?_
        simp only [impl_VersionsPacket.l0, show ((i : Int) < (l.length : Int)) by omega, show (0 : Int) ≤ (i : Int) by omega, if_true, vImpl, Option.bind_some, decide_eq_true c, next64 (show i < 4611686018427387904 by omega)]
        exact Ev.bind (fixed_ev _ 4 o (by omega) (by omega) (by omega) (by omega)) hi'
    · refine ⟨[], 1, ?_, ?_, by simp⟩
      · refine Ev.step (fun k => rfl) ?_
        simp only [spec_VersionsPacket.l0, show ((i : Int) < (l.length : Int)) by omega, show (0 : Int) ≤ (i : Int) by omega, if_true, vSpec, Option.bind_some, decide_eq_false c, Bool.false_eq_true, if_false]
        exact Ev.now _
      · refine Ev.step (fun k => rfl) ?_
        simp only [impl_VersionsPacket.l0, show ((i : Int) < (l.length : Int)) by omega, show (0 : Int) ≤ (i : Int) by omega, if_true, vImpl, Option.bind_some, decide_eq_false c, Bool.false_eq_true, if_false]
        exact Ev.now _
/-- Both answer, and the same. -/
theorem both (d s l : List Int) (hd : d.length ≤ 1048576) (hs : s.length ≤ 1048576) : ∃ w e, Ev (fun k => spec_VersionsPacket.f k d s l) (w, e) ∧ Ev (fun k => impl_VersionsPacket.f k d s l) (w, e) ∧ w.length ≤ 2097152 := by
  have yes : Ev (fun k => spec_VersionsPacket.j0 k d s l true) ([], 1) ∧ Ev (fun k => impl_VersionsPacket.j0 k d s l true) ([], 1) :=
    ⟨Ev.step (f := fun _ => some ([], 1)) (fun k => by simp only [spec_VersionsPacket.j0, if_true]) (Ev.now _), Ev.step (f := fun _ => some ([], 1)) (fun k => by simp only [impl_VersionsPacket.j0, if_true]) (Ev.now _)⟩
  simp only [spec_VersionsPacket.f, impl_VersionsPacket.f]
  by_cases c1 : (d.length : Int) > 8
  · simp only [c1, if_true]; exact ⟨_, _, yes.1, yes.2, by simp⟩
  by_cases c2 : (s.length : Int) > 8
  · simp only [c1, c2, if_true, if_false]; exact ⟨_, _, yes.1, yes.2, by simp⟩
  by_cases c3 : (l.length : Int) < 1
  · simp only [c1, c2, c3, if_true, if_false]; exact ⟨_, _, yes.1, yes.2, by simp⟩
  by_cases c4 : (l.length : Int) > 8
  · simp only [c1, c2, c3, c4, decide_true, if_false]; exact ⟨_, _, yes.1, yes.2, by simp⟩
  simp only [c1, c2, c3, c4, decide_false, if_false]
  obtain ⟨w, e, h1, h2, hw⟩ := v_loop l (by omega) l.length 0 ([128] ++ dg 0 4 ++ [(d.length : Int) % 256] ++ d ++ [(s.length : Int) % 256] ++ s) (by omega) (by omega) (by simp [dg_length]; omega)
  refine ⟨w, e, ?_, ?_, hw⟩
  · refine Ev.step (fun k => rfl) ?_
    simp only [spec_VersionsPacket.j0, Bool.false_eq_true, if_false, Option.bind_some]
    refine Ev.bind (l04Ids_ev 0 d s (by omega) (by omega) hd hs) ?_
    have e1 : ([128] : List Int) ++ (dg 0 4 ++ [(d.length : Int) % 256] ++ d ++ [(s.length : Int) % 256] ++ s) = [128] ++ dg 0 4 ++ [(d.length : Int) % 256] ++ d ++ [(s.length : Int) % 256] ++ s := by simp only [List.append_assoc]
    simp only [e1]
    exact Ev_ite (fun _ => h1) (fun c => absurd (by simp [dg_length]; omega) c)
  · refine Ev.step (fun k => rfl) ?_
    simp only [impl_VersionsPacket.j0, Bool.false_eq_true, if_false]
    exact Ev.bind (longBegin_ev 128 0 d s (by omega) (by omega) hd hs) h2

theorem FnExactVersionsPacket (l0 l1 l2 : List Int) (q0 : l0.length ≤ maxLen ∧ ∀ x ∈ l0, (Lit.int .u8 x).wf = true) (q1 : l1.length ≤ maxLen ∧ ∀ x ∈ l1, (Lit.int .u8 x).wf = true) (q2 : l2.length ≤ maxLen ∧ ∀ x ∈ l2, (Lit.int .i64 x).wf = true) : ∃ k, laws_FnExactVersionsPacket.f k l0 l1 l2 = some true := by
  refine Ev.rounds (g := fun k => laws_FnExactVersionsPacket.f k l0 l1 l2) ?_
  simp only [laws_FnExactVersionsPacket.f]
  refine Ev_ite (fun _ => Ev.now _) (fun c0 => ?_)
  refine Ev_ite (fun _ => Ev.now _) (fun c1 => ?_)
  refine Ev_ite (fun _ => Ev.now _) (fun c2 => ?_)
  obtain ⟨w, e, hs, hi, hw⟩ := both l0 l1 l2 (by omega) (by omega)
  repeat' first
    | exact Ev.now _
    | refine Ev.bind hs ?_
    | refine Ev.bind hi ?_
    | refine Ev.bind (toByteS_ev _ (by omega)) ?_
    | refine Ev.bind (eqByteS_ev _ (by omega)) ?_
    | refine Ev.bind (markByteS_ev _ _ (by omega) (by omega)) ?_
    | refine Ev.bind (heldByteS_ev _ _ (by omega) (by omega)) ?_
    | refine Ev.bind (toIntS_ev _ (by omega)) ?_
    | refine Ev.bind (eqIntS_ev _ (by omega)) ?_
    | refine Ev.bind (markIntS_ev _ _ (by omega) (by omega)) ?_
    | simp only [if_true, if_false, bne_self_eq_false, Bool.false_eq_true, marks_length, marksI_length]
    | (refine Ev.step (fun k => rfl) ?_; simp only [laws_FnExactVersionsPacket.j0, laws_FnExactVersionsPacket.j1, laws_FnExactVersionsPacket.j2])
    | refine Ev_ite (fun c => absurd c (by omega)) (fun _ => ?_)

end Go.Proofs.Ytdojcdhlcnlohaa.Pure
