/- For all lists: the program's PutVars and the reference's tell the same bytes and code, in memory of its own. No condition. -/
import Derived.Test.YtdojcdhlcnlohaaSFnExactPutVarsx3
import Derived.Test.YtdojcdhlcnlohaaMath
namespace Go.Proofs.Ytdojcdhlcnlohaa.Pure
open Go.RowKit Go.Proofs.Ytdojcdhlcnlohaa.SFnExactPutVars Go.Proofs.YtdojcdhlcnlohaaW.PrintWords Go.Proofs.YtdojcdhlcnlohaaW.PrintLast Go.Proofs.YtdojcdhlcnlohaaW.PrintMore Go.Proofs.Ytdojcdhlcnlohaa.Math
set_option linter.unusedVariables false
set_option linter.unusedSimpArgs false

theorem eqByteS_loop (l : List Int) (hl : l.length ≤ 281474976710656) (n : Nat) : ∀ (i : Nat), l.length - i = n → i ≤ l.length → Ev (fun k => laws_eqByteS.l0 k l l (i : Int)) true := by
  induction n with
  | zero =>
    intro i hn hi
    refine Ev.step (fun k => rfl) ?_
    simp only [laws_eqByteS.l0, show ¬ ((i : Int) < (l.length : Int)) by omega, if_false]
    exact Ev.now _
  | succ n ih =>
    intro i hn hi
    have H := ih (i + 1) (by omega) (by omega)
    refine Ev.step (fun k => rfl) ?_
    simp only [laws_eqByteS.l0, show ((i : Int) < (l.length : Int)) by omega, show (0 : Int) ≤ (i : Int) by omega, if_true, next64 (show i < 4611686018427387904 by omega)]
    exact H
theorem eqByteS_ev (l : List Int) (hl : l.length ≤ 281474976710656) : Ev (fun k => laws_eqByteS.f k l l) true := by
  simp only [laws_eqByteS.f, if_true]
  exact eqByteS_loop l hl l.length 0 (by omega) (by omega)
theorem markByteS_loop (m : Int) (N : Nat) (hm : 0 ≤ m) (hN : m + N ≤ 4611686018427387903) (n : Nat) : ∀ (x : List Int) (i : Nat), N - i = n → i ≤ N → x.length = N → (∀ j, j < i → x[j]? = (marks m N)[j]?) → Ev (fun k => laws_markByteS.l0 k x (m + i) (i : Int)) (m + N, marks m N) := by
  induction n with
  | zero =>
    intro x i hn hi hx h
    obtain rfl : i = N := by omega
    refine Ev.step (fun k => rfl) ?_
    simp only [laws_markByteS.l0, show ¬ ((i : Int) < (x.length : Int)) by omega, if_false]
    exact Ev_now (by rw [prefix_all (l := marks m i) (by rw [marks_length, hx]) (fun j hj => h j (by rw [marks_length] at hj; exact hj))])
  | succ n ih =>
    intro x i hn hi hx h
    have H := ih (x.set i ((m + i) % 256)) (i + 1) (by omega) (by omega) (by rw [List.length_set]; exact hx) (set_prefix (by rw [marks_length, hx]) (marks_get m (by omega)) h)
    rw [show m + ((i + 1 : Nat) : Int) = m + i + 1 by omega] at H
    refine Ev.step (fun k => rfl) ?_
    simp only [laws_markByteS.l0, show ((i : Int) < (x.length : Int)) by omega, show (0 : Int) ≤ (i : Int) by omega, if_true, Int.toNat_natCast, next64 (show i < 4611686018427387904 by omega), w64 (x := m + i + 1) (by omega) (by omega)]
    exact H
theorem markByteS_ev (x : List Int) (m : Int) (hm : 0 ≤ m) (hN : m + x.length ≤ 4611686018427387903) : Ev (fun k => laws_markByteS.f k x m) (m + x.length, marks m x.length) := by
  have H := markByteS_loop m x.length hm hN x.length x 0 (by omega) (by omega) rfl (fun j hj => by omega)
  rw [show m + ((0 : Nat) : Int) = m by omega] at H
  simp only [laws_markByteS.f]
  exact H
theorem heldByteS_loop (m : Int) (N : Nat) (hm : 0 ≤ m) (hN : m + N ≤ 4611686018427387903) (n : Nat) : ∀ (i : Nat), N - i = n → i ≤ N → Ev (fun k => laws_heldByteS.l0 k (marks m N) (m + i) (i : Int)) (m + N) := by
  induction n with
  | zero =>
    intro i hn hi
    obtain rfl : i = N := by omega
    refine Ev.step (fun k => rfl) ?_
    simp only [laws_heldByteS.l0, marks_length, show ¬ ((i : Int) < (i : Int)) by omega, if_false]
    exact Ev.now _
  | succ n ih =>
    intro i hn hi
    have H := ih (i + 1) (by omega) (by omega)
    rw [show m + ((i + 1 : Nat) : Int) = m + i + 1 by omega] at H
    refine Ev.step (fun k => rfl) ?_
    simp only [laws_heldByteS.l0, marks_length, show ((i : Int) < (N : Int)) by omega, show (0 : Int) ≤ (i : Int) by omega, rd_some (marks_get m (show i < N by omega)), if_true, next64 (show i < 4611686018427387904 by omega), w64 (x := m + i + 1) (by omega) (by omega)]
    exact H
theorem heldByteS_ev (n : Nat) (m : Int) (hm : 0 ≤ m) (hN : m + n ≤ 4611686018427387903) : Ev (fun k => laws_heldByteS.f k (marks m n) m) (m + n) := by
  have H := heldByteS_loop m n hm hN n 0 (by omega) (by omega)
  rw [show m + ((0 : Nat) : Int) = m by omega] at H
  simp only [laws_heldByteS.f]
  exact H
theorem toIntS_loop (l : List Int) (hl : l.length ≤ 281474976710656) (n : Nat) : ∀ (x : List Int) (i : Nat), l.length - i = n → i ≤ l.length → x.length = l.length → (∀ j, j < i → x[j]? = l[j]?) → Ev (fun k => laws_toIntS.l0 k l x (i : Int)) l := by
  induction n with
  | zero =>
    intro x i hn hi hx h
    refine Ev.step (fun k => rfl) ?_
    simp only [laws_toIntS.l0, show ¬ ((i : Int) < (l.length : Int)) by omega, if_false]
    exact Ev_now (prefix_all hx (fun j hj => h j (by omega)))
  | succ n ih =>
    intro x i hn hi hx h
    have hil : i < l.length := by omega
    have H := ih (x.set i (rd l (i : Int))) (i + 1) (by omega) (by omega) (by rw [List.length_set]; exact hx) (set_prefix hx (rd_get l hil) h)
    refine Ev.step (fun k => rfl) ?_
    simp only [laws_toIntS.l0, show ((i : Int) < (l.length : Int)) by omega, show (0 : Int) ≤ (i : Int) by omega, show ((i : Int) < (x.length : Int)) by omega, if_true, Int.toNat_natCast, next64 (show i < 4611686018427387904 by omega)]
    exact H
theorem toIntS_ev (l : List Int) (hl : l.length ≤ 35184372088832) : Ev (fun k => laws_toIntS.f k l) l := by
  simp only [laws_toIntS.f, show (0 : Int) ≤ (l.length : Int) by omega, if_true, Int.toNat_natCast, hl]
  exact toIntS_loop l (by omega) l.length _ 0 (by omega) (by omega) (by simp) (fun j hj => by omega)
theorem eqIntS_loop (l : List Int) (hl : l.length ≤ 281474976710656) (n : Nat) : ∀ (i : Nat), l.length - i = n → i ≤ l.length → Ev (fun k => laws_eqIntS.l0 k l l (i : Int)) true := by
  induction n with
  | zero =>
    intro i hn hi
    refine Ev.step (fun k => rfl) ?_
    simp only [laws_eqIntS.l0, show ¬ ((i : Int) < (l.length : Int)) by omega, if_false]
    exact Ev.now _
  | succ n ih =>
    intro i hn hi
    have H := ih (i + 1) (by omega) (by omega)
    refine Ev.step (fun k => rfl) ?_
    simp only [laws_eqIntS.l0, show ((i : Int) < (l.length : Int)) by omega, show (0 : Int) ≤ (i : Int) by omega, if_true, next64 (show i < 4611686018427387904 by omega)]
    exact H
theorem eqIntS_ev (l : List Int) (hl : l.length ≤ 281474976710656) : Ev (fun k => laws_eqIntS.f k l l) true := by
  simp only [laws_eqIntS.f, if_true]
  exact eqIntS_loop l hl l.length 0 (by omega) (by omega)
theorem markIntS_loop (m : Int) (N : Nat) (hm : 0 ≤ m) (hN : m + N ≤ 4611686018427387903) (n : Nat) : ∀ (x : List Int) (i : Nat), N - i = n → i ≤ N → x.length = N → (∀ j, j < i → x[j]? = (marksI m N)[j]?) → Ev (fun k => laws_markIntS.l0 k x (m + i) (i : Int)) (m + N, marksI m N) := by
  induction n with
  | zero =>
    intro x i hn hi hx h
    obtain rfl : i = N := by omega
    refine Ev.step (fun k => rfl) ?_
    simp only [laws_markIntS.l0, show ¬ ((i : Int) < (x.length : Int)) by omega, if_false]
    exact Ev_now (by rw [prefix_all (l := marksI m i) (by rw [marksI_length, hx]) (fun j hj => h j (by rw [marksI_length] at hj; exact hj))])
  | succ n ih =>
    intro x i hn hi hx h
    have H := ih (x.set i (m + i)) (i + 1) (by omega) (by omega) (by rw [List.length_set]; exact hx) (set_prefix (by rw [marksI_length, hx]) (marksI_get m (by omega)) h)
    rw [show m + ((i + 1 : Nat) : Int) = m + i + 1 by omega] at H
    refine Ev.step (fun k => rfl) ?_
    simp only [laws_markIntS.l0, show ((i : Int) < (x.length : Int)) by omega, show (0 : Int) ≤ (i : Int) by omega, if_true, Int.toNat_natCast, next64 (show i < 4611686018427387904 by omega), w64 (x := m + i + 1) (by omega) (by omega)]
    exact H
theorem markIntS_ev (x : List Int) (m : Int) (hm : 0 ≤ m) (hN : m + x.length ≤ 4611686018427387903) : Ev (fun k => laws_markIntS.f k x m) (m + x.length, marksI m x.length) := by
  have H := markIntS_loop m x.length hm hN x.length x 0 (by omega) (by omega) rfl (fun j hj => by omega)
  rw [show m + ((0 : Nat) : Int) = m by omega] at H
  simp only [laws_markIntS.f]
  exact H
theorem digits_ev (n : Nat) : ∀ v : Int, n ≤ 64 → 0 ≤ v → v ≤ 9223372036854775807 → Ev (fun k => spec_l01Digits.f k v (n : Int)) (dg v n) := by
  induction n with
  | zero =>
    intro v hn h0 h1
    refine Ev.step (fun k => rfl) ?_
    simp only [spec_l01Digits.f, show ((0 : Nat) : Int) = 0 from rfl, if_true]
    exact Ev.now _
  | succ n ih =>
    intro v hn h0 h1
    have H := ih (v / 256) (by omega) (by omega) (by omega)
    refine Ev.step (fun k => rfl) ?_
    simp only [spec_l01Digits.f, show ¬ (((n + 1 : Nat) : Int) = 0) by omega, if_false, tdiv_nn h0, tmod_nn h0, w64 (x := v / 256) (by omega) (by omega), show ((n + 1 : Nat) : Int) - 1 = (n : Int) by omega, w64 (x := (n : Int)) (by omega) (by omega)]
    refine Ev.bind H ?_
    simp only [dg_length, show n < 140737488355328 by omega, if_true]
    exact Ev_now (by rw [dg_snoc v h0 n, Int.emod_emod])
theorem shr_digit (v : Int) (m : Nat) (hm : m ≤ 7) (h0 : 0 ≤ v) (h1 : v ≤ 9223372036854775807) : (shr .u64 (IntKind.u64.wrap v) (wrap64 (8 * (m : Int)))) % 256 = v / 256 ^ m % 256 := by
  have hp : (2 : Int) ^ (8 * m) = 256 ^ m := by rw [Int.pow_mul]; rfl
  have e : min (8 * (m : Int)).toNat IntKind.u64.bits = 8 * m := by simp only [IntKind.bits]; omega
  unfold shr
  rw [wraps_u64 v h0 (by omega), w64 (by omega) (by omega), e, hp]
theorem fixed_loop (v : Int) (h0 : 0 ≤ v) (h1 : v ≤ 9223372036854775807) (m : Nat) : ∀ l : List Int, m ≤ 8 → l.length + m < 140737488355328 → Ev (fun k => impl_fixed.l0 k l v ((m : Int) - 1)) (l ++ dg v m) := by
  induction m with
  | zero =>
    intro l hm hl
    refine Ev.step (fun k => rfl) ?_
    simp only [impl_fixed.l0, show ¬ (((0 : Nat) : Int) - 1 ≥ 0) by omega, if_false]
    exact Ev_now (by simp [dg])
  | succ m ih =>
    intro l hm hl
    have e := shr_digit v m (by omega) h0 h1
    refine Ev.step (fun k => rfl) ?_
    simp only [impl_fixed.l0, show ((m + 1 : Nat) : Int) - 1 = (m : Int) by omega, show (m : Int) ≥ 0 by omega, show (0 : Int) ≤ wrap64 (8 * (m : Int)) by rw [w64 (by omega) (by omega)]; omega, if_true, show l.length < 140737488355328 by omega, e, w64 (x := (m : Int) - 1) (by omega) (by omega)]
    exact Ev_cast (ih (l ++ [v / 256 ^ m % 256]) (by omega) (by simp; omega)) (by simp [dg])
theorem fixed_ev (v : Int) (n : Nat) (l : List Int) (h0 : 0 ≤ v) (h1 : v ≤ 9223372036854775807) (hn : n ≤ 8) (hl : l.length + 8 < 140737488355328) : Ev (fun k => impl_fixed.f k l v (n : Int)) (l ++ dg v n) := by
  simp only [impl_fixed.f, w64 (x := (n : Int) - 1) (by omega) (by omega)]
  exact fixed_loop v h0 h1 n l hn (by omega)
/-- How many bytes a number takes. -/
def vl (v : Int) : Nat := if v < 64 then 1 else if v < 16384 then 2 else if v < 1073741824 then 4 else 8
theorem vl_cases (v : Int) (h1 : v ≤ 4611686018427387903) : (vl v = 1 ∧ v < 64) ∨ (vl v = 2 ∧ v < 16384) ∨ (vl v = 4 ∧ v < 1073741824) ∨ (vl v = 8 ∧ v < 4611686018427387904) := by
  unfold vl
  by_cases a : v < 64
  · rw [if_pos a]; exact .inl ⟨rfl, a⟩
  by_cases b : v < 16384
  · rw [if_neg a, if_pos b]; exact .inr (.inl ⟨rfl, b⟩)
  by_cases c : v < 1073741824
  · rw [if_neg a, if_neg b, if_pos c]; exact .inr (.inr (.inl ⟨rfl, c⟩))
  · rw [if_neg a, if_neg b, if_neg c]; exact .inr (.inr (.inr ⟨rfl, by omega⟩))
theorem implVarLen (v : Int) (h0 : 0 ≤ v) (h1 : v ≤ 4611686018427387903) : impl_VarLen.f v = some (vl v : Int) := by
  unfold vl
  simp only [impl_VarLen.f, impl_inVar.f, show v ≥ 0 from h0, if_true, decide_eq_true h1, Option.bind_some]
  by_cases a : v < 64
  · simp only [a, if_true]; rfl
  by_cases b : v < 16384
  · simp only [a, b, if_true, if_false]; rfl
  by_cases c : v < 1073741824
  · simp only [a, b, c, if_true, if_false]; rfl
  · simp only [a, b, c, if_false]; rfl
/-- A number's bytes: as few as can be, the first one marked. -/
def pv (v : Int) : List Int := (v / 256 ^ (vl v - 1) % 256 + vmark (vl v)) :: dg v (vl v - 1)
theorem pv_length (v : Int) (h1 : v ≤ 4611686018427387903) : (pv v).length = vl v := by
  have := vl_cases v h1
  simp only [pv, List.length_cons, dg_length]
  omega
theorem pv_len (v : Int) (h1 : v ≤ 4611686018427387903) : 1 ≤ (pv v).length ∧ (pv v).length ≤ 8 := by
  rw [pv_length v h1]
  have := vl_cases v h1
  omega
theorem dg_vl (v : Int) (h1 : v ≤ 4611686018427387903) : dg v (vl v) = (v / 256 ^ (vl v - 1) % 256) :: dg v (vl v - 1) := by
  have h : vl v = (vl v - 1) + 1 := by have := vl_cases v h1; omega
  rw [h]; rfl
theorem top_small (v : Int) (h0 : 0 ≤ v) (h1 : v ≤ 4611686018427387903) : 0 ≤ v / 256 ^ (vl v - 1) % 256 ∧ v / 256 ^ (vl v - 1) % 256 < 64 := by
  rcases vl_cases v h1 with ⟨e, h⟩ | ⟨e, h⟩ | ⟨e, h⟩ | ⟨e, h⟩ <;> rw [e] <;> simp <;> omega
theorem bits_or_comm (k : IntKind) (a b : Int) : Go.bits .or k a b = Go.bits .or k b a := by
  show k.wrap ((BitVec.ofInt k.bits a ||| BitVec.ofInt k.bits b).toNat : Int) = k.wrap ((BitVec.ofInt k.bits b ||| BitVec.ofInt k.bits a).toNat : Int)
  rw [BitVec.or_comm]
theorem vmark_vl (v : Int) (h1 : v ≤ 4611686018427387903) : vmark (vl v) = 0 ∨ vmark (vl v) = 64 ∨ vmark (vl v) = 128 ∨ vmark (vl v) = 192 := by
  rcases vl_cases v h1 with ⟨e, h⟩ | ⟨e, h⟩ | ⟨e, h⟩ | ⟨e, h⟩ <;> rw [e] <;> decide
theorem or_mark (d m : Int) (h0 : 0 ≤ d) (h1 : d < 64) (hm : m = 0 ∨ m = 64 ∨ m = 128 ∨ m = 192) : Go.bits .or .u8 d m = d + m := by
  rw [bits_or_comm, bits_join .u8 8 (by decide) wraps_u8 6 m d (by omega) (by omega) (by omega) h0 (by omega) (by omega)]
  omega
theorem addVar_ev (l : List Int) (v : Int) (h0 : 0 ≤ v) (h1 : v ≤ 4611686018427387903) (hl : l.length + 16 < 140737488355328) : Ev (fun k => impl_addVar.f k l v) (l ++ pv v) := by
  have hv := vl_cases v h1
  have ht := top_small v h0 h1
  simp only [impl_addVar.f, implVarLen v h0 h1, Option.bind_some]
  refine Ev.bind (fixed_ev v (vl v) l h0 (by omega) (by omega) (by omega)) ?_
  rw [dg_vl v h1, if_pos (by omega), if_pos (by omega), if_pos (by omega), if_pos (by simp; omega), rd_some (show (l ++ (v / 256 ^ (vl v - 1) % 256) :: dg v (vl v - 1))[l.length]? = some (v / 256 ^ (vl v - 1) % 256) by simp), or_mark _ _ ht.1 ht.2 (vmark_vl v h1), Int.toNat_natCast]
  exact Ev_now (by simp [pv, List.set_append])
theorem specVarLen_ev (v : Int) (h0 : 0 ≤ v) (h1 : v ≤ 4611686018427387903) : Ev (fun k => spec_VarLen.f k v) (vl v : Int) := by
  unfold vl
  simp only [spec_VarLen.f, show ¬ v < 0 by omega, if_false, show decide (v > 4611686018427387903) = false from decide_eq_false (by omega)]
  refine Ev.step (fun k => rfl) ?_
  simp only [spec_VarLen.j0, Bool.false_eq_true, if_false]
  by_cases a : v < 64
  · simp only [a, show v ≤ 63 by omega, if_true]; exact Ev.now _
  by_cases b : v < 16384
  · simp only [a, b, show ¬ v ≤ 63 by omega, show v ≤ 16383 by omega, if_true, if_false]; exact Ev.now _
  by_cases c : v < 1073741824
  · simp only [a, b, c, show ¬ v ≤ 63 by omega, show ¬ v ≤ 16383 by omega, show v ≤ 1073741823 by omega, if_true, if_false]; exact Ev.now _
  · simp only [a, b, c, show ¬ v ≤ 63 by omega, show ¬ v ≤ 16383 by omega, show ¬ v ≤ 1073741823 by omega, if_false]; exact Ev.now _
theorem specVarLen_bad (v : Int) (h : v < 0 ∨ v > 4611686018427387903) : Ev (fun k => spec_VarLen.f k v) 0 := by
  have yes : Ev (fun k => spec_VarLen.j0 k v true) 0 := Ev.step (f := fun _ => some 0) (fun k => by simp only [spec_VarLen.j0, if_true]) (Ev.now _)
  simp only [spec_VarLen.f]
  refine Ev_ite (fun _ => yes) (fun c => ?_)
  rw [decide_eq_true (by omega)]
  exact yes
theorem put_loop (b : List Int) (hb : 0 < b.length) (n : Int) (hn : n = 1 ∨ n = 2 ∨ n = 4 ∨ n = 8) : Ev (fun k => spec_PutVar.l0 k n b 0 1) (b.set 0 ((rd b 0 + vmark n) % 256), 0) := by
  have e0 : ∀ x : Int, Ev (fun k => spec_PutVar.l0 k n b x n) (b.set 0 ((rd b 0 + wrap64 (64 * x) % 256) % 256), 0) := by
    intro x
    refine Ev.step (fun k => rfl) ?_
    simp only [spec_PutVar.l0, show ¬ n < n by omega, if_false, show (0 : Int) < (b.length : Int) by omega, if_true]
    exact Ev.now _
  rcases hn with rfl | rfl | rfl | rfl
  · exact (show wrap64 (64 * 0) % 256 = vmark 1 by decide +kernel) ▸ e0 0
  · refine Ev.step (fun k => rfl) ?_
    simp only [spec_PutVar.l0, show (1 : Int) < 2 by decide, if_true, show wrap64 (0 + 1) = 1 by decide +kernel, show wrap64 (2 * 1) = 2 by decide +kernel]
    exact (show wrap64 (64 * 1) % 256 = vmark 2 by decide +kernel) ▸ e0 1
  · refine Ev.step (fun k => rfl) ?_
    simp only [spec_PutVar.l0, show (1 : Int) < 4 by decide, if_true, show wrap64 (0 + 1) = 1 by decide +kernel, show wrap64 (2 * 1) = 2 by decide +kernel]
    refine Ev.step (fun k => rfl) ?_
    simp only [spec_PutVar.l0, show (2 : Int) < 4 by decide, if_true, show wrap64 (1 + 1) = 2 by decide +kernel, show wrap64 (2 * 2) = 4 by decide +kernel]
    exact (show wrap64 (64 * 2) % 256 = vmark 4 by decide +kernel) ▸ e0 2
  · refine Ev.step (fun k => rfl) ?_
    simp only [spec_PutVar.l0, show (1 : Int) < 8 by decide, if_true, show wrap64 (0 + 1) = 1 by decide +kernel, show wrap64 (2 * 1) = 2 by decide +kernel]
    refine Ev.step (fun k => rfl) ?_
    simp only [spec_PutVar.l0, show (2 : Int) < 8 by decide, if_true, show wrap64 (1 + 1) = 2 by decide +kernel, show wrap64 (2 * 2) = 4 by decide +kernel]
    refine Ev.step (fun k => rfl) ?_
    simp only [spec_PutVar.l0, show (4 : Int) < 8 by decide, if_true, show wrap64 (2 + 1) = 3 by decide +kernel, show wrap64 (2 * 4) = 8 by decide +kernel]
    exact (show wrap64 (64 * 3) % 256 = vmark 8 by decide +kernel) ▸ e0 3
theorem specPutVar_ev (v : Int) (h0 : 0 ≤ v) (h1 : v ≤ 4611686018427387903) : Ev (fun k => spec_PutVar.f k v) (pv v, 0) := by
  have hv := vl_cases v h1
  have ht := top_small v h0 h1
  have hm := vmark_vl v h1
  simp only [spec_PutVar.f]
  refine Ev.bind (specVarLen_ev v h0 h1) ?_
  simp only [show ¬ ((vl v : Int) = 0) by omega, if_false]
  refine Ev.bind (digits_ev (vl v) v (by omega) h0 (by omega)) ?_
  refine Ev_cast (put_loop (dg v (vl v)) (by rw [dg_length]; omega) (vl v) (by omega)) ?_
  rw [dg_vl v h1]
  have e : rd ((v / 256 ^ (vl v - 1) % 256) :: dg v (vl v - 1)) 0 = v / 256 ^ (vl v - 1) % 256 := rfl
  rw [e, Int.emod_eq_of_lt (a := v / 256 ^ (vl v - 1) % 256 + vmark (vl v)) (by omega) (by omega)]
  rfl
theorem specPutVar_bad (v : Int) (h : v < 0 ∨ v > 4611686018427387903) : Ev (fun k => spec_PutVar.f k v) ([], 1) := by
  simp only [spec_PutVar.f]
  refine Ev.bind (specVarLen_bad v h) ?_
  simp only [if_true]
  exact Ev.now _
theorem inVar_ev (v : Int) (k : Bool) (h : (0 ≤ v ∧ v ≤ 4611686018427387903) = (k = true)) : impl_inVar.f v = some k := by
  simp only [impl_inVar.f]
  by_cases c : v ≥ 0
  · simp only [c, if_true, Option.some.injEq]
    cases k
    · simp at h; simp; omega
    · simp at h; simp; omega
  · simp only [c, if_false, Option.some.injEq]
    cases k
    · rfl
    · simp at h; omega
theorem puts_loop (l : List Int) (hl : l.length ≤ 4096) (n : Nat) : ∀ (i : Nat) (x : List Int), l.length - i = n → i ≤ l.length → x.length ≤ 8 * i + 8 →
    ∃ w e, Ev (fun k => spec_PutVars.l0 k l x (i : Int)) (w, e) ∧ Ev (fun k => impl_PutVars.l0 k x l (l.length : Int) (i : Int)) (w, e) ∧ w.length ≤ 40000 := by
  induction n with
  | zero =>
    intro i x hn hi hx
    refine ⟨x, 0, ?_, ?_, by omega⟩
    · refine Ev.step (fun k => rfl) ?_
      simp only [spec_PutVars.l0, show ¬ ((i : Int) < (l.length : Int)) by omega, if_false]
      exact Ev.now _
    · refine Ev.step (fun k => rfl) ?_
      simp only [impl_PutVars.l0, show ¬ ((i : Int) < (l.length : Int)) by omega, if_false]
      exact Ev.now _
  | succ n ih =>
    intro i x hn hi hx
    by_cases c : 0 ≤ rd l (i : Int) ∧ rd l (i : Int) ≤ 4611686018427387903
    · have hp := pv_len (rd l (i : Int)) c.2
      obtain ⟨w, e, hs, hi', hw⟩ := ih (i + 1) (x ++ pv (rd l (i : Int))) (by omega) (by omega) (by rw [List.length_append]; omega)
      refine ⟨w, e, ?_, ?_, hw⟩
      · refine Ev.step (fun k => rfl) ?_
        simp only [spec_PutVars.l0, show ((i : Int) < (l.length : Int)) by omega, show (0 : Int) ≤ (i : Int) by omega, if_true, next64 (show i < 4611686018427387904 by omega)]
        refine Ev.bind (specPutVar_ev _ c.1 c.2) ?_
        simp only [if_true]
        exact Ev_ite (fun _ => hs) (fun c => absurd (by omega) c)
      · refine Ev.step (fun k => rfl) ?_
        simp only [impl_PutVars.l0, show ((i : Int) < (l.length : Int)) by omega, show (0 : Int) ≤ (i : Int) by omega, if_true, inVar_ev (rd l (i : Int)) true (by simp [c]), Option.bind_some, next64 (show i < 4611686018427387904 by omega)]
        exact Ev.bind (addVar_ev x _ c.1 c.2 (by omega)) hi'
    · refine ⟨[], 1, ?_, ?_, by simp⟩
      · refine Ev.step (fun k => rfl) ?_
        simp only [spec_PutVars.l0, show ((i : Int) < (l.length : Int)) by omega, show (0 : Int) ≤ (i : Int) by omega, if_true]
        refine Ev.bind (specPutVar_bad _ (by omega)) ?_
        simp only [show ¬ ((1 : Int) = 0) by decide, if_false]
        exact Ev.now _
      · refine Ev.step (fun k => rfl) ?_
        simp only [impl_PutVars.l0, show ((i : Int) < (l.length : Int)) by omega, show (0 : Int) ≤ (i : Int) by omega, if_true, inVar_ev (rd l (i : Int)) false (by simp [c]), Option.bind_some, Bool.false_eq_true, if_false]
        exact Ev.now _
/-- Both answer, and the same. -/
theorem both (l : List Int) : ∃ w e, Ev (fun k => spec_PutVars.f k l) (w, e) ∧ Ev (fun k => impl_PutVars.f k l) (w, e) ∧ w.length ≤ 40000 := by
  simp only [spec_PutVars.f, impl_PutVars.f]
  by_cases c : (l.length : Int) > 4096
  · simp only [c, if_true]; exact ⟨[], 4, Ev.now _, Ev.now _, by simp⟩
  simp only [c, if_false]
  have hp := pv_len (l.length : Int) (by omega)
  obtain ⟨w, e, hs, hi, hw⟩ := puts_loop l (by omega) l.length 0 (pv (l.length : Int)) (by omega) (by omega) (by omega)
  exact ⟨w, e, Ev.bind (specPutVar_ev _ (by omega) (by omega)) hs, Ev.bind (addVar_ev [] _ (by omega) (by omega) (by simp)) hi, hw⟩

theorem FnExactPutVars (l0 : List Int) (q0 : l0.length ≤ maxLen ∧ ∀ x ∈ l0, (Lit.int .i64 x).wf = true) : ∃ k, laws_FnExactPutVars.f k l0 = some true := by
  refine Ev.rounds (g := fun k => laws_FnExactPutVars.f k l0) ?_
  simp only [laws_FnExactPutVars.f]
  refine Ev_ite (fun _ => Ev.now _) (fun c0 => ?_)
  obtain ⟨w, e, hs, hi, hw⟩ := both l0
  repeat' first
    | exact Ev.now _
    | refine Ev.bind hs ?_
    | refine Ev.bind hi ?_
    | refine Ev.bind (eqByteS_ev _ (by omega)) ?_
    | refine Ev.bind (markByteS_ev _ _ (by omega) (by omega)) ?_
    | refine Ev.bind (heldByteS_ev _ _ (by omega) (by omega)) ?_
    | refine Ev.bind (toIntS_ev _ (by omega)) ?_
    | refine Ev.bind (eqIntS_ev _ (by omega)) ?_
    | refine Ev.bind (markIntS_ev _ _ (by omega) (by omega)) ?_
    | simp only [if_true, if_false, bne_self_eq_false, Bool.false_eq_true, marks_length, marksI_length]
    | (refine Ev.step (fun k => rfl) ?_; simp only [laws_FnExactPutVars.j0, laws_FnExactPutVars.j1, laws_FnExactPutVars.j2])
    | refine Ev_ite (fun c => absurd c (by omega)) (fun _ => ?_)

end Go.Proofs.Ytdojcdhlcnlohaa.Pure
