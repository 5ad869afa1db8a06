/- For all headers and numbers: the program's HeadBytes and the reference's tell the same bytes and code, in memory of its own. No condition. -/
import Derived.Test.YtdojcdhlcnlohaaSFnExactHeadBytesx10
import Derived.Test.YtdojcdhlcnlohaaMath
namespace Go.Proofs.Ytdojcdhlcnlohaa.Pure
open Go.RowKit Go.Proofs.Ytdojcdhlcnlohaa.SFnExactHeadBytes Go.Proofs.YtdojcdhlcnlohaaW.PrintWords Go.Proofs.YtdojcdhlcnlohaaW.PrintLast Go.Proofs.YtdojcdhlcnlohaaW.PrintMore Go.Proofs.Ytdojcdhlcnlohaa.Math
set_option linter.unusedVariables false
set_option linter.unusedSimpArgs false

theorem toByteS_loop (l : List Int) (hl : l.length ≤ 281474976710656) (n : Nat) : ∀ (x : List Int) (i : Nat), l.length - i = n → i ≤ l.length → x.length = l.length → (∀ j, j < i → x[j]? = l[j]?) → Ev (fun k => laws_toByteS.l0 k l x (i : Int)) l := by
  induction n with
  | zero =>
    intro x i hn hi hx h
    refine Ev.step (fun k => rfl) ?_
    simp only [laws_toByteS.l0, show ¬ ((i : Int) < (l.length : Int)) by omega, if_false]
    exact Ev_now (prefix_all hx (fun j hj => h j (by omega)))
  | succ n ih =>
    intro x i hn hi hx h
    have hil : i < l.length := by omega
    have H := ih (x.set i (rd l (i : Int))) (i + 1) (by omega) (by omega) (by rw [List.length_set]; exact hx) (set_prefix hx (rd_get l hil) h)
    refine Ev.step (fun k => rfl) ?_
    simp only [laws_toByteS.l0, show ((i : Int) < (l.length : Int)) by omega, show (0 : Int) ≤ (i : Int) by omega, show ((i : Int) < (x.length : Int)) by omega, if_true, Int.toNat_natCast, next64 (show i < 4611686018427387904 by omega)]
    exact H
theorem toByteS_ev (l : List Int) (hl : l.length ≤ 281474976710656) : Ev (fun k => laws_toByteS.f k l) l := by
  simp only [laws_toByteS.f, show (0 : Int) ≤ (l.length : Int) by omega, if_true, Int.toNat_natCast, hl]
  exact toByteS_loop l hl l.length _ 0 (by omega) (by omega) (by simp) (fun j hj => by omega)
theorem eqByteS_loop (l : List Int) (hl : l.length ≤ 281474976710656) (n : Nat) : ∀ (i : Nat), l.length - i = n → i ≤ l.length → Ev (fun k => laws_eqByteS.l0 k l l (i : Int)) true := by
  induction n with
  | zero =>
    intro i hn hi
    refine Ev.step (fun k => rfl) ?_
    simp only [laws_eqByteS.l0, show ¬ ((i : Int) < (l.length : Int)) by omega, if_false]
    exact Ev.now _
  | succ n ih =>
    intro i hn hi
    have H := ih (i + 1) (by omega) (by omega)
    refine Ev.step (fun k => rfl) ?_
    simp only [laws_eqByteS.l0, show ((i : Int) < (l.length : Int)) by omega, show (0 : Int) ≤ (i : Int) by omega, if_true, next64 (show i < 4611686018427387904 by omega)]
    exact H
theorem eqByteS_ev (l : List Int) (hl : l.length ≤ 281474976710656) : Ev (fun k => laws_eqByteS.f k l l) true := by
  simp only [laws_eqByteS.f, if_true]
  exact eqByteS_loop l hl l.length 0 (by omega) (by omega)
theorem markByteS_loop (m : Int) (N : Nat) (hm : 0 ≤ m) (hN : m + N ≤ 4611686018427387903) (n : Nat) : ∀ (x : List Int) (i : Nat), N - i = n → i ≤ N → x.length = N → (∀ j, j < i → x[j]? = (marks m N)[j]?) → Ev (fun k => laws_markByteS.l0 k x (m + i) (i : Int)) (m + N, marks m N) := by
  induction n with
  | zero =>
    intro x i hn hi hx h
    obtain rfl : i = N := by omega
    refine Ev.step (fun k => rfl) ?_
    simp only [laws_markByteS.l0, show ¬ ((i : Int) < (x.length : Int)) by omega, if_false]
    exact Ev_now (by rw [prefix_all (l := marks m i) (by rw [marks_length, hx]) (fun j hj => h j (by rw [marks_length] at hj; exact hj))])
  | succ n ih =>
    intro x i hn hi hx h
    have H := ih (x.set i ((m + i) % 256)) (i + 1) (by omega) (by omega) (by rw [List.length_set]; exact hx) (set_prefix (by rw [marks_length, hx]) (marks_get m (by omega)) h)
    rw [show m + ((i + 1 : Nat) : Int) = m + i + 1 by omega] at H
    refine Ev.step (fun k => rfl) ?_
    simp only [laws_markByteS.l0, show ((i : Int) < (x.length : Int)) by omega, show (0 : Int) ≤ (i : Int) by omega, if_true, Int.toNat_natCast, next64 (show i < 4611686018427387904 by omega), w64 (x := m + i + 1) (by omega) (by omega)]
    exact H
theorem markByteS_ev (x : List Int) (m : Int) (hm : 0 ≤ m) (hN : m + x.length ≤ 4611686018427387903) : Ev (fun k => laws_markByteS.f k x m) (m + x.length, marks m x.length) := by
  have H := markByteS_loop m x.length hm hN x.length x 0 (by omega) (by omega) rfl (fun j hj => by omega)
  rw [show m + ((0 : Nat) : Int) = m by omega] at H
  simp only [laws_markByteS.f]
  exact H
theorem heldByteS_loop (m : Int) (N : Nat) (hm : 0 ≤ m) (hN : m + N ≤ 4611686018427387903) (n : Nat) : ∀ (i : Nat), N - i = n → i ≤ N → Ev (fun k => laws_heldByteS.l0 k (marks m N) (m + i) (i : Int)) (m + N) := by
  induction n with
  | zero =>
    intro i hn hi
    obtain rfl : i = N := by omega
    refine Ev.step (fun k => rfl) ?_
    simp only [laws_heldByteS.l0, marks_length, show ¬ ((i : Int) < (i : Int)) by omega, if_false]
    exact Ev.now _
  | succ n ih =>
    intro i hn hi
    have H := ih (i + 1) (by omega) (by omega)
    rw [show m + ((i + 1 : Nat) : Int) = m + i + 1 by omega] at H
    refine Ev.step (fun k => rfl) ?_
    simp only [laws_heldByteS.l0, marks_length, show ((i : Int) < (N : Int)) by omega, show (0 : Int) ≤ (i : Int) by omega, rd_some (marks_get m (show i < N by omega)), if_true, next64 (show i < 4611686018427387904 by omega), w64 (x := m + i + 1) (by omega) (by omega)]
    exact H
theorem heldByteS_ev (n : Nat) (m : Int) (hm : 0 ≤ m) (hN : m + n ≤ 4611686018427387903) : Ev (fun k => laws_heldByteS.f k (marks m n) m) (m + n) := by
  have H := heldByteS_loop m n hm hN n 0 (by omega) (by omega)
  rw [show m + ((0 : Nat) : Int) = m by omega] at H
  simp only [laws_heldByteS.f]
  exact H
theorem digits_ev (n : Nat) : ∀ v : Int, n ≤ 64 → 0 ≤ v → v ≤ 9223372036854775807 → Ev (fun k => spec_l01Digits.f k v (n : Int)) (dg v n) := by
  induction n with
  | zero =>
    intro v hn h0 h1
    refine Ev.step (fun k => rfl) ?_
    simp only [spec_l01Digits.f, show ((0 : Nat) : Int) = 0 from rfl, if_true]
    exact Ev.now _
  | succ n ih =>
    intro v hn h0 h1
    have H := ih (v / 256) (by omega) (by omega) (by omega)
    refine Ev.step (fun k => rfl) ?_
    simp only [spec_l01Digits.f, show ¬ (((n + 1 : Nat) : Int) = 0) by omega, if_false, tdiv_nn h0, tmod_nn h0, w64 (x := v / 256) (by omega) (by omega), show ((n + 1 : Nat) : Int) - 1 = (n : Int) by omega, w64 (x := (n : Int)) (by omega) (by omega)]
    refine Ev.bind H ?_
    simp only [dg_length, show n < 140737488355328 by omega, if_true]
    exact Ev_now (by rw [dg_snoc v h0 n, Int.emod_emod])
theorem shr_digit (v : Int) (m : Nat) (hm : m ≤ 7) (h0 : 0 ≤ v) (h1 : v ≤ 9223372036854775807) : (shr .u64 (IntKind.u64.wrap v) (wrap64 (8 * (m : Int)))) % 256 = v / 256 ^ m % 256 := by
  have hp : (2 : Int) ^ (8 * m) = 256 ^ m := by rw [Int.pow_mul]; rfl
  have e : min (8 * (m : Int)).toNat IntKind.u64.bits = 8 * m := by simp only [IntKind.bits]; omega
  unfold shr
  rw [wraps_u64 v h0 (by omega), w64 (by omega) (by omega), e, hp]
theorem fixed_loop (v : Int) (h0 : 0 ≤ v) (h1 : v ≤ 9223372036854775807) (m : Nat) : ∀ l : List Int, m ≤ 8 → l.length + m < 140737488355328 → Ev (fun k => impl_fixed.l0 k l v ((m : Int) - 1)) (l ++ dg v m) := by
  induction m with
  | zero =>
    intro l hm hl
    refine Ev.step (fun k => rfl) ?_
    simp only [impl_fixed.l0, show ¬ (((0 : Nat) : Int) - 1 ≥ 0) by omega, if_false]
    exact Ev_now (by simp [dg])
  | succ m ih =>
    intro l hm hl
    have e := shr_digit v m (by omega) h0 h1
    refine Ev.step (fun k => rfl) ?_
    simp only [impl_fixed.l0, show ((m + 1 : Nat) : Int) - 1 = (m : Int) by omega, show (m : Int) ≥ 0 by omega, show (0 : Int) ≤ wrap64 (8 * (m : Int)) by rw [w64 (by omega) (by omega)]; omega, if_true, show l.length < 140737488355328 by omega, e, w64 (x := (m : Int) - 1) (by omega) (by omega)]
    exact Ev_cast (ih (l ++ [v / 256 ^ m % 256]) (by omega) (by simp; omega)) (by simp [dg])
theorem fixed_ev (v : Int) (n : Nat) (l : List Int) (h0 : 0 ≤ v) (h1 : v ≤ 9223372036854775807) (hn : n ≤ 8) (hl : l.length + 8 < 140737488355328) : Ev (fun k => impl_fixed.f k l v (n : Int)) (l ++ dg v n) := by
  simp only [impl_fixed.f, w64 (x := (n : Int) - 1) (by omega) (by omega)]
  exact fixed_loop v h0 h1 n l hn (by omega)
theorem l04Ids_ev (v : Int) (d s : List Int) (h0 : 0 ≤ v) (h1 : v ≤ 9223372036854775807) (hd : d.length ≤ 1048576) (hs : s.length ≤ 1048576) : Ev (fun k => spec_l04Ids.f k v d s) (dg v 4 ++ [(d.length : Int) % 256] ++ d ++ [(s.length : Int) % 256] ++ s) := by
  simp only [spec_l04Ids.f]
  refine Ev.bind (digits_ev 4 v (by omega) h0 h1) ?_
  simp only [dg_length, List.length_append, List.length_cons, List.length_nil, Option.bind_some]
  rw [if_pos (by omega), if_pos (by omega), if_pos (by omega), if_pos (by omega)]
  exact Ev.now _
theorem longBegin_ev (f v : Int) (d s : List Int) (h0 : 0 ≤ v) (h1 : v ≤ 9223372036854775807) (hd : d.length ≤ 1048576) (hs : s.length ≤ 1048576) : Ev (fun k => impl_longBegin.f k f v d s) ([f] ++ dg v 4 ++ [(d.length : Int) % 256] ++ d ++ [(s.length : Int) % 256] ++ s) := by
  simp only [impl_longBegin.f]
  refine Ev.bind (fixed_ev v 4 [f] h0 h1 (by omega) (by simp)) ?_
  simp only [dg_length, List.length_append, List.length_cons, List.length_nil, Option.bind_some]
  rw [if_pos (by omega), if_pos (by omega), if_pos (by omega), if_pos (by omega)]
  exact Ev.now _
/-- How many bytes a number takes. -/
def vl (v : Int) : Nat := if v < 64 then 1 else if v < 16384 then 2 else if v < 1073741824 then 4 else 8
theorem vl_cases (v : Int) (h1 : v ≤ 4611686018427387903) : (vl v = 1 ∧ v < 64) ∨ (vl v = 2 ∧ v < 16384) ∨ (vl v = 4 ∧ v < 1073741824) ∨ (vl v = 8 ∧ v < 4611686018427387904) := by
  unfold vl
  by_cases a : v < 64
  · rw [if_pos a]; exact .inl ⟨rfl, a⟩
  by_cases b : v < 16384
  · rw [if_neg a, if_pos b]; exact .inr (.inl ⟨rfl, b⟩)
  by_cases c : v < 1073741824
  · rw [if_neg a, if_neg b, if_pos c]; exact .inr (.inr (.inl ⟨rfl, c⟩))
  · rw [if_neg a, if_neg b, if_neg c]; exact .inr (.inr (.inr ⟨rfl, by omega⟩))
theorem implVarLen (v : Int) (h0 : 0 ≤ v) (h1 : v ≤ 4611686018427387903) : impl_VarLen.f v = some (vl v : Int) := by
  unfold vl
  simp only [impl_VarLen.f, impl_inVar.f, show v ≥ 0 from h0, if_true, decide_eq_true h1, Option.bind_some]
  by_cases a : v < 64
  · simp only [a, if_true]; rfl
  by_cases b : v < 16384
  · simp only [a, b, if_true, if_false]; rfl
  by_cases c : v < 1073741824
  · simp only [a, b, c, if_true, if_false]; rfl
  · simp only [a, b, c, if_false]; rfl
/-- A number's bytes: as few as can be, the first one marked. -/
def pv (v : Int) : List Int := (v / 256 ^ (vl v - 1) % 256 + vmark (vl v)) :: dg v (vl v - 1)
theorem pv_length (v : Int) (h1 : v ≤ 4611686018427387903) : (pv v).length = vl v := by
  have := vl_cases v h1
  simp only [pv, List.length_cons, dg_length]
  omega
theorem pv_len (v : Int) (h1 : v ≤ 4611686018427387903) : 1 ≤ (pv v).length ∧ (pv v).length ≤ 8 := by
  rw [pv_length v h1]
  have := vl_cases v h1
  omega
theorem dg_vl (v : Int) (h1 : v ≤ 4611686018427387903) : dg v (vl v) = (v / 256 ^ (vl v - 1) % 256) :: dg v (vl v - 1) := by
  have h : vl v = (vl v - 1) + 1 := by have := vl_cases v h1; omega
  rw [h]; rfl
theorem top_small (v : Int) (h0 : 0 ≤ v) (h1 : v ≤ 4611686018427387903) : 0 ≤ v / 256 ^ (vl v - 1) % 256 ∧ v / 256 ^ (vl v - 1) % 256 < 64 := by
  rcases vl_cases v h1 with ⟨e, h⟩ | ⟨e, h⟩ | ⟨e, h⟩ | ⟨e, h⟩ <;> rw [e] <;> simp <;> omega
theorem bits_or_comm (k : IntKind) (a b : Int) : Go.bits .or k a b = Go.bits .or k b a := by
  show k.wrap ((BitVec.ofInt k.bits a ||| BitVec.ofInt k.bits b).toNat : Int) = k.wrap ((BitVec.ofInt k.bits b ||| BitVec.ofInt k.bits a).toNat : Int)
  rw [BitVec.or_comm]
theorem vmark_vl (v : Int) (h1 : v ≤ 4611686018427387903) : vmark (vl v) = 0 ∨ vmark (vl v) = 64 ∨ vmark (vl v) = 128 ∨ vmark (vl v) = 192 := by
  rcases vl_cases v h1 with ⟨e, h⟩ | ⟨e, h⟩ | ⟨e, h⟩ | ⟨e, h⟩ <;> rw [e] <;> decide
theorem or_mark (d m : Int) (h0 : 0 ≤ d) (h1 : d < 64) (hm : m = 0 ∨ m = 64 ∨ m = 128 ∨ m = 192) : Go.bits .or .u8 d m = d + m := by
  rw [bits_or_comm, bits_join .u8 8 (by decide) wraps_u8 6 m d (by omega) (by omega) (by omega) h0 (by omega) (by omega)]
  omega
theorem addVar_ev (l : List Int) (v : Int) (h0 : 0 ≤ v) (h1 : v ≤ 4611686018427387903) (hl : l.length + 16 < 140737488355328) : Ev (fun k => impl_addVar.f k l v) (l ++ pv v) := by
  have hv := vl_cases v h1
  have ht := top_small v h0 h1
  simp only [impl_addVar.f, implVarLen v h0 h1, Option.bind_some]
  refine Ev.bind (fixed_ev v (vl v) l h0 (by omega) (by omega) (by omega)) ?_
  rw [dg_vl v h1, if_pos (by omega), if_pos (by omega), if_pos (by omega), if_pos (by simp; omega), rd_some (show (l ++ (v / 256 ^ (vl v - 1) % 256) :: dg v (vl v - 1))[l.length]? = some (v / 256 ^ (vl v - 1) % 256) by simp), or_mark _ _ ht.1 ht.2 (vmark_vl v h1), Int.toNat_natCast]
  exact Ev_now (by simp [pv, List.set_append])
theorem specVarLen_ev (v : Int) (h0 : 0 ≤ v) (h1 : v ≤ 4611686018427387903) : Ev (fun k => spec_VarLen.f k v) (vl v : Int) := by
  unfold vl
  simp only [spec_VarLen.f, show ¬ v < 0 by omega, if_false, show decide (v > 4611686018427387903) = false from decide_eq_false (by omega)]
  refine Ev.step (fun k => rfl) ?_
  simp only [spec_VarLen.j0, Bool.false_eq_true, if_false]
  by_cases a : v < 64
  · simp only [a, show v ≤ 63 by omega, if_true]; exact Ev.now _
  by_cases b : v < 16384
  · simp only [a, b, show ¬ v ≤ 63 by omega, show v ≤ 16383 by omega, if_true, if_false]; exact Ev.now _
  by_cases c : v < 1073741824
  · simp only [a, b, c, show ¬ v ≤ 63 by omega, show ¬ v ≤ 16383 by omega, show v ≤ 1073741823 by omega, if_true, if_false]; exact Ev.now _
  · simp only [a, b, c, show ¬ v ≤ 63 by omega, show ¬ v ≤ 16383 by omega, show ¬ v ≤ 1073741823 by omega, if_false]; exact Ev.now _
theorem specVarLen_bad (v : Int) (h : v < 0 ∨ v > 4611686018427387903) : Ev (fun k => spec_VarLen.f k v) 0 := by
  have yes : Ev (fun k => spec_VarLen.j0 k v true) 0 := Ev.step (f := fun _ => some 0) (fun k => by simp only [spec_VarLen.j0, if_true]) (Ev.now _)
  simp only [spec_VarLen.f]
  refine Ev_ite (fun _ => yes) (fun c => ?_)
  rw [decide_eq_true (by omega)]
  exact yes
theorem put_loop (b : List Int) (hb : 0 < b.length) (n : Int) (hn : n = 1 ∨ n = 2 ∨ n = 4 ∨ n = 8) : Ev (fun k => spec_PutVar.l0 k n b 0 1) (b.set 0 ((rd b 0 + vmark n) % 256), 0) := by
  have e0 : ∀ x : Int, Ev (fun k => spec_PutVar.l0 k n b x n) (b.set 0 ((rd b 0 + wrap64 (64 * x) % 256) % 256), 0) := by
    intro x
    refine Ev.step (fun k => rfl) ?_
    simp only [spec_PutVar.l0, show ¬ n < n by omega, if_false, show (0 : Int) < (b.length : Int) by omega, if_true]
    exact Ev.now _
  rcases hn with rfl | rfl | rfl | rfl
  · exact (show wrap64 (64 * 0) % 256 = vmark 1 by decide +kernel) ▸ e0 0
  · refine Ev.step (fun k => rfl) ?_
    simp only [spec_PutVar.l0, show (1 : Int) < 2 by decide, if_true, show wrap64 (0 + 1) = 1 by decide +kernel, show wrap64 (2 * 1) = 2 by decide +kernel]
    exact (show wrap64 (64 * 1) % 256 = vmark 2 by decide +kernel) ▸ e0 1
  · refine Ev.step (fun k => rfl) ?_
    simp only [spec_PutVar.l0, show (1 : Int) < 4 by decide, if_true, show wrap64 (0 + 1) = 1 by decide +kernel, show wrap64 (2 * 1) = 2 by decide +kernel]
    refine Ev.step (fun k => rfl) ?_
    simp only [spec_PutVar.l0, show (2 : Int) < 4 by decide, if_true, show wrap64 (1 + 1) = 2 by decide +kernel, show wrap64 (2 * 2) = 4 by decide +kernel]
    exact (show wrap64 (64 * 2) % 256 = vmark 4 by decide +kernel) ▸ e0 2
  · refine Ev.step (fun k => rfl) ?_
    simp only [spec_PutVar.l0, show (1 : Int) < 8 by decide, if_true, show wrap64 (0 + 1) = 1 by decide +kernel, show wrap64 (2 * 1) = 2 by decide +kernel]
    refine Ev.step (fun k => rfl) ?_
    simp only [spec_PutVar.l0, show (2 : Int) < 8 by decide, if_true, show wrap64 (1 + 1) = 2 by decide +kernel, show wrap64 (2 * 2) = 4 by decide +kernel]
    refine Ev.step (fun k => rfl) ?_
    simp only [spec_PutVar.l0, show (4 : Int) < 8 by decide, if_true, show wrap64 (2 + 1) = 3 by decide +kernel, show wrap64 (2 * 4) = 8 by decide +kernel]
    exact (show wrap64 (64 * 3) % 256 = vmark 8 by decide +kernel) ▸ e0 3
theorem specPutVar_ev (v : Int) (h0 : 0 ≤ v) (h1 : v ≤ 4611686018427387903) : Ev (fun k => spec_PutVar.f k v) (pv v, 0) := by
  have hv := vl_cases v h1
  have ht := top_small v h0 h1
  have hm := vmark_vl v h1
  simp only [spec_PutVar.f]
  refine Ev.bind (specVarLen_ev v h0 h1) ?_
  simp only [show ¬ ((vl v : Int) = 0) by omega, if_false]
  refine Ev.bind (digits_ev (vl v) v (by omega) h0 (by omega)) ?_
  refine Ev_cast (put_loop (dg v (vl v)) (by rw [dg_length]; omega) (vl v) (by omega)) ?_
  rw [dg_vl v h1]
  have e : rd ((v / 256 ^ (vl v - 1) % 256) :: dg v (vl v - 1)) 0 = v / 256 ^ (vl v - 1) % 256 := rfl
  rw [e, Int.emod_eq_of_lt (a := v / 256 ^ (vl v - 1) % 256 + vmark (vl v)) (by omega) (by omega)]
  rfl
theorem specPutVar_bad (v : Int) (h : v < 0 ∨ v > 4611686018427387903) : Ev (fun k => spec_PutVar.f k v) ([], 1) := by
  simp only [spec_PutVar.f]
  refine Ev.bind (specVarLen_bad v h) ?_
  simp only [if_true]
  exact Ev.now _
theorem szB (l : List Int) (a : Int) (h0 : 0 ≤ a) (h1 : a ≤ 1048576) (hl : l.length ≤ 9223372036854775807) : (laws_szByteS.f l a = some (-1) ∧ a < l.length) ∨ (laws_szByteS.f l a = some (a - l.length) ∧ l.length ≤ a) := by
  simp only [laws_szByteS.f, w64 (x := a - (l.length : Int)) (by omega) (by omega)]
  by_cases c : a - (l.length : Int) < 0
  · rw [if_pos c]; exact .inl ⟨rfl, by omega⟩
  · rw [if_neg c]; exact .inr ⟨rfl, by omega⟩
theorem szHeader_ev (f v : Int) (a b c : List Int) (n q p : Int) (z : Int) (h0 : 0 ≤ z) (h1 : z ≤ 1048576) (ha : a.length ≤ maxLen) (hb : b.length ≤ maxLen) (hc : c.length ≤ maxLen) : ∃ t, laws_szHeader.f f v a b c n q p z = some t ∧ (t < 0 ∨ (a.length ≤ 1048576 ∧ b.length ≤ 1048576 ∧ c.length ≤ 1048576)) := by
  unfold maxLen at ha hb hc
  have m1 : (-1 : Int) < 0 := by decide
  rcases szB a z (by omega) (by omega) (by omega) with ⟨e1, h1⟩ | ⟨e1, h1⟩
  · exact ⟨-1, by simp only [laws_szHeader.f, e1, Option.bind_some, m1, if_true], .inl m1⟩
  rcases szB b (z - a.length) (by omega) (by omega) (by omega) with ⟨e2, h2⟩ | ⟨e2, h2⟩
  · exact ⟨-1, by simp only [laws_szHeader.f, e1, e2, Option.bind_some, show ¬ (z - (a.length : Int) < 0) by omega, m1, if_true, if_false], .inl m1⟩
  rcases szB c (z - a.length - b.length) (by omega) (by omega) (by omega) with ⟨e3, h3⟩ | ⟨e3, h3⟩
  · exact ⟨-1, by simp only [laws_szHeader.f, e1, e2, e3, Option.bind_some, show ¬ (z - (a.length : Int) < 0) by omega, show ¬ (z - (a.length : Int) - (b.length : Int) < 0) by omega, m1, if_true, if_false], .inl m1⟩
  · exact ⟨z - a.length - b.length - c.length, by simp only [laws_szHeader.f, e1, e2, e3, Option.bind_some, show ¬ (z - (a.length : Int) < 0) by omega, show ¬ (z - (a.length : Int) - (b.length : Int) < 0) by omega, show ¬ (z - (a.length : Int) - (b.length : Int) - (c.length : Int) < 0) by omega, if_false], .inr ⟨by omega, by omega, by omega⟩⟩
theorem toHeader_ev (f v : Int) (a b c : List Int) (n q p : Int) (ha : a.length ≤ 1048576) (hb : b.length ≤ 1048576) (hc : c.length ≤ 1048576) : Ev (fun k => laws_toHeader.f k f v a b c n q p) (f, v, a, b, c, n, q, p) := by
  simp only [laws_toHeader.f]
  refine Ev.bind (toByteS_ev _ (by omega)) ?_
  refine Ev.bind (toByteS_ev _ (by omega)) ?_
  refine Ev.bind (toByteS_ev _ (by omega)) ?_
  exact Ev.now _
theorem eqHeader_ev (f v : Int) (a b c : List Int) (n q p : Int) (ha : a.length ≤ 1048576) (hb : b.length ≤ 1048576) (hc : c.length ≤ 1048576) : Ev (fun k => laws_eqHeader.f k f v a b c n q p f v a b c n q p) true := by
  simp only [laws_eqHeader.f, if_true]
  refine Ev.bind (eqByteS_ev _ (by omega)) ?_
  simp only [if_true]
  refine Ev.bind (eqByteS_ev _ (by omega)) ?_
  simp only [if_true]
  refine Ev.bind (eqByteS_ev _ (by omega)) ?_
  simp only [if_true]
  exact Ev.now _
theorem markHeader_ev (f v : Int) (a b c : List Int) (n q p : Int) (m : Int) (hm : 0 ≤ m) (hm1 : m ≤ 4294967296) (ha : a.length ≤ 1048576) (hb : b.length ≤ 1048576) (hc : c.length ≤ 1048576) :
    Ev (fun k => laws_markHeader.f k f v a b c n q p m) (m + a.length + b.length + c.length, marks m a.length, marks (m + a.length) b.length, marks (m + a.length + b.length) c.length) := by
  simp only [laws_markHeader.f]
  refine Ev.bind (markByteS_ev _ _ (by omega) (by omega)) ?_
  refine Ev.bind (markByteS_ev _ _ (by omega) (by omega)) ?_
  refine Ev.bind (markByteS_ev _ _ (by omega) (by omega)) ?_
  exact Ev.now _
theorem vSpec (a : Int) : spec_l04VersionOK.f a = some (decide (1 ≤ a ∧ a ≤ 4294967295)) := by
  unfold spec_l04VersionOK.f
  by_cases h : a ≥ 1
  · rw [if_pos h]; exact congrArg some (by rw [decide_eq_decide]; omega)
  · rw [if_neg h]; exact congrArg some (decide_eq_false (by omega)).symm
theorem vImpl (a : Int) : impl_versionOK.f a = some (decide (1 ≤ a ∧ a ≤ 4294967295)) := by
  unfold impl_versionOK.f
  by_cases h : a ≥ 1
  · rw [if_pos h]; exact congrArg some (by rw [decide_eq_decide]; omega)
  · rw [if_neg h]; exact congrArg some (decide_eq_false (by omega)).symm
theorem power_ev {n : Int} (h0 : 0 ≤ n) (h1 : n ≤ 7) : Ev (fun k => spec_l01Power.f k n) (256 ^ n.toNat) := by
  have h : n = 0 ∨ n = 1 ∨ n = 2 ∨ n = 3 ∨ n = 4 ∨ n = 5 ∨ n = 6 ∨ n = 7 := by omega
  rcases h with rfl | rfl | rfl | rfl | rfl | rfl | rfl | rfl <;> exact Ev.of (spec_l01Power.mono _) (k := 9) (by decide +kernel)
/-- The lowest n bytes of a number. -/
def cut (v : Int) (n : Nat) : Int := v % 256 ^ n
theorem cut_range (v : Int) (n : Nat) (hn : n ≤ 4) : 0 ≤ cut v n ∧ cut v n ≤ 4294967295 := by
  unfold cut
  have h : n = 0 ∨ n = 1 ∨ n = 2 ∨ n = 3 ∨ n = 4 := by omega
  rcases h with rfl | rfl | rfl | rfl | rfl <;> omega
theorem sCut_ev (v : Int) (n : Nat) (h0 : 0 ≤ v) (h1 : v ≤ 4611686018427387903) (n1 : 1 ≤ n) (n4 : n ≤ 4) : Ev (fun k => spec_CutNum.f k v (n : Int)) (cut v n) := by
  simp only [spec_CutNum.f, show ¬ v < 0 by omega, show ¬ v > 4611686018427387903 by omega, show ¬ (n : Int) < 1 by omega, show ¬ (n : Int) > 4 by omega, if_false]
  refine Ev.bind (power_ev (by omega) (by omega)) ?_
  rw [tmod_nn (by omega), Int.toNat_natCast]
  refine Ev_ite (fun c => ?_) (fun c => Ev.now _)
  have : (0 : Int) < 256 ^ n := Int.pow_pos (by decide)
  omega
theorem iCutI (v a : Int) (h0 : 0 ≤ v) (h1 : v ≤ 4611686018427387903) (a1 : 1 ≤ a) (a4 : a ≤ 4) : (if 0 ≤ wrap64 (8 * a) then some (Go.bits .and .i64 v (wrap64 (shl .i64 1 (wrap64 (8 * a)) - 1))) else none) = some (v % 256 ^ a.toNat) := by
  have h : a = 1 ∨ a = 2 ∨ a = 3 ∨ a = 4 := by omega
  rcases h with rfl | rfl | rfl | rfl
  · rw [show wrap64 (8 * 1) = 8 by decide +kernel, if_pos (by decide), show wrap64 (shl .i64 1 8 - 1) = 2 ^ 8 - 1 by decide +kernel, i64_mask v 8 (by decide) (by omega) (by omega), show (256 : Int) ^ Int.toNat 1 = 2 ^ 8 by decide +kernel]
  · rw [show wrap64 (8 * 2) = 16 by decide +kernel, if_pos (by decide), show wrap64 (shl .i64 1 16 - 1) = 2 ^ 16 - 1 by decide +kernel, i64_mask v 16 (by decide) (by omega) (by omega), show (256 : Int) ^ Int.toNat 2 = 2 ^ 16 by decide +kernel]
  · rw [show wrap64 (8 * 3) = 24 by decide +kernel, if_pos (by decide), show wrap64 (shl .i64 1 24 - 1) = 2 ^ 24 - 1 by decide +kernel, i64_mask v 24 (by decide) (by omega) (by omega), show (256 : Int) ^ Int.toNat 3 = 2 ^ 24 by decide +kernel]
  · rw [show wrap64 (8 * 4) = 32 by decide +kernel, if_pos (by decide), show wrap64 (shl .i64 1 32 - 1) = 2 ^ 32 - 1 by decide +kernel, i64_mask v 32 (by decide) (by omega) (by omega), show (256 : Int) ^ Int.toNat 4 = 2 ^ 32 by decide +kernel]
theorem iCut (v : Int) (n : Nat) (h0 : 0 ≤ v) (h1 : v ≤ 4611686018427387903) (n1 : 1 ≤ n) (n4 : n ≤ 4) : impl_CutNum.f v (n : Int) = some (cut v n) := by
  have H := iCutI v (n : Int) h0 h1 (by omega) (by omega)
  rw [Int.toNat_natCast] at H
  have e : impl_inVar.f v = some true := by
    unfold impl_inVar.f
    rw [if_pos (show v ≥ 0 by omega), decide_eq_true h1]
  unfold impl_CutNum.f cut
  rw [e]
  simp only [Option.bind_some, if_true]
  rw [if_neg (show ¬ (n : Int) < 1 by omega), if_neg (show ¬ (n : Int) > 4 by omega)]
  exact H
theorem some_ite (c : Prop) [Decidable c] (a b : Bool) : (if c then some a else some b) = some (if c then a else b) := by split <;> rfl
/-- What both ask of a header, behind its numbers. -/
def hkB (f v : Int) (s t : List Int) (p : Int) : Bool :=
  if f = 1 then (if decide (1 ≤ v ∧ v ≤ 4294967295) = true then (if (s.length : Int) ≤ 8 then (if (t.length : Int) ≤ 64 then (p == 0) else false) else false) else false)
  else (if f = 2 then (if decide (1 ≤ v ∧ v ≤ 4294967295) = true then (if (s.length : Int) ≤ 8 then (if (t.length : Int) = 0 then (p == 0) else false) else false) else false)
  else (if f = 4 then (if v = 0 then (if (s.length : Int) = 0 then (if (t.length : Int) = 0 then (if p = 0 then true else (p == 1)) else false) else false) else false) else false))
theorem hkB_facts {f v : Int} {s t : List Int} {p : Int} (h : hkB f v s t p = true) :
    (f = 1 ∧ 1 ≤ v ∧ v ≤ 4294967295 ∧ s.length ≤ 8 ∧ t.length ≤ 64 ∧ p = 0) ∨ (f = 2 ∧ 1 ≤ v ∧ v ≤ 4294967295 ∧ s.length ≤ 8 ∧ t.length = 0 ∧ p = 0) ∨ (f = 4 ∧ v = 0 ∧ s.length = 0 ∧ t.length = 0 ∧ (p = 0 ∨ p = 1)) := by
  unfold hkB at h
  by_cases f1 : f = 1
  · rw [if_pos f1] at h
    by_cases c1 : decide (1 ≤ v ∧ v ≤ 4294967295) = true
    · by_cases c2 : (s.length : Int) ≤ 8
      · by_cases c3 : (t.length : Int) ≤ 64
        · rw [if_pos c1, if_pos c2, if_pos c3, beq_iff_eq] at h
          have := of_decide_eq_true c1
          exact .inl ⟨f1, this.1, this.2, by omega, by omega, h⟩
        · rw [if_pos c1, if_pos c2, if_neg c3] at h; cases h
      · rw [if_pos c1, if_neg c2] at h; cases h
    · rw [if_neg c1] at h; cases h
  rw [if_neg f1] at h
  by_cases f2 : f = 2
  · rw [if_pos f2] at h
    by_cases c1 : decide (1 ≤ v ∧ v ≤ 4294967295) = true
    · by_cases c2 : (s.length : Int) ≤ 8
      · by_cases c3 : (t.length : Int) = 0
        · rw [if_pos c1, if_pos c2, if_pos c3, beq_iff_eq] at h
          have := of_decide_eq_true c1
          exact .inr (.inl ⟨f2, this.1, this.2, by omega, by omega, h⟩)
        · rw [if_pos c1, if_pos c2, if_neg c3] at h; cases h
      · rw [if_pos c1, if_neg c2] at h; cases h
    · rw [if_neg c1] at h; cases h
  rw [if_neg f2] at h
  by_cases f4 : f = 4
  · rw [if_pos f4] at h
    by_cases c1 : v = 0
    · by_cases c2 : (s.length : Int) = 0
      · by_cases c3 : (t.length : Int) = 0
        · rw [if_pos c1, if_pos c2, if_pos c3] at h
          by_cases c4 : p = 0
          · exact .inr (.inr ⟨f4, c1, by omega, by omega, .inl c4⟩)
          · rw [if_neg c4, beq_iff_eq] at h
            exact .inr (.inr ⟨f4, c1, by omega, by omega, .inr h⟩)
        · rw [if_pos c1, if_pos c2, if_neg c3] at h; cases h
      · rw [if_pos c1, if_neg c2] at h; cases h
    · rw [if_neg c1] at h; cases h
  · rw [if_neg f4] at h; cases h
theorem hdrOK (f v : Int) (d s t : List Int) (n q p : Int) : ∃ b, Ev (fun k => spec_l04HeaderOK.f k f v d s t n q p) b ∧ Ev (fun k => impl_headerOK.f k f v d s t n q p) b ∧
    (b = true → (0 ≤ n ∧ n ≤ 4611686018427387903 ∧ 1 ≤ q ∧ q ≤ 4 ∧ d.length ≤ 8) ∧ ((f = 1 ∧ 1 ≤ v ∧ v ≤ 4294967295 ∧ s.length ≤ 8 ∧ t.length ≤ 64 ∧ p = 0) ∨ (f = 2 ∧ 1 ≤ v ∧ v ≤ 4294967295 ∧ s.length ≤ 8 ∧ t.length = 0 ∧ p = 0) ∨ (f = 4 ∧ v = 0 ∧ s.length = 0 ∧ t.length = 0 ∧ (p = 0 ∨ p = 1)))) := by
  have sT : Ev (fun k => spec_l04HeaderOK.j0 k true f v d s t n q p) false := Ev.step (f := fun _ => some false) (fun k => by simp only [spec_l04HeaderOK.j0, if_true]) (Ev.now _)
  have iT : Ev (fun k => impl_headerOK.j0 k true f v d s t n q p) false := Ev.step (f := fun _ => some false) (fun k => by simp only [impl_headerOK.j0, if_true]) (Ev.now _)
  have sF : Ev (fun k => spec_l04HeaderOK.j0 k false f v d s t n q p) (hkB f v s t p) := Ev.step (f := fun _ => some (hkB f v s t p)) (fun k => by simp only [spec_l04HeaderOK.j0, Bool.false_eq_true, if_false, vSpec, Option.bind_some, some_ite]; rfl) (Ev.now _)
  have iF : Ev (fun k => impl_headerOK.j0 k false f v d s t n q p) (hkB f v s t p) := Ev.step (f := fun _ => some (hkB f v s t p)) (fun k => by simp only [impl_headerOK.j0, Bool.false_eq_true, if_false, vImpl, Option.bind_some, some_ite]; rfl) (Ev.now _)
  simp only [spec_l04HeaderOK.f, impl_headerOK.f, impl_inVar.f]
  by_cases c1 : n < 0
  · simp only [c1, show ¬ n ≥ 0 by omega, if_true, if_false, Option.bind_some, Bool.false_eq_true]; exact ⟨false, sT, iT, fun h => by cases h⟩
  by_cases c2 : n > 4611686018427387903
  · simp only [c1, c2, show n ≥ 0 by omega, show ¬ n ≤ 4611686018427387903 by omega, decide_false, if_true, if_false, Option.bind_some, Bool.false_eq_true]; exact ⟨false, sT, iT, fun h => by cases h⟩
  by_cases c3 : q < 1
  · simp only [c1, c2, c3, show n ≥ 0 by omega, show n ≤ 4611686018427387903 by omega, decide_true, if_true, if_false, Option.bind_some]; exact ⟨false, sT, iT, fun h => by cases h⟩
  by_cases c4 : q > 4
  · simp only [c1, c2, c3, c4, show n ≥ 0 by omega, show n ≤ 4611686018427387903 by omega, decide_true, if_true, if_false, Option.bind_some]; exact ⟨false, sT, iT, fun h => by cases h⟩
  by_cases c5 : (d.length : Int) > 8
  · simp only [c1, c2, c3, c4, c5, show n ≥ 0 by omega, show n ≤ 4611686018427387903 by omega, decide_true, if_true, if_false, Option.bind_some]; exact ⟨false, sT, iT, fun h => by cases h⟩
  · simp only [c1, c2, c3, c4, c5, show n ≥ 0 by omega, show n ≤ 4611686018427387903 by omega, decide_true, decide_false, if_true, if_false, Option.bind_some]
    have c3' : 1 ≤ q := by omega
    have c4' : q ≤ 4 := by omega
    exact ⟨_, sF, iF, fun h => ⟨⟨by first | trivial | omega, by first | trivial | omega, by first | trivial | omega, by first | trivial | omega, by first | trivial | omega⟩, hkB_facts h⟩⟩
theorem or64 (x : Int) (h0 : 0 ≤ x) (h1 : x < 64) : Go.bits .or .i64 64 x = 64 + x :=
  bits_join .i64 63 (by decide) wraps_i64 6 64 x (by omega) (by decide) (by decide) h0 (by omega) (by omega)
theorem dg2 (v : Int) : dg v 2 = [v / 256 % 256, v % 256] := by simp [dg]
theorem addCounted_ev (l m : List Int) (hl : l.length ≤ 1048576) (hm : m.length ≤ 1048576) : Ev (fun k => impl_addCounted.f k l m) (l ++ pv (m.length : Int) ++ m) := by
  have hp := pv_len (m.length : Int) (by omega)
  simp only [impl_addCounted.f]
  refine Ev.bind (addVar_ev l _ (by omega) (by omega) (by omega)) ?_
  rw [if_pos (by rw [List.length_append]; omega)]
  exact Ev.now _
/-- The head's bytes. -/
def hb (f v : Int) (d s t : List Int) (n : Int) (q : Nat) (p a : Int) : List Int :=
  if f = 4 then [((64 : Int) + 4 * p + (q : Int) - 1) % 256] ++ d ++ dg (cut n q) q
  else ([((192 : Int) + (if f = 2 then (32 : Int) else 0) + (q : Int) - 1) % 256] ++ dg v 4 ++ [(d.length : Int) % 256] ++ d ++ [(s.length : Int) % 256] ++ s) ++ (if f = 1 then pv (t.length : Int) ++ t else []) ++ dg (16384 + a + q) 2 ++ dg (cut n q) q
theorem headBytes_ev (f v : Int) (d s t : List Int) (n : Int) (q : Nat) (p a : Int) (F : (0 ≤ n ∧ n ≤ 4611686018427387903 ∧ 1 ≤ (q : Int) ∧ (q : Int) ≤ 4 ∧ d.length ≤ 8) ∧ ((f = 1 ∧ 1 ≤ v ∧ v ≤ 4294967295 ∧ s.length ≤ 8 ∧ t.length ≤ 64 ∧ p = 0) ∨ (f = 2 ∧ 1 ≤ v ∧ v ≤ 4294967295 ∧ s.length ≤ 8 ∧ t.length = 0 ∧ p = 0) ∨ (f = 4 ∧ v = 0 ∧ s.length = 0 ∧ t.length = 0 ∧ (p = 0 ∨ p = 1)))) (h8 : 8 ≤ a) (h1508 : a ≤ 1508) :
    Ev (fun k => impl_headBytes.f k f v d s t n q p a) (hb f v d s t n q p a) ∧ (hb f v d s t n q p a).length ≤ 200 := by
  obtain ⟨⟨n0, n1, q1, q4, hd⟩, G⟩ := F
  have hc := cut_range n q (by omega)
  have hp := pv_len (t.length : Int) (by omega)
  have e2 : dg (16384 + a + q) 2 = [(Go.bits .or .i64 64 ((q + a) / 256)) % 256, (q + a) % 256] := by
    rw [dg2, or64 _ (by omega) (by omega), show (16384 + a + (q : Int)) / 256 % 256 = (64 + ((q : Int) + a) / 256) % 256 by omega, show (16384 + a + (q : Int)) % 256 = ((q : Int) + a) % 256 by omega]
  rcases G with ⟨rfl, v1, v2, hs, ht, rfl⟩ | ⟨rfl, v1, v2, hs, ht, rfl⟩ | ⟨rfl, rfl, hs, ht, hp01⟩
  · refine ⟨?_, by simp [hb, dg_length]; omega⟩
    simp only [impl_headBytes.f, show ¬ ((1 : Int) = 4) by decide, show ¬ ((1 : Int) = 2) by decide, if_false]
    refine Ev.step (fun k => rfl) ?_
    simp only [impl_headBytes.j0, show wrap64 (16 * 0) = 0 by decide +kernel, show wrap64 (192 + 0) = 192 by decide +kernel, w64 (x := 192 + (q : Int)) (by omega) (by omega), w64 (x := 192 + (q : Int) - 1) (by omega) (by omega), w64 (x := (q : Int) + a) (by omega) (by omega), if_true, Option.bind_some, iCut n q n0 n1 (by omega) (by omega)]
    refine Ev.bind (longBegin_ev _ v d s (by omega) (by omega) (by omega) (by omega)) ?_
    refine Ev.bind (addCounted_ev _ t (by simp [dg_length]; omega) (by omega)) ?_
    refine Ev_ite (fun _ => ?_) (fun c => absurd (by simp [dg_length]; omega) c)
    refine Ev.bind (fixed_ev _ q _ (by omega) (by omega) (by omega) (by simp [dg_length]; omega)) ?_
    refine Ev_now ?_
    simp only [hb, e2, show ¬ ((1 : Int) = 4) by decide, show ¬ ((1 : Int) = 2) by decide, if_true, if_false, Int.add_zero, List.append_assoc]
  · refine ⟨?_, by simp [hb, dg_length]; omega⟩
    simp only [impl_headBytes.f, show ¬ ((2 : Int) = 4) by decide, if_true, if_false]
    refine Ev.step (fun k => rfl) ?_
    simp only [impl_headBytes.j0, show wrap64 (16 * 2) = 32 by decide +kernel, show wrap64 (192 + 32) = 224 by decide +kernel, w64 (x := 224 + (q : Int)) (by omega) (by omega), w64 (x := 224 + (q : Int) - 1) (by omega) (by omega), w64 (x := (q : Int) + a) (by omega) (by omega), show ¬ ((2 : Int) = 1) by decide, if_false, Option.bind_some, iCut n q n0 n1 (by omega) (by omega)]
    refine Ev.bind (longBegin_ev _ v d s (by omega) (by omega) (by omega) (by omega)) ?_
    refine Ev_ite (fun _ => ?_) (fun c => absurd (by simp [dg_length]; omega) c)
    refine Ev.bind (fixed_ev _ q _ (by omega) (by omega) (by omega) (by simp [dg_length]; omega)) ?_
    refine Ev_now ?_
    simp only [hb, e2, show ¬ ((2 : Int) = 4) by decide, show ¬ ((2 : Int) = 1) by decide, if_true, if_false, List.append_assoc, List.nil_append, show (192 : Int) + 32 = 224 by decide]
  · refine ⟨?_, by simp [hb, dg_length]; omega⟩
    simp only [impl_headBytes.f, if_true, w64 (x := 4 * p) (by omega) (by omega), w64 (x := 64 + 4 * p) (by omega) (by omega), w64 (x := 64 + 4 * p + (q : Int)) (by omega) (by omega), w64 (x := 64 + 4 * p + (q : Int) - 1) (by omega) (by omega), Option.bind_some, iCut n q n0 n1 (by omega) (by omega)]
    refine Ev_ite (fun _ => ?_) (fun c => absurd (by simp; omega) c)
    refine Ev.bind (fixed_ev _ q _ (by omega) (by omega) (by omega) (by simp; omega)) ?_
    refine Ev_now ?_
    simp only [hb, if_true, List.append_assoc]
theorem sHeadBytes_ev (f v : Int) (d s t : List Int) (n : Int) (q : Nat) (p a : Int) (F : (0 ≤ n ∧ n ≤ 4611686018427387903 ∧ 1 ≤ (q : Int) ∧ (q : Int) ≤ 4 ∧ d.length ≤ 8) ∧ ((f = 1 ∧ 1 ≤ v ∧ v ≤ 4294967295 ∧ s.length ≤ 8 ∧ t.length ≤ 64 ∧ p = 0) ∨ (f = 2 ∧ 1 ≤ v ∧ v ≤ 4294967295 ∧ s.length ≤ 8 ∧ t.length = 0 ∧ p = 0) ∨ (f = 4 ∧ v = 0 ∧ s.length = 0 ∧ t.length = 0 ∧ (p = 0 ∨ p = 1)))) (h8 : 8 ≤ a) (h1508 : a ≤ 1508) :
    Ev (fun k => spec_HeadBytes.j0 k a false f v d s t n q p) (hb f v d s t n q p a, 0) := by
  obtain ⟨⟨n0, n1, q1, q4, hd⟩, G⟩ := F
  have hc := cut_range n q (by omega)
  have hp := pv_len (t.length : Int) (by omega)
  refine Ev.step (fun k => rfl) ?_
  simp only [spec_HeadBytes.j0, Bool.false_eq_true, if_false, Option.bind_some]
  rcases G with ⟨rfl, v1, v2, hs, ht, rfl⟩ | ⟨rfl, v1, v2, hs, ht, rfl⟩ | ⟨rfl, rfl, hs, ht, hp01⟩
  · simp only [show ¬ ((1 : Int) = 4) by decide, show ¬ ((1 : Int) = 2) by decide, if_false]
    refine Ev.step (fun k => rfl) ?_
    simp only [spec_HeadBytes.j1, show wrap64 (16 * 0) = 0 by decide +kernel, show wrap64 (192 + 0) = 192 by decide +kernel, w64 (x := 192 + (q : Int)) (by omega) (by omega), w64 (x := 192 + (q : Int) - 1) (by omega) (by omega), w64 (x := 16384 + a) (by omega) (by omega), w64 (x := 16384 + a + (q : Int)) (by omega) (by omega), if_true, Option.bind_some, List.length_nil, show 0 < 140737488355328 by decide, List.nil_append]
    refine Ev.bind (l04Ids_ev v d s (by omega) (by omega) (by omega) (by omega)) ?_
    refine Ev_ite (fun _ => ?_) (fun c => absurd (by simp [dg_length]; omega) c)
    refine Ev.bind (specPutVar_ev _ (by omega) (by omega)) ?_
    refine Ev_ite (fun _ => ?_) (fun c => absurd (by simp [dg_length]; omega) c)
    refine Ev_ite (fun _ => ?_) (fun c => absurd (by simp [dg_length]; omega) c)
    refine Ev.bind (digits_ev 2 _ (by omega) (by omega) (by omega)) ?_
    refine Ev_ite (fun _ => ?_) (fun c => absurd (by simp [dg_length]; omega) c)
    refine Ev.bind (sCut_ev n q n0 n1 (by omega) (by omega)) ?_
    refine Ev.bind (digits_ev q _ (by omega) (by omega) (by omega)) ?_
    refine Ev_ite (fun _ => ?_) (fun c => absurd (by simp [dg_length]; omega) c)
    refine Ev_now ?_
    simp only [hb, show ¬ ((1 : Int) = 4) by decide, show ¬ ((1 : Int) = 2) by decide, if_true, if_false, Int.add_zero, List.append_assoc]
  · simp only [show ¬ ((2 : Int) = 4) by decide, if_true, if_false]
    refine Ev.step (fun k => rfl) ?_
    simp only [spec_HeadBytes.j1, show wrap64 (16 * 2) = 32 by decide +kernel, show wrap64 (192 + 32) = 224 by decide +kernel, w64 (x := 224 + (q : Int)) (by omega) (by omega), w64 (x := 224 + (q : Int) - 1) (by omega) (by omega), w64 (x := 16384 + a) (by omega) (by omega), w64 (x := 16384 + a + (q : Int)) (by omega) (by omega), show ¬ ((2 : Int) = 1) by decide, if_true, if_false, Option.bind_some, List.length_nil, show 0 < 140737488355328 by decide, List.nil_append]
    refine Ev.bind (l04Ids_ev v d s (by omega) (by omega) (by omega) (by omega)) ?_
    refine Ev_ite (fun _ => ?_) (fun c => absurd (by simp [dg_length]; omega) c)
    refine Ev.bind (digits_ev 2 _ (by omega) (by omega) (by omega)) ?_
    refine Ev_ite (fun _ => ?_) (fun c => absurd (by simp [dg_length]; omega) c)
    refine Ev.bind (sCut_ev n q n0 n1 (by omega) (by omega)) ?_
    refine Ev.bind (digits_ev q _ (by omega) (by omega) (by omega)) ?_
    refine Ev_ite (fun _ => ?_) (fun c => absurd (by simp [dg_length]; omega) c)
    refine Ev_now ?_
    simp only [hb, show ¬ ((2 : Int) = 4) by decide, show ¬ ((2 : Int) = 1) by decide, if_true, if_false, List.append_assoc, List.nil_append, show (192 : Int) + 32 = 224 by decide]
  · simp only [if_true, List.length_nil, show 0 < 140737488355328 by decide, List.nil_append, w64 (x := 4 * p) (by omega) (by omega), w64 (x := 64 + 4 * p) (by omega) (by omega), w64 (x := 64 + 4 * p + (q : Int)) (by omega) (by omega), w64 (x := 64 + 4 * p + (q : Int) - 1) (by omega) (by omega), Option.bind_some]
    refine Ev_ite (fun _ => ?_) (fun c => absurd (by simp; omega) c)
    refine Ev.bind (sCut_ev n q n0 n1 (by omega) (by omega)) ?_
    refine Ev.bind (digits_ev q _ (by omega) (by omega) (by omega)) ?_
    refine Ev_ite (fun _ => ?_) (fun c => absurd (by simp [dg_length]; omega) c)
    refine Ev_now ?_
    simp only [hb, if_true, List.append_assoc]
/-- Both answer, and the same. -/
theorem both (f v : Int) (d s t : List Int) (n q p a : Int) : ∃ w e, Ev (fun k => spec_HeadBytes.f k f v d s t n q p a) (w, e) ∧ Ev (fun k => impl_HeadBytes.f k f v d s t n q p a) (w, e) ∧ w.length ≤ 200 := by
  have yes : Ev (fun k => spec_HeadBytes.j0 k a true f v d s t n q p) ([], 1) := Ev.step (f := fun _ => some ([], 1)) (fun k => by simp only [spec_HeadBytes.j0, if_true]) (Ev.now _)
  obtain ⟨b, hs, hi, F⟩ := hdrOK f v d s t n q p
  simp only [spec_HeadBytes.f, impl_HeadBytes.f]
  cases b with
  | false => exact ⟨[], 1, Ev.bind hs (by simp only [Bool.false_eq_true, if_false]; exact yes), Ev.bind hi (by simp only [Bool.false_eq_true, if_false]; exact Ev.now _), by simp⟩
  | true =>
    have F := F rfl
    by_cases c1 : a < 8
    · exact ⟨[], 1, Ev.bind hs (by simp only [c1, if_true]; exact yes), Ev.bind hi (by simp only [c1, if_true]; exact Ev.now _), by simp⟩
    by_cases c2 : a > 1508
    · exact ⟨[], 1, Ev.bind hs (by simp only [c1, c2, if_true, if_false, decide_true]; exact yes), Ev.bind hi (by simp only [c1, c2, if_true, if_false]; exact Ev.now _), by simp⟩
    obtain ⟨m, rfl⟩ : ∃ m : Nat, q = m := ⟨q.toNat, by omega⟩
    have H := headBytes_ev f v d s t n m p a F (by omega) (by omega)
    refine ⟨hb f v d s t n m p a, 0, Ev.bind hs (by simp only [c1, c2, if_true, if_false, decide_false]; exact sHeadBytes_ev f v d s t n m p a F (by omega) (by omega)), Ev.bind hi ?_, H.2⟩
    simp only [c1, c2, if_true, if_false]
    exact Ev.bind H.1 (Ev.now _)

theorem FnExactHeadBytes (f v : Int) (d s t : List Int) (n q p a : Int) (qf : (Lit.int .i64 f).wf = true) (qv : (Lit.int .i64 v).wf = true) (qd : d.length ≤ maxLen ∧ ∀ x ∈ d, (Lit.int .u8 x).wf = true) (qs : s.length ≤ maxLen ∧ ∀ x ∈ s, (Lit.int .u8 x).wf = true) (qt : t.length ≤ maxLen ∧ ∀ x ∈ t, (Lit.int .u8 x).wf = true) (qn : (Lit.int .i64 n).wf = true) (qq : (Lit.int .i64 q).wf = true) (qp : (Lit.int .i64 p).wf = true) (qa : (Lit.int .i64 a).wf = true) : ∃ k, laws_FnExactHeadBytes.f k f v d s t n q p a = some true := by
  refine Ev.rounds (g := fun k => laws_FnExactHeadBytes.f k f v d s t n q p a) ?_
  simp only [laws_FnExactHeadBytes.f]
  obtain ⟨z, hz, hz'⟩ := szHeader_ev f v d s t n q p 1048576 (by decide) (by decide) qd.1 qs.1 qt.1
  simp only [hz, Option.bind_some]
  refine Ev_ite (fun _ => Ev.now _) (fun c1 => ?_)
  obtain ⟨zd, zs, zt⟩ := hz'.resolve_left c1
  obtain ⟨w, e, hs, hi, hw⟩ := both f v d s t n q p a
  repeat' first
    | exact Ev.now _
    | refine Ev.bind hs ?_
    | refine Ev.bind hi ?_
    | refine Ev.bind (toHeader_ev f v d s t n q p zd zs zt) ?_
    | refine Ev.bind (eqHeader_ev f v d s t n q p zd zs zt) ?_
    | refine Ev.bind (markHeader_ev f v d s t n q p _ (by omega) (by omega) zd zs zt) ?_
    | refine Ev.bind (toByteS_ev _ (by omega)) ?_
    | refine Ev.bind (eqByteS_ev _ (by omega)) ?_
    | refine Ev.bind (markByteS_ev _ _ (by omega) (by omega)) ?_
    | refine Ev.bind (heldByteS_ev _ _ (by omega) (by omega)) ?_
    | simp only [if_true, if_false, bne_self_eq_false, Bool.false_eq_true, Bool.not_true, marks_length]
    | (refine Ev.step (fun k => rfl) ?_; simp only [laws_FnExactHeadBytes.j0, laws_FnExactHeadBytes.j1, laws_FnExactHeadBytes.j2])
    | refine Ev_ite (fun c => absurd c (by omega)) (fun _ => ?_)

end Go.Proofs.Ytdojcdhlcnlohaa.Pure
