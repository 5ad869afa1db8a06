/- For all bytes: the program's GetVars and the reference's tell the same numbers and code. -/
import Derived.Test.YtdojcdhlcnlohaaSFnExactGetVarsx5
import Derived.Test.YtdojcdhlcnlohaaMath
namespace Go.Proofs.Ytdojcdhlcnlohaa.Pure
open Go.RowKit Go.Proofs.Ytdojcdhlcnlohaa.SFnExactGetVars Go.Proofs.YtdojcdhlcnlohaaW.PrintWords Go.Proofs.YtdojcdhlcnlohaaW.PrintLast Go.Proofs.YtdojcdhlcnlohaaW.PrintMore Go.Proofs.Ytdojcdhlcnlohaa.Math
set_option linter.unusedVariables false
set_option linter.unusedSimpArgs false

theorem toByteS_loop (l : List Int) (hl : l.length ≤ 281474976710656) (n : Nat) : ∀ (x : List Int) (i : Nat), l.length - i = n → i ≤ l.length → x.length = l.length → (∀ j, j < i → x[j]? = l[j]?) → Ev (fun k => laws_toByteS.l0 k l x (i : Int)) l := by
  induction n with
  | zero =>
    intro x i hn hi hx h
    refine Ev.step (fun k => rfl) ?_
    simp only [laws_toByteS.l0, show ¬ ((i : Int) < (l.length : Int)) by omega, if_false]
    exact Ev_now (prefix_all hx (fun j hj => h j (by omega)))
  | succ n ih =>
    intro x i hn hi hx h
    have hil : i < l.length := by omega
    have H := ih (x.set i (rd l (i : Int))) (i + 1) (by omega) (by omega) (by rw [List.length_set]; exact hx) (set_prefix hx (rd_get l hil) h)
    refine Ev.step (fun k => rfl) ?_
    simp only [laws_toByteS.l0, show ((i : Int) < (l.length : Int)) by omega, show (0 : Int) ≤ (i : Int) by omega, show ((i : Int) < (x.length : Int)) by omega, if_true, Int.toNat_natCast, next64 (show i < 4611686018427387904 by omega)]
    exact H
theorem toByteS_ev (l : List Int) (hl : l.length ≤ 281474976710656) : Ev (fun k => laws_toByteS.f k l) l := by
  simp only [laws_toByteS.f, show (0 : Int) ≤ (l.length : Int) by omega, if_true, Int.toNat_natCast, hl]
  exact toByteS_loop l hl l.length _ 0 (by omega) (by omega) (by simp) (fun j hj => by omega)
theorem eqByteS_loop (l : List Int) (hl : l.length ≤ 281474976710656) (n : Nat) : ∀ (i : Nat), l.length - i = n → i ≤ l.length → Ev (fun k => laws_eqByteS.l0 k l l (i : Int)) true := by
  induction n with
  | zero =>
    intro i hn hi
    refine Ev.step (fun k => rfl) ?_
    simp only [laws_eqByteS.l0, show ¬ ((i : Int) < (l.length : Int)) by omega, if_false]
    exact Ev.now _
  | succ n ih =>
    intro i hn hi
    have H := ih (i + 1) (by omega) (by omega)
    refine Ev.step (fun k => rfl) ?_
    simp only [laws_eqByteS.l0, show ((i : Int) < (l.length : Int)) by omega, show (0 : Int) ≤ (i : Int) by omega, if_true, next64 (show i < 4611686018427387904 by omega)]
    exact H
theorem eqByteS_ev (l : List Int) (hl : l.length ≤ 281474976710656) : Ev (fun k => laws_eqByteS.f k l l) true := by
  simp only [laws_eqByteS.f, if_true]
  exact eqByteS_loop l hl l.length 0 (by omega) (by omega)
theorem markByteS_loop (m : Int) (N : Nat) (hm : 0 ≤ m) (hN : m + N ≤ 4611686018427387903) (n : Nat) : ∀ (x : List Int) (i : Nat), N - i = n → i ≤ N → x.length = N → (∀ j, j < i → x[j]? = (marks m N)[j]?) → Ev (fun k => laws_markByteS.l0 k x (m + i) (i : Int)) (m + N, marks m N) := by
  induction n with
  | zero =>
    intro x i hn hi hx h
    obtain rfl : i = N := by omega
    refine Ev.step (fun k => rfl) ?_
    simp only [laws_markByteS.l0, show ¬ ((i : Int) < (x.length : Int)) by omega, if_false]
    exact Ev_now (by rw [prefix_all (l := marks m i) (by rw [marks_length, hx]) (fun j hj => h j (by rw [marks_length] at hj; exact hj))])
  | succ n ih =>
    intro x i hn hi hx h
    have H := ih (x.set i ((m + i) % 256)) (i + 1) (by omega) (by omega) (by rw [List.length_set]; exact hx) (set_prefix (by rw [marks_length, hx]) (marks_get m (by omega)) h)
    rw [show m + ((i + 1 : Nat) : Int) = m + i + 1 by omega] at H
    refine Ev.step (fun k => rfl) ?_
    simp only [laws_markByteS.l0, show ((i : Int) < (x.length : Int)) by omega, show (0 : Int) ≤ (i : Int) by omega, if_true, Int.toNat_natCast, next64 (show i < 4611686018427387904 by omega), w64 (x := m + i + 1) (by omega) (by omega)]
    exact H
theorem markByteS_ev (x : List Int) (m : Int) (hm : 0 ≤ m) (hN : m + x.length ≤ 4611686018427387903) : Ev (fun k => laws_markByteS.f k x m) (m + x.length, marks m x.length) := by
  have H := markByteS_loop m x.length hm hN x.length x 0 (by omega) (by omega) rfl (fun j hj => by omega)
  rw [show m + ((0 : Nat) : Int) = m by omega] at H
  simp only [laws_markByteS.f]
  exact H
theorem eqIntS_loop (l : List Int) (hl : l.length ≤ 281474976710656) (n : Nat) : ∀ (i : Nat), l.length - i = n → i ≤ l.length → Ev (fun k => laws_eqIntS.l0 k l l (i : Int)) true := by
  induction n with
  | zero =>
    intro i hn hi
    refine Ev.step (fun k => rfl) ?_
    simp only [laws_eqIntS.l0, show ¬ ((i : Int) < (l.length : Int)) by omega, if_false]
    exact Ev.now _
  | succ n ih =>
    intro i hn hi
    have H := ih (i + 1) (by omega) (by omega)
    refine Ev.step (fun k => rfl) ?_
    simp only [laws_eqIntS.l0, show ((i : Int) < (l.length : Int)) by omega, show (0 : Int) ≤ (i : Int) by omega, if_true, next64 (show i < 4611686018427387904 by omega)]
    exact H
theorem eqIntS_ev (l : List Int) (hl : l.length ≤ 281474976710656) : Ev (fun k => laws_eqIntS.f k l l) true := by
  simp only [laws_eqIntS.f, if_true]
  exact eqIntS_loop l hl l.length 0 (by omega) (by omega)
theorem markIntS_loop (m : Int) (N : Nat) (hm : 0 ≤ m) (hN : m + N ≤ 4611686018427387903) (n : Nat) : ∀ (x : List Int) (i : Nat), N - i = n → i ≤ N → x.length = N → (∀ j, j < i → x[j]? = (marksI m N)[j]?) → Ev (fun k => laws_markIntS.l0 k x (m + i) (i : Int)) (m + N, marksI m N) := by
  induction n with
  | zero =>
    intro x i hn hi hx h
    obtain rfl : i = N := by omega
    refine Ev.step (fun k => rfl) ?_
    simp only [laws_markIntS.l0, show ¬ ((i : Int) < (x.length : Int)) by omega, if_false]
    exact Ev_now (by rw [prefix_all (l := marksI m i) (by rw [marksI_length, hx]) (fun j hj => h j (by rw [marksI_length] at hj; exact hj))])
  | succ n ih =>
    intro x i hn hi hx h
    have H := ih (x.set i (m + i)) (i + 1) (by omega) (by omega) (by rw [List.length_set]; exact hx) (set_prefix (by rw [marksI_length, hx]) (marksI_get m (by omega)) h)
    rw [show m + ((i + 1 : Nat) : Int) = m + i + 1 by omega] at H
    refine Ev.step (fun k => rfl) ?_
    simp only [laws_markIntS.l0, show ((i : Int) < (x.length : Int)) by omega, show (0 : Int) ≤ (i : Int) by omega, if_true, Int.toNat_natCast, next64 (show i < 4611686018427387904 by omega), w64 (x := m + i + 1) (by omega) (by omega)]
    exact H
theorem markIntS_ev (x : List Int) (m : Int) (hm : 0 ≤ m) (hN : m + x.length ≤ 4611686018427387903) : Ev (fun k => laws_markIntS.f k x m) (m + x.length, marksI m x.length) := by
  have H := markIntS_loop m x.length hm hN x.length x 0 (by omega) (by omega) rfl (fun j hj => by omega)
  rw [show m + ((0 : Nat) : Int) = m by omega] at H
  simp only [laws_markIntS.f]
  exact H
theorem heldIntS_loop (m : Int) (N : Nat) (hm : 0 ≤ m) (hN : m + N ≤ 4611686018427387903) (n : Nat) : ∀ (i : Nat), N - i = n → i ≤ N → Ev (fun k => laws_heldIntS.l0 k (marksI m N) (m + i) (i : Int)) (m + N) := by
  induction n with
  | zero =>
    intro i hn hi
    obtain rfl : i = N := by omega
    refine Ev.step (fun k => rfl) ?_
    simp only [laws_heldIntS.l0, marksI_length, show ¬ ((i : Int) < (i : Int)) by omega, if_false]
    exact Ev.now _
  | succ n ih =>
    intro i hn hi
    have H := ih (i + 1) (by omega) (by omega)
    rw [show m + ((i + 1 : Nat) : Int) = m + i + 1 by omega] at H
    refine Ev.step (fun k => rfl) ?_
    simp only [laws_heldIntS.l0, marksI_length, show ((i : Int) < (N : Int)) by omega, show (0 : Int) ≤ (i : Int) by omega, rd_some (marksI_get m (show i < N by omega)), if_true, next64 (show i < 4611686018427387904 by omega), w64 (x := m + i + 1) (by omega) (by omega)]
    exact H
theorem heldIntS_ev (n : Nat) (m : Int) (hm : 0 ≤ m) (hN : m + n ≤ 4611686018427387903) : Ev (fun k => laws_heldIntS.f k (marksI m n) m) (m + n) := by
  have H := heldIntS_loop m n hm hN n 0 (by omega) (by omega)
  rw [show m + ((0 : Nat) : Int) = m by omega] at H
  simp only [laws_heldIntS.f]
  exact H
theorem digits_ev (n : Nat) : ∀ v : Int, n ≤ 64 → 0 ≤ v → v ≤ 9223372036854775807 → Ev (fun k => spec_l01Digits.f k v (n : Int)) (dg v n) := by
  induction n with
  | zero =>
    intro v hn h0 h1
    refine Ev.step (fun k => rfl) ?_
    simp only [spec_l01Digits.f, show ((0 : Nat) : Int) = 0 from rfl, if_true]
    exact Ev.now _
  | succ n ih =>
    intro v hn h0 h1
    have H := ih (v / 256) (by omega) (by omega) (by omega)
    refine Ev.step (fun k => rfl) ?_
    simp only [spec_l01Digits.f, show ¬ (((n + 1 : Nat) : Int) = 0) by omega, if_false, tdiv_nn h0, tmod_nn h0, w64 (x := v / 256) (by omega) (by omega), show ((n + 1 : Nat) : Int) - 1 = (n : Int) by omega, w64 (x := (n : Int)) (by omega) (by omega)]
    refine Ev.bind H ?_
    simp only [dg_length, show n < 140737488355328 by omega, if_true]
    exact Ev_now (by rw [dg_snoc v h0 n, Int.emod_emod])
/-- How many bytes a number takes. -/
def vl (v : Int) : Nat := if v < 64 then 1 else if v < 16384 then 2 else if v < 1073741824 then 4 else 8
theorem vl_cases (v : Int) (h1 : v ≤ 4611686018427387903) : (vl v = 1 ∧ v < 64) ∨ (vl v = 2 ∧ v < 16384) ∨ (vl v = 4 ∧ v < 1073741824) ∨ (vl v = 8 ∧ v < 4611686018427387904) := by
  unfold vl
  by_cases a : v < 64
  · rw [if_pos a]; exact .inl ⟨rfl, a⟩
  by_cases b : v < 16384
  · rw [if_neg a, if_pos b]; exact .inr (.inl ⟨rfl, b⟩)
  by_cases c : v < 1073741824
  · rw [if_neg a, if_neg b, if_pos c]; exact .inr (.inr (.inl ⟨rfl, c⟩))
  · rw [if_neg a, if_neg b, if_neg c]; exact .inr (.inr (.inr ⟨rfl, by omega⟩))
theorem implVarLen (v : Int) (h0 : 0 ≤ v) (h1 : v ≤ 4611686018427387903) : impl_VarLen.f v = some (vl v : Int) := by
  unfold vl
  simp only [impl_VarLen.f, impl_inVar.f, show v ≥ 0 from h0, if_true, decide_eq_true h1, Option.bind_some]
  by_cases a : v < 64
  · simp only [a, if_true]; rfl
  by_cases b : v < 16384
  · simp only [a, b, if_true, if_false]; rfl
  by_cases c : v < 1073741824
  · simp only [a, b, c, if_true, if_false]; rfl
  · simp only [a, b, c, if_false]; rfl
def vmark (n : Int) : Int := if n = 2 then 64 else if n = 4 then 128 else if n = 8 then 192 else 0
/-- A number's bytes: as few as can be, the first one marked. -/
def pv (v : Int) : List Int := (v / 256 ^ (vl v - 1) % 256 + vmark (vl v)) :: dg v (vl v - 1)
theorem pv_length (v : Int) (h1 : v ≤ 4611686018427387903) : (pv v).length = vl v := by
  have := vl_cases v h1
  simp only [pv, List.length_cons, dg_length]
  omega
theorem pv_len (v : Int) (h1 : v ≤ 4611686018427387903) : 1 ≤ (pv v).length ∧ (pv v).length ≤ 8 := by
  rw [pv_length v h1]
  have := vl_cases v h1
  omega
theorem dg_vl (v : Int) (h1 : v ≤ 4611686018427387903) : dg v (vl v) = (v / 256 ^ (vl v - 1) % 256) :: dg v (vl v - 1) := by
  have h : vl v = (vl v - 1) + 1 := by have := vl_cases v h1; omega
  rw [h]; rfl
theorem top_small (v : Int) (h0 : 0 ≤ v) (h1 : v ≤ 4611686018427387903) : 0 ≤ v / 256 ^ (vl v - 1) % 256 ∧ v / 256 ^ (vl v - 1) % 256 < 64 := by
  rcases vl_cases v h1 with ⟨e, h⟩ | ⟨e, h⟩ | ⟨e, h⟩ | ⟨e, h⟩ <;> rw [e] <;> simp <;> omega
theorem bits_or_comm (k : IntKind) (a b : Int) : Go.bits .or k a b = Go.bits .or k b a := by
  show k.wrap ((BitVec.ofInt k.bits a ||| BitVec.ofInt k.bits b).toNat : Int) = k.wrap ((BitVec.ofInt k.bits b ||| BitVec.ofInt k.bits a).toNat : Int)
  rw [BitVec.or_comm]
theorem vmark_vl (v : Int) (h1 : v ≤ 4611686018427387903) : vmark (vl v) = 0 ∨ vmark (vl v) = 64 ∨ vmark (vl v) = 128 ∨ vmark (vl v) = 192 := by
  rcases vl_cases v h1 with ⟨e, h⟩ | ⟨e, h⟩ | ⟨e, h⟩ | ⟨e, h⟩ <;> rw [e] <;> decide
theorem or_mark (d m : Int) (h0 : 0 ≤ d) (h1 : d < 64) (hm : m = 0 ∨ m = 64 ∨ m = 128 ∨ m = 192) : Go.bits .or .u8 d m = d + m := by
  rw [bits_or_comm, bits_join .u8 8 (by decide) wraps_u8 6 m d (by omega) (by omega) (by omega) h0 (by omega) (by omega)]
  omega
theorem specVarLen_ev (v : Int) (h0 : 0 ≤ v) (h1 : v ≤ 4611686018427387903) : Ev (fun k => spec_VarLen.f k v) (vl v : Int) := by
  unfold vl
  simp only [spec_VarLen.f, show ¬ v < 0 by omega, if_false, show decide (v > 4611686018427387903) = false from decide_eq_false (by omega)]
  refine Ev.step (fun k => rfl) ?_
  simp only [spec_VarLen.j0, Bool.false_eq_true, if_false]
  by_cases a : v < 64
  · simp only [a, show v ≤ 63 by omega, if_true]; exact Ev.now _
  by_cases b : v < 16384
  · simp only [a, b, show ¬ v ≤ 63 by omega, show v ≤ 16383 by omega, if_true, if_false]; exact Ev.now _
  by_cases c : v < 1073741824
  · simp only [a, b, c, show ¬ v ≤ 63 by omega, show ¬ v ≤ 16383 by omega, show v ≤ 1073741823 by omega, if_true, if_false]; exact Ev.now _
  · simp only [a, b, c, show ¬ v ≤ 63 by omega, show ¬ v ≤ 16383 by omega, show ¬ v ≤ 1073741823 by omega, if_false]; exact Ev.now _
theorem specVarLen_bad (v : Int) (h : v < 0 ∨ v > 4611686018427387903) : Ev (fun k => spec_VarLen.f k v) 0 := by
  have yes : Ev (fun k => spec_VarLen.j0 k v true) 0 := Ev.step (f := fun _ => some 0) (fun k => by simp only [spec_VarLen.j0, if_true]) (Ev.now _)
  simp only [spec_VarLen.f]
  refine Ev_ite (fun _ => yes) (fun c => ?_)
  rw [decide_eq_true (by omega)]
  exact yes
theorem put_loop (b : List Int) (hb : 0 < b.length) (n : Int) (hn : n = 1 ∨ n = 2 ∨ n = 4 ∨ n = 8) : Ev (fun k => spec_PutVar.l0 k n b 0 1) (b.set 0 ((rd b 0 + vmark n) % 256), 0) := by
  have e0 : ∀ x : Int, Ev (fun k => spec_PutVar.l0 k n b x n) (b.set 0 ((rd b 0 + wrap64 (64 * x) % 256) % 256), 0) := by
    intro x
    refine Ev.step (fun k => rfl) ?_
    simp only [spec_PutVar.l0, show ¬ n < n by omega, if_false, show (0 : Int) < (b.length : Int) by omega, if_true]
    exact Ev.now _
  rcases hn with rfl | rfl | rfl | rfl
  · exact (show wrap64 (64 * 0) % 256 = vmark 1 by decide +kernel) ▸ e0 0
  · refine Ev.step (fun k => rfl) ?_
    simp only [spec_PutVar.l0, show (1 : Int) < 2 by decide, if_true, show wrap64 (0 + 1) = 1 by decide +kernel, show wrap64 (2 * 1) = 2 by decide +kernel]
    exact (show wrap64 (64 * 1) % 256 = vmark 2 by decide +kernel) ▸ e0 1
  · refine Ev.step (fun k => rfl) ?_
    simp only [spec_PutVar.l0, show (1 : Int) < 4 by decide, if_true, show wrap64 (0 + 1) = 1 by decide +kernel, show wrap64 (2 * 1) = 2 by decide +kernel]
    refine Ev.step (fun k => rfl) ?_
    simp only [spec_PutVar.l0, show (2 : Int) < 4 by decide, if_true, show wrap64 (1 + 1) = 2 by decide +kernel, show wrap64 (2 * 2) = 4 by decide +kernel]
    exact (show wrap64 (64 * 2) % 256 = vmark 4 by decide +kernel) ▸ e0 2
  · refine Ev.step (fun k => rfl) ?_
    simp only [spec_PutVar.l0, show (1 : Int) < 8 by decide, if_true, show wrap64 (0 + 1) = 1 by decide +kernel, show wrap64 (2 * 1) = 2 by decide +kernel]
    refine Ev.step (fun k => rfl) ?_
    simp only [spec_PutVar.l0, show (2 : Int) < 8 by decide, if_true, show wrap64 (1 + 1) = 2 by decide +kernel, show wrap64 (2 * 2) = 4 by decide +kernel]
    refine Ev.step (fun k => rfl) ?_
    simp only [spec_PutVar.l0, show (4 : Int) < 8 by decide, if_true, show wrap64 (2 + 1) = 3 by decide +kernel, show wrap64 (2 * 4) = 8 by decide +kernel]
    exact (show wrap64 (64 * 3) % 256 = vmark 8 by decide +kernel) ▸ e0 3
theorem specPutVar_ev (v : Int) (h0 : 0 ≤ v) (h1 : v ≤ 4611686018427387903) : Ev (fun k => spec_PutVar.f k v) (pv v, 0) := by
  have hv := vl_cases v h1
  have ht := top_small v h0 h1
  have hm := vmark_vl v h1
  simp only [spec_PutVar.f]
  refine Ev.bind (specVarLen_ev v h0 h1) ?_
  simp only [show ¬ ((vl v : Int) = 0) by omega, if_false]
  refine Ev.bind (digits_ev (vl v) v (by omega) h0 (by omega)) ?_
  refine Ev_cast (put_loop (dg v (vl v)) (by rw [dg_length]; omega) (vl v) (by omega)) ?_
  rw [dg_vl v h1]
  have e : rd ((v / 256 ^ (vl v - 1) % 256) :: dg v (vl v - 1)) 0 = v / 256 ^ (vl v - 1) % 256 := rfl
  rw [e, Int.emod_eq_of_lt (a := v / 256 ^ (vl v - 1) % 256 + vmark (vl v)) (by omega) (by omega)]
  rfl
theorem specPutVar_bad (v : Int) (h : v < 0 ∨ v > 4611686018427387903) : Ev (fun k => spec_PutVar.f k v) ([], 1) := by
  simp only [spec_PutVar.f]
  refine Ev.bind (specVarLen_bad v h) ?_
  simp only [if_true]
  exact Ev.now _
theorem bytes_of {l : List Int} (h : ∀ x ∈ l, (Lit.int .u8 x).wf = true) : ∀ x ∈ l, 0 ≤ x ∧ x < 256 := fun x hx => by
  have := bounds_u8 (h x hx)
  omega
theorem take_snoc (l : List Int) {i : Nat} (h : i < l.length) : l.take (i + 1) = l.take i ++ [rd l (i : Int)] := by
  rw [List.take_succ_eq_append_getElem h, rd_some (List.getElem?_eq_getElem h)]
theorem byte_at {l : List Int} (hb : ∀ x ∈ l, 0 ≤ x ∧ x < 256) {i : Nat} (h : i < l.length) : 0 ≤ rd l (i : Int) ∧ rd l (i : Int) < 256 :=
  hb _ (List.mem_of_getElem? (rd_get l h))
theorem unfixed_loop (l : List Int) (hl : l.length ≤ 281474976710656) (hb : ∀ x ∈ l, 0 ≤ x ∧ x < 256) (n : Nat) : ∀ i : Nat, l.length - i = n → i ≤ l.length → Ev (fun k => impl_unfixed.l0 k (val 0 (l.take i) % 18446744073709551616) l (l.length : Int) (i : Int)) (wrap64 (val 0 l)) := by
  induction n with
  | zero =>
    intro i hn hi
    refine Ev.step (fun k => rfl) ?_
    simp only [impl_unfixed.l0, show ¬ ((i : Int) < (l.length : Int)) by omega, if_false]
    exact Ev_now (by rw [List.take_of_length_le (by omega), wrap64_emod])
  | succ n ih =>
    intro i hn hi
    have H := ih (i + 1) (by omega) (by omega)
    have hbi := byte_at hb (show i < l.length by omega)
    rw [take_snoc l (by omega), val_snoc] at H
    refine Ev.step (fun k => rfl) ?_
    simp only [impl_unfixed.l0, show ((i : Int) < (l.length : Int)) by omega, show (0 : Int) ≤ (i : Int) by omega, if_true, u64_step _ _ hbi.1 hbi.2, next64 (show i < 4611686018427387904 by omega)]
    exact H
theorem unfixed_ev (l : List Int) (hl : l.length ≤ 281474976710656) (hb : ∀ x ∈ l, 0 ≤ x ∧ x < 256) : Ev (fun k => impl_unfixed.f k l) (wrap64 (val 0 l)) :=
  unfixed_loop l hl hb l.length 0 (by omega) (by omega)

theorem pow256 {j : Nat} (h : j ≤ 7) : (256 : Int) ^ j ≤ 72057594037927936 := by
  have h1 : 256 ^ j ≤ 256 ^ 7 := Nat.pow_le_pow_right (by decide) h
  have h2 : ((256 ^ j : Nat) : Int) ≤ ((256 ^ 7 : Nat) : Int) := by omega
  simpa using h2
theorem val_lt (a : Int) (l : List Int) (ha : 0 ≤ a ∧ a < 64) (h : ∀ x ∈ l, 0 ≤ x ∧ x < 256) (hl : l.length ≤ 7) : 0 ≤ val a l ∧ val a l < 4611686018427387904 := by
  have hb := val_bounds l h
  have hp := pow256 hl
  have hq : (0 : Int) < 256 ^ l.length := Int.pow_pos (by decide)
  rw [val_split]
  generalize (256 : Int) ^ l.length = p at *
  have h1 : a * p ≤ 63 * p := Int.mul_le_mul_of_nonneg_right (by omega) (by omega)
  have h2 : 0 ≤ a * p := Int.mul_nonneg (by omega) (by omega)
  omega
theorem val_mask (b : Int) (l : List Int) (h : ∀ x ∈ l, 0 ≤ x ∧ x < 256) (hb : 0 ≤ b) : val b l % (64 * 256 ^ l.length) = val (b % 64) l := by
  have hv := val_bounds l h
  have hq : (0 : Int) < 256 ^ l.length := Int.pow_pos (by decide)
  rw [val_split, val_split l (b % 64)]
  generalize (256 : Int) ^ l.length = p at *
  have hd : b * p = (b % 64) * p + 64 * p * (b / 64) := by
    have := Int.emod_add_mul_ediv b 64
    rw [Int.mul_comm 64 p, Int.mul_assoc, Int.mul_comm (b % 64) p, ← Int.mul_add, this, Int.mul_comm]
  have h1 : (b % 64) * p ≤ 63 * p := Int.mul_le_mul_of_nonneg_right (by omega) (by omega)
  have h2 : 0 ≤ (b % 64) * p := Int.mul_nonneg (by omega) (by omega)
  rw [show b * p + val 0 l = ((b % 64) * p + val 0 l) + 64 * p * (b / 64) by omega, Int.add_mul_emod_self_left, Int.emod_eq_of_lt (by omega) (by omega)]

theorem l1_loop (l : List Int) (a n : Nat) (hl : l.length ≤ 1048576) (hb : ∀ x ∈ l, 0 ≤ x ∧ x < 256) (hn : 1 ≤ n ∧ n ≤ 8) (han : a + n ≤ l.length) (c : Int) (hc : 0 ≤ c ∧ c < 64) (d : Nat) : ∀ j : Nat, n - 1 - j = d → j ≤ n - 1 →
    Ev (fun k => spec_GetVar.l1 k l (a : Int) (n : Int) (val c (((l.take (a + n)).drop (a + 1)).take j)) ((j : Int) + 1)) (val c ((l.take (a + n)).drop (a + 1)), (a : Int) + n, 0) := by
  have hlen : ((l.take (a + n)).drop (a + 1)).length = n - 1 := by simp; omega
  induction d with
  | zero =>
    intro j hd hj
    refine Ev.step (fun k => rfl) ?_
    simp only [spec_GetVar.l1, show ¬ ((j : Int) + 1 < (n : Int)) by omega, if_false, w64 (x := (a : Int) + n) (by omega) (by omega)]
    exact Ev_now (by rw [List.take_of_length_le (by omega)])
  | succ d ih =>
    intro j hd hj
    have H := ih (j + 1) (by omega) (by omega)
    have hg : rd ((l.take (a + n)).drop (a + 1)) (j : Int) = rd l ((a : Int) + ((j : Int) + 1)) := by
      refine rd_some ?_
      rw [List.getElem?_drop, List.getElem?_take_of_lt (by omega), show (a : Int) + ((j : Int) + 1) = ((a + 1 + j : Nat) : Int) by omega]
      exact rd_get l (by omega)
    have hbj := byte_at hb (show a + 1 + j < l.length by omega)
    rw [show ((a + 1 + j : Nat) : Int) = (a : Int) + ((j : Int) + 1) by omega] at hbj
    have hv := val_lt c (((l.take (a + n)).drop (a + 1)).take j) hc (fun x hx => hb x (List.mem_of_mem_take (List.mem_of_mem_drop (List.mem_of_mem_take hx)))) (by simp; omega)
    have hv2 := val_lt c (((l.take (a + n)).drop (a + 1)).take (j + 1)) hc (fun x hx => hb x (List.mem_of_mem_take (List.mem_of_mem_drop (List.mem_of_mem_take hx)))) (by simp; omega)
    rw [take_snoc _ (by omega), val_snoc, hg] at H hv2
    rw [show (((j + 1 : Nat) : Int) + 1) = (j : Int) + 1 + 1 by omega] at H
    refine Ev.step (fun k => rfl) ?_
    simp only [spec_GetVar.l1, show ((j : Int) + 1 < (n : Int)) by omega, w64 (x := (a : Int) + ((j : Int) + 1)) (by omega) (by omega), show (0 : Int) ≤ (a : Int) + ((j : Int) + 1) by omega, show (a : Int) + ((j : Int) + 1) < (l.length : Int) by omega, if_true,
      w64 (x := rd l ((a : Int) + ((j : Int) + 1))) (by omega) (by omega), w64 (x := (j : Int) + 1 + 1) (by omega) (by omega), w64 (x := val c (((l.take (a + n)).drop (a + 1)).take j) * 256) (by omega) (by omega), w64 (x := val c (((l.take (a + n)).drop (a + 1)).take j) * 256 + rd l ((a : Int) + ((j : Int) + 1))) (by omega) (by omega)]
    exact H

/-- What both tell of a number's bytes, from place a on: q tells how many. -/
theorem both_at (l : List Int) (a n q : Nat) (hl : l.length ≤ 65536) (hb : ∀ x ∈ l, 0 ≤ x ∧ x < 256) (ha : a < l.length) (hq : rd l (a : Int) / 64 = q) (hn : n = 2 ^ q) :
    ∃ r, Ev (fun k => spec_GetVar.l0 k l (a : Int) (n : Int) 0) r ∧ Ev (fun k => impl_GetVar.j0 k l (a : Int) false) r ∧ (r = (0, 0, 2) ∨ (a + n ≤ l.length ∧ r = (val (rd l (a : Int) % 64) ((l.take (a + n)).drop (a + 1)), (a : Int) + (n : Int), 0))) := by
  have hba := byte_at hb ha
  have hq4 : q = 0 ∨ q = 1 ∨ q = 2 ∨ q = 3 := by omega
  have hn8 : 1 ≤ n ∧ n ≤ 8 := by rcases hq4 with rfl | rfl | rfl | rfl <;> omega
  have hs : shl .i64 1 (q : Int) = n := by rcases hq4 with rfl | rfl | rfl | rfl <;> subst hn <;> decide +kernel
  have hm : 0 ≤ wrap64 (wrap64 (8 * (n : Int)) - 2) ∧ wrap64 (shl .i64 1 (wrap64 (wrap64 (8 * (n : Int)) - 2)) - 1) = 2 ^ (8 * n - 2) - 1 ∧ (2 : Int) ^ (8 * n - 2) = 64 * 256 ^ (n - 1) ∧ 8 * n - 2 ≤ 62 := by
    rcases hq4 with rfl | rfl | rfl | rfl <;> subst hn <;> decide +kernel
  have w0 : wrap64 ((l.length : Int) - (a : Int)) = (l.length : Int) - a := w64 (by omega) (by omega)
  by_cases c5 : (l.length : Int) - a < n
  · refine ⟨(0, 0, 2), ?_, ?_, .inl rfl⟩
    · refine Ev.step (fun k => rfl) ?_
      simp only [spec_GetVar.l0, show ¬ ((0 : Int) > 0) by decide, if_false, w0, c5, if_true]
      exact Ev.now _
    · refine Ev.step (fun k => rfl) ?_
      simp only [impl_GetVar.j0, Bool.false_eq_true, if_false, show ¬ ((a : Int) = (l.length : Int)) by omega, show (0 : Int) ≤ (a : Int) by omega, show (a : Int) < (l.length : Int) by omega, if_true, hq, show (0 : Int) ≤ (q : Int) by omega, w0, hs, c5]
      exact Ev.now _
  · have hsub : ∀ x ∈ (l.take (a + n)).drop a, 0 ≤ x ∧ x < 256 := fun x hx => hb x (List.mem_of_mem_take (List.mem_of_mem_drop hx))
    have hrest : ∀ x ∈ (l.take (a + n)).drop (a + 1), 0 ≤ x ∧ x < 256 := fun x hx => hb x (List.mem_of_mem_take (List.mem_of_mem_drop hx))
    have hlen : ((l.take (a + n)).drop (a + 1)).length = n - 1 := by simp; omega
    have hcons : (l.take (a + n)).drop a = rd l (a : Int) :: (l.take (a + n)).drop (a + 1) := by
      rw [List.drop_eq_getElem_cons (by simp; omega), List.getElem_take, rd_some (List.getElem?_eq_getElem ha)]
    have hi := unfixed_ev _ (by simp; omega) hsub
    have hl1 := l1_loop l a n (by omega) hb hn8 (by omega) (rd l (a : Int) % 64) (by omega) (n - 1) 0 (by omega) (by omega)
    rw [List.take_zero, val_nil] at hl1
    have ev : Go.bits .and .i64 (wrap64 (val 0 ((l.take (a + n)).drop a))) (2 ^ (8 * n - 2) - 1) = val (rd l (a : Int) % 64) ((l.take (a + n)).drop (a + 1)) := by
      rw [i64_mask_any _ _ hm.2.2.2, hm.2.2.1, hcons, val_cons, show (0 : Int) * 256 + rd l (a : Int) = rd l (a : Int) by omega]
      have := val_mask (rd l (a : Int)) _ hrest hba.1
      rw [hlen] at this
      exact this
    refine ⟨(val (rd l (a : Int) % 64) ((l.take (a + n)).drop (a + 1)), (a : Int) + (n : Int), 0), ?_, ?_, .inr ⟨by omega, rfl⟩⟩
    · refine Ev.step (fun k => rfl) ?_
      simp only [spec_GetVar.l0, show ¬ ((0 : Int) > 0) by decide, if_false, w0, c5, show (0 : Int) ≤ (a : Int) by omega, show (a : Int) < (l.length : Int) by omega, if_true, w64 (x := rd l (a : Int)) (by omega) (by omega), tmod_nn hba.1]
      exact hl1
    · refine Ev.step (fun k => rfl) ?_
      simp only [impl_GetVar.j0, Bool.false_eq_true, if_false, show ¬ ((a : Int) = (l.length : Int)) by omega, show (0 : Int) ≤ (a : Int) by omega, show (a : Int) < (l.length : Int) by omega, if_true, hq, show (0 : Int) ≤ (q : Int) by omega, w0, hs, c5,
        w64 (x := (a : Int) + (n : Int)) (by omega) (by omega), show (a : Int) ≤ (a : Int) + (n : Int) by omega, show (a : Int) + (n : Int) ≤ (l.length : Int) by omega, show ((a : Int) + (n : Int)).toNat = a + n by omega, Int.toNat_natCast, hm.1, hm.2.1]
      refine Ev.bind hi ?_
      rw [ev]
      exact Ev.now _

theorem l0_rounds (l : List Int) (a : Int) (r : Int × Int × Int) (q : Nat) (hq : q ≤ 3) (h : Ev (fun k => spec_GetVar.l0 k l a ((2 ^ q : Nat) : Int) 0) r) : Ev (fun k => spec_GetVar.l0 k l a 1 (q : Int)) r := by
  have hq4 : q = 0 ∨ q = 1 ∨ q = 2 ∨ q = 3 := by omega
  rcases hq4 with rfl | rfl | rfl | rfl
  · exact h
  · refine Ev.step (fun k => rfl) ?_
    simp only [spec_GetVar.l0, show ((1 : Nat) : Int) > 0 by decide, if_true, show wrap64 (2 * 1) = 2 by decide +kernel, show wrap64 (((1 : Nat) : Int) - 1) = 0 by decide +kernel]
    exact h
  · refine Ev.step (fun k => rfl) ?_
    simp only [spec_GetVar.l0, show ((2 : Nat) : Int) > 0 by decide, if_true, show wrap64 (2 * 1) = 2 by decide +kernel, show wrap64 (((2 : Nat) : Int) - 1) = 1 by decide +kernel]
    refine Ev.step (fun k => rfl) ?_
    simp only [spec_GetVar.l0, show (1 : Int) > 0 by decide, if_true, show wrap64 (2 * 2) = 4 by decide +kernel, show wrap64 (1 - 1) = 0 by decide +kernel]
    exact h
  · refine Ev.step (fun k => rfl) ?_
    simp only [spec_GetVar.l0, show ((3 : Nat) : Int) > 0 by decide, if_true, show wrap64 (2 * 1) = 2 by decide +kernel, show wrap64 (((3 : Nat) : Int) - 1) = 2 by decide +kernel]
    refine Ev.step (fun k => rfl) ?_
    simp only [spec_GetVar.l0, show (2 : Int) > 0 by decide, if_true, show wrap64 (2 * 2) = 4 by decide +kernel, show wrap64 (2 - 1) = 1 by decide +kernel]
    refine Ev.step (fun k => rfl) ?_
    simp only [spec_GetVar.l0, show (1 : Int) > 0 by decide, if_true, show wrap64 (2 * 4) = 8 by decide +kernel, show wrap64 (1 - 1) = 0 by decide +kernel]
    exact h

theorem dg_val (t : List Int) (h : ∀ x ∈ t, 0 ≤ x ∧ x < 256) : ∀ c : Int, 0 ≤ c → dg (val c t) t.length = t := by
  induction t with
  | nil => intro c _; rfl
  | cons x t ih =>
    intro c hc
    have hx := h x (by simp)
    have ht := val_bounds t (fun y hy => h y (by simp [hy]))
    have hp : (0 : Int) < 256 ^ t.length := Int.pow_pos (by decide)
    have e : val (c * 256 + x) t / 256 ^ t.length = c * 256 + x := by
      rw [val_split, Int.add_comm, Int.add_mul_ediv_right _ _ (by omega), Int.ediv_eq_zero_of_lt ht.1 ht.2]
      omega
    show (val c (x :: t) / 256 ^ t.length % 256) :: dg (val c (x :: t)) t.length = x :: t
    rw [val_cons, e, ih (fun y hy => h y (by simp [hy])) _ (by omega)]
    congr 1
    omega
/-- What GetVar reads at a place: an error, or a number of m bytes. -/
theorem get_at (l : List Int) (a : Nat) (hl : l.length ≤ 65536) (hb : ∀ x ∈ l, 0 ≤ x ∧ x < 256) (ha : a ≤ l.length) :
    (Ev (fun k => spec_GetVar.f k l (a : Int)) (0, 0, 2) ∧ Ev (fun k => impl_GetVar.f k l (a : Int)) (0, 0, 2)) ∨
    ∃ (v : Int) (m : Nat), Ev (fun k => spec_GetVar.f k l (a : Int)) (v, (a : Int) + (m : Int), 0) ∧ Ev (fun k => impl_GetVar.f k l (a : Int)) (v, (a : Int) + (m : Int), 0) ∧ a + m ≤ l.length ∧ 0 ≤ v ∧ v ≤ 4611686018427387903 ∧ vl v ≤ m ∧ (vl v = m → pv v = (l.take (a + m)).drop a) := by
  simp only [spec_GetVar.f, impl_GetVar.f, impl_tooLong.f, Option.bind_some, decide_eq_true_eq, show ¬ (l.length : Int) > 65536 by omega, show ¬ (a : Int) < 0 by omega, show ¬ (a : Int) > (l.length : Int) by omega, decide_false, if_false]
  by_cases c3 : (a : Int) = (l.length : Int)
  · refine .inl ⟨?_, ?_⟩
    · refine Ev.step (fun k => rfl) ?_; simp only [spec_GetVar.j0, Bool.false_eq_true, if_false, if_pos c3]; exact Ev.now _
    · refine Ev.step (fun k => rfl) ?_; simp only [impl_GetVar.j0, Bool.false_eq_true, if_false, if_pos c3]; exact Ev.now _
  have ha' : a < l.length := by omega
  have hba := byte_at hb ha'
  obtain ⟨q, hq⟩ := Int.eq_ofNat_of_zero_le (show 0 ≤ rd l (a : Int) / 64 by omega)
  obtain ⟨r, hs, hi, hr⟩ := both_at l a (2 ^ q) q (by omega) hb ha' hq rfl
  have hs' : Ev (fun k => spec_GetVar.j0 k l (a : Int) false) r := by
    refine Ev.step (fun k => rfl) ?_
    simp only [spec_GetVar.j0, Bool.false_eq_true, if_false, if_neg c3, show (0 : Int) ≤ (a : Int) by omega, show (a : Int) < (l.length : Int) by omega, if_true, w64 (x := rd l (a : Int)) (by omega) (by omega), tdiv_nn hba.1, hq, w64 (x := (q : Int)) (by omega) (by omega)]
    exact l0_rounds l (a : Int) r q (by omega) hs
  rcases hr with rfl | ⟨hn, rfl⟩
  · exact .inl ⟨hs', hi⟩
  refine .inr ⟨_, 2 ^ q, hs', hi, hn, ?_⟩
  clear hs hs' hi
  have hrest : ∀ x ∈ (l.take (a + 2 ^ q)).drop (a + 1), 0 ≤ x ∧ x < 256 := fun x hx => hb x (List.mem_of_mem_take (List.mem_of_mem_drop hx))
  have hlen : ((l.take (a + 2 ^ q)).drop (a + 1)).length = 2 ^ q - 1 := by simp; omega
  have hcons : (l.take (a + 2 ^ q)).drop a = rd l (a : Int) :: (l.take (a + 2 ^ q)).drop (a + 1) := by
    have : 0 < 2 ^ q := Nat.pow_pos (by decide)
    rw [List.drop_eq_getElem_cons (by simp; omega), List.getElem_take, rd_some (List.getElem?_eq_getElem ha')]
  rw [hcons]
  generalize (l.take (a + 2 ^ q)).drop (a + 1) = t at hrest hlen
  have hc0 : 0 ≤ rd l (a : Int) % 64 := by omega
  have hc1 : rd l (a : Int) % 64 < 64 := by omega
  have hcq : rd l (a : Int) = 64 * (q : Int) + rd l (a : Int) % 64 := by omega
  have hq4 : q = 0 ∨ q = 1 ∨ q = 2 ∨ q = 3 := by omega
  have tb := val_bounds t hrest
  have sp := val_split t (rd l (a : Int) % 64)
  have dv := dg_val t hrest (rd l (a : Int) % 64) hc0
  generalize rd l (a : Int) = b at hc0 hc1 hcq sp dv
  generalize hv : val (b % 64) t = v at sp dv
  rw [hlen] at tb sp dv
  have fin : ∀ (n : Nat) (p : Int), 2 ^ q = n → (256 : Int) ^ (n - 1) = p → 0 < p → v / p = b % 64 → (vl v = n → vmark (n : Int) = 64 * (q : Int)) → vl v = 2 ^ q → pv v = b :: t := by
    intro n p h1 h2 h3 h4 h5 h6
    have h7 : vl v = n := by omega
    unfold pv
    rw [h7, h2, h4, h5 h7, ← h1, dv]
    congr 1
    omega
  rcases hq4 with rfl | rfl | rfl | rfl
  · simp at tb sp
    refine ⟨by omega, by omega, ?_, fin 1 1 rfl rfl (by decide) (by omega) (fun _ => by decide)⟩
    unfold vl
    rw [if_pos (by omega)]
    decide
  · simp at tb sp
    refine ⟨by omega, by omega, ?_, fin 2 256 rfl rfl (by decide) (by omega) (fun _ => by decide)⟩
    unfold vl
    split
    · decide
    · rw [if_pos (by omega)]; decide
  · simp at tb sp
    refine ⟨by omega, by omega, ?_, fin 4 16777216 rfl rfl (by decide) (by omega) (fun _ => by decide)⟩
    unfold vl
    split
    · decide
    · split
      · decide
      · rw [if_pos (by omega)]; decide
  · simp at tb sp
    refine ⟨by omega, by omega, ?_, fin 8 72057594037927936 rfl rfl (by decide) (by omega) (fun _ => by decide)⟩
    rcases vl_cases v (by omega) with ⟨e, _⟩ | ⟨e, _⟩ | ⟨e, _⟩ | ⟨e, _⟩ <;> rw [e] <;> decide
theorem next_ev (l s : List Int) (z : Int) (a : Nat) (hl : l.length ≤ 65536) (hb : ∀ x ∈ l, 0 ≤ x ∧ x < 256) (ha : a ≤ l.length) :
    (Ev (fun k => spec_GetVar.f k l (a : Int)) (0, 0, 2) ∧ Ev (fun k => impl_GetVars_1.f k s (a : Int) z l) (0, false, (a : Int), z)) ∨
    ∃ (v : Int) (m : Nat), Ev (fun k => spec_GetVar.f k l (a : Int)) (v, (a : Int) + (m : Int), 0) ∧ a + m ≤ l.length ∧ 0 ≤ v ∧ v ≤ 4611686018427387903 ∧ vl v ≤ m ∧
      ((vl v = m ∧ pv v = (l.take (a + m)).drop a ∧ Ev (fun k => impl_GetVars_1.f k s (a : Int) z l) (v, true, (a : Int) + (m : Int), z)) ∨ (vl v < m ∧ Ev (fun k => impl_GetVars_1.f k s (a : Int) z l) (0, false, (a : Int), z))) := by
  rcases get_at l a hl hb ha with ⟨hs, hi⟩ | ⟨v, m, hs, hi, hm, v0, v1, hv, hp⟩
  · refine .inl ⟨hs, ?_⟩
    simp only [impl_GetVars_1.f]
    refine Ev.bind hi ?_
    simp only [show ¬ ((2 : Int) = 0) by decide, if_false]
    exact Ev.now _
  · refine .inr ⟨v, m, hs, hm, v0, v1, hv, ?_⟩
    have e : wrap64 ((a : Int) + (m : Int) - (a : Int)) = (m : Int) := by rw [w64 (by omega) (by omega)]; omega
    by_cases c : vl v = m
    · refine .inl ⟨c, hp c, ?_⟩
      simp only [impl_GetVars_1.f]
      refine Ev.bind hi ?_
      have e3 : wrap64 ((a : Int) + (m : Int) - (a : Int)) = (vl v : Int) := by rw [e]; omega
      simp only [if_true, implVarLen v v0 v1, Option.bind_some, e3]
      exact Ev.now _
    · refine .inr ⟨by omega, ?_⟩
      simp only [impl_GetVars_1.f]
      refine Ev.bind hi ?_
      simp only [if_true, implVarLen v v0 v1, Option.bind_some, e, show ¬ ((m : Int) = (vl v : Int)) by omega, if_false]
      exact Ev.now _
/-- The bytes of some numbers. -/
def pvs (xs : List Int) : List Int := xs.flatMap pv
theorem puts_loop (l : List Int) (hl : l.length ≤ 4096) (hr : ∀ x ∈ l, 0 ≤ x ∧ x ≤ 4611686018427387903) (n : Nat) : ∀ (i : Nat) (x : List Int), l.length - i = n → i ≤ l.length → x.length ≤ 8 * i + 8 →
    Ev (fun k => spec_PutVars.l0 k l x (i : Int)) (x ++ pvs (l.drop i), 0) := by
  induction n with
  | zero =>
    intro i x hn hi hx
    refine Ev.step (fun k => rfl) ?_
    simp only [spec_PutVars.l0, show ¬ ((i : Int) < (l.length : Int)) by omega, if_false]
    exact Ev_now (by rw [List.drop_of_length_le (by omega)]; simp [pvs])
  | succ n ih =>
    intro i x hn hi hx
    have hil : i < l.length := by omega
    have c := hr _ (List.mem_of_getElem? (rd_get l hil))
    have hp := pv_len (rd l (i : Int)) c.2
    have H := ih (i + 1) (x ++ pv (rd l (i : Int))) (by omega) (by omega) (by rw [List.length_append]; omega)
    have ed : l.drop i = rd l (i : Int) :: l.drop (i + 1) := by
      rw [List.drop_eq_getElem_cons hil, rd_some (List.getElem?_eq_getElem hil)]
    refine Ev.step (fun k => rfl) ?_
    simp only [spec_PutVars.l0, show ((i : Int) < (l.length : Int)) by omega, show (0 : Int) ≤ (i : Int) by omega, if_true, next64 (show i < 4611686018427387904 by omega)]
    refine Ev.bind (specPutVar_ev _ c.1 c.2) ?_
    simp only [if_true]
    refine Ev_ite (fun _ => ?_) (fun c => absurd (by omega) c)
    rw [ed]
    simp only [pvs, List.flatMap_cons] at H ⊢
    rw [← List.append_assoc]
    exact H
theorem puts_ev (l : List Int) (hl : l.length ≤ 4096) (hr : ∀ x ∈ l, 0 ≤ x ∧ x ≤ 4611686018427387903) : Ev (fun k => spec_PutVars.f k l) (pv (l.length : Int) ++ pvs l, 0) := by
  simp only [spec_PutVars.f, show ¬ (l.length : Int) > 4096 by omega, if_false]
  have hp := pv_len (l.length : Int) (by omega)
  have H := puts_loop l hl hr l.length 0 (pv (l.length : Int)) (by omega) (by omega) (by omega)
  exact Ev.bind (specPutVar_ev _ (by omega) (by omega)) H
theorem str_eq {x y : List Int} (hx : ∀ b ∈ x, 0 ≤ b ∧ b < 256) (hy : ∀ b ∈ y, 0 ≤ b ∧ b < 256) (h : (strOfNums x).toList = (strOfNums y).toList) : x = y := by
  rw [ByteArray.toList_eq, ByteArray.toList_eq, strOfNums_data, strOfNums_data] at h
  have inj : ∀ (x y : List Int), (∀ b ∈ x, 0 ≤ b ∧ b < 256) → (∀ b ∈ y, 0 ≤ b ∧ b < 256) → x.map (fun n => UInt8.ofNat n.toNat) = y.map (fun n => UInt8.ofNat n.toNat) → x = y := by
    intro x
    induction x with
    | nil => intro y _ _ h; cases y with
      | nil => rfl
      | cons b y => simp at h
    | cons a x ih =>
      intro y hx hy h
      cases y with
      | nil => simp at h
      | cons b y =>
        simp only [List.map_cons, List.cons.injEq] at h
        have ha := hx a (by simp)
        have hb := hy b (by simp)
        have e := congrArg UInt8.toNat h.1
        simp [UInt8.toNat_ofNat'] at e
        rw [Nat.mod_eq_of_lt (by omega), Nat.mod_eq_of_lt (by omega)] at e
        rw [ih y (fun z hz => hx z (by simp [hz])) (fun z hz => hy z (by simp [hz])) h.2, show a = b by omega]
  exact inj x y hx hy h
theorem pv_byte (v : Int) (h0 : 0 ≤ v) (h1 : v ≤ 4611686018427387903) : ∀ b ∈ pv v, 0 ≤ b ∧ b < 256 := by
  intro b hb
  have ht := top_small v h0 h1
  have hm := vmark_vl v h1
  simp only [pv, List.mem_cons] at hb
  rcases hb with rfl | hb
  · omega
  · exact dg_byte _ _ b hb
theorem pvs_byte (xs : List Int) (h : ∀ x ∈ xs, 0 ≤ x ∧ x ≤ 4611686018427387903) : ∀ b ∈ pvs xs, 0 ≤ b ∧ b < 256 := by
  intro b hb
  simp only [pvs, List.mem_flatMap] at hb
  obtain ⟨x, hx, hb⟩ := hb
  exact pv_byte x (h x hx).1 (h x hx).2 b hb
theorem pvs_snoc (xs : List Int) (v : Int) : pvs (xs ++ [v]) = pvs xs ++ pv v := by simp [pvs]
section
variable {l : List Int} {n : Nat} (hl : l.length ≤ 65536) (hb : ∀ x ∈ l, 0 ≤ x ∧ x < 256) (hn : n ≤ 4096)
include hn in
/-- The end: the reference's test. -/
theorem spec_end (xs : List Int) (hx : ∀ x ∈ xs, 0 ≤ x ∧ x ≤ 4611686018427387903) (hxn : xs.length = n) (a : Int) (i : Int) (hi : ¬ i < (n : Int)) (r : List Int × Int) (hr : r = if (strOfNums (pv (n : Int) ++ pvs xs)).toList = (strOfNums l).toList then (xs, 0) else ([], 3)) : Ev (fun k => spec_GetVars.l0 k l (n : Int) a xs i) r := by
  refine Ev.step (fun k => rfl) ?_
  simp only [spec_GetVars.l0, hi, if_false]
  have P := puts_ev xs (by omega) hx
  rw [hxn] at P
  refine Ev.bind P ?_
  subst hr
  by_cases c : (strOfNums (pv (n : Int) ++ pvs xs)).toList = (strOfNums l).toList
  · simp only [c, if_true]; exact Ev.now _
  · simp only [c, if_false]; exact Ev.now _
include hl hb hn in
theorem lost (r : Nat) : ∀ (xs : List Int) (a : Nat), xs.length + r = n → (∀ x ∈ xs, 0 ≤ x ∧ x ≤ 4611686018427387903) → a ≤ l.length → (pv (n : Int) ++ pvs xs).length < a → Ev (fun k => spec_GetVars.l0 k l (n : Int) (a : Int) xs (xs.length : Int)) ([], 3) := by
  induction r with
  | zero =>
    intro xs a hxn hx ha hlt
    refine spec_end hn xs hx (by omega) _ _ (by omega) _ ?_
    rw [if_neg]
    intro c
    have e := str_eq (fun b h => by
      rcases List.mem_append.1 h with h | h
      · exact pv_byte _ (by omega) (by omega) b h
      · exact pvs_byte xs hx b h) hb c
    rw [e] at hlt
    omega
  | succ r ih =>
    intro xs a hxn hx ha hlt
    refine Ev.step (fun k => rfl) ?_
    simp only [spec_GetVars.l0, show ((xs.length : Int) < (n : Int)) by omega, if_true]
    rcases get_at l a hl hb ha with ⟨hs, -⟩ | ⟨v, m, hs, -, hm, v0, v1, hv, -⟩
    · refine Ev.bind hs ?_
      simp only [show ¬ ((2 : Int) = 0) by decide, if_false]
      exact Ev.now _
    · refine Ev.bind hs ?_
      simp only [if_true]
      refine Ev_ite (fun _ => ?_) (fun c => absurd (by omega) c)
      have H := ih (xs ++ [v]) (a + m) (by simp; omega) (fun x h => by
        rcases List.mem_append.1 h with h | h
        · exact hx x h
        · rw [List.mem_singleton.1 h]; exact ⟨v0, v1⟩) (by omega) (by
        have hp := pv_length v v1
        rw [pvs_snoc, ← List.append_assoc, List.length_append]
        omega)
      have e1 : wrap64 ((xs.length : Int) + 1) = ((xs ++ [v]).length : Int) := by rw [w64 (by omega) (by omega)]; simp
      have e2 : (a : Int) + (m : Int) = ((a + m : Nat) : Int) := by omega
      rw [e1, e2]
      exact H
include hl hb hn in
theorem kept (s : List Int) (z : Int) (r : Nat) : ∀ (xs : List Int) (a : Nat), xs.length + r = n → (∀ x ∈ xs, 0 ≤ x ∧ x ≤ 4611686018427387903) → a ≤ l.length → pv (n : Int) ++ pvs xs = l.take a →
    ∃ w e, Ev (fun k => spec_GetVars.l0 k l (n : Int) (a : Int) xs (xs.length : Int)) (w, e) ∧ Ev (fun k => impl_GetVars.l0 k l xs (n : Int) (xs.length : Int) s (a : Int) z) (w, e) ∧ w.length ≤ 4096 := by
  induction r with
  | zero =>
    intro xs a hxn hx ha he
    by_cases c : a = l.length
    · refine ⟨xs, 0, ?_, ?_, by omega⟩
      · refine spec_end hn xs hx (by omega) _ _ (by omega) _ ?_
        rw [if_pos (by rw [he, c, List.take_length])]
      · refine Ev.step (fun k => rfl) ?_
        simp only [impl_GetVars.l0, show ¬ ((xs.length : Int) < (n : Int)) by omega, if_false, show (a : Int) = (l.length : Int) by omega, if_true]
        exact Ev.now _
    · refine ⟨[], 3, ?_, ?_, by simp⟩
      · refine spec_end hn xs hx (by omega) _ _ (by omega) _ ?_
        rw [if_neg]
        intro d
        have e := str_eq (fun b h => by
          rcases List.mem_append.1 h with h | h
          · exact pv_byte _ (by omega) (by omega) b h
          · exact pvs_byte xs hx b h) hb d
        rw [e] at he
        have := congrArg List.length he
        rw [List.length_take] at this
        omega
      · refine Ev.step (fun k => rfl) ?_
        simp only [impl_GetVars.l0, show ¬ ((xs.length : Int) < (n : Int)) by omega, if_false, show ¬ ((a : Int) = (l.length : Int)) by omega]
        exact Ev.now _
  | succ r ih =>
    intro xs a hxn hx ha he
    rcases next_ev l s z a hl hb ha with ⟨hs, hi⟩ | ⟨v, m, hs, hm, v0, v1, hv, h⟩
    · refine ⟨[], 3, ?_, ?_, by simp⟩
      · refine Ev.step (fun k => rfl) ?_
        simp only [spec_GetVars.l0, show ((xs.length : Int) < (n : Int)) by omega, if_true]
        refine Ev.bind hs ?_
        simp only [show ¬ ((2 : Int) = 0) by decide, if_false]
        exact Ev.now _
      · refine Ev.step (fun k => rfl) ?_
        simp only [impl_GetVars.l0, show ((xs.length : Int) < (n : Int)) by omega, if_true]
        refine Ev.bind hi ?_
        simp only [Bool.false_eq_true, if_false]
        exact Ev.now _
    have hx' : ∀ x ∈ xs ++ [v], 0 ≤ x ∧ x ≤ 4611686018427387903 := fun x h => by
      rcases List.mem_append.1 h with h | h
      · exact hx x h
      · rw [List.mem_singleton.1 h]; exact ⟨v0, v1⟩
    have e1 : wrap64 ((xs.length : Int) + 1) = ((xs ++ [v]).length : Int) := by rw [w64 (by omega) (by omega)]; simp
    have e2 : (a : Int) + (m : Int) = ((a + m : Nat) : Int) := by omega
    have hsp : ∀ w : List Int × Int, Ev (fun k => spec_GetVars.l0 k l (n : Int) ((a + m : Nat) : Int) (xs ++ [v]) ((xs ++ [v]).length : Int)) w → Ev (fun k => spec_GetVars.l0 k l (n : Int) (a : Int) xs (xs.length : Int)) w := by
      intro w H
      refine Ev.step (fun k => rfl) ?_
      simp only [spec_GetVars.l0, show ((xs.length : Int) < (n : Int)) by omega, if_true]
      refine Ev.bind hs ?_
      simp only [if_true]
      refine Ev_ite (fun _ => ?_) (fun c => absurd (by omega) c)
      rw [e1, e2]
      exact H
    rcases h with ⟨hvm, hp, hi⟩ | ⟨hvm, hi⟩
    · obtain ⟨w, e, h1, h2, h3⟩ := ih (xs ++ [v]) (a + m) (by simp; omega) hx' (by omega) (by
        have q := List.take_append_drop a (l.take (a + m))
        rw [List.take_take, show min a (a + m) = a by omega] at q
        rw [pvs_snoc, ← List.append_assoc, he, hp]
        exact q)
      refine ⟨w, e, hsp _ h1, ?_, h3⟩
      refine Ev.step (fun k => rfl) ?_
      simp only [impl_GetVars.l0, show ((xs.length : Int) < (n : Int)) by omega, if_true]
      refine Ev.bind hi ?_
      simp only [if_true]
      refine Ev_ite (fun _ => ?_) (fun c => absurd (by omega) c)
      rw [e1, e2]
      exact h2
    · refine ⟨[], 3, hsp _ (lost hl hb hn r (xs ++ [v]) (a + m) (by simp; omega) hx' (by omega) (by
        have hpl := pv_length v v1
        have hal := congrArg List.length he
        rw [List.length_take] at hal
        rw [pvs_snoc, ← List.append_assoc, List.length_append]
        omega)), ?_, by simp⟩
      refine Ev.step (fun k => rfl) ?_
      simp only [impl_GetVars.l0, show ((xs.length : Int) < (n : Int)) by omega, if_true]
      refine Ev.bind hi ?_
      simp only [Bool.false_eq_true, if_false]
      exact Ev.now _
end
/-- Both answer, and the same. -/
theorem both (l : List Int) (hb : ∀ x ∈ l, 0 ≤ x ∧ x < 256) : ∃ w e, Ev (fun k => spec_GetVars.f k l) (w, e) ∧ Ev (fun k => impl_GetVars.f k l) (w, e) ∧ w.length ≤ 4096 := by
  simp only [spec_GetVars.f, impl_GetVars.f, impl_tooLong.f, spec_l01Source.f, Option.bind_some, decide_eq_true_eq]
  by_cases c : (l.length : Int) > 65536
  · simp only [c, if_true]; exact ⟨[], 4, Ev.now _, Ev.now _, by simp⟩
  simp only [c, if_false]
  have sT : ∀ x y, Ev (fun k => spec_GetVars.j0 k l x y true) ([], 3) := fun x y => Ev.step (f := fun _ => some ([], 3)) (fun k => by simp only [spec_GetVars.j0, if_true]) (Ev.now _)
  have iT : ∀ x s y z, Ev (fun k => impl_GetVars.j0 k l x true s y z) ([], 3) := fun x s y z => Ev.step (f := fun _ => some ([], 3)) (fun k => by simp only [impl_GetVars.j0, if_true]) (Ev.now _)
  rcases next_ev l l ((l.length : Int) % 1000) 0 (by omega) hb (by omega) with ⟨hs, hi⟩ | ⟨v, m, hs, hm, v0, v1, hv, h⟩
  · refine ⟨[], 3, Ev.bind hs ?_, Ev.bind hi ?_, by simp⟩
    · simp only [show ¬ ((2 : Int) = 0) by decide, if_false]; exact sT _ _
    · simp only [Bool.false_eq_true, if_false]; exact iT _ _ _ _
  by_cases c2 : v > 4096
  · refine ⟨[], 3, Ev.bind hs ?_, ?_, by simp⟩
    · simp only [if_true, c2, decide_true]; exact sT _ _
    · rcases h with ⟨_, _, hi⟩ | ⟨_, hi⟩
      · refine Ev.bind hi ?_
        simp only [if_true, c2, decide_true]; exact iT _ _ _ _
      · refine Ev.bind hi ?_
        simp only [Bool.false_eq_true, if_false]; exact iT _ _ _ _
  obtain ⟨n, rfl⟩ := Int.eq_ofNat_of_zero_le v0
  have e2 : ((0 : Nat) : Int) + (m : Int) = (m : Int) := by omega
  rw [e2] at hs
  rcases h with ⟨hvm, hp, hi⟩ | ⟨hvm, hi⟩
  · obtain ⟨w, e, h1, h2, h3⟩ := kept (l := l) (n := n) (by omega) hb (by omega) l ((l.length : Int) % 1000) n [] m (by simp) (by simp) (by omega) (by simp [pvs]; rw [hp]; simp)
    refine ⟨w, e, Ev.bind hs ?_, Ev.bind hi ?_, h3⟩
    · simp only [if_true, c2, decide_false]
      refine Ev.step (fun k => rfl) ?_
      simp only [spec_GetVars.j0, Bool.false_eq_true, if_false]
      exact h1
    · simp only [if_true, c2, decide_false, e2]
      refine Ev.step (fun k => rfl) ?_
      simp only [impl_GetVars.j0, Bool.false_eq_true, if_false]
      exact h2
  · refine ⟨[], 3, Ev.bind hs ?_, Ev.bind hi ?_, by simp⟩
    · simp only [if_true, c2, decide_false]
      refine Ev.step (fun k => rfl) ?_
      simp only [spec_GetVars.j0, Bool.false_eq_true, if_false]
      have hpl := pv_length (n : Int) v1
      exact lost (l := l) (n := n) (by omega) hb (by omega) n [] m (by simp) (by simp) (by omega) (by simp [pvs]; omega)
    · simp only [Bool.false_eq_true, if_false]; exact iT _ _ _ _
theorem FnExactGetVars (l0 : List Int) (q0 : l0.length ≤ maxLen ∧ ∀ x ∈ l0, (Lit.int .u8 x).wf = true) : ∃ k, laws_FnExactGetVars.f k l0 = some true := by
  refine Ev.rounds (g := fun k => laws_FnExactGetVars.f k l0) ?_
  simp only [laws_FnExactGetVars.f]
  refine Ev_ite (fun _ => Ev.now _) (fun c0 => ?_)
  obtain ⟨w, e, hs, hi, hw⟩ := both l0 (bytes_of q0.2)
  repeat' first
    | exact Ev.now _
    | refine Ev.bind hs ?_
    | refine Ev.bind hi ?_
    | refine Ev.bind (toByteS_ev _ (by omega)) ?_
    | refine Ev.bind (eqByteS_ev _ (by omega)) ?_
    | refine Ev.bind (markByteS_ev _ _ (by omega) (by omega)) ?_
    | refine Ev.bind (eqIntS_ev _ (by omega)) ?_
    | refine Ev.bind (markIntS_ev _ _ (by omega) (by omega)) ?_
    | refine Ev.bind (heldIntS_ev _ _ (by omega) (by omega)) ?_
    | simp only [if_true, if_false, bne_self_eq_false, Bool.false_eq_true, marks_length, marksI_length]
    | (refine Ev.step (fun k => rfl) ?_; simp only [laws_FnExactGetVars.j0, laws_FnExactGetVars.j1, laws_FnExactGetVars.j2])
    | refine Ev_ite (fun c => absurd c (by omega)) (fun _ => ?_)

end Go.Proofs.Ytdojcdhlcnlohaa.Pure
