/- RetryPacket -/
import Derived.Test.YtcdkbdkanjifeaaSFnExactRetryPacketx7
import Derived.Test.YtcdkbdkanjifeaaMath
namespace Go.Proofs.Ytcdkbdkanjifeaa.Pure
open Go.RowKit Go.Proofs.Ytcdkbdkanjifeaa.SFnExactRetryPacket Go.Proofs.YtcdkbdkanjifeaaW.PrintWords Go.Proofs.YtcdkbdkanjifeaaW.PrintLast Go.Proofs.YtcdkbdkanjifeaaW.PrintMore Go.Proofs.Ytcdkbdkanjifeaa.Math
set_option linter.unusedVariables false
set_option linter.unusedSimpArgs false

theorem toByteS_loop (l : List Int) (hl : l.length ≤ 281474976710656) (n : Nat) : ∀ (x : List Int) (i : Nat), l.length - i = n → i ≤ l.length → x.length = l.length → (∀ j, j < i → x[j]? = l[j]?) → Ev (fun k => laws_toByteS.l0 k l x (i : Int)) l := by
  induction n with
  | zero =>
    intro x i hn hi hx h
    refine Ev.step (fun k => rfl) ?_
    simp only [laws_toByteS.l0, show ¬ ((i : Int) < (l.length : Int)) by omega, if_false]
    exact Ev_now (prefix_all hx (fun j hj => h j (by omega)))
  | succ n ih =>
    intro x i hn hi hx h
    have hil : i < l.length := by omega
    have H := ih (x.set i (rd l (i : Int))) (i + 1) (by omega) (by omega) (by rw [List.length_set]; exact hx) (set_prefix hx (rd_get l hil) h)
    refine Ev.step (fun k => rfl) ?_
    simp only [laws_toByteS.l0, show ((i : Int) < (l.length : Int)) by omega, show (0 : Int) ≤ (i : Int) by omega, show ((i : Int) < (x.length : Int)) by omega, if_true, Int.toNat_natCast, next64 (show i < 4611686018427387904 by omega)]
    exact H
theorem toByteS_ev (l : List Int) (hl : l.length ≤ 281474976710656) : Ev (fun k => laws_toByteS.f k l) l := by
  simp only [laws_toByteS.f, show (0 : Int) ≤ (l.length : Int) by omega, if_true, Int.toNat_natCast, hl]
  exact toByteS_loop l hl l.length _ 0 (by omega) (by omega) (by simp) (fun j hj => by omega)
theorem eqByteS_loop (l : List Int) (hl : l.length ≤ 281474976710656) (n : Nat) : ∀ (i : Nat), l.length - i = n → i ≤ l.length → Ev (fun k => laws_eqByteS.l0 k l l (i : Int)) true := by
  induction n with
  | zero =>
    intro i hn hi
    refine Ev.step (fun k => rfl) ?_
    simp only [laws_eqByteS.l0, show ¬ ((i : Int) < (l.length : Int)) by omega, if_false]
    exact Ev.now _
  | succ n ih =>
    intro i hn hi
    have H := ih (i + 1) (by omega) (by omega)
    refine Ev.step (fun k => rfl) ?_
    simp only [laws_eqByteS.l0, show ((i : Int) < (l.length : Int)) by omega, show (0 : Int) ≤ (i : Int) by omega, if_true, next64 (show i < 4611686018427387904 by omega)]
    exact H
theorem eqByteS_ev (l : List Int) (hl : l.length ≤ 281474976710656) : Ev (fun k => laws_eqByteS.f k l l) true := by
  simp only [laws_eqByteS.f, if_true]
  exact eqByteS_loop l hl l.length 0 (by omega) (by omega)
theorem markByteS_loop (m : Int) (N : Nat) (hm : 0 ≤ m) (hN : m + N ≤ 4611686018427387903) (n : Nat) : ∀ (x : List Int) (i : Nat), N - i = n → i ≤ N → x.length = N → (∀ j, j < i → x[j]? = (marks m N)[j]?) → Ev (fun k => laws_markByteS.l0 k x (m + i) (i : Int)) (m + N, marks m N) := by
  induction n with
  | zero =>
    intro x i hn hi hx h
    obtain rfl : i = N := by omega
    refine Ev.step (fun k => rfl) ?_
    simp only [laws_markByteS.l0, show ¬ ((i : Int) < (x.length : Int)) by omega, if_false]
    exact Ev_now (by rw [prefix_all (l := marks m i) (by rw [marks_length, hx]) (fun j hj => h j (by rw [marks_length] at hj; exact hj))])
  | succ n ih =>
    intro x i hn hi hx h
    have H := ih (x.set i ((m + i) % 256)) (i + 1) (by omega) (by omega) (by rw [List.length_set]; exact hx) (set_prefix (by rw [marks_length, hx]) (marks_get m (by omega)) h)
    rw [show m + ((i + 1 : Nat) : Int) = m + i + 1 by omega] at H
    refine Ev.step (fun k => rfl) ?_
    simp only [laws_markByteS.l0, show ((i : Int) < (x.length : Int)) by omega, show (0 : Int) ≤ (i : Int) by omega, if_true, Int.toNat_natCast, next64 (show i < 4611686018427387904 by omega), w64 (x := m + i + 1) (by omega) (by omega)]
    exact H
theorem markByteS_ev (x : List Int) (m : Int) (hm : 0 ≤ m) (hN : m + x.length ≤ 4611686018427387903) : Ev (fun k => laws_markByteS.f k x m) (m + x.length, marks m x.length) := by
  have H := markByteS_loop m x.length hm hN x.length x 0 (by omega) (by omega) rfl (fun j hj => by omega)
  rw [show m + ((0 : Nat) : Int) = m by omega] at H
  simp only [laws_markByteS.f]
  exact H
theorem heldByteS_loop (m : Int) (N : Nat) (hm : 0 ≤ m) (hN : m + N ≤ 4611686018427387903) (n : Nat) : ∀ (i : Nat), N - i = n → i ≤ N → Ev (fun k => laws_heldByteS.l0 k (marks m N) (m + i) (i : Int)) (m + N) := by
  induction n with
  | zero =>
    intro i hn hi
    obtain rfl : i = N := by omega
    refine Ev.step (fun k => rfl) ?_
    simp only [laws_heldByteS.l0, marks_length, show ¬ ((i : Int) < (i : Int)) by omega, if_false]
    exact Ev.now _
  | succ n ih =>
    intro i hn hi
    have H := ih (i + 1) (by omega) (by omega)
    rw [show m + ((i + 1 : Nat) : Int) = m + i + 1 by omega] at H
    refine Ev.step (fun k => rfl) ?_
    simp only [laws_heldByteS.l0, marks_length, show ((i : Int) < (N : Int)) by omega, show (0 : Int) ≤ (i : Int) by omega, rd_some (marks_get m (show i < N by omega)), if_true, next64 (show i < 4611686018427387904 by omega), w64 (x := m + i + 1) (by omega) (by omega)]
    exact H
theorem heldByteS_ev (n : Nat) (m : Int) (hm : 0 ≤ m) (hN : m + n ≤ 4611686018427387903) : Ev (fun k => laws_heldByteS.f k (marks m n) m) (m + n) := by
  have H := heldByteS_loop m n hm hN n 0 (by omega) (by omega)
  rw [show m + ((0 : Nat) : Int) = m by omega] at H
  simp only [laws_heldByteS.f]
  exact H
theorem digits_ev (n : Nat) : ∀ v : Int, n ≤ 64 → 0 ≤ v → v ≤ 9223372036854775807 → Ev (fun k => spec_l01Digits.f k v (n : Int)) (dg v n) := by
  induction n with
  | zero =>
    intro v hn h0 h1
    refine Ev.step (fun k => rfl) ?_
    simp only [spec_l01Digits.f, show ((0 : Nat) : Int) = 0 from rfl, if_true]
    exact Ev.now _
  | succ n ih =>
    intro v hn h0 h1
    have H := ih (v / 256) (by omega) (by omega) (by omega)
    refine Ev.step (fun k => rfl) ?_
    simp only [spec_l01Digits.f, show ¬ (((n + 1 : Nat) : Int) = 0) by omega, if_false, tdiv_nn h0, tmod_nn h0, w64 (x := v / 256) (by omega) (by omega), show ((n + 1 : Nat) : Int) - 1 = (n : Int) by omega, w64 (x := (n : Int)) (by omega) (by omega)]
    refine Ev.bind H ?_
    simp only [dg_length, show n < 140737488355328 by omega, if_true]
    exact Ev_now (by rw [dg_snoc v h0 n, Int.emod_emod])
theorem shr_digit (v : Int) (m : Nat) (hm : m ≤ 7) (h0 : 0 ≤ v) (h1 : v ≤ 9223372036854775807) : (shr .u64 (IntKind.u64.wrap v) (wrap64 (8 * (m : Int)))) % 256 = v / 256 ^ m % 256 := by
  have hp : (2 : Int) ^ (8 * m) = 256 ^ m := by rw [Int.pow_mul]; rfl
  have e : min (8 * (m : Int)).toNat IntKind.u64.bits = 8 * m := by simp only [IntKind.bits]; omega
  unfold shr
  rw [wraps_u64 v h0 (by omega), w64 (by omega) (by omega), e, hp]
theorem fixed_loop (v : Int) (h0 : 0 ≤ v) (h1 : v ≤ 9223372036854775807) (m : Nat) : ∀ l : List Int, m ≤ 8 → l.length + m < 140737488355328 → Ev (fun k => impl_fixed.l0 k l v ((m : Int) - 1)) (l ++ dg v m) := by
  induction m with
  | zero =>
    intro l hm hl
    refine Ev.step (fun k => rfl) ?_
    simp only [impl_fixed.l0, show ¬ (((0 : Nat) : Int) - 1 ≥ 0) by omega, if_false]
    exact Ev_now (by simp [dg])
  | succ m ih =>
    intro l hm hl
    have e := shr_digit v m (by omega) h0 h1
    refine Ev.step (fun k => rfl) ?_
    simp only [impl_fixed.l0, show ((m + 1 : Nat) : Int) - 1 = (m : Int) by omega, show (m : Int) ≥ 0 by omega, show (0 : Int) ≤ wrap64 (8 * (m : Int)) by rw [w64 (by omega) (by omega)]; omega, if_true, show l.length < 140737488355328 by omega, e, w64 (x := (m : Int) - 1) (by omega) (by omega)]
    exact Ev_cast (ih (l ++ [v / 256 ^ m % 256]) (by omega) (by simp; omega)) (by simp [dg])
theorem fixed_ev (v : Int) (n : Nat) (l : List Int) (h0 : 0 ≤ v) (h1 : v ≤ 9223372036854775807) (hn : n ≤ 8) (hl : l.length + 8 < 140737488355328) : Ev (fun k => impl_fixed.f k l v (n : Int)) (l ++ dg v n) := by
  simp only [impl_fixed.f, w64 (x := (n : Int) - 1) (by omega) (by omega)]
  exact fixed_loop v h0 h1 n l hn (by omega)
theorem l04Ids_ev (v : Int) (d s : List Int) (h0 : 0 ≤ v) (h1 : v ≤ 9223372036854775807) (hd : d.length ≤ 1048576) (hs : s.length ≤ 1048576) : Ev (fun k => spec_l04Ids.f k v d s) (dg v 4 ++ [(d.length : Int) % 256] ++ d ++ [(s.length : Int) % 256] ++ s) := by
  simp only [spec_l04Ids.f]
  refine Ev.bind (digits_ev 4 v (by omega) h0 h1) ?_
  simp only [dg_length, List.length_append, List.length_cons, List.length_nil, Option.bind_some]
  rw [if_pos (by omega), if_pos (by omega), if_pos (by omega), if_pos (by omega)]
  exact Ev.now _
theorem longBegin_ev (f v : Int) (d s : List Int) (h0 : 0 ≤ v) (h1 : v ≤ 9223372036854775807) (hd : d.length ≤ 1048576) (hs : s.length ≤ 1048576) : Ev (fun k => impl_longBegin.f k f v d s) ([f] ++ dg v 4 ++ [(d.length : Int) % 256] ++ d ++ [(s.length : Int) % 256] ++ s) := by
  simp only [impl_longBegin.f]
  refine Ev.bind (fixed_ev v 4 [f] h0 h1 (by omega) (by simp)) ?_
  simp only [dg_length, List.length_append, List.length_cons, List.length_nil, Option.bind_some]
  rw [if_pos (by omega), if_pos (by omega), if_pos (by omega), if_pos (by omega)]
  exact Ev.now _
theorem szB (l : List Int) (a : Int) (h0 : 0 ≤ a) (h1 : a ≤ 1048576) (hl : l.length ≤ 9223372036854775807) : (laws_szByteS.f l a = some (-1) ∧ a < l.length) ∨ (laws_szByteS.f l a = some (a - l.length) ∧ l.length ≤ a) := by
  simp only [laws_szByteS.f, w64 (x := a - (l.length : Int)) (by omega) (by omega)]
  by_cases c : a - (l.length : Int) < 0
  · rw [if_pos c]; exact .inl ⟨rfl, by omega⟩
  · rw [if_neg c]; exact .inr ⟨rfl, by omega⟩
theorem szHeader_ev (f v : Int) (a b c : List Int) (n q p : Int) (z : Int) (h0 : 0 ≤ z) (h1 : z ≤ 1048576) (ha : a.length ≤ maxLen) (hb : b.length ≤ maxLen) (hc : c.length ≤ maxLen) : ∃ t, laws_szHeader.f f v a b c n q p z = some t ∧ (t < 0 ∨ (a.length ≤ 1048576 ∧ b.length ≤ 1048576 ∧ c.length ≤ 1048576)) := by
  unfold maxLen at ha hb hc
  have m1 : (-1 : Int) < 0 := by decide
  rcases szB a z (by omega) (by omega) (by omega) with ⟨e1, h1⟩ | ⟨e1, h1⟩
  · exact ⟨-1, by simp only [laws_szHeader.f, e1, Option.bind_some, m1, if_true], .inl m1⟩
  rcases szB b (z - a.length) (by omega) (by omega) (by omega) with ⟨e2, h2⟩ | ⟨e2, h2⟩
  · exact ⟨-1, by simp only [laws_szHeader.f, e1, e2, Option.bind_some, show ¬ (z - (a.length : Int) < 0) by omega, m1, if_true, if_false], .inl m1⟩
  rcases szB c (z - a.length - b.length) (by omega) (by omega) (by omega) with ⟨e3, h3⟩ | ⟨e3, h3⟩
  · exact ⟨-1, by simp only [laws_szHeader.f, e1, e2, e3, Option.bind_some, show ¬ (z - (a.length : Int) < 0) by omega, show ¬ (z - (a.length : Int) - (b.length : Int) < 0) by omega, m1, if_true, if_false], .inl m1⟩
  · exact ⟨z - a.length - b.length - c.length, by simp only [laws_szHeader.f, e1, e2, e3, Option.bind_some, show ¬ (z - (a.length : Int) < 0) by omega, show ¬ (z - (a.length : Int) - (b.length : Int) < 0) by omega, show ¬ (z - (a.length : Int) - (b.length : Int) - (c.length : Int) < 0) by omega, if_false], .inr ⟨by omega, by omega, by omega⟩⟩
theorem toHeader_ev (f v : Int) (a b c : List Int) (n q p : Int) (ha : a.length ≤ 1048576) (hb : b.length ≤ 1048576) (hc : c.length ≤ 1048576) : Ev (fun k => laws_toHeader.f k f v a b c n q p) (f, v, a, b, c, n, q, p) := by
  simp only [laws_toHeader.f]
  refine Ev.bind (toByteS_ev _ (by omega)) ?_
  refine Ev.bind (toByteS_ev _ (by omega)) ?_
  refine Ev.bind (toByteS_ev _ (by omega)) ?_
  exact Ev.now _
theorem eqHeader_ev (f v : Int) (a b c : List Int) (n q p : Int) (ha : a.length ≤ 1048576) (hb : b.length ≤ 1048576) (hc : c.length ≤ 1048576) : Ev (fun k => laws_eqHeader.f k f v a b c n q p f v a b c n q p) true := by
  simp only [laws_eqHeader.f, if_true]
  refine Ev.bind (eqByteS_ev _ (by omega)) ?_
  simp only [if_true]
  refine Ev.bind (eqByteS_ev _ (by omega)) ?_
  simp only [if_true]
  refine Ev.bind (eqByteS_ev _ (by omega)) ?_
  simp only [if_true]
  exact Ev.now _
theorem markHeader_ev (f v : Int) (a b c : List Int) (n q p : Int) (m : Int) (hm : 0 ≤ m) (hm1 : m ≤ 4294967296) (ha : a.length ≤ 1048576) (hb : b.length ≤ 1048576) (hc : c.length ≤ 1048576) :
    Ev (fun k => laws_markHeader.f k f v a b c n q p m) (m + a.length + b.length + c.length, marks m a.length, marks (m + a.length) b.length, marks (m + a.length + b.length) c.length) := by
  simp only [laws_markHeader.f]
  refine Ev.bind (markByteS_ev _ _ (by omega) (by omega)) ?_
  refine Ev.bind (markByteS_ev _ _ (by omega) (by omega)) ?_
  refine Ev.bind (markByteS_ev _ _ (by omega) (by omega)) ?_
  exact Ev.now _
theorem vSpec (a : Int) : spec_l04VersionOK.f a = some (decide (1 ≤ a ∧ a ≤ 4294967295)) := by
  unfold spec_l04VersionOK.f
  by_cases h : a ≥ 1
  · rw [if_pos h]; exact congrArg some (by rw [decide_eq_decide]; omega)
  · rw [if_neg h]; exact congrArg some (decide_eq_false (by omega)).symm
theorem vImpl (a : Int) : impl_versionOK.f a = some (decide (1 ≤ a ∧ a ≤ 4294967295)) := by
  unfold impl_versionOK.f
  by_cases h : a ≥ 1
  · rw [if_pos h]; exact congrArg some (by rw [decide_eq_decide]; omega)
  · rw [if_neg h]; exact congrArg some (decide_eq_false (by omega)).symm
/-! The digest -/
theorem u32_wrap (n : Int) : IntKind.u32.wrap n = n % 4294967296 := by simp [IntKind.wrap, IntKind.bits, IntKind.signed]
theorem u32_or (a b : Int) : 0 ≤ Go.bits .or .u32 a b ∧ Go.bits .or .u32 a b < 4294967296 := by
  rw [show Go.bits .or .u32 a b = IntKind.u32.wrap _ from rfl, u32_wrap]
  omega
theorem u32_xor (a b : Int) : 0 ≤ Go.bits .xor .u32 a b ∧ Go.bits .xor .u32 a b < 4294967296 := by
  rw [show Go.bits .xor .u32 a b = IntKind.u32.wrap _ from rfl, u32_wrap]
  omega
/-- 32 bits turned left by k (j = 32 - k). -/
def rot (x k j : Int) : Int := Go.bits .or .u32 (shl .u32 x k) (shr .u32 x j)
theorem sRot7 (x : Int) : spec_l03Rot.f x 7 = some (rot x 7 25) := by
  simp only [spec_l03Rot.f, show IntKind.u64.wrap 7 = 7 by decide +kernel, show IntKind.u64.wrap (wrap64 (32 - 7)) = 25 by decide +kernel, show (0 : Int) ≤ 7 by decide, show (0 : Int) ≤ 25 by decide, if_true]
  rfl
theorem sRot13 (x : Int) : spec_l03Rot.f x 13 = some (rot x 13 19) := by
  simp only [spec_l03Rot.f, show IntKind.u64.wrap 13 = 13 by decide +kernel, show IntKind.u64.wrap (wrap64 (32 - 13)) = 19 by decide +kernel, show (0 : Int) ≤ 13 by decide, show (0 : Int) ≤ 19 by decide, if_true]
  rfl
theorem sRot17 (x : Int) : spec_l03Rot.f x 17 = some (rot x 17 15) := by
  simp only [spec_l03Rot.f, show IntKind.u64.wrap 17 = 17 by decide +kernel, show IntKind.u64.wrap (wrap64 (32 - 17)) = 15 by decide +kernel, show (0 : Int) ≤ 17 by decide, show (0 : Int) ≤ 15 by decide, if_true]
  rfl
theorem iRot7 (x : Int) : bits_RotateLeft32.f x 7 = some (rot x 7 25) := by
  simp only [bits_RotateLeft32.f, show Go.bits .and .u64 (IntKind.u64.wrap 7) 31 = 7 by decide +kernel, show IntKind.u64.wrap (32 - 7) = 25 by decide +kernel, show (0 : Int) ≤ 7 by decide, show (0 : Int) ≤ 25 by decide, if_true]
  rfl
theorem iRot13 (x : Int) : bits_RotateLeft32.f x 13 = some (rot x 13 19) := by
  simp only [bits_RotateLeft32.f, show Go.bits .and .u64 (IntKind.u64.wrap 13) 31 = 13 by decide +kernel, show IntKind.u64.wrap (32 - 13) = 19 by decide +kernel, show (0 : Int) ≤ 13 by decide, show (0 : Int) ≤ 19 by decide, if_true]
  rfl
theorem iRot17 (x : Int) : bits_RotateLeft32.f x 17 = some (rot x 17 15) := by
  simp only [bits_RotateLeft32.f, show Go.bits .and .u64 (IntKind.u64.wrap 17) 31 = 17 by decide +kernel, show IntKind.u64.wrap (32 - 17) = 15 by decide +kernel, show (0 : Int) ≤ 17 by decide, show (0 : Int) ≤ 15 by decide, if_true]
  rfl
def st1 (s : Int × Int × Int × Int) (v : Int) : Int := ((Go.bits .xor .u32 s.1 (v % 4294967296)) * 16777619) % 4294967296
def st2 (s : Int × Int × Int × Int) (v : Int) : Int := rot ((s.2.1 + st1 s v) % 4294967296) 7 25
def st3 (s : Int × Int × Int × Int) (v : Int) : Int := rot (Go.bits .xor .u32 s.2.2.1 (st2 s v)) 13 19
def st4 (s : Int × Int × Int × Int) (v : Int) : Int := rot ((s.2.2.2 + st3 s v) % 4294967296) 17 15
/-- One byte stirred in. -/
def stp (s : Int × Int × Int × Int) (v : Int) : Int × Int × Int × Int := (Go.bits .xor .u32 (st1 s v) (st4 s v), st2 s v, st3 s v, st4 s v)
def B4 (s : Int × Int × Int × Int) : Prop := (0 ≤ s.1 ∧ s.1 < 4294967296) ∧ (0 ≤ s.2.1 ∧ s.2.1 < 4294967296) ∧ (0 ≤ s.2.2.1 ∧ s.2.2.1 < 4294967296) ∧ (0 ≤ s.2.2.2 ∧ s.2.2.2 < 4294967296)
theorem B4_stp (s : Int × Int × Int × Int) (v : Int) : B4 (stp s v) := by
  have h2 : 0 ≤ st2 s v ∧ st2 s v < 4294967296 := by unfold st2 rot; exact u32_or _ _
  have h3 : 0 ≤ st3 s v ∧ st3 s v < 4294967296 := by unfold st3 rot; exact u32_or _ _
  have h4 : 0 ≤ st4 s v ∧ st4 s v < 4294967296 := by unfold st4 rot; exact u32_or _ _
  exact ⟨u32_xor _ _, h2, h3, h4⟩
theorem B4_fold (l : List Int) : ∀ s, B4 s → B4 (l.foldl stp s) := by
  induction l with
  | nil => intro s h; exact h
  | cons v l ih => intro s _; exact ih _ (B4_stp s v)
theorem drop_rd (l : List Int) (i : Nat) (h : i < l.length) : l.drop i = rd l (i : Int) :: l.drop (i + 1) := by
  rw [List.drop_eq_getElem_cons h, rd_some (List.getElem?_eq_getElem h)]
theorem sStir_loop (l : List Int) (hl : l.length ≤ 281474976710656) (n : Nat) : ∀ (i : Nat) (s : Int × Int × Int × Int), l.length - i = n → i ≤ l.length → Ev (fun k => spec_l03Stir.l0 k l (i : Int) s.1 s.2.1 s.2.2.1 s.2.2.2) ((l.drop i).foldl stp s) := by
  induction n with
  | zero =>
    intro i s hn hi
    refine Ev.step (fun k => rfl) ?_
    simp only [spec_l03Stir.l0, show ¬ ((i : Int) < (l.length : Int)) by omega, if_false]
    rw [List.drop_eq_nil_of_le (by omega)]
    exact Ev.now _
  | succ n ih =>
    intro i s hn hi
    have H := ih (i + 1) (stp s (rd l (i : Int))) (by omega) (by omega)
    refine Ev.step (fun k => rfl) ?_
    simp only [spec_l03Stir.l0, show ((i : Int) < (l.length : Int)) by omega, show (0 : Int) ≤ (i : Int) by omega, if_true, sRot7, sRot13, sRot17, Option.bind_some, next64 (show i < 4611686018427387904 by omega)]
    rw [drop_rd l i (by omega)]
    exact H
theorem sStir_ev (s : Int × Int × Int × Int) (l : List Int) (hl : l.length ≤ 281474976710656) : Ev (fun k => spec_l03Stir.f k s.1 s.2.1 s.2.2.1 s.2.2.2 l) (l.foldl stp s) := by
  simp only [spec_l03Stir.f]
  exact sStir_loop l hl l.length 0 s (by omega) (by omega)
theorem iStir_loop (l : List Int) (hl : l.length ≤ 281474976710656) (n : Nat) : ∀ (i : Nat) (s : Int × Int × Int × Int), l.length - i = n → i ≤ l.length → Ev (fun k => impl_stirrer_stir.l0 k l (l.length : Int) (i : Int) s.1 s.2.1 s.2.2.1 s.2.2.2) ((l.drop i).foldl stp s) := by
  induction n with
  | zero =>
    intro i s hn hi
    refine Ev.step (fun k => rfl) ?_
    simp only [impl_stirrer_stir.l0, show ¬ ((i : Int) < (l.length : Int)) by omega, if_false]
    rw [List.drop_eq_nil_of_le (by omega)]
    exact Ev.now _
  | succ n ih =>
    intro i s hn hi
    have H := ih (i + 1) (stp s (rd l (i : Int))) (by omega) (by omega)
    refine Ev.step (fun k => rfl) ?_
    simp only [impl_stirrer_stir.l0, show ((i : Int) < (l.length : Int)) by omega, show (0 : Int) ≤ (i : Int) by omega, if_true, iRot7, iRot13, iRot17, Option.bind_some, next64 (show i < 4611686018427387904 by omega)]
    rw [drop_rd l i (by omega)]
    exact H
theorem iStir_ev (s : Int × Int × Int × Int) (l : List Int) (hl : l.length ≤ 281474976710656) : Ev (fun k => impl_stirrer_stir.f k s.1 s.2.1 s.2.2.1 s.2.2.2 l) (l.foldl stp s) := by
  simp only [impl_stirrer_stir.f]
  exact iStir_loop l hl l.length 0 s (by omega) (by omega)
/-- n times 165 stirred in. -/
def it : Nat → Int × Int × Int × Int → Int × Int × Int × Int
  | 0, s => s
  | n + 1, s => it n (stp s 165)
theorem B4_it : ∀ n s, B4 s → B4 (it n s)
  | 0, _, h => h
  | n + 1, s, _ => B4_it n _ (B4_stp s 165)
/-- The four numbers' bytes. -/
def d4 (s : Int × Int × Int × Int) : List Int := dg s.1 4 ++ dg s.2.1 4 ++ dg s.2.2.1 4 ++ dg s.2.2.2 4
theorem d4_length (s : Int × Int × Int × Int) : (d4 s).length = 16 := by simp [d4, dg_length]
theorem sEnd_loop (n : Nat) : ∀ (i : Nat) (s : Int × Int × Int × Int), 16 - i = n → i ≤ 16 → B4 s → Ev (fun k => spec_l03Digest.l0 k (i : Int) s.1 s.2.1 s.2.2.1 s.2.2.2) (d4 (it n s)) := by
  induction n with
  | zero =>
    intro i s hn hi hs
    obtain rfl : i = 16 := by omega
    obtain ⟨⟨a0, a1⟩, ⟨b0, b1⟩, ⟨c0, c1⟩, d0, d1⟩ := hs
    refine Ev.step (fun k => rfl) ?_
    simp only [spec_l03Digest.l0, show ¬ (((16 : Nat) : Int) < 16) by decide, if_false, w64 (x := s.1) (by omega) (by omega), w64 (x := s.2.1) (by omega) (by omega), w64 (x := s.2.2.1) (by omega) (by omega), w64 (x := s.2.2.2) (by omega) (by omega)]
    refine Ev.bind (digits_ev 4 _ (by omega) a0 (by omega)) ?_
    refine Ev.bind (digits_ev 4 _ (by omega) b0 (by omega)) ?_
    simp only [dg_length, List.length_append, Option.bind_some, show 4 + 4 < 140737488355328 by decide, if_true]
    refine Ev.bind (digits_ev 4 _ (by omega) c0 (by omega)) ?_
    simp only [dg_length, List.length_append, Option.bind_some, show 4 + 4 + 4 < 140737488355328 by decide, if_true]
    refine Ev.bind (digits_ev 4 _ (by omega) d0 (by omega)) ?_
    simp only [dg_length, List.length_append, show 4 + 4 + 4 + 4 < 140737488355328 by decide, if_true]
    exact Ev.now _
  | succ n ih =>
    intro i s hn hi hs
    have H := ih (i + 1) (stp s 165) (by omega) (by omega) (B4_stp s 165)
    refine Ev.step (fun k => rfl) ?_
    simp only [spec_l03Digest.l0, show ((i : Int) < 16) by omega, if_true, next64 (show i < 4611686018427387904 by omega)]
    refine Ev.bind (sStir_ev s [165] (by simp)) ?_
    exact H
theorem iOut_ev (s : Int × Int × Int × Int) (hs : B4 s) : Ev (fun k => impl_digest.l1 k [] s.1 s.2.1 s.2.2.1 s.2.2.2 0) (d4 s) := by
  obtain ⟨⟨a0, a1⟩, ⟨b0, b1⟩, ⟨c0, c1⟩, d0, d1⟩ := hs
  refine Ev.step (fun k => rfl) ?_
  simp only [impl_digest.l1, show pick4 s.1 s.2.1 s.2.2.1 s.2.2.2 0 = s.1 from rfl, show (0 : Int) < 4 by decide, show (0 : Int) ≤ 0 by decide, if_true, w64 (x := s.1) (by omega) (by omega), show wrap64 (0 + 1) = 1 by decide +kernel]
  refine Ev.bind (fixed_ev _ 4 _ a0 (by omega) (by omega) (by simp)) ?_
  refine Ev.step (fun k => rfl) ?_
  simp only [impl_digest.l1, show pick4 s.1 s.2.1 s.2.2.1 s.2.2.2 1 = s.2.1 from rfl, show (1 : Int) < 4 by decide, show (0 : Int) ≤ 1 by decide, if_true, w64 (x := s.2.1) (by omega) (by omega), show wrap64 (1 + 1) = 2 by decide +kernel]
  refine Ev.bind (fixed_ev _ 4 _ b0 (by omega) (by omega) (by simp [dg_length])) ?_
  refine Ev.step (fun k => rfl) ?_
  simp only [impl_digest.l1, show pick4 s.1 s.2.1 s.2.2.1 s.2.2.2 2 = s.2.2.1 from rfl, show (2 : Int) < 4 by decide, show (0 : Int) ≤ 2 by decide, if_true, w64 (x := s.2.2.1) (by omega) (by omega), show wrap64 (2 + 1) = 3 by decide +kernel]
  refine Ev.bind (fixed_ev _ 4 _ c0 (by omega) (by omega) (by simp [dg_length])) ?_
  refine Ev.step (fun k => rfl) ?_
  simp only [impl_digest.l1, show pick4 s.1 s.2.1 s.2.2.1 s.2.2.2 3 = s.2.2.2 from rfl, show (3 : Int) < 4 by decide, show (0 : Int) ≤ 3 by decide, if_true, w64 (x := s.2.2.2) (by omega) (by omega), show wrap64 (3 + 1) = 4 by decide +kernel]
  refine Ev.bind (fixed_ev _ 4 _ d0 (by omega) (by omega) (by simp [dg_length])) ?_
  refine Ev.step (fun k => rfl) ?_
  simp only [impl_digest.l1, show ¬ ((4 : Int) < 4) by decide, if_false]
  exact Ev_now (by simp [d4])
theorem iEnd_loop (n : Nat) : ∀ (i : Nat) (s : Int × Int × Int × Int), 16 - i = n → i ≤ 16 → B4 s → Ev (fun k => impl_digest.l0 k (i : Int) s.1 s.2.1 s.2.2.1 s.2.2.2) (d4 (it n s)) := by
  induction n with
  | zero =>
    intro i s hn hi hs
    obtain rfl : i = 16 := by omega
    refine Ev.step (fun k => rfl) ?_
    simp only [impl_digest.l0, show ¬ (((16 : Nat) : Int) < 16) by decide, if_false]
    exact iOut_ev s hs
  | succ n ih =>
    intro i s hn hi hs
    have H := ih (i + 1) (stp s 165) (by omega) (by omega) (B4_stp s 165)
    refine Ev.step (fun k => rfl) ?_
    simp only [impl_digest.l0, show ((i : Int) < 16) by omega, if_true, next64 (show i < 4611686018427387904 by omega)]
    refine Ev.bind (iStir_ev s [165] (by simp)) ?_
    exact H
def s0 : Int × Int × Int × Int := (1779033703, 3144134277, 1013904242, 2773480762)
def s4 (key data : List Int) : Int × Int × Int × Int := (dg (data.length : Int) 4).foldl stp (data.foldl stp (key.foldl stp ((dg (key.length : Int) 4).foldl stp s0)))
/-- The digest. -/
def dgst (key data : List Int) : List Int := d4 (it 16 (s4 key data))
theorem B4_s4 (key data : List Int) : B4 (s4 key data) := B4_fold _ _ (B4_fold _ _ (B4_fold _ _ (B4_fold _ _ (by unfold B4 s0; decide))))
theorem dgst_length (key data : List Int) : (dgst key data).length = 16 := d4_length _
theorem dgst_byte (key data : List Int) : ∀ x ∈ dgst key data, 0 ≤ x ∧ x < 256 := by
  intro x hx
  simp only [dgst, d4, List.mem_append] at hx
  rcases hx with ((h | h) | h) | h <;> exact dg_byte _ _ x h
theorem sDigest_ev (key data : List Int) (hk : key.length ≤ 1048576) (hd : data.length ≤ 1048576) : Ev (fun k => spec_l03Digest.f k key data) (dgst key data) := by
  simp only [spec_l03Digest.f]
  refine Ev.bind (digits_ev 4 _ (by omega) (by omega) (by omega)) ?_
  refine Ev.bind (sStir_ev s0 _ (by simp [dg_length])) ?_
  refine Ev.bind (sStir_ev _ _ (by omega)) ?_
  refine Ev.bind (sStir_ev _ _ (by omega)) ?_
  refine Ev.bind (digits_ev 4 _ (by omega) (by omega) (by omega)) ?_
  refine Ev.bind (sStir_ev _ _ (by simp [dg_length])) ?_
  exact sEnd_loop 16 0 _ (by omega) (by omega) (B4_s4 key data)
theorem iDigest_ev (key data : List Int) (hk : key.length ≤ 1048576) (hd : data.length ≤ 1048576) : Ev (fun k => impl_digest.f k key data) (dgst key data) := by
  simp only [impl_digest.f, impl_stirrer_new.f, Option.bind_some]
  refine Ev.bind (fixed_ev _ 4 _ (by omega) (by omega) (by omega) (by simp)) ?_
  simp only [List.nil_append]
  refine Ev.bind (iStir_ev s0 _ (by simp [dg_length])) ?_
  refine Ev.bind (iStir_ev _ _ (by omega)) ?_
  refine Ev.bind (iStir_ev _ _ (by omega)) ?_
  refine Ev.bind (fixed_ev _ 4 _ (by omega) (by omega) (by omega) (by simp)) ?_
  simp only [List.nil_append]
  refine Ev.bind (iStir_ev _ _ (by simp [dg_length])) ?_
  exact iEnd_loop 16 0 _ (by omega) (by omega) (B4_s4 key data)
theorem sTag_ev (o p : List Int) (ho : o.length ≤ 8) (hp : p.length ≤ 1000) : Ev (fun k => spec_l04RetryTag.f k o p) ((dgst [114, 101, 116, 114, 121] ([(o.length : Int) % 256] ++ o ++ p)).take 8) := by
  simp only [spec_l04RetryTag.f, Option.bind_some]
  refine Ev_ite (fun _ => ?_) (fun c => absurd (by simp; omega) c)
  refine Ev_ite (fun _ => ?_) (fun c => absurd (by simp; omega) c)
  refine Ev.bind (sDigest_ev _ _ (by simp) (by simp; omega)) ?_
  simp only [dgst_length, show (8 : Int) ≤ ((16 : Nat) : Int) by decide, if_true]
  exact Ev.now _
theorem iTag_ev (o p : List Int) (ho : o.length ≤ 8) (hp : p.length ≤ 1000) : Ev (fun k => impl_retryTag.f k o p) ((dgst [114, 101, 116, 114, 121] ([(o.length : Int) % 256] ++ o ++ p)).take 8) := by
  simp only [impl_retryTag.f, Option.bind_some]
  refine Ev_ite (fun _ => ?_) (fun c => absurd (by simp; omega) c)
  refine Ev_ite (fun _ => ?_) (fun c => absurd (by simp; omega) c)
  refine Ev.bind (iDigest_ev _ _ (by simp) (by simp; omega)) ?_
  simp only [dgst_length, show (8 : Int) ≤ ((16 : Nat) : Int) by decide, if_true]
  exact Ev.now _
/-- Both answer, and the same. -/
theorem both (f v : Int) (d s t : List Int) (n q p : Int) (o : List Int) : ∃ w e, Ev (fun k => spec_RetryPacket.f k f v d s t n q p o) (w, e) ∧ Ev (fun k => impl_RetryPacket.f k f v d s t n q p o) (w, e) ∧ w.length ≤ 200 := by
  have sT : ∀ f n q p, Ev (fun k => spec_RetryPacket.j0 k o true f v d s t n q p) ([], 1) := fun f n q p => Ev.step (f := fun _ => some ([], 1)) (fun k => by simp only [spec_RetryPacket.j0, if_true]) (Ev.now _)
  have iT : ∀ f n q p, Ev (fun k => impl_RetryPacket.j0 k o true f v d s t n q p) ([], 1) := fun f n q p => Ev.step (f := fun _ => some ([], 1)) (fun k => by simp only [impl_RetryPacket.j0, if_true]) (Ev.now _)
  have bad : ∀ f n q p, ∃ w e, Ev (fun k => spec_RetryPacket.j0 k o true f v d s t n q p) (w, e) ∧ Ev (fun k => impl_RetryPacket.j0 k o true f v d s t n q p) (w, e) ∧ w.length ≤ 200 := fun f n q p => ⟨[], 1, sT f n q p, iT f n q p, by simp⟩
  simp only [spec_RetryPacket.f, impl_RetryPacket.f, vSpec, vImpl, Option.bind_some]
  by_cases c1 : f = 3
  · by_cases c2 : decide (1 ≤ v ∧ v ≤ 4294967295) = true
    · by_cases c3 : (d.length : Int) > 8
      · simp only [c1, c2, c3, if_true]; exact bad _ _ _ _
      by_cases c4 : (s.length : Int) > 8
      · simp only [c1, c2, c3, c4, if_true, if_false]; exact bad _ _ _ _
      by_cases c5 : (t.length : Int) < 1
      · simp only [c1, c2, c3, c4, c5, if_true, if_false]; exact bad _ _ _ _
      by_cases c6 : (t.length : Int) > 64
      · simp only [c1, c2, c3, c4, c5, c6, if_true, if_false]; exact bad _ _ _ _
      by_cases c7 : n = 0
      · by_cases c8 : q = 0
        · by_cases c9 : p = 0
          · by_cases c10 : (o.length : Int) > 8
            · simp only [c1, c2, c3, c4, c5, c6, c7, c8, c9, c10, if_true, if_false, decide_true]; exact bad _ _ _ _
            · simp only [c1, c2, c3, c4, c5, c6, c7, c8, c9, c10, if_true, if_false, decide_false]
              have hv := of_decide_eq_true c2
              refine ⟨[240] ++ dg v 4 ++ [(d.length : Int) % 256] ++ d ++ [(s.length : Int) % 256] ++ s ++ t ++ (dgst [114, 101, 116, 114, 121] ([(o.length : Int) % 256] ++ o ++ ([240] ++ dg v 4 ++ [(d.length : Int) % 256] ++ d ++ [(s.length : Int) % 256] ++ s ++ t))).take 8, 0, ?_, ?_, by simp [dg_length, dgst_length]; omega⟩
              · refine Ev.step (fun k => rfl) ?_
                simp only [spec_RetryPacket.j0, Bool.false_eq_true, if_false, Option.bind_some]
                refine Ev.bind (l04Ids_ev v d s (by omega) (by omega) (by omega) (by omega)) ?_
                have e1 : ([240] : List Int) ++ (dg v 4 ++ [(d.length : Int) % 256] ++ d ++ [(s.length : Int) % 256] ++ s) = [240] ++ dg v 4 ++ [(d.length : Int) % 256] ++ d ++ [(s.length : Int) % 256] ++ s := by simp only [List.append_assoc]
                refine Ev_ite (fun _ => ?_) (fun c => absurd (by simp [dg_length]; omega) c)
                simp only [e1]
                refine Ev_ite (fun _ => ?_) (fun c => absurd (by simp [dg_length]; omega) c)
                refine Ev.bind (sTag_ev o _ (by omega) (by simp [dg_length]; omega)) ?_
                refine Ev_ite (fun _ => Ev.now _) (fun c => absurd (by simp [dg_length, dgst_length]; omega) c)
              · refine Ev.step (fun k => rfl) ?_
                simp only [impl_RetryPacket.j0, Bool.false_eq_true, if_false, Option.bind_some]
                refine Ev.bind (longBegin_ev 240 v d s (by omega) (by omega) (by omega) (by omega)) ?_
                refine Ev_ite (fun _ => ?_) (fun c => absurd (by simp [dg_length]; omega) c)
                refine Ev.bind (iTag_ev o _ (by omega) (by simp [dg_length]; omega)) ?_
                refine Ev_ite (fun _ => Ev.now _) (fun c => absurd (by simp [dg_length, dgst_length]; omega) c)
          · simp only [c1, c2, c3, c4, c5, c6, c7, c8, c9, if_true, if_false]; exact bad _ _ _ _
        · simp only [c1, c2, c3, c4, c5, c6, c7, c8, if_true, if_false]; exact bad _ _ _ _
      · simp only [c1, c2, c3, c4, c5, c6, c7, if_true, if_false]; exact bad _ _ _ _
    · simp only [c1, c2, if_true, if_false]; exact bad _ _ _ _
  · simp only [c1, if_false]; exact bad _ _ _ _

theorem FnExactRetryPacket (f v : Int) (d s t : List Int) (n q p : Int) (o : List Int) (qf : (Lit.int .i64 f).wf = true) (qv : (Lit.int .i64 v).wf = true) (qd : d.length ≤ maxLen ∧ ∀ x ∈ d, (Lit.int .u8 x).wf = true) (qs : s.length ≤ maxLen ∧ ∀ x ∈ s, (Lit.int .u8 x).wf = true) (qt : t.length ≤ maxLen ∧ ∀ x ∈ t, (Lit.int .u8 x).wf = true) (qn : (Lit.int .i64 n).wf = true) (qq : (Lit.int .i64 q).wf = true) (qp : (Lit.int .i64 p).wf = true) (qo : o.length ≤ maxLen ∧ ∀ x ∈ o, (Lit.int .u8 x).wf = true) : ∃ k, laws_FnExactRetryPacket.f k f v d s t n q p o = some true := by
  refine Ev.rounds (g := fun k => laws_FnExactRetryPacket.f k f v d s t n q p o) ?_
  simp only [laws_FnExactRetryPacket.f]
  refine Ev_ite (fun _ => Ev.now _) (fun c0 => ?_)
  obtain ⟨z, hz, hz'⟩ := szHeader_ev f v d s t n q p 1048576 (by decide) (by decide) qd.1 qs.1 qt.1
  simp only [hz, Option.bind_some]
  refine Ev_ite (fun _ => Ev.now _) (fun c1 => ?_)
  obtain ⟨zd, zs, zt⟩ := hz'.resolve_left c1
  obtain ⟨w, e, hs, hi, hw⟩ := both f v d s t n q p o
  repeat' first
    | exact Ev.now _
    | refine Ev.bind hs ?_
    | refine Ev.bind hi ?_
    | refine Ev.bind (toHeader_ev f v d s t n q p zd zs zt) ?_
    | refine Ev.bind (eqHeader_ev f v d s t n q p zd zs zt) ?_
    | refine Ev.bind (markHeader_ev f v d s t n q p _ (by omega) (by omega) zd zs zt) ?_
    | refine Ev.bind (toByteS_ev _ (by omega)) ?_
    | refine Ev.bind (eqByteS_ev _ (by omega)) ?_
    | refine Ev.bind (markByteS_ev _ _ (by omega) (by omega)) ?_
    | refine Ev.bind (heldByteS_ev _ _ (by omega) (by omega)) ?_
    | simp only [if_true, if_false, bne_self_eq_false, Bool.false_eq_true, Bool.not_true, marks_length]
    | (refine Ev.step (fun k => rfl) ?_; simp only [laws_FnExactRetryPacket.j0, laws_FnExactRetryPacket.j1, laws_FnExactRetryPacket.j2])
    | refine Ev_ite (fun c => absurd c (by omega)) (fun _ => ?_)

end Go.Proofs.Ytcdkbdkanjifeaa.Pure
