/- For all keys: the program's NextKeys and the reference's tell the same keys, in memory of its own. No condition. -/
import Derived.Test.YtcdkbdkanjifeaaSFnExactNextKeysx6
import Derived.Test.YtcdkbdkanjifeaaUMath
namespace Go.Proofs.Ytcdkbdkanjifeaa.Pure
open Go.RowKit Go.Proofs.Ytcdkbdkanjifeaa.SFnExactNextKeys Go.Proofs.YtcdkbdkanjifeaaW.PrintWords Go.Proofs.YtcdkbdkanjifeaaW.PrintLast Go.Proofs.YtcdkbdkanjifeaaW.PrintMore Go.Proofs.Ytcdkbdkanjifeaa.Math
set_option linter.unusedVariables false
set_option linter.unusedSimpArgs false

theorem toByteS_loop (l : List Int) (hl : l.length ≤ 281474976710656) (n : Nat) : ∀ (x : List Int) (i : Nat), l.length - i = n → i ≤ l.length → x.length = l.length → (∀ j, j < i → x[j]? = l[j]?) → Ev (fun k => laws_toByteS.l0 k l x (i : Int)) l := by
  induction n with
  | zero =>
    intro x i hn hi hx h
    refine Ev.step (fun k => rfl) ?_
    simp only [laws_toByteS.l0, show ¬ ((i : Int) < (l.length : Int)) by omega, if_false]
    exact Ev_now (prefix_all hx (fun j hj => h j (by omega)))
  | succ n ih =>
    intro x i hn hi hx h
    have hil : i < l.length := by omega
    have H := ih (x.set i (rd l (i : Int))) (i + 1) (by omega) (by omega) (by rw [List.length_set]; exact hx) (set_prefix hx (rd_get l hil) h)
    refine Ev.step (fun k => rfl) ?_
    simp only [laws_toByteS.l0, show ((i : Int) < (l.length : Int)) by omega, show (0 : Int) ≤ (i : Int) by omega, show ((i : Int) < (x.length : Int)) by omega, if_true, Int.toNat_natCast, next64 (show i < 4611686018427387904 by omega)]
    exact H
theorem toByteS_ev (l : List Int) (hl : l.length ≤ 281474976710656) : Ev (fun k => laws_toByteS.f k l) l := by
  simp only [laws_toByteS.f, show (0 : Int) ≤ (l.length : Int) by omega, if_true, Int.toNat_natCast, hl]
  exact toByteS_loop l hl l.length _ 0 (by omega) (by omega) (by simp) (fun j hj => by omega)
theorem eqByteS_loop (l : List Int) (hl : l.length ≤ 281474976710656) (n : Nat) : ∀ (i : Nat), l.length - i = n → i ≤ l.length → Ev (fun k => laws_eqByteS.l0 k l l (i : Int)) true := by
  induction n with
  | zero =>
    intro i hn hi
    refine Ev.step (fun k => rfl) ?_
    simp only [laws_eqByteS.l0, show ¬ ((i : Int) < (l.length : Int)) by omega, if_false]
    exact Ev.now _
  | succ n ih =>
    intro i hn hi
    have H := ih (i + 1) (by omega) (by omega)
    refine Ev.step (fun k => rfl) ?_
    simp only [laws_eqByteS.l0, show ((i : Int) < (l.length : Int)) by omega, show (0 : Int) ≤ (i : Int) by omega, if_true, next64 (show i < 4611686018427387904 by omega)]
    exact H
theorem eqByteS_ev (l : List Int) (hl : l.length ≤ 281474976710656) : Ev (fun k => laws_eqByteS.f k l l) true := by
  simp only [laws_eqByteS.f, if_true]
  exact eqByteS_loop l hl l.length 0 (by omega) (by omega)
theorem markByteS_loop (m : Int) (N : Nat) (hm : 0 ≤ m) (hN : m + N ≤ 4611686018427387903) (n : Nat) : ∀ (x : List Int) (i : Nat), N - i = n → i ≤ N → x.length = N → (∀ j, j < i → x[j]? = (marks m N)[j]?) → Ev (fun k => laws_markByteS.l0 k x (m + i) (i : Int)) (m + N, marks m N) := by
  induction n with
  | zero =>
    intro x i hn hi hx h
    obtain rfl : i = N := by omega
    refine Ev.step (fun k => rfl) ?_
    simp only [laws_markByteS.l0, show ¬ ((i : Int) < (x.length : Int)) by omega, if_false]
    exact Ev_now (by rw [prefix_all (l := marks m i) (by rw [marks_length, hx]) (fun j hj => h j (by rw [marks_length] at hj; exact hj))])
  | succ n ih =>
    intro x i hn hi hx h
    have H := ih (x.set i ((m + i) % 256)) (i + 1) (by omega) (by omega) (by rw [List.length_set]; exact hx) (set_prefix (by rw [marks_length, hx]) (marks_get m (by omega)) h)
    rw [show m + ((i + 1 : Nat) : Int) = m + i + 1 by omega] at H
    refine Ev.step (fun k => rfl) ?_
    simp only [laws_markByteS.l0, show ((i : Int) < (x.length : Int)) by omega, show (0 : Int) ≤ (i : Int) by omega, if_true, Int.toNat_natCast, next64 (show i < 4611686018427387904 by omega), w64 (x := m + i + 1) (by omega) (by omega)]
    exact H
theorem markByteS_ev (x : List Int) (m : Int) (hm : 0 ≤ m) (hN : m + x.length ≤ 4611686018427387903) : Ev (fun k => laws_markByteS.f k x m) (m + x.length, marks m x.length) := by
  have H := markByteS_loop m x.length hm hN x.length x 0 (by omega) (by omega) rfl (fun j hj => by omega)
  rw [show m + ((0 : Nat) : Int) = m by omega] at H
  simp only [laws_markByteS.f]
  exact H
theorem heldByteS_loop (m : Int) (N : Nat) (hm : 0 ≤ m) (hN : m + N ≤ 4611686018427387903) (n : Nat) : ∀ (i : Nat), N - i = n → i ≤ N → Ev (fun k => laws_heldByteS.l0 k (marks m N) (m + i) (i : Int)) (m + N) := by
  induction n with
  | zero =>
    intro i hn hi
    obtain rfl : i = N := by omega
    refine Ev.step (fun k => rfl) ?_
    simp only [laws_heldByteS.l0, marks_length, show ¬ ((i : Int) < (i : Int)) by omega, if_false]
    exact Ev.now _
  | succ n ih =>
    intro i hn hi
    have H := ih (i + 1) (by omega) (by omega)
    rw [show m + ((i + 1 : Nat) : Int) = m + i + 1 by omega] at H
    refine Ev.step (fun k => rfl) ?_
    simp only [laws_heldByteS.l0, marks_length, show ((i : Int) < (N : Int)) by omega, show (0 : Int) ≤ (i : Int) by omega, rd_some (marks_get m (show i < N by omega)), if_true, next64 (show i < 4611686018427387904 by omega), w64 (x := m + i + 1) (by omega) (by omega)]
    exact H
theorem heldByteS_ev (n : Nat) (m : Int) (hm : 0 ≤ m) (hN : m + n ≤ 4611686018427387903) : Ev (fun k => laws_heldByteS.f k (marks m n) m) (m + n) := by
  have H := heldByteS_loop m n hm hN n 0 (by omega) (by omega)
  rw [show m + ((0 : Nat) : Int) = m by omega] at H
  simp only [laws_heldByteS.f]
  exact H
theorem digits_ev (n : Nat) : ∀ v : Int, n ≤ 64 → 0 ≤ v → v ≤ 9223372036854775807 → Ev (fun k => spec_l01Digits.f k v (n : Int)) (dg v n) := by
  induction n with
  | zero =>
    intro v hn h0 h1
    refine Ev.step (fun k => rfl) ?_
    simp only [spec_l01Digits.f, show ((0 : Nat) : Int) = 0 from rfl, if_true]
    exact Ev.now _
  | succ n ih =>
    intro v hn h0 h1
    have H := ih (v / 256) (by omega) (by omega) (by omega)
    refine Ev.step (fun k => rfl) ?_
    simp only [spec_l01Digits.f, show ¬ (((n + 1 : Nat) : Int) = 0) by omega, if_false, tdiv_nn h0, tmod_nn h0, w64 (x := v / 256) (by omega) (by omega), show ((n + 1 : Nat) : Int) - 1 = (n : Int) by omega, w64 (x := (n : Int)) (by omega) (by omega)]
    refine Ev.bind H ?_
    simp only [dg_length, show n < 140737488355328 by omega, if_true]
    exact Ev_now (by rw [dg_snoc v h0 n, Int.emod_emod])
theorem shr_digit (v : Int) (m : Nat) (hm : m ≤ 7) (h0 : 0 ≤ v) (h1 : v ≤ 9223372036854775807) : (shr .u64 (IntKind.u64.wrap v) (wrap64 (8 * (m : Int)))) % 256 = v / 256 ^ m % 256 := by
  have hp : (2 : Int) ^ (8 * m) = 256 ^ m := by rw [Int.pow_mul]; rfl
  have e : min (8 * (m : Int)).toNat IntKind.u64.bits = 8 * m := by simp only [IntKind.bits]; omega
  unfold shr
  rw [wraps_u64 v h0 (by omega), w64 (by omega) (by omega), e, hp]
theorem fixed_loop (v : Int) (h0 : 0 ≤ v) (h1 : v ≤ 9223372036854775807) (m : Nat) : ∀ l : List Int, m ≤ 8 → l.length + m < 140737488355328 → Ev (fun k => impl_fixed.l0 k l v ((m : Int) - 1)) (l ++ dg v m) := by
  induction m with
  | zero =>
    intro l hm hl
    refine Ev.step (fun k => rfl) ?_
    simp only [impl_fixed.l0, show ¬ (((0 : Nat) : Int) - 1 ≥ 0) by omega, if_false]
    exact Ev_now (by simp [dg])
  | succ m ih =>
    intro l hm hl
    have e := shr_digit v m (by omega) h0 h1
    refine Ev.step (fun k => rfl) ?_
    simp only [impl_fixed.l0, show ((m + 1 : Nat) : Int) - 1 = (m : Int) by omega, show (m : Int) ≥ 0 by omega, show (0 : Int) ≤ wrap64 (8 * (m : Int)) by rw [w64 (by omega) (by omega)]; omega, if_true, show l.length < 140737488355328 by omega, e, w64 (x := (m : Int) - 1) (by omega) (by omega)]
    exact Ev_cast (ih (l ++ [v / 256 ^ m % 256]) (by omega) (by simp; omega)) (by simp [dg])
theorem fixed_ev (v : Int) (n : Nat) (l : List Int) (h0 : 0 ≤ v) (h1 : v ≤ 9223372036854775807) (hn : n ≤ 8) (hl : l.length + 8 < 140737488355328) : Ev (fun k => impl_fixed.f k l v (n : Int)) (l ++ dg v n) := by
  simp only [impl_fixed.f, w64 (x := (n : Int) - 1) (by omega) (by omega)]
  exact fixed_loop v h0 h1 n l hn (by omega)
/-! The digest -/
theorem u32_wrap (n : Int) : IntKind.u32.wrap n = n % 4294967296 := by simp [IntKind.wrap, IntKind.bits, IntKind.signed]
theorem u32_or (a b : Int) : 0 ≤ Go.bits .or .u32 a b ∧ Go.bits .or .u32 a b < 4294967296 := by
  rw [show Go.bits .or .u32 a b = IntKind.u32.wrap _ from rfl, u32_wrap]
  omega
theorem u32_xor (a b : Int) : 0 ≤ Go.bits .xor .u32 a b ∧ Go.bits .xor .u32 a b < 4294967296 := by
  rw [show Go.bits .xor .u32 a b = IntKind.u32.wrap _ from rfl, u32_wrap]
  omega
/-- 32 bits turned left by k (j = 32 - k). -/
def rot (x k j : Int) : Int := Go.bits .or .u32 (shl .u32 x k) (shr .u32 x j)
theorem sRot7 (x : Int) : spec_l03Rot.f x 7 = some (rot x 7 25) := by
  simp only [spec_l03Rot.f, show IntKind.u64.wrap 7 = 7 by decide +kernel, show IntKind.u64.wrap (wrap64 (32 - 7)) = 25 by decide +kernel, show (0 : Int) ≤ 7 by decide, show (0 : Int) ≤ 25 by decide, if_true]
  rfl
theorem sRot13 (x : Int) : spec_l03Rot.f x 13 = some (rot x 13 19) := by
  simp only [spec_l03Rot.f, show IntKind.u64.wrap 13 = 13 by decide +kernel, show IntKind.u64.wrap (wrap64 (32 - 13)) = 19 by decide +kernel, show (0 : Int) ≤ 13 by decide, show (0 : Int) ≤ 19 by decide, if_true]
  rfl
theorem sRot17 (x : Int) : spec_l03Rot.f x 17 = some (rot x 17 15) := by
  simp only [spec_l03Rot.f, show IntKind.u64.wrap 17 = 17 by decide +kernel, show IntKind.u64.wrap (wrap64 (32 - 17)) = 15 by decide +kernel, show (0 : Int) ≤ 17 by decide, show (0 : Int) ≤ 15 by decide, if_true]
  rfl
theorem iRot7 (x : Int) : bits_RotateLeft32.f x 7 = some (rot x 7 25) := by
  simp only [bits_RotateLeft32.f, show Go.bits .and .u64 (IntKind.u64.wrap 7) 31 = 7 by decide +kernel, show IntKind.u64.wrap (32 - 7) = 25 by decide +kernel, show (0 : Int) ≤ 7 by decide, show (0 : Int) ≤ 25 by decide, if_true]
  rfl
theorem iRot13 (x : Int) : bits_RotateLeft32.f x 13 = some (rot x 13 19) := by
  simp only [bits_RotateLeft32.f, show Go.bits .and .u64 (IntKind.u64.wrap 13) 31 = 13 by decide +kernel, show IntKind.u64.wrap (32 - 13) = 19 by decide +kernel, show (0 : Int) ≤ 13 by decide, show (0 : Int) ≤ 19 by decide, if_true]
  rfl
theorem iRot17 (x : Int) : bits_RotateLeft32.f x 17 = some (rot x 17 15) := by
  simp only [bits_RotateLeft32.f, show Go.bits .and .u64 (IntKind.u64.wrap 17) 31 = 17 by decide +kernel, show IntKind.u64.wrap (32 - 17) = 15 by decide +kernel, show (0 : Int) ≤ 17 by decide, show (0 : Int) ≤ 15 by decide, if_true]
  rfl
def st1 (s : Int × Int × Int × Int) (v : Int) : Int := ((Go.bits .xor .u32 s.1 (v % 4294967296)) * 16777619) % 4294967296
def st2 (s : Int × Int × Int × Int) (v : Int) : Int := rot ((s.2.1 + st1 s v) % 4294967296) 7 25
def st3 (s : Int × Int × Int × Int) (v : Int) : Int := rot (Go.bits .xor .u32 s.2.2.1 (st2 s v)) 13 19
def st4 (s : Int × Int × Int × Int) (v : Int) : Int := rot ((s.2.2.2 + st3 s v) % 4294967296) 17 15
/-- One byte stirred in. -/
def stp (s : Int × Int × Int × Int) (v : Int) : Int × Int × Int × Int := (Go.bits .xor .u32 (st1 s v) (st4 s v), st2 s v, st3 s v, st4 s v)
def B4 (s : Int × Int × Int × Int) : Prop := (0 ≤ s.1 ∧ s.1 < 4294967296) ∧ (0 ≤ s.2.1 ∧ s.2.1 < 4294967296) ∧ (0 ≤ s.2.2.1 ∧ s.2.2.1 < 4294967296) ∧ (0 ≤ s.2.2.2 ∧ s.2.2.2 < 4294967296)
theorem B4_stp (s : Int × Int × Int × Int) (v : Int) : B4 (stp s v) := by
  have h2 : 0 ≤ st2 s v ∧ st2 s v < 4294967296 := by unfold st2 rot; exact u32_or _ _
  have h3 : 0 ≤ st3 s v ∧ st3 s v < 4294967296 := by unfold st3 rot; exact u32_or _ _
  have h4 : 0 ≤ st4 s v ∧ st4 s v < 4294967296 := by unfold st4 rot; exact u32_or _ _
  exact ⟨u32_xor _ _, h2, h3, h4⟩
theorem B4_fold (l : List Int) : ∀ s, B4 s → B4 (l.foldl stp s) := by
  induction l with
  | nil => intro s h; exact h
  | cons v l ih => intro s _; exact ih _ (B4_stp s v)
theorem drop_rd (l : List Int) (i : Nat) (h : i < l.length) : l.drop i = rd l (i : Int) :: l.drop (i + 1) := by
  rw [List.drop_eq_getElem_cons h, rd_some (List.getElem?_eq_getElem h)]
theorem sStir_loop (l : List Int) (hl : l.length ≤ 281474976710656) (n : Nat) : ∀ (i : Nat) (s : Int × Int × Int × Int), l.length - i = n → i ≤ l.length → Ev (fun k => spec_l03Stir.l0 k l (i : Int) s.1 s.2.1 s.2.2.1 s.2.2.2) ((l.drop i).foldl stp s) := by
  induction n with
  | zero =>
    intro i s hn hi
    refine Ev.step (fun k => rfl) ?_
    simp only [spec_l03Stir.l0, show ¬ ((i : Int) < (l.length : Int)) by omega, if_false]
    rw [List.drop_eq_nil_of_le (by omega)]
    exact Ev.now _
  | succ n ih =>
    intro i s hn hi
    have H := ih (i + 1) (stp s (rd l (i : Int))) (by omega) (by omega)
    refine Ev.step (fun k => rfl) ?_
    simp only [spec_l03Stir.l0, show ((i : Int) < (l.length : Int)) by omega, show (0 : Int) ≤ (i : Int) by omega, if_true, sRot7, sRot13, sRot17, Option.bind_some, next64 (show i < 4611686018427387904 by omega)]
    rw [drop_rd l i (by omega)]
    exact H
theorem sStir_ev (s : Int × Int × Int × Int) (l : List Int) (hl : l.length ≤ 281474976710656) : Ev (fun k => spec_l03Stir.f k s.1 s.2.1 s.2.2.1 s.2.2.2 l) (l.foldl stp s) := by
  simp only [spec_l03Stir.f]
  exact sStir_loop l hl l.length 0 s (by omega) (by omega)
theorem iStir_loop (l : List Int) (hl : l.length ≤ 281474976710656) (n : Nat) : ∀ (i : Nat) (s : Int × Int × Int × Int), l.length - i = n → i ≤ l.length → Ev (fun k => impl_stirrer_stir.l0 k l (l.length : Int) (i : Int) s.1 s.2.1 s.2.2.1 s.2.2.2) ((l.drop i).foldl stp s) := by
  induction n with
  | zero =>
    intro i s hn hi
    refine Ev.step (fun k => rfl) ?_
    simp only [impl_stirrer_stir.l0, show ¬ ((i : Int) < (l.length : Int)) by omega, if_false]
    rw [List.drop_eq_nil_of_le (by omega)]
    exact Ev.now _
  | succ n ih =>
    intro i s hn hi
    have H := ih (i + 1) (stp s (rd l (i : Int))) (by omega) (by omega)
    refine Ev.step (fun k => rfl) ?_
    simp only [impl_stirrer_stir.l0, show ((i : Int) < (l.length : Int)) by omega, show (0 : Int) ≤ (i : Int) by omega, if_true, iRot7, iRot13, iRot17, Option.bind_some, next64 (show i < 4611686018427387904 by omega)]
    rw [drop_rd l i (by omega)]
    exact H
theorem iStir_ev (s : Int × Int × Int × Int) (l : List Int) (hl : l.length ≤ 281474976710656) : Ev (fun k => impl_stirrer_stir.f k s.1 s.2.1 s.2.2.1 s.2.2.2 l) (l.foldl stp s) := by
  simp only [impl_stirrer_stir.f]
  exact iStir_loop l hl l.length 0 s (by omega) (by omega)
/-- n times 165 stirred in. -/
def it : Nat → Int × Int × Int × Int → Int × Int × Int × Int
  | 0, s => s
  | n + 1, s => it n (stp s 165)
theorem B4_it : ∀ n s, B4 s → B4 (it n s)
  | 0, _, h => h
  | n + 1, s, _ => B4_it n _ (B4_stp s 165)
/-- The four numbers' bytes. -/
def d4 (s : Int × Int × Int × Int) : List Int := dg s.1 4 ++ dg s.2.1 4 ++ dg s.2.2.1 4 ++ dg s.2.2.2 4
theorem d4_length (s : Int × Int × Int × Int) : (d4 s).length = 16 := by simp [d4, dg_length]
theorem sEnd_loop (n : Nat) : ∀ (i : Nat) (s : Int × Int × Int × Int), 16 - i = n → i ≤ 16 → B4 s → Ev (fun k => spec_l03Digest.l0 k (i : Int) s.1 s.2.1 s.2.2.1 s.2.2.2) (d4 (it n s)) := by
  induction n with
  | zero =>
    intro i s hn hi hs
    obtain rfl : i = 16 := by omega
    obtain ⟨⟨a0, a1⟩, ⟨b0, b1⟩, ⟨c0, c1⟩, d0, d1⟩ := hs
    refine Ev.step (fun k => rfl) ?_
    simp only [spec_l03Digest.l0, show ¬ (((16 : Nat) : Int) < 16) by decide, if_false, w64 (x := s.1) (by omega) (by omega), w64 (x := s.2.1) (by omega) (by omega), w64 (x := s.2.2.1) (by omega) (by omega), w64 (x := s.2.2.2) (by omega) (by omega)]
    refine Ev.bind (digits_ev 4 _ (by omega) a0 (by omega)) ?_
    refine Ev.bind (digits_ev 4 _ (by omega) b0 (by omega)) ?_
    simp only [dg_length, List.length_append, Option.bind_some, show 4 + 4 < 140737488355328 by decide, if_true]
    refine Ev.bind (digits_ev 4 _ (by omega) c0 (by omega)) ?_
    simp only [dg_length, List.length_append, Option.bind_some, show 4 + 4 + 4 < 140737488355328 by decide, if_true]
    refine Ev.bind (digits_ev 4 _ (by omega) d0 (by omega)) ?_
    simp only [dg_length, List.length_append, show 4 + 4 + 4 + 4 < 140737488355328 by decide, if_true]
    exact Ev.now _
  | succ n ih =>
    intro i s hn hi hs
    have H := ih (i + 1) (stp s 165) (by omega) (by omega) (B4_stp s 165)
    refine Ev.step (fun k => rfl) ?_
    simp only [spec_l03Digest.l0, show ((i : Int) < 16) by omega, if_true, next64 (show i < 4611686018427387904 by omega)]
    refine Ev.bind (sStir_ev s [165] (by simp)) ?_
    exact H
theorem iOut_ev (s : Int × Int × Int × Int) (hs : B4 s) : Ev (fun k => impl_digest.l1 k [] s.1 s.2.1 s.2.2.1 s.2.2.2 0) (d4 s) := by
  obtain ⟨⟨a0, a1⟩, ⟨b0, b1⟩, ⟨c0, c1⟩, d0, d1⟩ := hs
  refine Ev.step (fun k => rfl) ?_
  simp only [impl_digest.l1, show pick4 s.1 s.2.1 s.2.2.1 s.2.2.2 0 = s.1 from rfl, show (0 : Int) < 4 by decide, show (0 : Int) ≤ 0 by decide, if_true, w64 (x := s.1) (by omega) (by omega), show wrap64 (0 + 1) = 1 by decide +kernel]
  refine Ev.bind (fixed_ev _ 4 _ a0 (by omega) (by omega) (by simp)) ?_
  refine Ev.step (fun k => rfl) ?_
  simp only [impl_digest.l1, show pick4 s.1 s.2.1 s.2.2.1 s.2.2.2 1 = s.2.1 from rfl, show (1 : Int) < 4 by decide, show (0 : Int) ≤ 1 by decide, if_true, w64 (x := s.2.1) (by omega) (by omega), show wrap64 (1 + 1) = 2 by decide +kernel]
  refine Ev.bind (fixed_ev _ 4 _ b0 (by omega) (by omega) (by simp [dg_length])) ?_
  refine Ev.step (fun k => rfl) ?_
  simp only [impl_digest.l1, show pick4 s.1 s.2.1 s.2.2.1 s.2.2.2 2 = s.2.2.1 from rfl, show (2 : Int) < 4 by decide, show (0 : Int) ≤ 2 by decide, if_true, w64 (x := s.2.2.1) (by omega) (by omega), show wrap64 (2 + 1) = 3 by decide +kernel]
  refine Ev.bind (fixed_ev _ 4 _ c0 (by omega) (by omega) (by simp [dg_length])) ?_
  refine Ev.step (fun k => rfl) ?_
  simp only [impl_digest.l1, show pick4 s.1 s.2.1 s.2.2.1 s.2.2.2 3 = s.2.2.2 from rfl, show (3 : Int) < 4 by decide, show (0 : Int) ≤ 3 by decide, if_true, w64 (x := s.2.2.2) (by omega) (by omega), show wrap64 (3 + 1) = 4 by decide +kernel]
  refine Ev.bind (fixed_ev _ 4 _ d0 (by omega) (by omega) (by simp [dg_length])) ?_
  refine Ev.step (fun k => rfl) ?_
  simp only [impl_digest.l1, show ¬ ((4 : Int) < 4) by decide, if_false]
  exact Ev_now (by simp [d4])
theorem iEnd_loop (n : Nat) : ∀ (i : Nat) (s : Int × Int × Int × Int), 16 - i = n → i ≤ 16 → B4 s → Ev (fun k => impl_digest.l0 k (i : Int) s.1 s.2.1 s.2.2.1 s.2.2.2) (d4 (it n s)) := by
  induction n with
  | zero =>
    intro i s hn hi hs
    obtain rfl : i = 16 := by omega
    refine Ev.step (fun k => rfl) ?_
    simp only [impl_digest.l0, show ¬ (((16 : Nat) : Int) < 16) by decide, if_false]
    exact iOut_ev s hs
  | succ n ih =>
    intro i s hn hi hs
    have H := ih (i + 1) (stp s 165) (by omega) (by omega) (B4_stp s 165)
    refine Ev.step (fun k => rfl) ?_
    simp only [impl_digest.l0, show ((i : Int) < 16) by omega, if_true, next64 (show i < 4611686018427387904 by omega)]
    refine Ev.bind (iStir_ev s [165] (by simp)) ?_
    exact H
def s0 : Int × Int × Int × Int := (1779033703, 3144134277, 1013904242, 2773480762)
def s4 (key data : List Int) : Int × Int × Int × Int := (dg (data.length : Int) 4).foldl stp (data.foldl stp (key.foldl stp ((dg (key.length : Int) 4).foldl stp s0)))
/-- The digest. -/
def dgst (key data : List Int) : List Int := d4 (it 16 (s4 key data))
theorem B4_s4 (key data : List Int) : B4 (s4 key data) := B4_fold _ _ (B4_fold _ _ (B4_fold _ _ (B4_fold _ _ (by unfold B4 s0; decide))))
theorem dgst_length (key data : List Int) : (dgst key data).length = 16 := d4_length _
theorem dgst_byte (key data : List Int) : ∀ x ∈ dgst key data, 0 ≤ x ∧ x < 256 := by
  intro x hx
  simp only [dgst, d4, List.mem_append] at hx
  rcases hx with ((h | h) | h) | h <;> exact dg_byte _ _ x h
theorem sDigest_ev (key data : List Int) (hk : key.length ≤ 1048576) (hd : data.length ≤ 1048576) : Ev (fun k => spec_l03Digest.f k key data) (dgst key data) := by
  simp only [spec_l03Digest.f]
  refine Ev.bind (digits_ev 4 _ (by omega) (by omega) (by omega)) ?_
  refine Ev.bind (sStir_ev s0 _ (by simp [dg_length])) ?_
  refine Ev.bind (sStir_ev _ _ (by omega)) ?_
  refine Ev.bind (sStir_ev _ _ (by omega)) ?_
  refine Ev.bind (digits_ev 4 _ (by omega) (by omega) (by omega)) ?_
  refine Ev.bind (sStir_ev _ _ (by simp [dg_length])) ?_
  exact sEnd_loop 16 0 _ (by omega) (by omega) (B4_s4 key data)
theorem iDigest_ev (key data : List Int) (hk : key.length ≤ 1048576) (hd : data.length ≤ 1048576) : Ev (fun k => impl_digest.f k key data) (dgst key data) := by
  simp only [impl_digest.f, impl_stirrer_new.f, Option.bind_some]
  refine Ev.bind (fixed_ev _ 4 _ (by omega) (by omega) (by omega) (by simp)) ?_
  simp only [List.nil_append]
  refine Ev.bind (iStir_ev s0 _ (by simp [dg_length])) ?_
  refine Ev.bind (iStir_ev _ _ (by omega)) ?_
  refine Ev.bind (iStir_ev _ _ (by omega)) ?_
  refine Ev.bind (fixed_ev _ 4 _ (by omega) (by omega) (by omega) (by simp)) ?_
  simp only [List.nil_append]
  refine Ev.bind (iStir_ev _ _ (by simp [dg_length])) ?_
  exact iEnd_loop 16 0 _ (by omega) (by omega) (B4_s4 key data)
theorem sCopy (l : List Int) (h : l.length ≤ 4194304) : spec_l03Copy.f l = some l := by
  simp only [spec_l03Copy.f, Option.bind_some, List.length_nil, Nat.zero_add, List.nil_append]
  rw [if_pos (by omega)]
theorem szB (l : List Int) (a : Int) (h0 : 0 ≤ a) (h1 : a ≤ 1048576) (hl : l.length ≤ 9223372036854775807) : (laws_szByteS.f l a = some (-1) ∧ a < l.length) ∨ (laws_szByteS.f l a = some (a - l.length) ∧ l.length ≤ a) := by
  simp only [laws_szByteS.f, w64 (x := a - (l.length : Int)) (by omega) (by omega)]
  by_cases c : a - (l.length : Int) < 0
  · rw [if_pos c]; exact .inl ⟨rfl, by omega⟩
  · rw [if_neg c]; exact .inr ⟨rfl, by omega⟩
theorem szKeys_ev (a b c d : List Int) (ha : a.length ≤ maxLen) (hb : b.length ≤ maxLen) (hc : c.length ≤ maxLen) (hd : d.length ≤ maxLen) : ∃ t, laws_szKeys.f a b c d 1048576 = some t ∧ (t < 0 ∨ (a.length ≤ 1048576 ∧ b.length ≤ 1048576 ∧ c.length ≤ 1048576 ∧ d.length ≤ 1048576)) := by
  unfold maxLen at ha hb hc hd
  have m1 : (-1 : Int) < 0 := by decide
  rcases szB a 1048576 (by omega) (by omega) (by omega) with ⟨e1, h1⟩ | ⟨e1, h1⟩
  · exact ⟨-1, by simp only [laws_szKeys.f, e1, Option.bind_some, m1, if_true], .inl m1⟩
  rcases szB b (1048576 - a.length) (by omega) (by omega) (by omega) with ⟨e2, h2⟩ | ⟨e2, h2⟩
  · exact ⟨-1, by simp only [laws_szKeys.f, e1, e2, Option.bind_some, show ¬ (1048576 - (a.length : Int) < 0) by omega, m1, if_true, if_false], .inl m1⟩
  rcases szB c (1048576 - a.length - b.length) (by omega) (by omega) (by omega) with ⟨e3, h3⟩ | ⟨e3, h3⟩
  · exact ⟨-1, by simp only [laws_szKeys.f, e1, e2, e3, Option.bind_some, show ¬ (1048576 - (a.length : Int) < 0) by omega, show ¬ (1048576 - (a.length : Int) - (b.length : Int) < 0) by omega, m1, if_true, if_false], .inl m1⟩
  rcases szB d (1048576 - a.length - b.length - c.length) (by omega) (by omega) (by omega) with ⟨e4, h4⟩ | ⟨e4, h4⟩
  · exact ⟨-1, by simp only [laws_szKeys.f, e1, e2, e3, e4, Option.bind_some, show ¬ (1048576 - (a.length : Int) < 0) by omega, show ¬ (1048576 - (a.length : Int) - (b.length : Int) < 0) by omega, show ¬ (1048576 - (a.length : Int) - (b.length : Int) - (c.length : Int) < 0) by omega, m1, if_true, if_false], .inl m1⟩
  · exact ⟨1048576 - a.length - b.length - c.length - d.length, by simp only [laws_szKeys.f, e1, e2, e3, e4, Option.bind_some, show ¬ (1048576 - (a.length : Int) < 0) by omega, show ¬ (1048576 - (a.length : Int) - (b.length : Int) < 0) by omega, show ¬ (1048576 - (a.length : Int) - (b.length : Int) - (c.length : Int) < 0) by omega, show ¬ (1048576 - (a.length : Int) - (b.length : Int) - (c.length : Int) - (d.length : Int) < 0) by omega, if_false], .inr ⟨by omega, by omega, by omega, by omega⟩⟩
theorem toKeys_ev (a b c d : List Int) (ha : a.length ≤ 1048576) (hb : b.length ≤ 1048576) (hc : c.length ≤ 1048576) (hd : d.length ≤ 1048576) : Ev (fun k => laws_toKeys.f k a b c d) (a, b, c, d) := by
  simp only [laws_toKeys.f]
  refine Ev.bind (toByteS_ev _ (by omega)) ?_
  refine Ev.bind (toByteS_ev _ (by omega)) ?_
  refine Ev.bind (toByteS_ev _ (by omega)) ?_
  refine Ev.bind (toByteS_ev _ (by omega)) ?_
  exact Ev.now _
theorem eqKeys_ev (a b c d : List Int) (ha : a.length ≤ 1048576) (hb : b.length ≤ 1048576) (hc : c.length ≤ 1048576) (hd : d.length ≤ 1048576) : Ev (fun k => laws_eqKeys.f k a b c d a b c d) true := by
  simp only [laws_eqKeys.f]
  refine Ev.bind (eqByteS_ev _ (by omega)) ?_
  simp only [if_true]
  refine Ev.bind (eqByteS_ev _ (by omega)) ?_
  simp only [if_true]
  refine Ev.bind (eqByteS_ev _ (by omega)) ?_
  simp only [if_true]
  refine Ev.bind (eqByteS_ev _ (by omega)) ?_
  simp only [if_true]
  exact Ev.now _
theorem markKeys_ev (a b c d : List Int) (m : Int) (hm : 0 ≤ m) (hm1 : m ≤ 4294967296) (ha : a.length ≤ 1048576) (hb : b.length ≤ 1048576) (hc : c.length ≤ 1048576) (hd : d.length ≤ 1048576) :
    Ev (fun k => laws_markKeys.f k a b c d m) (m + a.length + b.length + c.length + d.length, marks m a.length, marks (m + a.length) b.length, marks (m + a.length + b.length) c.length, marks (m + a.length + b.length + c.length) d.length) := by
  simp only [laws_markKeys.f]
  refine Ev.bind (markByteS_ev _ _ (by omega) (by omega)) ?_
  refine Ev.bind (markByteS_ev _ _ (by omega) (by omega)) ?_
  refine Ev.bind (markByteS_ev _ _ (by omega) (by omega)) ?_
  refine Ev.bind (markByteS_ev _ _ (by omega) (by omega)) ?_
  exact Ev.now _
/-! Derive -/
/-- So many blocks behind each other. -/
def dblk (s : List Int) (l : ByteArray) (j : Nat) : List Int := dgst s (sbytes l ++ [(j : Int) % 256])
def dstr (s : List Int) (l : ByteArray) : Nat → List Int
  | 0 => []
  | j + 1 => dstr s l j ++ dblk s l j
theorem dstr_length (s : List Int) (l : ByteArray) : ∀ j, (dstr s l j).length = 16 * j
  | 0 => rfl
  | j + 1 => by simp [dstr, dblk, dgst_length, dstr_length s l j]; omega
def drv (s : List Int) (l : ByteArray) (n : Nat) : List Int := (dstr s l ((n + 15) / 16)).take n
theorem drv_length (s : List Int) (l : ByteArray) (n : Nat) : (drv s l n).length = n := by
  simp only [drv, List.length_take, dstr_length]
  omega
theorem sDrv_loop (s : List Int) (l : ByteArray) (n : Nat) (hs : s.length ≤ 1048576) (hl : l.size ≤ 32) (hn : n ≤ 64) (m : Nat) : ∀ j : Nat, (n + 15) / 16 - j = m → j ≤ (n + 15) / 16 → Ev (fun k => spec_Derive.l0 k s l (n : Int) (dstr s l j) (j : Int)) (drv s l n) := by
  induction m with
  | zero =>
    intro j hm hj
    obtain rfl : j = (n + 15) / 16 := by omega
    refine Ev.step (fun k => rfl) ?_
    simp only [spec_Derive.l0, dstr_length, show ¬ (((16 * ((n + 15) / 16) : Nat) : Int) < (n : Int)) by omega, if_false, Option.bind_some, show (0 : Int) ≤ (n : Int) by omega, show (n : Int) ≤ ((16 * ((n + 15) / 16) : Nat) : Int) by omega, if_true, List.length_nil, Nat.zero_add, List.nil_append, Int.toNat_natCast]
    refine Ev_ite (fun _ => Ev.now _) (fun c => absurd (by rw [List.length_take, dstr_length]; omega) c)
  | succ m ih =>
    intro j hm hj
    have H := ih (j + 1) (by omega) (by omega)
    refine Ev.step (fun k => rfl) ?_
    simp only [spec_Derive.l0, dstr_length, show (((16 * j : Nat) : Int) < (n : Int)) by omega, if_true, show l.size < 140737488355327 by omega, show (0 : Int) ≤ (l.size : Int) by omega, next64 (show j < 4611686018427387904 by omega)]
    refine Ev.bind (sDigest_ev s _ hs (by rw [List.length_append, sbytes_length]; simp; omega)) ?_
    refine Ev_ite (fun _ => H) (fun c => absurd (by rw [dgst_length]; omega) c)
theorem iDrv_loop (s : List Int) (l : ByteArray) (n : Nat) (hs : s.length ≤ 1048576) (hl : l.size ≤ 32) (hn : n ≤ 64) (m : Nat) : ∀ j : Nat, (n + 15) / 16 - j = m → j ≤ (n + 15) / 16 → Ev (fun k => impl_Derive.l0 k s l (n : Int) (dstr s l j) (j : Int)) (drv s l n) := by
  induction m with
  | zero =>
    intro j hm hj
    obtain rfl : j = (n + 15) / 16 := by omega
    refine Ev.step (fun k => rfl) ?_
    simp only [impl_Derive.l0, dstr_length, show ¬ (((16 * ((n + 15) / 16) : Nat) : Int) < (n : Int)) by omega, if_false, Option.bind_some, show (0 : Int) ≤ (n : Int) by omega, show (n : Int) ≤ ((16 * ((n + 15) / 16) : Nat) : Int) by omega, if_true, List.length_nil, Nat.zero_add, List.nil_append, Int.toNat_natCast]
    refine Ev_ite (fun _ => Ev.now _) (fun c => absurd (by rw [List.length_take, dstr_length]; omega) c)
  | succ m ih =>
    intro j hm hj
    have H := ih (j + 1) (by omega) (by omega)
    refine Ev.step (fun k => rfl) ?_
    simp only [impl_Derive.l0, dstr_length, show (((16 * j : Nat) : Int) < (n : Int)) by omega, if_true, show l.size < 140737488355327 by omega, show (0 : Int) ≤ (l.size : Int) by omega, next64 (show j < 4611686018427387904 by omega)]
    refine Ev.bind (iDigest_ev s _ hs (by rw [List.length_append, sbytes_length]; simp; omega)) ?_
    refine Ev_ite (fun _ => H) (fun c => absurd (by rw [dgst_length]; omega) c)
/-- Both answer, and the same; a good one: so many bytes. -/
theorem bothDerive (s : List Int) (l : ByteArray) (n : Int) (hs : s.length ≤ 1048576) : ∃ w, Ev (fun k => spec_Derive.f k s l n) w ∧ Ev (fun k => impl_Derive.f k s l n) w ∧ w.length ≤ 64 ∧ (s.length = 16 → l.size ≤ 32 → 1 ≤ n → n ≤ 64 → (w.length : Int) = n) := by
  have sT : Ev (fun k => spec_Derive.j0 k s l n true) [] := Ev.step (f := fun _ => some []) (fun k => by simp only [spec_Derive.j0, if_true]) (Ev.now _)
  have iT : Ev (fun k => impl_Derive.j0 k s l n true) [] := Ev.step (f := fun _ => some []) (fun k => by simp only [impl_Derive.j0, if_true]) (Ev.now _)
  simp only [spec_Derive.f, impl_Derive.f]
  by_cases c1 : (s.length : Int) = 16
  · by_cases c2 : (l.size : Int) > 32
    · simp only [c1, c2, if_true]; exact ⟨[], sT, iT, by simp, fun _ h => by omega⟩
    by_cases c3 : n < 1
    · simp only [c1, c2, c3, if_true, if_false]; exact ⟨[], sT, iT, by simp, fun _ _ h => by omega⟩
    by_cases c4 : n > 64
    · simp only [c1, c2, c3, c4, if_true, if_false, decide_true]; exact ⟨[], sT, iT, by simp, fun _ _ _ h => by omega⟩
    simp only [c1, c2, c3, c4, if_true, if_false, decide_false]
    obtain ⟨m, rfl⟩ : ∃ m : Nat, n = m := ⟨n.toNat, by omega⟩
    refine ⟨drv s l m, ?_, ?_, by rw [drv_length]; omega, fun _ _ _ _ => by rw [drv_length]⟩
    · refine Ev.step (fun k => rfl) ?_
      simp only [spec_Derive.j0, Bool.false_eq_true, if_false]
      exact sDrv_loop s l m hs (by omega) (by omega) _ 0 rfl (by omega)
    · refine Ev.step (fun k => rfl) ?_
      simp only [impl_Derive.j0, Bool.false_eq_true, if_false]
      exact iDrv_loop s l m hs (by omega) (by omega) _ 0 rfl (by omega)
  · simp only [c1, if_false]; exact ⟨[], sT, iT, by simp, fun h => by omega⟩
theorem keysOK (a b c d : List Int) : ∃ t, spec_l03KeysOK.f a b c d = some t ∧ impl_keysOK.f a b c d = some t ∧ (t = true → a.length = 16 ∧ b.length = 16 ∧ c.length = 8 ∧ d.length = 16) := by
  unfold spec_l03KeysOK.f impl_keysOK.f
  by_cases h1 : (a.length : Int) = 16
  · by_cases h2 : (b.length : Int) = 16
    · by_cases h3 : (c.length : Int) = 8
      · by_cases h4 : (d.length : Int) = 16
        · exact ⟨true, by rw [if_pos h1, if_pos h2, if_pos h3, h4]; rfl, by rw [if_pos h1, if_pos h2, if_pos h4, h3]; rfl, fun _ => ⟨by omega, by omega, by omega, by omega⟩⟩
        · have h4' : ((d.length : Int) == 16) = false := beq_eq_false_iff_ne.mpr h4
          exact ⟨false, by rw [if_pos h1, if_pos h2, if_pos h3, h4'], by rw [if_pos h1, if_pos h2, if_neg h4], fun h => by cases h⟩
      · have h3' : ((c.length : Int) == 8) = false := beq_eq_false_iff_ne.mpr h3
        by_cases h4 : (d.length : Int) = 16
        · exact ⟨false, by rw [if_pos h1, if_pos h2, if_neg h3], by rw [if_pos h1, if_pos h2, if_pos h4, h3'], fun h => by cases h⟩
        · exact ⟨false, by rw [if_pos h1, if_pos h2, if_neg h3], by rw [if_pos h1, if_pos h2, if_neg h4], fun h => by cases h⟩
    · exact ⟨false, by rw [if_pos h1, if_neg h2], by rw [if_pos h1, if_neg h2], fun h => by cases h⟩
  · exact ⟨false, by rw [if_neg h1], by rw [if_neg h1], fun h => by cases h⟩
theorem heldKeys_ev (a b c d : Nat) (m : Int) (hm : 0 ≤ m) (hm1 : m ≤ 4294967296) (ha : a ≤ 1048576) (hb : b ≤ 1048576) (hc : c ≤ 1048576) (hd : d ≤ 1048576) :
    Ev (fun k => laws_heldKeys.f k (marks m a) (marks (m + a) b) (marks (m + a + b) c) (marks (m + a + b + c) d) m) (m + a + b + c + d) := by
  simp only [laws_heldKeys.f]
  refine Ev.bind (heldByteS_ev _ _ (by omega) (by omega)) ?_
  refine Ev_ite (fun c => absurd c (by omega)) (fun _ => ?_)
  refine Ev.bind (heldByteS_ev _ _ (by omega) (by omega)) ?_
  refine Ev_ite (fun c => absurd c (by omega)) (fun _ => ?_)
  refine Ev.bind (heldByteS_ev _ _ (by omega) (by omega)) ?_
  refine Ev_ite (fun c => absurd c (by omega)) (fun _ => ?_)
  refine Ev.bind (heldByteS_ev _ _ (by omega) (by omega)) ?_
  refine Ev_ite (fun c => absurd c (by omega)) (fun _ => ?_)
  exact Ev.now _
/-- Both answer, and the same. -/
theorem bothKeysOf (s : List Int) (hs : s.length ≤ 1048576) : ∃ a b c d, Ev (fun k => spec_KeysOf.f k s) (a, b, c, d) ∧ Ev (fun k => impl_KeysOf.f k s) (a, b, c, d) ∧ a.length ≤ 64 ∧ b.length ≤ 64 ∧ c.length ≤ 64 ∧ d.length ≤ 64 := by
  simp only [spec_KeysOf.f, impl_KeysOf.f]
  by_cases c1 : (s.length : Int) = 16
  · obtain ⟨w1, s1, i1, h1, -⟩ := bothDerive s (⟨#[107, 101, 121]⟩ : ByteArray) 16 hs
    obtain ⟨w2, s2, i2, h2, -⟩ := bothDerive s (⟨#[105, 118]⟩ : ByteArray) 8 hs
    obtain ⟨w3, s3, i3, h3, -⟩ := bothDerive s (⟨#[109, 97, 115, 107]⟩ : ByteArray) 16 hs
    simp only [c1, if_true, sCopy s (by omega), Option.bind_some, List.length_nil, List.nil_append, Nat.zero_add, show s.length < 140737488355328 by omega]
    exact ⟨s, w1, w2, w3, Ev.bind s1 (Ev.bind s2 (Ev.bind s3 (Ev.now _))), Ev.bind i1 (Ev.bind i2 (Ev.bind i3 (Ev.now _))), by omega, h1, h2, h3⟩
  · simp only [c1, if_false]
    exact ⟨[], [], [], [], Ev.now _, Ev.now _, by simp, by simp, by simp, by simp⟩

/-- Both answer, and the same. -/
theorem bothNextKeys (a b c d : List Int) (za : a.length ≤ 1048576) (zd : d.length ≤ 1048576) : ∃ p q r s, Ev (fun k => spec_NextKeys.f k a b c d) (p, q, r, s) ∧ Ev (fun k => impl_NextKeys.f k a b c d) (p, q, r, s) ∧ p.length ≤ 64 ∧ q.length ≤ 64 ∧ r.length ≤ 64 ∧ s.length ≤ 64 := by
  obtain ⟨t, hs, hi, hl⟩ := keysOK a b c d
  simp only [spec_NextKeys.f, impl_NextKeys.f, hs, hi, Option.bind_some]
  cases t with
  | false =>
    simp only [Bool.false_eq_true, if_false]
    exact ⟨[], [], [], [], Ev.now _, Ev.now _, by simp, by simp, by simp, by simp⟩
  | true =>
    obtain ⟨ha, hb, hc, hd⟩ := hl rfl
    obtain ⟨w1, s1, i1, h1, -⟩ := bothDerive a (⟨#[110, 101, 120, 116]⟩ : ByteArray) 16 za
    obtain ⟨p, q, r, s, s2, i2, hp, hq, hr, hs'⟩ := bothKeysOf w1 (by omega)
    simp only [if_true]
    refine ⟨p, q, r, d, Ev.bind s1 (Ev.bind s2 ?_), Ev.bind i1 (Ev.bind i2 ?_), hp, hq, hr, by omega⟩
    · simp only [sCopy d (by omega), Option.bind_some]
      exact Ev.now _
    · simp only [Option.bind_some, List.length_nil, List.nil_append, Nat.zero_add, show d.length < 140737488355328 by omega, if_true]
      exact Ev.now _

theorem FnExactNextKeys (a b c d : List Int) (qa : a.length ≤ maxLen ∧ ∀ x ∈ a, (Lit.int .u8 x).wf = true) (qb : b.length ≤ maxLen ∧ ∀ x ∈ b, (Lit.int .u8 x).wf = true) (qc : c.length ≤ maxLen ∧ ∀ x ∈ c, (Lit.int .u8 x).wf = true) (qd : d.length ≤ maxLen ∧ ∀ x ∈ d, (Lit.int .u8 x).wf = true) : ∃ k, laws_FnExactNextKeys.f k a b c d = some true := by
  refine Ev.rounds (g := fun k => laws_FnExactNextKeys.f k a b c d) ?_
  simp only [laws_FnExactNextKeys.f]
  obtain ⟨t, ht, hz⟩ := szKeys_ev a b c d qa.1 qb.1 qc.1 qd.1
  simp only [ht, Option.bind_some]
  refine Ev_ite (fun _ => Ev.now _) (fun c1 => ?_)
  obtain ⟨za, zb, zc, zd⟩ := hz.resolve_left c1
  obtain ⟨p, q, r, s, hs, hi, hp, hq, hr, hs'⟩ := bothNextKeys a b c d za zd
  repeat' first
    | exact Ev.now _
    | refine Ev.bind hs ?_
    | refine Ev.bind hi ?_
    | refine Ev.bind (toKeys_ev a b c d za zb zc zd) ?_
    | refine Ev.bind (eqKeys_ev a b c d za zb zc zd) ?_
    | refine Ev.bind (eqKeys_ev p q r s (by omega) (by omega) (by omega) (by omega)) ?_
    | refine Ev.bind (markKeys_ev a b c d _ (by omega) (by omega) za zb zc zd) ?_
    | refine Ev.bind (markKeys_ev p q r s _ (by omega) (by omega) (by omega) (by omega) (by omega) (by omega)) ?_
    | refine Ev.bind (heldKeys_ev p.length q.length r.length s.length _ (by omega) (by omega) (by omega) (by omega) (by omega) (by omega)) ?_
    | simp only [if_true, if_false, bne_self_eq_false, Bool.false_eq_true, Bool.not_true, marks_length]
    | (refine Ev.step (fun k => rfl) ?_; simp only [laws_FnExactNextKeys.j0])
    | refine Ev_ite (fun c => absurd c (by omega)) (fun _ => ?_)

end Go.Proofs.Ytcdkbdkanjifeaa.Pure
