/- For all keys, numbers, heads and sealed bytes: the program's OpenSealed and the reference's tell the same bytes and code, in memory of its own. No condition. -/
import Derived.Test.YtcdkbdkanjifeaaSFnExactOpenSealedx9
import Derived.Test.YtcdkbdkanjifeaaVMath
namespace Go.Proofs.Ytcdkbdkanjifeaa.Pure
open Go.RowKit Go.Proofs.Ytcdkbdkanjifeaa.SFnExactOpenSealed Go.Proofs.YtcdkbdkanjifeaaW.PrintWords Go.Proofs.YtcdkbdkanjifeaaW.PrintLast Go.Proofs.YtcdkbdkanjifeaaW.PrintMore Go.Proofs.Ytcdkbdkanjifeaa.Math
set_option linter.unusedVariables false
set_option linter.unusedSimpArgs false

theorem toByteS_loop (l : List Int) (hl : l.length ≤ 281474976710656) (n : Nat) : ∀ (x : List Int) (i : Nat), l.length - i = n → i ≤ l.length → x.length = l.length → (∀ j, j < i → x[j]? = l[j]?) → Ev (fun k => laws_toByteS.l0 k l x (i : Int)) l := by
  induction n with
  | zero =>
    intro x i hn hi hx h
    refine Ev.step (fun k => rfl) ?_
    simp only [laws_toByteS.l0, show ¬ ((i : Int) < (l.length : Int)) by omega, if_false]
    exact Ev_now (prefix_all hx (fun j hj => h j (by omega)))
  | succ n ih =>
    intro x i hn hi hx h
    have hil : i < l.length := by omega
    have H := ih (x.set i (rd l (i : Int))) (i + 1) (by omega) (by omega) (by rw [List.length_set]; exact hx) (set_prefix hx (rd_get l hil) h)
    refine Ev.step (fun k => rfl) ?_
    simp only [laws_toByteS.l0, show ((i : Int) < (l.length : Int)) by omega, show (0 : Int) ≤ (i : Int) by omega, show ((i : Int) < (x.length : Int)) by omega, if_true, Int.toNat_natCast, next64 (show i < 4611686018427387904 by omega)]
    exact H
theorem toByteS_ev (l : List Int) (hl : l.length ≤ 281474976710656) : Ev (fun k => laws_toByteS.f k l) l := by
  simp only [laws_toByteS.f, show (0 : Int) ≤ (l.length : Int) by omega, if_true, Int.toNat_natCast, hl]
  exact toByteS_loop l hl l.length _ 0 (by omega) (by omega) (by simp) (fun j hj => by omega)
theorem eqByteS_loop (l : List Int) (hl : l.length ≤ 281474976710656) (n : Nat) : ∀ (i : Nat), l.length - i = n → i ≤ l.length → Ev (fun k => laws_eqByteS.l0 k l l (i : Int)) true := by
  induction n with
  | zero =>
    intro i hn hi
    refine Ev.step (fun k => rfl) ?_
    simp only [laws_eqByteS.l0, show ¬ ((i : Int) < (l.length : Int)) by omega, if_false]
    exact Ev.now _
  | succ n ih =>
    intro i hn hi
    have H := ih (i + 1) (by omega) (by omega)
    refine Ev.step (fun k => rfl) ?_
    simp only [laws_eqByteS.l0, show ((i : Int) < (l.length : Int)) by omega, show (0 : Int) ≤ (i : Int) by omega, if_true, next64 (show i < 4611686018427387904 by omega)]
    exact H
theorem eqByteS_ev (l : List Int) (hl : l.length ≤ 281474976710656) : Ev (fun k => laws_eqByteS.f k l l) true := by
  simp only [laws_eqByteS.f, if_true]
  exact eqByteS_loop l hl l.length 0 (by omega) (by omega)
theorem markByteS_loop (m : Int) (N : Nat) (hm : 0 ≤ m) (hN : m + N ≤ 4611686018427387903) (n : Nat) : ∀ (x : List Int) (i : Nat), N - i = n → i ≤ N → x.length = N → (∀ j, j < i → x[j]? = (marks m N)[j]?) → Ev (fun k => laws_markByteS.l0 k x (m + i) (i : Int)) (m + N, marks m N) := by
  induction n with
  | zero =>
    intro x i hn hi hx h
    obtain rfl : i = N := by omega
    refine Ev.step (fun k => rfl) ?_
    simp only [laws_markByteS.l0, show ¬ ((i : Int) < (x.length : Int)) by omega, if_false]
    exact Ev_now (by rw [prefix_all (l := marks m i) (by rw [marks_length, hx]) (fun j hj => h j (by rw [marks_length] at hj; exact hj))])
  | succ n ih =>
    intro x i hn hi hx h
    have H := ih (x.set i ((m + i) % 256)) (i + 1) (by omega) (by omega) (by rw [List.length_set]; exact hx) (set_prefix (by rw [marks_length, hx]) (marks_get m (by omega)) h)
    rw [show m + ((i + 1 : Nat) : Int) = m + i + 1 by omega] at H
    refine Ev.step (fun k => rfl) ?_
    simp only [laws_markByteS.l0, show ((i : Int) < (x.length : Int)) by omega, show (0 : Int) ≤ (i : Int) by omega, if_true, Int.toNat_natCast, next64 (show i < 4611686018427387904 by omega), w64 (x := m + i + 1) (by omega) (by omega)]
    exact H
theorem markByteS_ev (x : List Int) (m : Int) (hm : 0 ≤ m) (hN : m + x.length ≤ 4611686018427387903) : Ev (fun k => laws_markByteS.f k x m) (m + x.length, marks m x.length) := by
  have H := markByteS_loop m x.length hm hN x.length x 0 (by omega) (by omega) rfl (fun j hj => by omega)
  rw [show m + ((0 : Nat) : Int) = m by omega] at H
  simp only [laws_markByteS.f]
  exact H
theorem heldByteS_loop (m : Int) (N : Nat) (hm : 0 ≤ m) (hN : m + N ≤ 4611686018427387903) (n : Nat) : ∀ (i : Nat), N - i = n → i ≤ N → Ev (fun k => laws_heldByteS.l0 k (marks m N) (m + i) (i : Int)) (m + N) := by
  induction n with
  | zero =>
    intro i hn hi
    obtain rfl : i = N := by omega
    refine Ev.step (fun k => rfl) ?_
    simp only [laws_heldByteS.l0, marks_length, show ¬ ((i : Int) < (i : Int)) by omega, if_false]
    exact Ev.now _
  | succ n ih =>
    intro i hn hi
    have H := ih (i + 1) (by omega) (by omega)
    rw [show m + ((i + 1 : Nat) : Int) = m + i + 1 by omega] at H
    refine Ev.step (fun k => rfl) ?_
    simp only [laws_heldByteS.l0, marks_length, show ((i : Int) < (N : Int)) by omega, show (0 : Int) ≤ (i : Int) by omega, rd_some (marks_get m (show i < N by omega)), if_true, next64 (show i < 4611686018427387904 by omega), w64 (x := m + i + 1) (by omega) (by omega)]
    exact H
theorem heldByteS_ev (n : Nat) (m : Int) (hm : 0 ≤ m) (hN : m + n ≤ 4611686018427387903) : Ev (fun k => laws_heldByteS.f k (marks m n) m) (m + n) := by
  have H := heldByteS_loop m n hm hN n 0 (by omega) (by omega)
  rw [show m + ((0 : Nat) : Int) = m by omega] at H
  simp only [laws_heldByteS.f]
  exact H
theorem digits_ev (n : Nat) : ∀ v : Int, n ≤ 64 → 0 ≤ v → v ≤ 9223372036854775807 → Ev (fun k => spec_l01Digits.f k v (n : Int)) (dg v n) := by
  induction n with
  | zero =>
    intro v hn h0 h1
    refine Ev.step (fun k => rfl) ?_
    simp only [spec_l01Digits.f, show ((0 : Nat) : Int) = 0 from rfl, if_true]
    exact Ev.now _
  | succ n ih =>
    intro v hn h0 h1
    have H := ih (v / 256) (by omega) (by omega) (by omega)
    refine Ev.step (fun k => rfl) ?_
    simp only [spec_l01Digits.f, show ¬ (((n + 1 : Nat) : Int) = 0) by omega, if_false, tdiv_nn h0, tmod_nn h0, w64 (x := v / 256) (by omega) (by omega), show ((n + 1 : Nat) : Int) - 1 = (n : Int) by omega, w64 (x := (n : Int)) (by omega) (by omega)]
    refine Ev.bind H ?_
    simp only [dg_length, show n < 140737488355328 by omega, if_true]
    exact Ev_now (by rw [dg_snoc v h0 n, Int.emod_emod])
theorem shr_digit (v : Int) (m : Nat) (hm : m ≤ 7) (h0 : 0 ≤ v) (h1 : v ≤ 9223372036854775807) : (shr .u64 (IntKind.u64.wrap v) (wrap64 (8 * (m : Int)))) % 256 = v / 256 ^ m % 256 := by
  have hp : (2 : Int) ^ (8 * m) = 256 ^ m := by rw [Int.pow_mul]; rfl
  have e : min (8 * (m : Int)).toNat IntKind.u64.bits = 8 * m := by simp only [IntKind.bits]; omega
  unfold shr
  rw [wraps_u64 v h0 (by omega), w64 (by omega) (by omega), e, hp]
theorem fixed_loop (v : Int) (h0 : 0 ≤ v) (h1 : v ≤ 9223372036854775807) (m : Nat) : ∀ l : List Int, m ≤ 8 → l.length + m < 140737488355328 → Ev (fun k => impl_fixed.l0 k l v ((m : Int) - 1)) (l ++ dg v m) := by
  induction m with
  | zero =>
    intro l hm hl
    refine Ev.step (fun k => rfl) ?_
    simp only [impl_fixed.l0, show ¬ (((0 : Nat) : Int) - 1 ≥ 0) by omega, if_false]
    exact Ev_now (by simp [dg])
  | succ m ih =>
    intro l hm hl
    have e := shr_digit v m (by omega) h0 h1
    refine Ev.step (fun k => rfl) ?_
    simp only [impl_fixed.l0, show ((m + 1 : Nat) : Int) - 1 = (m : Int) by omega, show (m : Int) ≥ 0 by omega, show (0 : Int) ≤ wrap64 (8 * (m : Int)) by rw [w64 (by omega) (by omega)]; omega, if_true, show l.length < 140737488355328 by omega, e, w64 (x := (m : Int) - 1) (by omega) (by omega)]
    exact Ev_cast (ih (l ++ [v / 256 ^ m % 256]) (by omega) (by simp; omega)) (by simp [dg])
theorem fixed_ev (v : Int) (n : Nat) (l : List Int) (h0 : 0 ≤ v) (h1 : v ≤ 9223372036854775807) (hn : n ≤ 8) (hl : l.length + 8 < 140737488355328) : Ev (fun k => impl_fixed.f k l v (n : Int)) (l ++ dg v n) := by
  simp only [impl_fixed.f, w64 (x := (n : Int) - 1) (by omega) (by omega)]
  exact fixed_loop v h0 h1 n l hn (by omega)
/-! The digest -/
theorem u32_wrap (n : Int) : IntKind.u32.wrap n = n % 4294967296 := by simp [IntKind.wrap, IntKind.bits, IntKind.signed]
theorem u32_or (a b : Int) : 0 ≤ Go.bits .or .u32 a b ∧ Go.bits .or .u32 a b < 4294967296 := by
  rw [show Go.bits .or .u32 a b = IntKind.u32.wrap _ from rfl, u32_wrap]
  omega
theorem u32_xor (a b : Int) : 0 ≤ Go.bits .xor .u32 a b ∧ Go.bits .xor .u32 a b < 4294967296 := by
  rw [show Go.bits .xor .u32 a b = IntKind.u32.wrap _ from rfl, u32_wrap]
  omega
/-- 32 bits turned left by k (j = 32 - k). -/
def rot (x k j : Int) : Int := Go.bits .or .u32 (shl .u32 x k) (shr .u32 x j)
theorem sRot7 (x : Int) : spec_l03Rot.f x 7 = some (rot x 7 25) := by
  simp only [spec_l03Rot.f, show IntKind.u64.wrap 7 = 7 by decide +kernel, show IntKind.u64.wrap (wrap64 (32 - 7)) = 25 by decide +kernel, show (0 : Int) ≤ 7 by decide, show (0 : Int) ≤ 25 by decide, if_true]
  rfl
theorem sRot13 (x : Int) : spec_l03Rot.f x 13 = some (rot x 13 19) := by
  simp only [spec_l03Rot.f, show IntKind.u64.wrap 13 = 13 by decide +kernel, show IntKind.u64.wrap (wrap64 (32 - 13)) = 19 by decide +kernel, show (0 : Int) ≤ 13 by decide, show (0 : Int) ≤ 19 by decide, if_true]
  rfl
theorem sRot17 (x : Int) : spec_l03Rot.f x 17 = some (rot x 17 15) := by
  simp only [spec_l03Rot.f, show IntKind.u64.wrap 17 = 17 by decide +kernel, show IntKind.u64.wrap (wrap64 (32 - 17)) = 15 by decide +kernel, show (0 : Int) ≤ 17 by decide, show (0 : Int) ≤ 15 by decide, if_true]
  rfl
theorem iRot7 (x : Int) : bits_RotateLeft32.f x 7 = some (rot x 7 25) := by
  simp only [bits_RotateLeft32.f, show Go.bits .and .u64 (IntKind.u64.wrap 7) 31 = 7 by decide +kernel, show IntKind.u64.wrap (32 - 7) = 25 by decide +kernel, show (0 : Int) ≤ 7 by decide, show (0 : Int) ≤ 25 by decide, if_true]
  rfl
theorem iRot13 (x : Int) : bits_RotateLeft32.f x 13 = some (rot x 13 19) := by
  simp only [bits_RotateLeft32.f, show Go.bits .and .u64 (IntKind.u64.wrap 13) 31 = 13 by decide +kernel, show IntKind.u64.wrap (32 - 13) = 19 by decide +kernel, show (0 : Int) ≤ 13 by decide, show (0 : Int) ≤ 19 by decide, if_true]
  rfl
theorem iRot17 (x : Int) : bits_RotateLeft32.f x 17 = some (rot x 17 15) := by
  simp only [bits_RotateLeft32.f, show Go.bits .and .u64 (IntKind.u64.wrap 17) 31 = 17 by decide +kernel, show IntKind.u64.wrap (32 - 17) = 15 by decide +kernel, show (0 : Int) ≤ 17 by decide, show (0 : Int) ≤ 15 by decide, if_true]
  rfl
def st1 (s : Int × Int × Int × Int) (v : Int) : Int := ((Go.bits .xor .u32 s.1 (v % 4294967296)) * 16777619) % 4294967296
def st2 (s : Int × Int × Int × Int) (v : Int) : Int := rot ((s.2.1 + st1 s v) % 4294967296) 7 25
def st3 (s : Int × Int × Int × Int) (v : Int) : Int := rot (Go.bits .xor .u32 s.2.2.1 (st2 s v)) 13 19
def st4 (s : Int × Int × Int × Int) (v : Int) : Int := rot ((s.2.2.2 + st3 s v) % 4294967296) 17 15
/-- One byte stirred in. -/
def stp (s : Int × Int × Int × Int) (v : Int) : Int × Int × Int × Int := (Go.bits .xor .u32 (st1 s v) (st4 s v), st2 s v, st3 s v, st4 s v)
def B4 (s : Int × Int × Int × Int) : Prop := (0 ≤ s.1 ∧ s.1 < 4294967296) ∧ (0 ≤ s.2.1 ∧ s.2.1 < 4294967296) ∧ (0 ≤ s.2.2.1 ∧ s.2.2.1 < 4294967296) ∧ (0 ≤ s.2.2.2 ∧ s.2.2.2 < 4294967296)
theorem B4_stp (s : Int × Int × Int × Int) (v : Int) : B4 (stp s v) := by
  have h2 : 0 ≤ st2 s v ∧ st2 s v < 4294967296 := by unfold st2 rot; exact u32_or _ _
  have h3 : 0 ≤ st3 s v ∧ st3 s v < 4294967296 := by unfold st3 rot; exact u32_or _ _
  have h4 : 0 ≤ st4 s v ∧ st4 s v < 4294967296 := by unfold st4 rot; exact u32_or _ _
  exact ⟨u32_xor _ _, h2, h3, h4⟩
theorem B4_fold (l : List Int) : ∀ s, B4 s → B4 (l.foldl stp s) := by
  induction l with
  | nil => intro s h; exact h
  | cons v l ih => intro s _; exact ih _ (B4_stp s v)
theorem drop_rd (l : List Int) (i : Nat) (h : i < l.length) : l.drop i = rd l (i : Int) :: l.drop (i + 1) := by
  rw [List.drop_eq_getElem_cons h, rd_some (List.getElem?_eq_getElem h)]
theorem sStir_loop (l : List Int) (hl : l.length ≤ 281474976710656) (n : Nat) : ∀ (i : Nat) (s : Int × Int × Int × Int), l.length - i = n → i ≤ l.length → Ev (fun k => spec_l03Stir.l0 k l (i : Int) s.1 s.2.1 s.2.2.1 s.2.2.2) ((l.drop i).foldl stp s) := by
  induction n with
  | zero =>
    intro i s hn hi
    refine Ev.step (fun k => rfl) ?_
    simp only [spec_l03Stir.l0, show ¬ ((i : Int) < (l.length : Int)) by omega, if_false]
    rw [List.drop_eq_nil_of_le (by omega)]
    exact Ev.now _
  | succ n ih =>
    intro i s hn hi
    have H := ih (i + 1) (stp s (rd l (i : Int))) (by omega) (by omega)
    refine Ev.step (fun k => rfl) ?_
    simp only [spec_l03Stir.l0, show ((i : Int) < (l.length : Int)) by omega, show (0 : Int) ≤ (i : Int) by omega, if_true, sRot7, sRot13, sRot17, Option.bind_some, next64 (show i < 4611686018427387904 by omega)]
    rw [drop_rd l i (by omega)]
    exact H
theorem sStir_ev (s : Int × Int × Int × Int) (l : List Int) (hl : l.length ≤ 281474976710656) : Ev (fun k => spec_l03Stir.f k s.1 s.2.1 s.2.2.1 s.2.2.2 l) (l.foldl stp s) := by
  simp only [spec_l03Stir.f]
  exact sStir_loop l hl l.length 0 s (by omega) (by omega)
theorem iStir_loop (l : List Int) (hl : l.length ≤ 281474976710656) (n : Nat) : ∀ (i : Nat) (s : Int × Int × Int × Int), l.length - i = n → i ≤ l.length → Ev (fun k => impl_stirrer_stir.l0 k l (l.length : Int) (i : Int) s.1 s.2.1 s.2.2.1 s.2.2.2) ((l.drop i).foldl stp s) := by
  induction n with
  | zero =>
    intro i s hn hi
    refine Ev.step (fun k => rfl) ?_
    simp only [impl_stirrer_stir.l0, show ¬ ((i : Int) < (l.length : Int)) by omega, if_false]
    rw [List.drop_eq_nil_of_le (by omega)]
    exact Ev.now _
  | succ n ih =>
    intro i s hn hi
    have H := ih (i + 1) (stp s (rd l (i : Int))) (by omega) (by omega)
    refine Ev.step (fun k => rfl) ?_
    simp only [impl_stirrer_stir.l0, show ((i : Int) < (l.length : Int)) by omega, show (0 : Int) ≤ (i : Int) by omega, if_true, iRot7, iRot13, iRot17, Option.bind_some, next64 (show i < 4611686018427387904 by omega)]
    rw [drop_rd l i (by omega)]
    exact H
theorem iStir_ev (s : Int × Int × Int × Int) (l : List Int) (hl : l.length ≤ 281474976710656) : Ev (fun k => impl_stirrer_stir.f k s.1 s.2.1 s.2.2.1 s.2.2.2 l) (l.foldl stp s) := by
  simp only [impl_stirrer_stir.f]
  exact iStir_loop l hl l.length 0 s (by omega) (by omega)
/-- n times 165 stirred in. -/
def it : Nat → Int × Int × Int × Int → Int × Int × Int × Int
  | 0, s => s
  | n + 1, s => it n (stp s 165)
theorem B4_it : ∀ n s, B4 s → B4 (it n s)
  | 0, _, h => h
  | n + 1, s, _ => B4_it n _ (B4_stp s 165)
/-- The four numbers' bytes. -/
def d4 (s : Int × Int × Int × Int) : List Int := dg s.1 4 ++ dg s.2.1 4 ++ dg s.2.2.1 4 ++ dg s.2.2.2 4
theorem d4_length (s : Int × Int × Int × Int) : (d4 s).length = 16 := by simp [d4, dg_length]
theorem sEnd_loop (n : Nat) : ∀ (i : Nat) (s : Int × Int × Int × Int), 16 - i = n → i ≤ 16 → B4 s → Ev (fun k => spec_l03Digest.l0 k (i : Int) s.1 s.2.1 s.2.2.1 s.2.2.2) (d4 (it n s)) := by
  induction n with
  | zero =>
    intro i s hn hi hs
    obtain rfl : i = 16 := by omega
    obtain ⟨⟨a0, a1⟩, ⟨b0, b1⟩, ⟨c0, c1⟩, d0, d1⟩ := hs
    refine Ev.step (fun k => rfl) ?_
    simp only [spec_l03Digest.l0, show ¬ (((16 : Nat) : Int) < 16) by decide, if_false, w64 (x := s.1) (by omega) (by omega), w64 (x := s.2.1) (by omega) (by omega), w64 (x := s.2.2.1) (by omega) (by omega), w64 (x := s.2.2.2) (by omega) (by omega)]
    refine Ev.bind (digits_ev 4 _ (by omega) a0 (by omega)) ?_
    refine Ev.bind (digits_ev 4 _ (by omega) b0 (by omega)) ?_
    simp only [dg_length, List.length_append, Option.bind_some, show 4 + 4 < 140737488355328 by decide, if_true]
    refine Ev.bind (digits_ev 4 _ (by omega) c0 (by omega)) ?_
    simp only [dg_length, List.length_append, Option.bind_some, show 4 + 4 + 4 < 140737488355328 by decide, if_true]
    refine Ev.bind (digits_ev 4 _ (by omega) d0 (by omega)) ?_
    simp only [dg_length, List.length_append, show 4 + 4 + 4 + 4 < 140737488355328 by decide, if_true]
    exact Ev.now _
  | succ n ih =>
    intro i s hn hi hs
    have H := ih (i + 1) (stp s 165) (by omega) (by omega) (B4_stp s 165)
    refine Ev.step (fun k => rfl) ?_
    simp only [spec_l03Digest.l0, show ((i : Int) < 16) by omega, if_true, next64 (show i < 4611686018427387904 by omega)]
    refine Ev.bind (sStir_ev s [165] (by simp)) ?_
    exact H
theorem iOut_ev (s : Int × Int × Int × Int) (hs : B4 s) : Ev (fun k => impl_digest.l1 k [] s.1 s.2.1 s.2.2.1 s.2.2.2 0) (d4 s) := by
  obtain ⟨⟨a0, a1⟩, ⟨b0, b1⟩, ⟨c0, c1⟩, d0, d1⟩ := hs
  refine Ev.step (fun k => rfl) ?_
  simp only [impl_digest.l1, show pick4 s.1 s.2.1 s.2.2.1 s.2.2.2 0 = s.1 from rfl, show (0 : Int) < 4 by decide, show (0 : Int) ≤ 0 by decide, if_true, w64 (x := s.1) (by omega) (by omega), show wrap64 (0 + 1) = 1 by decide +kernel]
  refine Ev.bind (fixed_ev _ 4 _ a0 (by omega) (by omega) (by simp)) ?_
  refine Ev.step (fun k => rfl) ?_
  simp only [impl_digest.l1, show pick4 s.1 s.2.1 s.2.2.1 s.2.2.2 1 = s.2.1 from rfl, show (1 : Int) < 4 by decide, show (0 : Int) ≤ 1 by decide, if_true, w64 (x := s.2.1) (by omega) (by omega), show wrap64 (1 + 1) = 2 by decide +kernel]
  refine Ev.bind (fixed_ev _ 4 _ b0 (by omega) (by omega) (by simp [dg_length])) ?_
  refine Ev.step (fun k => rfl) ?_
  simp only [impl_digest.l1, show pick4 s.1 s.2.1 s.2.2.1 s.2.2.2 2 = s.2.2.1 from rfl, show (2 : Int) < 4 by decide, show (0 : Int) ≤ 2 by decide, if_true, w64 (x := s.2.2.1) (by omega) (by omega), show wrap64 (2 + 1) = 3 by decide +kernel]
  refine Ev.bind (fixed_ev _ 4 _ c0 (by omega) (by omega) (by simp [dg_length])) ?_
  refine Ev.step (fun k => rfl) ?_
  simp only [impl_digest.l1, show pick4 s.1 s.2.1 s.2.2.1 s.2.2.2 3 = s.2.2.2 from rfl, show (3 : Int) < 4 by decide, show (0 : Int) ≤ 3 by decide, if_true, w64 (x := s.2.2.2) (by omega) (by omega), show wrap64 (3 + 1) = 4 by decide +kernel]
  refine Ev.bind (fixed_ev _ 4 _ d0 (by omega) (by omega) (by simp [dg_length])) ?_
  refine Ev.step (fun k => rfl) ?_
  simp only [impl_digest.l1, show ¬ ((4 : Int) < 4) by decide, if_false]
  exact Ev_now (by simp [d4])
theorem iEnd_loop (n : Nat) : ∀ (i : Nat) (s : Int × Int × Int × Int), 16 - i = n → i ≤ 16 → B4 s → Ev (fun k => impl_digest.l0 k (i : Int) s.1 s.2.1 s.2.2.1 s.2.2.2) (d4 (it n s)) := by
  induction n with
  | zero =>
    intro i s hn hi hs
    obtain rfl : i = 16 := by omega
    refine Ev.step (fun k => rfl) ?_
    simp only [impl_digest.l0, show ¬ (((16 : Nat) : Int) < 16) by decide, if_false]
    exact iOut_ev s hs
  | succ n ih =>
    intro i s hn hi hs
    have H := ih (i + 1) (stp s 165) (by omega) (by omega) (B4_stp s 165)
    refine Ev.step (fun k => rfl) ?_
    simp only [impl_digest.l0, show ((i : Int) < 16) by omega, if_true, next64 (show i < 4611686018427387904 by omega)]
    refine Ev.bind (iStir_ev s [165] (by simp)) ?_
    exact H
def s0 : Int × Int × Int × Int := (1779033703, 3144134277, 1013904242, 2773480762)
def s4 (key data : List Int) : Int × Int × Int × Int := (dg (data.length : Int) 4).foldl stp (data.foldl stp (key.foldl stp ((dg (key.length : Int) 4).foldl stp s0)))
/-- The digest. -/
def dgst (key data : List Int) : List Int := d4 (it 16 (s4 key data))
theorem B4_s4 (key data : List Int) : B4 (s4 key data) := B4_fold _ _ (B4_fold _ _ (B4_fold _ _ (B4_fold _ _ (by unfold B4 s0; decide))))
theorem dgst_length (key data : List Int) : (dgst key data).length = 16 := d4_length _
theorem dgst_byte (key data : List Int) : ∀ x ∈ dgst key data, 0 ≤ x ∧ x < 256 := by
  intro x hx
  simp only [dgst, d4, List.mem_append] at hx
  rcases hx with ((h | h) | h) | h <;> exact dg_byte _ _ x h
theorem sDigest_ev (key data : List Int) (hk : key.length ≤ 1048576) (hd : data.length ≤ 1048576) : Ev (fun k => spec_l03Digest.f k key data) (dgst key data) := by
  simp only [spec_l03Digest.f]
  refine Ev.bind (digits_ev 4 _ (by omega) (by omega) (by omega)) ?_
  refine Ev.bind (sStir_ev s0 _ (by simp [dg_length])) ?_
  refine Ev.bind (sStir_ev _ _ (by omega)) ?_
  refine Ev.bind (sStir_ev _ _ (by omega)) ?_
  refine Ev.bind (digits_ev 4 _ (by omega) (by omega) (by omega)) ?_
  refine Ev.bind (sStir_ev _ _ (by simp [dg_length])) ?_
  exact sEnd_loop 16 0 _ (by omega) (by omega) (B4_s4 key data)
theorem iDigest_ev (key data : List Int) (hk : key.length ≤ 1048576) (hd : data.length ≤ 1048576) : Ev (fun k => impl_digest.f k key data) (dgst key data) := by
  simp only [impl_digest.f, impl_stirrer_new.f, Option.bind_some]
  refine Ev.bind (fixed_ev _ 4 _ (by omega) (by omega) (by omega) (by simp)) ?_
  simp only [List.nil_append]
  refine Ev.bind (iStir_ev s0 _ (by simp [dg_length])) ?_
  refine Ev.bind (iStir_ev _ _ (by omega)) ?_
  refine Ev.bind (iStir_ev _ _ (by omega)) ?_
  refine Ev.bind (fixed_ev _ 4 _ (by omega) (by omega) (by omega) (by simp)) ?_
  simp only [List.nil_append]
  refine Ev.bind (iStir_ev _ _ (by simp [dg_length])) ?_
  exact iEnd_loop 16 0 _ (by omega) (by omega) (B4_s4 key data)
theorem szB (l : List Int) (a : Int) (h0 : 0 ≤ a) (h1 : a ≤ 1048576) (hl : l.length ≤ 9223372036854775807) : (laws_szByteS.f l a = some (-1) ∧ a < l.length) ∨ (laws_szByteS.f l a = some (a - l.length) ∧ l.length ≤ a) := by
  simp only [laws_szByteS.f, w64 (x := a - (l.length : Int)) (by omega) (by omega)]
  by_cases c : a - (l.length : Int) < 0
  · rw [if_pos c]; exact .inl ⟨rfl, by omega⟩
  · rw [if_neg c]; exact .inr ⟨rfl, by omega⟩
theorem szKeys_ev (a b c d : List Int) (ha : a.length ≤ maxLen) (hb : b.length ≤ maxLen) (hc : c.length ≤ maxLen) (hd : d.length ≤ maxLen) : ∃ t, laws_szKeys.f a b c d 1048576 = some t ∧ (t < 0 ∨ (a.length ≤ 1048576 ∧ b.length ≤ 1048576 ∧ c.length ≤ 1048576 ∧ d.length ≤ 1048576)) := by
  unfold maxLen at ha hb hc hd
  have m1 : (-1 : Int) < 0 := by decide
  rcases szB a 1048576 (by omega) (by omega) (by omega) with ⟨e1, h1⟩ | ⟨e1, h1⟩
  · exact ⟨-1, by simp only [laws_szKeys.f, e1, Option.bind_some, m1, if_true], .inl m1⟩
  rcases szB b (1048576 - a.length) (by omega) (by omega) (by omega) with ⟨e2, h2⟩ | ⟨e2, h2⟩
  · exact ⟨-1, by simp only [laws_szKeys.f, e1, e2, Option.bind_some, show ¬ (1048576 - (a.length : Int) < 0) by omega, m1, if_true, if_false], .inl m1⟩
  rcases szB c (1048576 - a.length - b.length) (by omega) (by omega) (by omega) with ⟨e3, h3⟩ | ⟨e3, h3⟩
  · exact ⟨-1, by simp only [laws_szKeys.f, e1, e2, e3, Option.bind_some, show ¬ (1048576 - (a.length : Int) < 0) by omega, show ¬ (1048576 - (a.length : Int) - (b.length : Int) < 0) by omega, m1, if_true, if_false], .inl m1⟩
  rcases szB d (1048576 - a.length - b.length - c.length) (by omega) (by omega) (by omega) with ⟨e4, h4⟩ | ⟨e4, h4⟩
  · exact ⟨-1, by simp only [laws_szKeys.f, e1, e2, e3, e4, Option.bind_some, show ¬ (1048576 - (a.length : Int) < 0) by omega, show ¬ (1048576 - (a.length : Int) - (b.length : Int) < 0) by omega, show ¬ (1048576 - (a.length : Int) - (b.length : Int) - (c.length : Int) < 0) by omega, m1, if_true, if_false], .inl m1⟩
  · exact ⟨1048576 - a.length - b.length - c.length - d.length, by simp only [laws_szKeys.f, e1, e2, e3, e4, Option.bind_some, show ¬ (1048576 - (a.length : Int) < 0) by omega, show ¬ (1048576 - (a.length : Int) - (b.length : Int) < 0) by omega, show ¬ (1048576 - (a.length : Int) - (b.length : Int) - (c.length : Int) < 0) by omega, show ¬ (1048576 - (a.length : Int) - (b.length : Int) - (c.length : Int) - (d.length : Int) < 0) by omega, if_false], .inr ⟨by omega, by omega, by omega, by omega⟩⟩
theorem toKeys_ev (a b c d : List Int) (ha : a.length ≤ 1048576) (hb : b.length ≤ 1048576) (hc : c.length ≤ 1048576) (hd : d.length ≤ 1048576) : Ev (fun k => laws_toKeys.f k a b c d) (a, b, c, d) := by
  simp only [laws_toKeys.f]
  refine Ev.bind (toByteS_ev _ (by omega)) ?_
  refine Ev.bind (toByteS_ev _ (by omega)) ?_
  refine Ev.bind (toByteS_ev _ (by omega)) ?_
  refine Ev.bind (toByteS_ev _ (by omega)) ?_
  exact Ev.now _
theorem eqKeys_ev (a b c d : List Int) (ha : a.length ≤ 1048576) (hb : b.length ≤ 1048576) (hc : c.length ≤ 1048576) (hd : d.length ≤ 1048576) : Ev (fun k => laws_eqKeys.f k a b c d a b c d) true := by
  simp only [laws_eqKeys.f]
  refine Ev.bind (eqByteS_ev _ (by omega)) ?_
  simp only [if_true]
  refine Ev.bind (eqByteS_ev _ (by omega)) ?_
  simp only [if_true]
  refine Ev.bind (eqByteS_ev _ (by omega)) ?_
  simp only [if_true]
  refine Ev.bind (eqByteS_ev _ (by omega)) ?_
  simp only [if_true]
  exact Ev.now _
theorem markKeys_ev (a b c d : List Int) (m : Int) (hm : 0 ≤ m) (hm1 : m ≤ 4294967296) (ha : a.length ≤ 1048576) (hb : b.length ≤ 1048576) (hc : c.length ≤ 1048576) (hd : d.length ≤ 1048576) :
    Ev (fun k => laws_markKeys.f k a b c d m) (m + a.length + b.length + c.length + d.length, marks m a.length, marks (m + a.length) b.length, marks (m + a.length + b.length) c.length, marks (m + a.length + b.length + c.length) d.length) := by
  simp only [laws_markKeys.f]
  refine Ev.bind (markByteS_ev _ _ (by omega) (by omega)) ?_
  refine Ev.bind (markByteS_ev _ _ (by omega) (by omega)) ?_
  refine Ev.bind (markByteS_ev _ _ (by omega) (by omega)) ?_
  refine Ev.bind (markByteS_ev _ _ (by omega) (by omega)) ?_
  exact Ev.now _
theorem keysOK (a b c d : List Int) : ∃ t, spec_l03KeysOK.f a b c d = some t ∧ impl_keysOK.f a b c d = some t ∧ (t = true → a.length = 16 ∧ b.length = 16 ∧ c.length = 8 ∧ d.length = 16) := by
  unfold spec_l03KeysOK.f impl_keysOK.f
  by_cases h1 : (a.length : Int) = 16
  · by_cases h2 : (b.length : Int) = 16
    · by_cases h3 : (c.length : Int) = 8
      · by_cases h4 : (d.length : Int) = 16
        · exact ⟨true, by rw [if_pos h1, if_pos h2, if_pos h3, h4]; rfl, by rw [if_pos h1, if_pos h2, if_pos h4, h3]; rfl, fun _ => ⟨by omega, by omega, by omega, by omega⟩⟩
        · have h4' : ((d.length : Int) == 16) = false := beq_eq_false_iff_ne.mpr h4
          exact ⟨false, by rw [if_pos h1, if_pos h2, if_pos h3, h4'], by rw [if_pos h1, if_pos h2, if_neg h4], fun h => by cases h⟩
      · have h3' : ((c.length : Int) == 8) = false := beq_eq_false_iff_ne.mpr h3
        by_cases h4 : (d.length : Int) = 16
        · exact ⟨false, by rw [if_pos h1, if_pos h2, if_neg h3], by rw [if_pos h1, if_pos h2, if_pos h4, h3'], fun h => by cases h⟩
        · exact ⟨false, by rw [if_pos h1, if_pos h2, if_neg h3], by rw [if_pos h1, if_pos h2, if_neg h4], fun h => by cases h⟩
    · exact ⟨false, by rw [if_pos h1, if_neg h2], by rw [if_pos h1, if_neg h2], fun h => by cases h⟩
  · exact ⟨false, by rw [if_neg h1], by rw [if_neg h1], fun h => by cases h⟩
theorem xor_comm8 (a b : Int) : Go.bits .xor .u8 a b = Go.bits .xor .u8 b a := by
  show IntKind.u8.wrap ((BitVec.ofInt IntKind.u8.bits a ^^^ BitVec.ofInt IntKind.u8.bits b).toNat : Int) = IntKind.u8.wrap ((BitVec.ofInt IntKind.u8.bits b ^^^ BitVec.ofInt IntKind.u8.bits a).toNat : Int)
  rw [BitVec.xor_comm]
theorem rd_eq {x y : List Int} {i : Nat} (h : x[i]? = y[i]?) : rd x (i : Int) = rd y (i : Int) := by
  unfold rd
  rw [Int.toNat_natCast, List.getD_eq_getElem?_getD, List.getD_eq_getElem?_getD, h]
/-- n bytes of a with b laid over them. -/
def xzN (a b : List Int) (n : Nat) : List Int := (List.range n).map fun i : Nat => Go.bits .xor .u8 (rd a (i : Int)) (rd b (i : Int))
theorem xzN_length (a b : List Int) (n : Nat) : (xzN a b n).length = n := by simp [xzN]
theorem xzN_succ (a b : List Int) (n : Nat) : xzN a b (n + 1) = xzN a b n ++ [Go.bits .xor .u8 (rd a (n : Int)) (rd b (n : Int))] := by simp [xzN, List.range_succ]
theorem xzN_get (a b : List Int) {n i : Nat} (h : i < n) : (xzN a b n)[i]? = some (Go.bits .xor .u8 (rd a (i : Int)) (rd b (i : Int))) := by simp [xzN, h]
theorem sXor_loop (a b : List Int) (hab : a.length ≤ b.length) (ha : a.length ≤ 1048576) (n : Nat) : ∀ i : Nat, a.length - i = n → i ≤ a.length → Ev (fun k => spec_l03Xor.l0 k a b (xzN a b i) (i : Int)) (xzN a b a.length) := by
  induction n with
  | zero =>
    intro i hn hi
    obtain rfl : i = a.length := by omega
    refine Ev.step (fun k => rfl) ?_
    simp only [spec_l03Xor.l0, show ¬ ((a.length : Int) < (a.length : Int)) by omega, if_false]
    exact Ev.now _
  | succ n ih =>
    intro i hn hi
    have H := ih (i + 1) (by omega) (by omega)
    rw [xzN_succ] at H
    refine Ev.step (fun k => rfl) ?_
    simp only [spec_l03Xor.l0, show ((i : Int) < (a.length : Int)) by omega, show (0 : Int) ≤ (i : Int) by omega, show ((i : Int) < (b.length : Int)) by omega, xzN_length, show i < 140737488355328 by omega, if_true, next64 (show i < 4611686018427387904 by omega)]
    exact H
theorem sXor_ev (a b : List Int) (hab : a.length ≤ b.length) (ha : a.length ≤ 1048576) : Ev (fun k => spec_l03Xor.f k a b) (xzN a b a.length) := by
  simp only [spec_l03Xor.f]
  exact sXor_loop a b hab ha a.length 0 (by omega) (by omega)
theorem iNonce_loop (x0 x1 c x3 d : List Int) (hc : c.length = 8) (hd : d.length = 8) (n : Nat) : ∀ (i : Nat) (x : List Int), 8 - i = n → i ≤ 8 → x.length = 8 → (∀ j, j < i → x[j]? = (xzN c d 8)[j]?) → (∀ j, i ≤ j → x[j]? = d[j]?) → Ev (fun k => impl_nonceOf.l0 k x 8 (i : Int) x0 x1 c x3) (xzN c d 8) := by
  induction n with
  | zero =>
    intro i x hn hi hx h1 h2
    obtain rfl : i = 8 := by omega
    refine Ev.step (fun k => rfl) ?_
    simp only [impl_nonceOf.l0, show ¬ (((8 : Nat) : Int) < 8) by decide, if_false]
    exact Ev_now (prefix_all (by rw [xzN_length, hx]) (fun j hj => h1 j (by rw [xzN_length] at hj; exact hj)))
  | succ n ih =>
    intro i x hn hi hx h1 h2
    have e : Go.bits .xor .u8 (rd x (i : Int)) (rd c (i : Int)) = Go.bits .xor .u8 (rd c (i : Int)) (rd d (i : Int)) := by rw [rd_eq (h2 i (Nat.le_refl _)), xor_comm8]
    have H := ih (i + 1) (x.set i (Go.bits .xor .u8 (rd c (i : Int)) (rd d (i : Int)))) (by omega) (by omega) (by rw [List.length_set]; exact hx) (set_prefix (by rw [xzN_length, hx]) (xzN_get c d (by omega)) h1) (fun j hj => by rw [List.getElem?_set_ne (by omega)]; exact h2 j (by omega))
    refine Ev.step (fun k => rfl) ?_
    simp only [impl_nonceOf.l0, show ((i : Int) < 8) by omega, show (0 : Int) ≤ (i : Int) by omega, hx, hc, show ((i : Int) < ((8 : Nat) : Int)) by omega, if_true, Int.toNat_natCast, next64 (show i < 4611686018427387904 by omega), e]
    exact H
theorem iNonce_ev (x0 x1 c x3 : List Int) (num : Int) (hc : c.length = 8) (h0 : 0 ≤ num) (h1 : num ≤ 4611686018427387903) : Ev (fun k => impl_nonceOf.f k x0 x1 c x3 num) (xzN c (dg num 8) 8) := by
  simp only [impl_nonceOf.f]
  refine Ev.bind (fixed_ev num 8 [] h0 (by omega) (by omega) (by simp)) ?_
  simp only [List.nil_append, dg_length]
  exact iNonce_loop x0 x1 c x3 (dg num 8) hc (dg_length _ _) 8 0 _ (by omega) (by omega) (dg_length _ _) (fun j hj => by omega) (fun j hj => rfl)
theorem sCat (a b : List Int) (ha : a.length ≤ 4194304) (hb : b.length ≤ 4194304) : spec_l03Cat.f a b = some (a ++ b) := by
  simp only [spec_l03Cat.f, Option.bind_some, List.length_nil, Nat.zero_add, List.nil_append]
  rw [if_pos (by omega), if_pos (by omega)]
/-- A block of the stream. -/
def blkN (key nonce : List Int) (j : Nat) : List Int := dgst key (nonce ++ dg (j : Int) 4)
theorem blkN_length (key nonce : List Int) (j : Nat) : (blkN key nonce j).length = 16 := dgst_length _ _
def strm (key nonce : List Int) : Nat → List Int
  | 0 => []
  | j + 1 => strm key nonce j ++ blkN key nonce j
theorem strm_length (key nonce : List Int) : ∀ j, (strm key nonce j).length = 16 * j
  | 0 => rfl
  | j + 1 => by simp [strm, blkN_length, strm_length key nonce j]; omega
theorem strm_get (key nonce : List Int) (i : Nat) : ∀ j, i < 16 * j → (strm key nonce j)[i]? = (blkN key nonce (i / 16))[i % 16]?
  | 0, h => by omega
  | j + 1, h => by
    by_cases c : i < 16 * j
    · simp only [strm]
      rw [List.getElem?_append_left (by rw [strm_length]; exact c)]
      exact strm_get key nonce i j c
    · simp only [strm]
      rw [List.getElem?_append_right (by rw [strm_length]; omega), strm_length, show i / 16 = j by omega, show i - 16 * j = i % 16 by omega]
theorem sStream_loop (x0 key x2 x3 nonce : List Int) (n : Nat) (hn : n ≤ 2000) (hk : key.length ≤ 1048576) (hc : nonce.length ≤ 64) (m : Nat) : ∀ j : Nat, (n + 15) / 16 - j = m → j ≤ (n + 15) / 16 → Ev (fun k => spec_l03Stream.l0 k nonce (n : Int) (strm key nonce j) (j : Int) x0 key x2 x3) (strm key nonce ((n + 15) / 16)) := by
  induction m with
  | zero =>
    intro j hm hj
    obtain rfl : j = (n + 15) / 16 := by omega
    refine Ev.step (fun k => rfl) ?_
    simp only [spec_l03Stream.l0, strm_length, show ¬ (((16 * ((n + 15) / 16) : Nat) : Int) < (n : Int)) by omega, if_false]
    exact Ev.now _
  | succ m ih =>
    intro j hm hj
    have H := ih (j + 1) (by omega) (by omega)
    refine Ev.step (fun k => rfl) ?_
    simp only [spec_l03Stream.l0, strm_length, show (((16 * j : Nat) : Int) < (n : Int)) by omega, if_true, next64 (show j < 4611686018427387904 by omega)]
    refine Ev.bind (digits_ev 4 _ (by omega) (by omega) (by omega)) ?_
    simp only [sCat nonce (dg (j : Int) 4) (by omega) (by rw [dg_length]; omega), Option.bind_some]
    refine Ev.bind (sDigest_ev key _ hk (by rw [List.length_append, dg_length]; omega)) ?_
    refine Ev_ite (fun _ => H) (fun c => absurd (by rw [dgst_length]; omega) c)
theorem sStream_ev (x0 key x2 x3 nonce : List Int) (n : Nat) (hn : n ≤ 2000) (hk : key.length ≤ 1048576) (hc : nonce.length ≤ 64) : Ev (fun k => spec_l03Stream.f k x0 key x2 x3 nonce (n : Int)) (strm key nonce ((n + 15) / 16)) := by
  simp only [spec_l03Stream.f]
  exact sStream_loop x0 key x2 x3 nonce n hn hk hc _ 0 rfl (by omega)
/-- A body with its stream laid over it. -/
def cst (key nonce body : List Int) : List Int := (List.range body.length).map fun i : Nat => Go.bits .xor .u8 (rd body (i : Int)) (rd (blkN key nonce (i / 16)) ((i % 16 : Nat) : Int))
theorem cst_length (key nonce body : List Int) : (cst key nonce body).length = body.length := by simp [cst]
theorem cst_get (key nonce body : List Int) {i : Nat} (h : i < body.length) : (cst key nonce body)[i]? = some (Go.bits .xor .u8 (rd body (i : Int)) (rd (blkN key nonce (i / 16)) ((i % 16 : Nat) : Int))) := by simp [cst, h]
theorem xz_strm (key nonce body : List Int) : xzN body (strm key nonce ((body.length + 15) / 16)) body.length = cst key nonce body := by
  unfold xzN cst
  apply List.map_congr_left
  intro i hi
  have hi := List.mem_range.1 hi
  have h := strm_get key nonce i ((body.length + 15) / 16) (by omega)
  have e : rd (strm key nonce ((body.length + 15) / 16)) (i : Int) = rd (blkN key nonce (i / 16)) ((i % 16 : Nat) : Int) := by
    unfold rd
    rw [Int.toNat_natCast, Int.toNat_natCast, List.getD_eq_getElem?_getD, List.getD_eq_getElem?_getD, h]
  rw [e]
theorem iStreamed_loop (x0 key x2 x3 nonce body : List Int) (hk : key.length ≤ 1048576) (hc : nonce.length ≤ 64) (hb : body.length ≤ 2000) (n : Nat) : ∀ (i : Nat) (x b : List Int), body.length - i = n → i ≤ body.length → x.length = body.length → (∀ j, j < i → x[j]? = (cst key nonce body)[j]?) → (∀ j, i ≤ j → x[j]? = body[j]?) → (i % 16 ≠ 0 → b = blkN key nonce (i / 16)) →
    Ev (fun k => impl_streamed.l0 k nonce x b (body.length : Int) (i : Int) x0 key x2 x3) (cst key nonce body) := by
  induction n with
  | zero =>
    intro i x b hn hi hx h1 h2 hblk
    obtain rfl : i = body.length := by omega
    refine Ev.step (fun k => rfl) ?_
    simp only [impl_streamed.l0, show ¬ ((body.length : Int) < (body.length : Int)) by omega, if_false]
    exact Ev_now (prefix_all (by rw [cst_length, hx]) (fun j hj => h1 j (by rw [cst_length] at hj; exact hj)))
  | succ n ih =>
    intro i x b hn hi hx h1 h2 hblk
    have hil : i < body.length := by omega
    have t1 : Int.tmod (i : Int) 16 = ((i % 16 : Nat) : Int) := by rw [tmod_nn (by omega)]; omega
    have b1 : (i : Int) < (body.length : Int) := by omega
    have b2 : (0 : Int) ≤ (i : Int) := by omega
    have b3 : nonce.length < 140737488355328 := by omega
    have b4 : (0 : Int) ≤ ((i % 16 : Nat) : Int) := by omega
    have b5 : ((i % 16 : Nat) : Int) < ((16 : Nat) : Int) := by omega
    have b6 : (0 : Int) ≤ ((i / 16 : Nat) : Int) := by omega
    have b7 : ((i / 16 : Nat) : Int) ≤ 9223372036854775807 := by omega
    have b8 : nonce.length + 8 < 140737488355328 := by omega
    have b9 : (nonce ++ dg ((i / 16 : Nat) : Int) 4).length ≤ 1048576 := by rw [List.length_append, dg_length]; omega
    have n1 : body.length - (i + 1) = n := by omega
    have n2 : i + 1 ≤ body.length := by omega
    have n3 : (i + 1) % 16 ≠ 0 → blkN key nonce (i / 16) = blkN key nonce ((i + 1) / 16) := fun h => by rw [show (i + 1) / 16 = i / 16 by omega]
    have n4 : ∀ j, i + 1 ≤ j → (x.set i (Go.bits .xor .u8 (rd body (i : Int)) (rd (blkN key nonce (i / 16)) ((i % 16 : Nat) : Int))))[j]? = body[j]? := fun j hj => by rw [List.getElem?_set_ne (by omega)]; exact h2 j (by omega)
    have H := ih (i + 1) (x.set i (Go.bits .xor .u8 (rd body (i : Int)) (rd (blkN key nonce (i / 16)) ((i % 16 : Nat) : Int)))) (blkN key nonce (i / 16)) n1 n2 (by rw [List.length_set]; exact hx) (set_prefix (by rw [cst_length, hx]) (cst_get key nonce body hil) h1) n4 n3
    have dl : (dgst key (nonce ++ dg ((i / 16 : Nat) : Int) 4)).length = 16 := dgst_length _ _
    have hi64 : i < 4611686018427387904 := by omega
    have t2 : wrap64 (Int.tdiv (i : Int) 16) = ((i / 16 : Nat) : Int) := by rw [tdiv_nn (by omega), w64 (by omega) (by omega)]; omega
    have nx := next64 hi64
    have er : rd x (i : Int) = rd body (i : Int) := rd_eq (h2 i (Nat.le_refl _))
    refine Ev.step (fun k => rfl) ?_
    by_cases c : i % 16 = 0
    · have c0 : ((i % 16 : Nat) : Int) = 0 := by rw [c]; rfl
      simp only [impl_streamed.l0, b1, t1, t2, c0, b2, hx, if_true, Option.bind_some, List.length_nil, Nat.zero_add, List.nil_append, b3, Int.toNat_natCast, nx, er, show (0 : Int) ≤ 0 from Int.le_refl 0]
      refine Ev.bind (fixed_ev _ 4 _ b6 b7 (by decide) b8) ?_
      refine Ev.bind (iDigest_ev key _ hk b9) ?_
      rw [c0] at H
      refine Ev_ite (fun _ => H) (fun c => absurd (by rw [dl]; decide) c)
    · obtain rfl := hblk c
      have c0 : ¬ (((i % 16 : Nat) : Int) = 0) := fun h => c (by exact_mod_cast h)
      simp only [impl_streamed.l0, b1, t1, c0, b2, hx, if_true, if_false, b4, blkN_length, b5, Int.toNat_natCast, nx, er]
      exact H
theorem iStreamed_ev (x0 key x2 x3 nonce body : List Int) (hk : key.length ≤ 1048576) (hc : nonce.length ≤ 64) (hb : body.length ≤ 2000) : Ev (fun k => impl_streamed.f k x0 key x2 x3 nonce body) (cst key nonce body) := by
  simp only [impl_streamed.f, Option.bind_some, List.length_nil, Nat.zero_add, List.nil_append, show body.length < 140737488355328 by omega, if_true]
  exact iStreamed_loop x0 key x2 x3 nonce body hk hc hb body.length 0 body [] (by omega) (by omega) rfl (fun j hj => by omega) (fun j hj => rfl) (fun h => by omega)
/-- The tag. -/
def tg (key nonce head body : List Int) : List Int := (dgst key (nonce ++ [255, 255, 255, 255] ++ dg (head.length : Int) 4 ++ head ++ body)).take 8
theorem tg_length (key nonce head body : List Int) : (tg key nonce head body).length = 8 := by simp [tg, dgst_length]
theorem sTag_ev (x0 key x2 x3 nonce head body : List Int) (hk : key.length ≤ 1048576) (hc : nonce.length ≤ 64) (hh : head.length ≤ 2000) (hb : body.length ≤ 2000) : Ev (fun k => spec_l03Tag.f k x0 key x2 x3 nonce head body) (tg key nonce head body) := by
  simp only [spec_l03Tag.f, sCat nonce [255, 255, 255, 255] (by omega) (by simp), Option.bind_some]
  refine Ev.bind (digits_ev 4 _ (by omega) (by omega) (by omega)) ?_
  refine Ev_ite (fun _ => ?_) (fun c => absurd (by simp [dg_length]; omega) c)
  refine Ev_ite (fun _ => ?_) (fun c => absurd (by simp [dg_length]; omega) c)
  refine Ev_ite (fun _ => ?_) (fun c => absurd (by simp [dg_length]; omega) c)
  refine Ev.bind (sDigest_ev key _ hk (by simp [dg_length]; omega)) ?_
  simp only [dgst_length, show (8 : Int) ≤ ((16 : Nat) : Int) by decide, if_true]
  exact Ev.now _
theorem iTag_ev (x0 key x2 x3 nonce head body : List Int) (hk : key.length ≤ 1048576) (hc : nonce.length ≤ 64) (hh : head.length ≤ 2000) (hb : body.length ≤ 2000) : Ev (fun k => impl_tagOf.f k x0 key x2 x3 nonce head body) (tg key nonce head body) := by
  simp only [impl_tagOf.f, Option.bind_some, List.length_nil, Nat.zero_add, List.nil_append]
  refine Ev_ite (fun _ => ?_) (fun c => absurd (by omega) c)
  refine Ev_ite (fun _ => ?_) (fun c => absurd (by simp; omega) c)
  refine Ev.bind (fixed_ev _ 4 _ (by omega) (by omega) (by omega) (by simp; omega)) ?_
  refine Ev_ite (fun _ => ?_) (fun c => absurd (by simp [dg_length]; omega) c)
  refine Ev_ite (fun _ => ?_) (fun c => absurd (by simp [dg_length]; omega) c)
  refine Ev.bind (iDigest_ev key _ hk (by simp [dg_length]; omega)) ?_
  simp only [dgst_length, show (8 : Int) ≤ ((16 : Nat) : Int) by decide, if_true]
  exact Ev.now _
theorem iInVar (v : Int) : impl_inVar.f v = some (decide (0 ≤ v ∧ v ≤ 4611686018427387903)) := by
  unfold impl_inVar.f
  by_cases h : v ≥ 0
  · rw [if_pos h]; exact congrArg some (by rw [decide_eq_decide]; omega)
  · rw [if_neg h]; exact congrArg some (decide_eq_false (by omega)).symm
/-- Both answer, and the same: OpenSealed. -/
theorem bothOpen (a b c d : List Int) (v : Int) (h y : List Int) (hh : h.length ≤ 1048576) (hy : y.length ≤ 1048576) : ∃ w e, Ev (fun k => spec_OpenSealed.f k a b c d v h y) (w, e) ∧ Ev (fun k => impl_OpenSealed.f k a b c d v h y) (w, e) ∧ w.length ≤ 2000 := by
  have sT : Ev (fun k => spec_OpenSealed.j0 k v h y true a b c d) ([], 1) := Ev.step (f := fun _ => some ([], 1)) (fun k => by simp only [spec_OpenSealed.j0, if_true]) (Ev.now _)
  have iT : Ev (fun k => impl_OpenSealed.j0 k v h y true a b c d) ([], 1) := Ev.step (f := fun _ => some ([], 1)) (fun k => by simp only [impl_OpenSealed.j0, if_true]) (Ev.now _)
  obtain ⟨t, hs, hi, hl⟩ := keysOK a b c d
  simp only [spec_OpenSealed.f, impl_OpenSealed.f, hs, hi, Option.bind_some, iInVar]
  cases t with
  | false =>
    simp only [Bool.false_eq_true, if_false]
    exact ⟨[], 1, sT, iT, by simp⟩
  | true =>
    obtain ⟨ha, hb, hc, hd⟩ := hl rfl
    simp only [if_true]
    by_cases c1 : 0 ≤ v ∧ v ≤ 4611686018427387903
    · simp only [show ¬ v < 0 by omega, show ¬ v > 4611686018427387903 by omega, decide_eq_true c1, if_false, decide_false, Bool.not_true]
      have wl : wrap64 ((h.length : Int) + (y.length : Int)) = (h.length : Int) + (y.length : Int) := w64 (by omega) (by omega)
      have wm : wrap64 ((y.length : Int) - 8) = (y.length : Int) - 8 := w64 (by omega) (by omega)
      by_cases c2 : (h.length : Int) + (y.length : Int) > 1508
      · refine ⟨[], 4, ?_, ?_, by simp⟩
        · refine Ev.step (fun k => rfl) ?_
          simp only [spec_OpenSealed.j0, Bool.false_eq_true, if_false, wl, c2, if_true]
          exact Ev.now _
        · refine Ev.step (fun k => rfl) ?_
          simp only [impl_OpenSealed.j0, Bool.false_eq_true, if_false, wl, c2, if_true]
          exact Ev.now _
      by_cases c3 : (y.length : Int) < 8
      · refine ⟨[], 2, ?_, ?_, by simp⟩
        · refine Ev.step (fun k => rfl) ?_
          simp only [spec_OpenSealed.j0, Bool.false_eq_true, if_false, wl, wm, c2, show (y.length : Int) - 8 < 0 by omega, if_true]
          exact Ev.now _
        · refine Ev.step (fun k => rfl) ?_
          simp only [impl_OpenSealed.j0, Bool.false_eq_true, if_false, wl, c2, c3, if_true]
          exact Ev.now _
      have en : ((y.length : Int) - 8).toNat = y.length - 8 := by omega
      have tl : (y.take (y.length - 8)).length = y.length - 8 := by simp
      by_cases c4 : (strOfNums (tg b (xzN c (dg v 8) 8) h (y.take (y.length - 8)))).toList = (strOfNums (y.drop (y.length - 8))).toList
      · refine ⟨cst b (xzN c (dg v 8) 8) (y.take (y.length - 8)), 0, ?_, ?_, by rw [cst_length]; omega⟩
        · refine Ev.step (fun k => rfl) ?_
          simp only [spec_OpenSealed.j0, Bool.false_eq_true, if_false, wl, wm, c2, show ¬ ((y.length : Int) - 8 < 0) by omega, show (0 : Int) ≤ (y.length : Int) - 8 by omega, show (y.length : Int) - 8 ≤ (y.length : Int) by omega, if_true, en]
          refine Ev.bind (digits_ev 8 v (by omega) c1.1 (by omega)) ?_
          refine Ev.bind (sXor_ev c (dg v 8) (by rw [dg_length]; omega) (by omega)) ?_
          rw [hc]
          refine Ev.bind (sTag_ev a b c d _ h _ (by omega) (by rw [xzN_length]; omega) (by omega) (by omega)) ?_
          simp only [c4, if_true]
          rw [show (y.length : Int) - 8 = ((y.take (y.length - 8)).length : Int) by omega]
          refine Ev.bind (sStream_ev a b c d _ (y.take (y.length - 8)).length (by omega) (by omega) (by rw [xzN_length]; omega)) ?_
          refine Ev.bind (sXor_ev _ _ (by rw [strm_length]; omega) (by omega)) ?_
          rw [xz_strm]
          exact Ev.now _
        · refine Ev.step (fun k => rfl) ?_
          simp only [impl_OpenSealed.j0, Bool.false_eq_true, if_false, wl, wm, c2, c3, show (0 : Int) ≤ (y.length : Int) - 8 by omega, show (y.length : Int) - 8 ≤ (y.length : Int) by omega, if_true, en, tl, show (0 : Int) ≤ ((y.length - 8 : Nat) : Int) by omega, show ((y.length - 8 : Nat) : Int) ≤ (y.length : Int) by omega, Int.toNat_natCast]
          refine Ev.bind (iNonce_ev a b c d v hc c1.1 c1.2) ?_
          refine Ev.bind (iTag_ev a b c d _ h _ (by omega) (by rw [xzN_length]; omega) (by omega) (by omega)) ?_
          simp only [c4, if_true]
          refine Ev.bind (iStreamed_ev a b c d _ _ (by omega) (by rw [xzN_length]; omega) (by omega)) ?_
          exact Ev.now _
      · refine ⟨[], 5, ?_, ?_, by simp⟩
        · refine Ev.step (fun k => rfl) ?_
          simp only [spec_OpenSealed.j0, Bool.false_eq_true, if_false, wl, wm, c2, show ¬ ((y.length : Int) - 8 < 0) by omega, show (0 : Int) ≤ (y.length : Int) - 8 by omega, show (y.length : Int) - 8 ≤ (y.length : Int) by omega, if_true, en]
          refine Ev.bind (digits_ev 8 v (by omega) c1.1 (by omega)) ?_
          refine Ev.bind (sXor_ev c (dg v 8) (by rw [dg_length]; omega) (by omega)) ?_
          rw [hc]
          refine Ev.bind (sTag_ev a b c d _ h _ (by omega) (by rw [xzN_length]; omega) (by omega) (by omega)) ?_
          simp only [c4, if_false]
          exact Ev.now _
        · refine Ev.step (fun k => rfl) ?_
          simp only [impl_OpenSealed.j0, Bool.false_eq_true, if_false, wl, wm, c2, c3, show (0 : Int) ≤ (y.length : Int) - 8 by omega, show (y.length : Int) - 8 ≤ (y.length : Int) by omega, if_true, en, tl, show (0 : Int) ≤ ((y.length - 8 : Nat) : Int) by omega, show ((y.length - 8 : Nat) : Int) ≤ (y.length : Int) by omega, Int.toNat_natCast]
          refine Ev.bind (iNonce_ev a b c d v hc c1.1 c1.2) ?_
          refine Ev.bind (iTag_ev a b c d _ h _ (by omega) (by rw [xzN_length]; omega) (by omega) (by omega)) ?_
          simp only [c4, if_false]
          exact Ev.now _
    · simp only [decide_eq_false c1, Bool.not_false]
      refine ⟨[], 1, ?_, iT, by simp⟩
      refine Ev_ite (fun _ => sT) (fun c => ?_)
      rw [decide_eq_true (by omega)]
      exact sT

theorem FnExactOpenSealed (a b c d : List Int) (v : Int) (h y : List Int) (qa : a.length ≤ maxLen ∧ ∀ x ∈ a, (Lit.int .u8 x).wf = true) (qb : b.length ≤ maxLen ∧ ∀ x ∈ b, (Lit.int .u8 x).wf = true) (qc : c.length ≤ maxLen ∧ ∀ x ∈ c, (Lit.int .u8 x).wf = true) (qd : d.length ≤ maxLen ∧ ∀ x ∈ d, (Lit.int .u8 x).wf = true) (qv : (Lit.int .i64 v).wf = true) (qh : h.length ≤ maxLen ∧ ∀ x ∈ h, (Lit.int .u8 x).wf = true) (qy : y.length ≤ maxLen ∧ ∀ x ∈ y, (Lit.int .u8 x).wf = true) : ∃ k, laws_FnExactOpenSealed.f k a b c d v h y = some true := by
  refine Ev.rounds (g := fun k => laws_FnExactOpenSealed.f k a b c d v h y) ?_
  simp only [laws_FnExactOpenSealed.f]
  refine Ev_ite (fun _ => Ev.now _) (fun c0 => ?_)
  refine Ev_ite (fun _ => Ev.now _) (fun c2 => ?_)
  obtain ⟨t, ht, hz⟩ := szKeys_ev a b c d qa.1 qb.1 qc.1 qd.1
  simp only [ht, Option.bind_some]
  refine Ev_ite (fun _ => Ev.now _) (fun c1 => ?_)
  obtain ⟨za, zb, zc, zd⟩ := hz.resolve_left c1
  obtain ⟨w, e, hs, hi, hw⟩ := bothOpen a b c d v h y (by omega) (by omega)
  repeat' first
    | exact Ev.now _
    | refine Ev.bind hs ?_
    | refine Ev.bind hi ?_
    | refine Ev.bind (toKeys_ev a b c d za zb zc zd) ?_
    | refine Ev.bind (eqKeys_ev a b c d za zb zc zd) ?_
    | refine Ev.bind (markKeys_ev a b c d _ (by omega) (by omega) za zb zc zd) ?_
    | refine Ev.bind (toByteS_ev _ (by omega)) ?_
    | refine Ev.bind (eqByteS_ev _ (by omega)) ?_
    | refine Ev.bind (markByteS_ev _ _ (by omega) (by omega)) ?_
    | refine Ev.bind (heldByteS_ev _ _ (by omega) (by omega)) ?_
    | simp only [if_true, if_false, bne_self_eq_false, Bool.false_eq_true, Bool.not_true, marks_length]
    | (refine Ev.step (fun k => rfl) ?_; simp only [laws_FnExactOpenSealed.j0, laws_FnExactOpenSealed.j1, laws_FnExactOpenSealed.j2])
    | refine Ev_ite (fun c => absurd c (by omega)) (fun _ => ?_)

end Go.Proofs.Ytcdkbdkanjifeaa.Pure
