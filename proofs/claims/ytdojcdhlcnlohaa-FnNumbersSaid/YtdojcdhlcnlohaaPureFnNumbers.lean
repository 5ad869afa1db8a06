/- Pure text of FnNumbers -/
import Derived.Test.YtdojcdhlcnlohaaSFnNumbersx4
import Derived.Test.YtdojcdhlcnlohaaMath
namespace Go.Proofs.Ytdojcdhlcnlohaa.Pure
open Go.RowKit Go.Proofs.Ytdojcdhlcnlohaa.SFnNumbers Go.Proofs.YtdojcdhlcnlohaaW.PrintWords Go.Proofs.YtdojcdhlcnlohaaW.PrintLast Go.Proofs.YtdojcdhlcnlohaaW.PrintMore Go.Proofs.Ytdojcdhlcnlohaa.Math
set_option linter.unusedVariables false
set_option linter.unusedSimpArgs false

theorem power_ev {n : Int} (h0 : 0 ≤ n) (h1 : n ≤ 7) : Ev (fun k => spec_l01Power.f k n) (256 ^ n.toNat) := by
  have h : n = 0 ∨ n = 1 ∨ n = 2 ∨ n = 3 ∨ n = 4 ∨ n = 5 ∨ n = 6 ∨ n = 7 := by omega
  rcases h with rfl | rfl | rfl | rfl | rfl | rfl | rfl | rfl <;> exact Ev.of (spec_l01Power.mono _) (k := 9) (by decide +kernel)
/-- The lowest n bytes of a number. -/
def cut (v : Int) (n : Nat) : Int := v % 256 ^ n
theorem iCutI (v a : Int) (h0 : 0 ≤ v) (h1 : v ≤ 4611686018427387903) (a1 : 1 ≤ a) (a4 : a ≤ 4) : (if 0 ≤ wrap64 (8 * a) then some (Go.bits .and .i64 v (wrap64 (shl .i64 1 (wrap64 (8 * a)) - 1))) else none) = some (v % 256 ^ a.toNat) := by
  have h : a = 1 ∨ a = 2 ∨ a = 3 ∨ a = 4 := by omega
  rcases h with rfl | rfl | rfl | rfl
  · rw [show wrap64 (8 * 1) = 8 by decide +kernel, if_pos (by decide), show wrap64 (shl .i64 1 8 - 1) = 2 ^ 8 - 1 by decide +kernel, i64_mask v 8 (by decide) (by omega) (by omega), show (256 : Int) ^ Int.toNat 1 = 2 ^ 8 by decide +kernel]
  · rw [show wrap64 (8 * 2) = 16 by decide +kernel, if_pos (by decide), show wrap64 (shl .i64 1 16 - 1) = 2 ^ 16 - 1 by decide +kernel, i64_mask v 16 (by decide) (by omega) (by omega), show (256 : Int) ^ Int.toNat 2 = 2 ^ 16 by decide +kernel]
  · rw [show wrap64 (8 * 3) = 24 by decide +kernel, if_pos (by decide), show wrap64 (shl .i64 1 24 - 1) = 2 ^ 24 - 1 by decide +kernel, i64_mask v 24 (by decide) (by omega) (by omega), show (256 : Int) ^ Int.toNat 3 = 2 ^ 24 by decide +kernel]
  · rw [show wrap64 (8 * 4) = 32 by decide +kernel, if_pos (by decide), show wrap64 (shl .i64 1 32 - 1) = 2 ^ 32 - 1 by decide +kernel, i64_mask v 32 (by decide) (by omega) (by omega), show (256 : Int) ^ Int.toNat 4 = 2 ^ 32 by decide +kernel]
theorem iCut (v : Int) (n : Nat) (h0 : 0 ≤ v) (h1 : v ≤ 4611686018427387903) (n1 : 1 ≤ n) (n4 : n ≤ 4) : impl_CutNum.f v (n : Int) = some (cut v n) := by
  have H := iCutI v (n : Int) h0 h1 (by omega) (by omega)
  rw [Int.toNat_natCast] at H
  have e : impl_inVar.f v = some true := by
    unfold impl_inVar.f
    rw [if_pos (show v ≥ 0 by omega), decide_eq_true h1]
  unfold impl_CutNum.f cut
  rw [e]
  simp only [Option.bind_some, if_true]
  rw [if_neg (show ¬ (n : Int) < 1 by omega), if_neg (show ¬ (n : Int) > 4 by omega)]
  exact H
/-- How many bytes: the answer, for a distance. -/
def nbOf (d : Int) : Int := if d ≤ 128 then 1 else if d ≤ 32768 then 2 else if d ≤ 8388608 then 3 else if d ≤ 2147483648 then 4 else 0

theorem spec_loop (x0 x1 : Int) : Ev (fun k => spec_NumBytes.l0 k x0 x1 1) (nbOf (wrap64 (x0 - x1))) := by
  unfold nbOf
  refine Ev.step (fun k => rfl) ?_; simp only [spec_NumBytes.l0]
  simp only [show (1 : Int) ≤ 4 by decide, if_true]
  refine Ev.bind (power_ev (by decide) (by decide)) ?_
  simp only [show wrap64 (((256 : Int) ^ Int.toNat 1).tdiv 2) = 128 by decide +kernel]
  refine Ev_ite (fun c => Ev_now (by rw [if_pos]; exact c)) (fun c1 => ?_)
  rw [if_neg (by exact c1)]
  refine Ev.step (fun k => rfl) ?_; simp only [spec_NumBytes.l0]
  simp only [show wrap64 (1 + 1) = 2 by decide +kernel, show (2 : Int) ≤ 4 by decide, if_true]
  refine Ev.bind (power_ev (by decide) (by decide)) ?_
  simp only [show wrap64 (((256 : Int) ^ Int.toNat 2).tdiv 2) = 32768 by decide +kernel]
  refine Ev_ite (fun c => Ev_now (by rw [if_pos]; exact c)) (fun c2 => ?_)
  rw [if_neg (by exact c2)]
  refine Ev.step (fun k => rfl) ?_; simp only [spec_NumBytes.l0]
  simp only [show wrap64 (2 + 1) = 3 by decide +kernel, show (3 : Int) ≤ 4 by decide, if_true]
  refine Ev.bind (power_ev (by decide) (by decide)) ?_
  simp only [show wrap64 (((256 : Int) ^ Int.toNat 3).tdiv 2) = 8388608 by decide +kernel]
  refine Ev_ite (fun c => Ev_now (by rw [if_pos]; exact c)) (fun c3 => ?_)
  rw [if_neg (by exact c3)]
  refine Ev.step (fun k => rfl) ?_; simp only [spec_NumBytes.l0]
  simp only [show wrap64 (3 + 1) = 4 by decide +kernel, show (4 : Int) ≤ 4 by decide, if_true]
  refine Ev.bind (power_ev (by decide) (by decide)) ?_
  simp only [show wrap64 (((256 : Int) ^ Int.toNat 4).tdiv 2) = 2147483648 by decide +kernel]
  refine Ev_ite (fun c => Ev_now (by rw [if_pos]; exact c)) (fun c4 => ?_)
  rw [if_neg (by exact c4)]
  refine Ev.step (fun k => rfl) ?_; simp only [spec_NumBytes.l0]
  simp only [show wrap64 (4 + 1) = 5 by decide +kernel, show ¬ (5 : Int) ≤ 4 by decide, if_false]
  exact Ev.now _

theorem impl_loop (x0 x1 : Int) : Ev (fun k => impl_NumBytes.l0 k x0 x1 1) (nbOf (wrap64 (x0 - x1))) := by
  unfold nbOf
  refine Ev.step (fun k => rfl) ?_; simp only [impl_NumBytes.l0]
  simp only [show (1 : Int) ≤ 4 by decide, show (0 : Int) ≤ wrap64 (wrap64 (8 * 1) - 1) by decide +kernel, show shl .i64 1 (wrap64 (wrap64 (8 * 1) - 1)) = 128 by decide +kernel, if_true]
  refine Ev_ite (fun c => Ev_now (by rw [if_pos c])) (fun c1 => ?_)
  rw [if_neg c1]
  refine Ev.step (fun k => rfl) ?_; simp only [impl_NumBytes.l0]
  simp only [show wrap64 (1 + 1) = 2 by decide +kernel, show (2 : Int) ≤ 4 by decide, show (0 : Int) ≤ wrap64 (wrap64 (8 * 2) - 1) by decide +kernel, show shl .i64 1 (wrap64 (wrap64 (8 * 2) - 1)) = 32768 by decide +kernel, if_true]
  refine Ev_ite (fun c => Ev_now (by rw [if_pos c])) (fun c2 => ?_)
  rw [if_neg c2]
  refine Ev.step (fun k => rfl) ?_; simp only [impl_NumBytes.l0]
  simp only [show wrap64 (2 + 1) = 3 by decide +kernel, show (3 : Int) ≤ 4 by decide, show (0 : Int) ≤ wrap64 (wrap64 (8 * 3) - 1) by decide +kernel, show shl .i64 1 (wrap64 (wrap64 (8 * 3) - 1)) = 8388608 by decide +kernel, if_true]
  refine Ev_ite (fun c => Ev_now (by rw [if_pos c])) (fun c3 => ?_)
  rw [if_neg c3]
  refine Ev.step (fun k => rfl) ?_; simp only [impl_NumBytes.l0]
  simp only [show wrap64 (3 + 1) = 4 by decide +kernel, show (4 : Int) ≤ 4 by decide, show (0 : Int) ≤ wrap64 (wrap64 (8 * 4) - 1) by decide +kernel, show shl .i64 1 (wrap64 (wrap64 (8 * 4) - 1)) = 2147483648 by decide +kernel, if_true]
  refine Ev_ite (fun c => Ev_now (by rw [if_pos c])) (fun c4 => ?_)
  rw [if_neg c4]
  refine Ev.step (fun k => rfl) ?_; simp only [impl_NumBytes.l0]
  simp only [show wrap64 (4 + 1) = 5 by decide +kernel, show ¬ (5 : Int) ≤ 4 by decide, if_false]
  exact Ev.now _

/-- What both tell. -/
def numBytesV (num acked : Int) : Int := if num < 0 ∨ num > 4611686018427387903 ∨ acked < -1 ∨ acked ≥ num then 0 else nbOf (wrap64 (num - acked))

theorem spec_NumBytes_ev (a0 a1 : Int) : Ev (fun k => spec_NumBytes.f k a0 a1) (numBytesV a0 a1) := by
  have yes : ∀ b, (b = true → numBytesV a0 a1 = 0) → (b = false → numBytesV a0 a1 = nbOf (wrap64 (a0 - a1))) → Ev (fun k => spec_NumBytes.j0 k a0 a1 b) (numBytesV a0 a1) := by
    intro b ht hf
    refine Ev.step (fun k => rfl) ?_; simp only [spec_NumBytes.j0]
    refine Ev_ite (fun c => Ev_now (ht c).symm) (fun c => ?_)
    rw [hf (by simpa using c)]
    exact spec_loop a0 a1
  unfold numBytesV at *
  simp only [spec_NumBytes.f]
  refine Ev_ite (fun c1 => yes _ (fun _ => by simp [c1]) (fun h => by cases h)) (fun c1 => ?_)
  refine Ev_ite (fun c2 => yes _ (fun _ => by simp [c2]) (fun h => by cases h)) (fun c2 => ?_)
  refine Ev_ite (fun c3 => yes _ (fun _ => by simp [c3]) (fun h => by cases h)) (fun c3 => ?_)
  exact yes _ (fun h => if_pos (by have := of_decide_eq_true h; omega)) (fun h => if_neg (by have := of_decide_eq_false h; omega))

theorem impl_NumBytes_ev (a0 a1 : Int) (b0 : -9223372036854775808 ≤ a0 ∧ a0 ≤ 9223372036854775807) : Ev (fun k => impl_NumBytes.f k a0 a1) (numBytesV a0 a1) := by
  have yes : ∀ b, (b = true → numBytesV a0 a1 = 0) → (b = false → numBytesV a0 a1 = nbOf (wrap64 (a0 - a1))) → Ev (fun k => impl_NumBytes.j0 k a0 a1 b) (numBytesV a0 a1) := by
    intro b ht hf
    refine Ev.step (fun k => rfl) ?_; simp only [impl_NumBytes.j0]
    refine Ev_ite (fun c => Ev_now (ht c).symm) (fun c => ?_)
    rw [hf (by simpa using c)]
    exact impl_loop a0 a1
  unfold numBytesV at *
  simp only [impl_NumBytes.f, impl_inVar.f]
  by_cases c1 : a0 < 0
  · simp only [show ¬ a0 ≥ 0 by omega, if_false, Option.bind_some, Bool.false_eq_true]
    exact yes _ (fun _ => by simp [c1]) (fun h => by cases h)
  by_cases c2 : a0 > 4611686018427387903
  · simp only [show a0 ≥ 0 by omega, show ¬ a0 ≤ 4611686018427387903 by omega, decide_false, if_true, if_false, Option.bind_some, Bool.false_eq_true]
    exact yes _ (fun _ => by simp [c2]) (fun h => by cases h)
  simp only [show a0 ≥ 0 by omega, show a0 ≤ 4611686018427387903 by omega, decide_true, if_true, Option.bind_some]
  refine Ev_ite (fun c3 => yes _ (fun _ => by simp [c3]) (fun h => by cases h)) (fun c3 => ?_)
  rw [w64 (x := a0 - 1) (by omega) (by omega)]
  exact yes _ (fun h => if_pos (by have := of_decide_eq_true h; omega)) (fun h => if_neg (by have := of_decide_eq_false h; omega))

theorem shl_pow (n : Int) (h0 : 1 ≤ n) (h1 : n ≤ 4) : 0 ≤ wrap64 (8 * n) ∧ shl .i64 1 (wrap64 (8 * n)) = 256 ^ n.toNat := by
  have h : n = 1 ∨ n = 2 ∨ n = 3 ∨ n = 4 := by omega
  rcases h with rfl | rfl | rfl | rfl <;> decide +kernel
theorem rd_mem {l : List Int} {i : Int} (h0 : 0 ≤ i) (h1 : i < (l.length : Int)) : rd l i ∈ l := by
  unfold rd
  rw [List.getD_eq_getElem?_getD, List.getElem?_eq_getElem (by omega)]
  exact List.getElem_mem _
/-- The source's byte: it tells a byte, and the seed stays in its range. -/
theorem byte_ok (l : List Int) (hl : ∀ x ∈ l, 0 ≤ x ∧ x ≤ 255) (a s : Int) (a0 : 0 ≤ a) (a1 : a < 1000000) (s0 : 0 ≤ s) (s1 : s < 2147483648) :
    ∃ r s', spec_l01Src_byte.f l a s = some (r, a + 1, s') ∧ 0 ≤ r ∧ r ≤ 255 ∧ 0 ≤ s' ∧ s' < 2147483648 := by
  unfold spec_l01Src_byte.f
  simp only [w64 (x := a + 1) (by omega) (by omega), w64 (x := a + 1 - 1) (by omega) (by omega)]
  by_cases c : a + 1 ≤ (l.length : Int)
  · rw [if_pos c, if_pos (by omega), if_pos (by omega)]
    obtain ⟨b0, b1⟩ := hl _ (rd_mem (l := l) (i := a + 1 - 1) (by omega) (by omega))
    generalize rd l (a + 1 - 1) = b at b0 b1
    have e1 : wrap64 b = b := w64 (by omega) (by omega)
    have e2 : wrap64 (s * 31) = s * 31 := w64 (by omega) (by omega)
    have e3 : wrap64 (s * 31 + b) = s * 31 + b := w64 (by omega) (by omega)
    have e4 : wrap64 (s * 31 + b + 7) = s * 31 + b + 7 := w64 (by omega) (by omega)
    rw [e1, e2, e3, e4, tmod_nn (by omega)]
    clear e1 e2 e3 e4
    exact ⟨b, _, rfl, b0, b1, by omega, by omega⟩
  · rw [if_neg c]
    by_cases d : a + 1 > wrap64 (4000 + wrap64 (4 * (l.length : Int)))
    · rw [if_pos d]
      exact ⟨0, s, rfl, by omega, by omega, s0, s1⟩
    · rw [if_neg d]
      clear d
      have e2 : wrap64 (s * 1103515245) = s * 1103515245 := w64 (by omega) (by omega)
      have e3 : wrap64 (s * 1103515245 + 12345) = s * 1103515245 + 12345 := w64 (by omega) (by omega)
      rw [e2, e3, tmod_nn (a := s * 1103515245 + 12345) (by omega)]
      clear e2 e3
      have y0 : 0 ≤ (s * 1103515245 + 12345) % 2147483648 := by omega
      have y1 : (s * 1103515245 + 12345) % 2147483648 < 2147483648 := by omega
      generalize (s * 1103515245 + 12345) % 2147483648 = y at y0 y1
      have z0 : 0 ≤ y / 65536 := by omega
      have z1 : y / 65536 < 32768 := by omega
      rw [tdiv_nn y0, w64 (by omega) (by omega), tmod_nn z0]
      exact ⟨_, y, rfl, by omega, by omega, y0, y1⟩
theorem next_ok (l : List Int) (hl : ∀ x ∈ l, 0 ≤ x ∧ x ≤ 255) (a s n : Int) (a0 : 0 ≤ a) (a1 : a < 999990) (s0 : 0 ≤ s) (s1 : s < 2147483648) (n1 : 1 ≤ n) (n2 : n ≤ 16777216) :
    ∃ r a' s', spec_l01Src_next.f l a s n = some (r, a', s') ∧ 0 ≤ r ∧ r < n ∧ a ≤ a' ∧ a' ≤ a + 3 ∧ 0 ≤ s' ∧ s' < 2147483648 := by
  unfold spec_l01Src_next.f
  by_cases c : n ≤ 1
  · rw [if_pos c]
    exact ⟨0, a, s, rfl, by omega, by omega, by omega, by omega, s0, s1⟩
  rw [if_neg c]
  by_cases d : n ≤ 256
  · rw [if_pos d]
    obtain ⟨b, t, e, b0, b1, t0, t1⟩ := byte_ok l hl a s a0 (by omega) s0 s1
    rw [e]
    simp only [Option.bind_some]
    rw [if_neg (by omega), tmod_nn b0]
    exact ⟨_, _, _, rfl, Int.emod_nonneg _ (by omega), Int.emod_lt_of_pos _ (by omega), by omega, by omega, t0, t1⟩
  · rw [if_neg d]
    obtain ⟨b, t, e, b0, b1, t0, t1⟩ := byte_ok l hl a s a0 (by omega) s0 s1
    rw [e]
    simp only [Option.bind_some]
    obtain ⟨b', t', e', b0', b1', t0', t1'⟩ := byte_ok l hl (a + 1) t (by omega) (by omega) t0 t1
    rw [e']
    simp only [Option.bind_some]
    obtain ⟨b'', t'', e'', b0'', b1'', t0'', t1''⟩ := byte_ok l hl (a + 1 + 1) t' (by omega) (by omega) t0' t1'
    rw [e'']
    simp only [Option.bind_some]
    have w1 : wrap64 (b * 65536) = b * 65536 := w64 (by omega) (by omega)
    have w2 : wrap64 (b' * 256) = b' * 256 := w64 (by omega) (by omega)
    have w3 : wrap64 (b * 65536 + b' * 256) = b * 65536 + b' * 256 := w64 (by omega) (by omega)
    have w4 : wrap64 (b * 65536 + b' * 256 + b'') = b * 65536 + b' * 256 + b'' := w64 (by omega) (by omega)
    rw [if_neg (by omega), w1, w2, w3, w4, tmod_nn (by omega)]
    clear w1 w2 w3 w4
    exact ⟨_, _, _, rfl, Int.emod_nonneg _ (by omega), Int.emod_lt_of_pos _ (by omega), by omega, by omega, t0'', t1''⟩
theorem chance_ok (l : List Int) (hl : ∀ x ∈ l, 0 ≤ x ∧ x ≤ 255) (a s n : Int) (a0 : 0 ≤ a) (a1 : a < 999990) (s0 : 0 ≤ s) (s1 : s < 2147483648) (n1 : 1 ≤ n) (n2 : n ≤ 16777216) :
    ∃ r a' s', spec_l01Src_chance.f l a s n = some (r, a', s') ∧ a ≤ a' ∧ a' ≤ a + 3 ∧ 0 ≤ s' ∧ s' < 2147483648 := by
  obtain ⟨r, a', s', e, _, _, h⟩ := next_ok l hl a s n a0 a1 s0 s1 n1 n2
  exact ⟨_, a', s', by unfold spec_l01Src_chance.f; rw [e]; rfl, h⟩
theorem number_ok (l : List Int) (hl : ∀ x ∈ l, 0 ≤ x ∧ x ≤ 255) (a s : Int) (a0 : 0 ≤ a) (a1 : a < 900000) (s0 : 0 ≤ s) (s1 : s < 2147483648) :
    ∃ v a' s', Ev (fun k => spec_l01Src_number.f k l a s) (v, a', s') ∧ (-9223372036854775808 ≤ v ∧ v ≤ 9223372036854775807) ∧ a ≤ a' ∧ a' ≤ a + 9 ∧ 0 ≤ s' ∧ s' < 2147483648 := by
  simp only [spec_l01Src_number.f]
  obtain ⟨r, b, t, e, r0, r1, b0, b1, t0, t1⟩ := next_ok l hl a s 12 a0 (by omega) s0 s1 (by omega) (by omega)
  simp only [e, Option.bind_some]
  by_cases c0 : r = 0
  · simp only [c0, if_true]
    obtain ⟨r', b', t', e', r0', r1', b0', b1', t0', t1'⟩ := next_ok l hl b t 9 (by omega) (by omega) t0 t1 (by omega) (by omega)
    simp only [e', Option.bind_some]
    have hm := rd_mem (l := ([0, 63, 64, 16383, 16384, 1073741823, 1073741824, 4611686018427387903, 4611686018427387902] : List Int)) (i := r') r0' (by simp; omega)
    generalize rd ([0, 63, 64, 16383, 16384, 1073741823, 1073741824, 4611686018427387903, 4611686018427387902] : List Int) r' = z at hm
    rw [if_pos r0', if_pos (by simp; omega)]
    refine ⟨z, b', t', Ev.now _, ?_, by omega, by omega, t0', t1'⟩
    simp at hm
    omega
  simp only [c0, if_false]
  by_cases c1 : r = 1
  · simp only [c1, if_true]
    obtain ⟨r', b', t', e', r0', r1', b0', b1', t0', t1'⟩ := next_ok l hl b t 16777216 (by omega) (by omega) t0 t1 (by omega) (by omega)
    simp only [e', Option.bind_some]
    obtain ⟨r'', b'', t'', e'', r0'', r1'', b0'', b1'', t0'', t1''⟩ := next_ok l hl b' t' 65536 (by omega) (by omega) t0' t1' (by omega) (by omega)
    simp only [e'', Option.bind_some]
    have w1 : wrap64 (r' * 65536) = r' * 65536 := w64 (by omega) (by omega)
    rw [w1, w64 (by omega) (by omega)]
    clear w1
    exact ⟨_, b'', t'', Ev.now _, by omega, by omega, by omega, t0'', t1''⟩
  simp only [c1, if_false]
  by_cases c2 : r = 2
  · simp only [c2, if_true]
    obtain ⟨r', b', t', e', r0', r1', b0', b1', t0', t1'⟩ := next_ok l hl b t 4 (by omega) (by omega) t0 t1 (by omega) (by omega)
    simp only [e', Option.bind_some]
    have hm := rd_mem (l := ([(-1), 4611686018427387904, 9223372036854775807, (-9223372036854775808)] : List Int)) (i := r') r0' (by simp; omega)
    generalize rd ([(-1), 4611686018427387904, 9223372036854775807, (-9223372036854775808)] : List Int) r' = z at hm
    rw [if_pos r0', if_pos (by simp; omega)]
    refine ⟨z, b', t', Ev.now _, ?_, by omega, by omega, t0', t1'⟩
    simp at hm
    omega
  simp only [c2, if_false]
  have j : ∀ q : Bool, ∃ v a' s', Ev (fun k => spec_l01Src_number.j0 k q l b t) (v, a', s') ∧ (-9223372036854775808 ≤ v ∧ v ≤ 9223372036854775807) ∧ a ≤ a' ∧ a' ≤ a + 9 ∧ 0 ≤ s' ∧ s' < 2147483648 := by
    intro q
    cases q
    · obtain ⟨r', b', t', e', r0', r1', b0', b1', t0', t1'⟩ := next_ok l hl b t 100 (by omega) (by omega) t0 t1 (by omega) (by omega)
      refine ⟨r', b', t', Ev.step (f := fun _ => some (r', b', t')) (fun k => ?_) (Ev.now _), by omega, by omega, by omega, t0', t1'⟩
      simp only [spec_l01Src_number.j0, Bool.false_eq_true, if_false, e', Option.bind_some]
    · obtain ⟨r', b', t', e', r0', r1', b0', b1', t0', t1'⟩ := next_ok l hl b t 20000 (by omega) (by omega) t0 t1 (by omega) (by omega)
      refine ⟨r', b', t', Ev.step (f := fun _ => some (r', b', t')) (fun k => ?_) (Ev.now _), by omega, by omega, by omega, t0', t1'⟩
      simp only [spec_l01Src_number.j0, if_true, e', Option.bind_some]
  by_cases c3 : r = 3
  · simp only [c3, if_true]
    exact j _
  · simp only [c3, if_false]
    exact j _
theorem drawNumBytes_ok (l : List Int) (hl : ∀ x ∈ l, 0 ≤ x ∧ x ≤ 255) : ∃ num acked, Ev (fun k => spec_DrawNumBytes.f k l) (num, acked) ∧ (-9223372036854775808 ≤ num ∧ num ≤ 9223372036854775807) := by
  simp only [spec_DrawNumBytes.f, spec_l01Source.f, Option.bind_some]
  obtain ⟨v, a, s, e, v0, a0, a1, s0, s1⟩ := number_ok l hl 0 ((l.length : Int) % 1000) (by omega) (by omega) (by omega) (by omega)
  obtain ⟨c, a', s', e', a0', a1', s0', s1'⟩ := chance_ok l hl a s 3 (by omega) (by omega) s0 s1 (by omega) (by omega)
  have j : ∀ q : Bool, ∃ acked, Ev (fun k => spec_DrawNumBytes.j0 k v q l a' s') (v, acked) := by
    intro q
    cases q
    · obtain ⟨r1, b1, t1, e1, r10, r11, b10, b11, t10, t11⟩ := next_ok l hl a' s' 300 (by omega) (by omega) s0' s1' (by omega) (by omega)
      obtain ⟨r2, b2, t2, e2, r20, r21, b20, b21, t20, t21⟩ := next_ok l hl b1 t1 70000 (by omega) (by omega) t10 t11 (by omega) (by omega)
      obtain ⟨r3, b3, t3, e3, r30, r31, b30, b31, t30, t31⟩ := next_ok l hl b2 t2 16777216 (by omega) (by omega) t20 t21 (by omega) (by omega)
      obtain ⟨r4, b4, t4, e4, r40, r41, b40, b41, t40, t41⟩ := next_ok l hl b3 t3 9 (by omega) (by omega) t30 t31 (by omega) (by omega)
      refine ⟨_, Ev.step (f := fun _ => some (v, wrap64 (wrap64 (v - 1) - rd [r1, r2, r3, 127, 128, 32767, 32768, 2147483647, 2147483648] r4))) (fun k => ?_) (Ev.now _)⟩
      simp only [spec_DrawNumBytes.j0, Bool.false_eq_true, if_false, e1, e2, e3, e4, Option.bind_some]
      rw [if_pos r40, if_pos (by simp; omega)]
    · obtain ⟨v', b', t', e1, _⟩ := number_ok l hl a' s' (by omega) (by omega) s0' s1'
      refine ⟨v', Ev.step (fun k => rfl) ?_⟩
      simp only [spec_DrawNumBytes.j0, if_true]
      exact Ev.bind e1 (Ev.now _)
  obtain ⟨x, hx⟩ := j true
  obtain ⟨y, hy⟩ := j (decide (v < 0))
  cases c
  · refine ⟨v, y, Ev.bind e ?_, v0⟩
    simp only [e', Option.bind_some, Bool.false_eq_true, if_false]
    exact hy
  · refine ⟨v, x, Ev.bind e ?_, v0⟩
    simp only [e', Option.bind_some, if_true]
    exact hx
/-- The number comes back from its lowest bytes, to whoever got as the greatest one a number near it. -/
theorem expand_back (num g w c : Int) (hw : w = 256 ∨ w = 65536 ∨ w = 16777216 ∨ w = 4294967296) (n0 : 0 ≤ num) (n1 : num ≤ 4611686018427387903) (g0 : -1 ≤ g) (g1 : g ≤ 4611686018427387903) (d0 : num - g ≤ w / 2) (d1 : g ≤ num + w / 2 - 2) (hc : c = num % w) :
    Ev (fun k => impl_ExpandNum.j1 k g c w false) num := by
  refine Ev.step (fun k => rfl) ?_
  simp only [impl_ExpandNum.j1, Bool.false_eq_true, if_false]
  have w0 : w ≠ 0 := by omega
  simp only [if_neg w0]
  have e1 : wrap64 (g + 1) = g + 1 := w64 (by omega) (by omega)
  have m0 : 0 ≤ (g + 1) % w := Int.emod_nonneg _ w0
  have m1 : (g + 1) % w < w := Int.emod_lt_of_pos _ (by omega)
  have k0 : 0 ≤ c := hc ▸ Int.emod_nonneg _ w0
  have k1 : c < w := hc ▸ Int.emod_lt_of_pos _ (by omega)
  have q1 : w * ((g + 1) / w) + (g + 1) % w = g + 1 := Int.mul_ediv_add_emod _ _
  have q2 : w * (num / w) + c = num := by rw [hc]; exact Int.mul_ediv_add_emod _ _
  simp only [e1, tmod_nn (a := g + 1) (b := w) (by omega)]
  clear e1
  have p0 : 0 ≤ w * ((g + 1) / w) := Int.mul_nonneg (by omega) (Int.ediv_nonneg (by omega) (by omega))
  generalize (g + 1) % w = m at m0 m1 q1
  generalize (g + 1) / w = p at q1 p0
  generalize num / w = q at q2
  have e2 : wrap64 (g + 1 - m) = w * p := by rw [w64 (by omega) (by omega)]; omega
  simp only [e2]
  clear e2
  have e3 : wrap64 (w * p + c) = w * p + c := w64 (by omega) (by omega)
  have e4 : wrap64 (Int.tdiv w 2) = w / 2 := by rw [tdiv_nn (by omega)]; exact w64 (by omega) (by omega)
  simp only [e3, e4]
  clear e3 e4
  have e5 : wrap64 (g + 1 - w / 2) = g + 1 - w / 2 := w64 (by omega) (by omega)
  simp only [e5]
  clear e5
  have e6 : wrap64 (w * p + c + w) = w * p + c + w := w64 (by omega) (by omega)
  simp only [e6]
  -- where the number stands: in the same block of w as the nearest, one up or one down
  have up : w * p + c ≤ g + 1 - w / 2 → q = p + 1 := by
    intro h
    rcases hw with rfl | rfl | rfl | rfl <;> omega
  have dn : w * p + c > g + 1 + w / 2 → q = p - 1 := by
    intro h
    rcases hw with rfl | rfl | rfl | rfl <;> omega
  have mid : ¬ w * p + c ≤ g + 1 - w / 2 → ¬ w * p + c > g + 1 + w / 2 → q = p := by
    intro h h'
    rcases hw with rfl | rfl | rfl | rfl <;> omega
  by_cases c1 : w * p + c ≤ g + 1 - w / 2
  · simp only [if_pos c1]
    have e := up c1
    have en : w * p + c + w = num := by rw [e] at q2; rcases hw with rfl | rfl | rfl | rfl <;> omega
    refine Ev.step (fun k => rfl) ?_
    simp only [impl_ExpandNum.j2, e6]
    rw [en]
    simp only [n1, decide_true, if_true]
    simp only [show ¬ num > 4611686018427387903 by omega, if_false]
    exact Ev.now _
  · simp only [if_neg c1]
    have e7 : wrap64 (g + 1 + w / 2) = g + 1 + w / 2 := w64 (by clear e6; omega) (by clear e6; omega)
    clear e6
    have e8 : wrap64 (Int.tdiv w 2) = w / 2 := by rw [tdiv_nn (by omega)]; exact w64 (by clear e7; omega) (by clear e7; omega)
    refine Ev.step (fun k => rfl) ?_
    simp only [impl_ExpandNum.j2, Bool.false_eq_true, if_false, e8, e7]
    clear e7 e8
    by_cases c2 : w * p + c > g + 1 + w / 2
    · simp only [c2, if_true]
      have e := dn c2
      have en : w * p + c - w = num := by rw [e] at q2; rcases hw with rfl | rfl | rfl | rfl <;> omega
      refine Ev.step (fun k => rfl) ?_
      simp only [impl_ExpandNum.j3, show w * p + c ≥ w by omega, decide_true, if_true]
      simp only [en, w64 (x := num) (by omega) (by omega), show ¬ num > 4611686018427387903 by omega, if_false]
      exact Ev.now _
    · simp only [c2, if_false]
      have e := mid c1 c2
      have en : w * p + c = num := by rw [e] at q2; exact q2
      refine Ev.step (fun k => rfl) ?_
      simp only [impl_ExpandNum.j3, Bool.false_eq_true, if_false]
      simp only [en, show ¬ num > 4611686018427387903 by omega, if_false]
      exact Ev.now _
theorem expand_ev (num g n c : Int) (n0 : 0 ≤ num) (n1 : num ≤ 4611686018427387903) (g0 : -1 ≤ g) (g1 : g ≤ 4611686018427387903) (hn1 : 1 ≤ n) (hn4 : n ≤ 4) (d0 : num - g ≤ 256 ^ n.toNat / 2) (d1 : g ≤ num + 256 ^ n.toNat / 2 - 2) (hc : c = num % 256 ^ n.toNat) :
    Ev (fun k => impl_ExpandNum.f k g c n) num := by
  have hs := shl_pow n hn1 hn4
  have hw : (256 : Int) ^ n.toNat = 256 ∨ (256 : Int) ^ n.toNat = 65536 ∨ (256 : Int) ^ n.toNat = 16777216 ∨ (256 : Int) ^ n.toNat = 4294967296 := by
    have h : n = 1 ∨ n = 2 ∨ n = 3 ∨ n = 4 := by omega
    rcases h with rfl | rfl | rfl | rfl <;> decide
  have w0 : (256 : Int) ^ n.toNat ≠ 0 := by omega
  have k0 : 0 ≤ c := hc ▸ Int.emod_nonneg _ w0
  have k1 : c < 256 ^ n.toNat := hc ▸ Int.emod_lt_of_pos _ (by omega)
  simp only [impl_ExpandNum.f]
  simp only [show ¬ g < -1 by omega, show ¬ g > 4611686018427387903 by omega, show ¬ n < 1 by omega, if_false]
  simp only [show ¬ n > 4 by omega, decide_false]
  refine Ev.step (fun k => rfl) ?_
  simp only [impl_ExpandNum.j0, Bool.false_eq_true, if_false, hs.1, hs.2, if_true]
  simp only [show ¬ c < 0 by omega, if_false]
  simp only [show ¬ c ≥ 256 ^ n.toNat by omega, decide_false]
  exact expand_back num g _ c hw n0 n1 g0 g1 d0 d1 hc
theorem at_ok (l : List Int) (i : Int) (i0 : 0 ≤ i) (i1 : i < 8) (hlen : l.length ≤ maxLen) : ∃ r, laws_at.f l i 1000 = some r := by
  unfold laws_at.f
  rw [if_neg (by decide)]
  by_cases c : (l.length : Int) = 0
  · rw [if_pos c, if_neg (by decide)]
    exact ⟨_, rfl⟩
  · rw [if_neg c, w64 (x := i + 1) (by omega) (by omega), tmod_nn (a := i) i0, tmod_nn (a := i + 1) (by omega)]
    have a0 := Int.emod_nonneg i c
    have a1 := Int.emod_lt_of_pos i (show 0 < (l.length : Int) by omega)
    have b0 := Int.emod_nonneg (i + 1) c
    have b1 := Int.emod_lt_of_pos (i + 1) (show 0 < (l.length : Int) by omega)
    rw [if_pos a0, if_pos a1, if_pos b0, if_pos b1, if_neg (by decide)]
    exact ⟨_, rfl⟩
/-- The eight tries. -/
theorem tries_ev (more : List Int) (hlen : more.length ≤ maxLen) (num acked n : Int) (n0 : 0 ≤ num) (n1 : num ≤ 4611686018427387903) (g0 : -1 ≤ acked) (g1 : acked < num) (hn1 : 1 ≤ n) (hn4 : n ≤ 4) (d0 : num - acked ≤ 256 ^ n.toNat / 2) :
    ∀ m : Nat, m ≤ 8 → Ev (fun k => laws_FnNumbers.l1 k more num acked n (256 ^ n.toNat) (num % 256 ^ n.toNat) (8 - (m : Int))) true := by
  have hw : (256 : Int) ^ n.toNat = 256 ∨ (256 : Int) ^ n.toNat = 65536 ∨ (256 : Int) ^ n.toNat = 16777216 ∨ (256 : Int) ^ n.toNat = 4294967296 := by
    have h : n = 1 ∨ n = 2 ∨ n = 3 ∨ n = 4 := by omega
    rcases h with rfl | rfl | rfl | rfl <;> decide
  have ew : wrap64 (wrap64 (num + wrap64 (Int.tdiv (256 ^ n.toNat) 2)) - 2) = num + 256 ^ n.toNat / 2 - 2 := by
    have f1 : wrap64 (Int.tdiv (256 ^ n.toNat) 2) = 256 ^ n.toNat / 2 := by rw [tdiv_nn (by omega)]; exact w64 (by omega) (by omega)
    rw [f1]
    have f2 : wrap64 (num + 256 ^ n.toNat / 2) = num + 256 ^ n.toNat / 2 := w64 (by clear f1; omega) (by clear f1; omega)
    rw [f2]
    clear f1 f2
    exact w64 (by omega) (by omega)
  intro m
  induction m with
  | zero =>
    intro _
    refine Ev.step (f := fun _ => some true) (fun k => ?_) (Ev.now _)
    simp only [laws_FnNumbers.l1]
    rw [if_neg (by omega)]
  | succ m ih =>
    intro hm
    have nxt : wrap64 (8 - ((m + 1 : Nat) : Int) + 1) = 8 - (m : Int) := by rw [w64 (by omega) (by omega)]; omega
    have i0 : 0 ≤ 8 - ((m + 1 : Nat) : Int) := by omega
    have i1 : 8 - ((m + 1 : Nat) : Int) < 8 := by omega
    obtain ⟨r, hr⟩ := at_ok more _ i0 i1 hlen
    have IH := ih (by omega)
    rw [← nxt] at IH
    clear ih nxt
    generalize 8 - ((m + 1 : Nat) : Int) = i at i0 i1 hr IH
    have j5t : ∀ x, Ev (fun k => laws_FnNumbers.j5 k more num acked n (256 ^ n.toNat) (num % 256 ^ n.toNat) i x true) true := by
      intro x
      refine Ev.step (fun k => rfl) ?_
      simp only [laws_FnNumbers.j5, if_true]
      exact IH
    have j4 : ∀ x, Ev (fun k => laws_FnNumbers.j4 k more num acked n (256 ^ n.toNat) (num % 256 ^ n.toNat) i x) true := by
      intro x
      refine Ev.step (fun k => rfl) ?_
      simp only [laws_FnNumbers.j4, ew]
      refine Ev_ite (fun _ => j5t x) (fun c1 => ?_)
      refine Ev_ite (fun _ => j5t x) (fun c2 => ?_)
      by_cases c3 : x > 4611686018427387903
      · simp only [c3, decide_true]
        exact j5t x
      · simp only [c3, decide_false]
        refine Ev.step (fun k => rfl) ?_
        simp only [laws_FnNumbers.j5, Bool.false_eq_true, if_false]
        clear ew
        refine Ev.bind (expand_ev num x n _ n0 n1 (by omega) (by omega) hn1 hn4 (by omega) (by omega) rfl) ?_
        simp only [if_true]
        exact IH
    have j3 : ∀ x, Ev (fun k => laws_FnNumbers.j3 k more num acked n (256 ^ n.toNat) (num % 256 ^ n.toNat) i x) true := by
      intro x
      refine Ev.step (fun k => rfl) ?_
      simp only [laws_FnNumbers.j3]
      exact Ev_ite (fun _ => j4 _) (fun _ => j4 _)
    refine Ev.step (fun k => rfl) ?_
    simp only [laws_FnNumbers.l1]
    simp only [if_pos i1, hr, Option.bind_some]
    exact Ev_ite (fun _ => j3 _) (fun _ => j3 _)
theorem nbOf_dist {d : Int} (h : nbOf d ≠ 0) : 1 ≤ nbOf d ∧ nbOf d ≤ 4 ∧ d ≤ 256 ^ (nbOf d).toNat / 2 := by
  unfold nbOf at *
  by_cases a : d ≤ 128
  · rw [if_pos a]; exact ⟨by decide, by decide, by show d ≤ 256 ^ 1 / 2; omega⟩
  rw [if_neg a] at *
  by_cases b : d ≤ 32768
  · rw [if_pos b]; exact ⟨by decide, by decide, by show d ≤ 256 ^ 2 / 2; omega⟩
  rw [if_neg b] at *
  by_cases c : d ≤ 8388608
  · rw [if_pos c]; exact ⟨by decide, by decide, by show d ≤ 256 ^ 3 / 2; omega⟩
  rw [if_neg c] at *
  by_cases e : d ≤ 2147483648
  · rw [if_pos e]; exact ⟨by decide, by decide, by show d ≤ 256 ^ 4 / 2; omega⟩
  rw [if_neg e] at h
  exact absurd rfl h
/-- The power of 256, and what is behind it. -/
theorem powers_ev (more : List Int) (num acked n : Int) (hn1 : 1 ≤ n) (hn4 : n ≤ 4) (h : Ev (fun k => (impl_CutNum.f num n).bind fun t => if (256 : Int) ^ n.toNat = 0 then none else if t = Int.tmod num (256 ^ n.toNat) then laws_FnNumbers.l1 k more num acked n (256 ^ n.toNat) t 0 else some false) true) :
    Ev (fun k => laws_FnNumbers.l0 k more num acked n 1 0) true := by
  have go : ∀ j : Nat, (j : Int) ≤ n → Ev (fun k => laws_FnNumbers.l0 k more num acked n (256 ^ (n.toNat - j)) (n - j)) true := by
    intro j
    induction j with
    | zero =>
      intro _
      refine Ev.step (fun k => rfl) ?_
      simp only [laws_FnNumbers.l0]
      simp only [show ¬ n - ((0 : Nat) : Int) < n by omega, if_false, Nat.sub_zero]
      exact h
    | succ j ih =>
      intro hj
      have IH := ih (by omega)
      refine Ev.step (fun k => rfl) ?_
      simp only [laws_FnNumbers.l0]
      simp only [show n - ((j + 1 : Nat) : Int) < n by omega, if_true]
      have e1 : wrap64 ((256 : Int) ^ (n.toNat - (j + 1)) * 256) = 256 ^ (n.toNat - j) := by
        have hh : n.toNat - j = 1 ∨ n.toNat - j = 2 ∨ n.toNat - j = 3 ∨ n.toNat - j = 4 := by omega
        have : n.toNat - (j + 1) = n.toNat - j - 1 := by omega
        rw [this]
        rcases hh with q | q | q | q <;> rw [q] <;> decide +kernel
      have e2 : wrap64 (n - ((j + 1 : Nat) : Int) + 1) = n - (j : Int) := by rw [w64 (by omega) (by omega)]; omega
      rw [e1, e2]
      exact IH
  have H := go n.toNat (by omega)
  rw [Nat.sub_self, show n - (n.toNat : Int) = 0 by omega] at H
  exact H
theorem FnNumbers (l0 l1 : List Int) (q0 : l0.length ≤ maxLen ∧ ∀ x ∈ l0, (Lit.int .u8 x).wf = true) (q1 : l1.length ≤ maxLen ∧ ∀ x ∈ l1, (Lit.int .u8 x).wf = true) : ∃ k, laws_FnNumbers.f k l0 l1 = some true := by
  refine Ev.rounds (g := fun k => laws_FnNumbers.f k l0 l1) ?_
  have hl : ∀ x ∈ l0, 0 ≤ x ∧ x ≤ 255 := fun x hx => bounds_u8 (q0.2 x hx)
  obtain ⟨num, acked, hd, hi⟩ := drawNumBytes_ok l0 hl
  have j : ∀ q : Bool, Ev (fun k => laws_FnNumbers.j0 k l0 l1 q) true := by
    intro q
    refine Ev.step (fun k => rfl) ?_
    simp only [laws_FnNumbers.j0]
    refine Ev_ite (fun _ => Ev.now _) (fun _ => ?_)
    refine Ev.bind hd (Ev.bind (impl_NumBytes_ev num acked hi) (Ev.bind (spec_NumBytes_ev num acked) ?_))
    simp only [if_true]
    refine Ev_ite (fun _ => Ev.now _) (fun c => ?_)
    unfold numBytesV at c ⊢
    by_cases d : num < 0 ∨ num > 4611686018427387903 ∨ acked < -1 ∨ acked ≥ num
    · rw [if_pos d] at c
      exact absurd rfl c
    rw [if_neg d] at c ⊢
    have ed : wrap64 (num - acked) = num - acked := w64 (by omega) (by omega)
    rw [ed] at c ⊢
    clear ed
    obtain ⟨f1, f4, fd⟩ := nbOf_dist c
    generalize nbOf (num - acked) = n at c f1 f4 fd
    refine powers_ev l1 num acked n f1 f4 ?_
    have hp : (256 : Int) ^ n.toNat ≠ 0 := by have : (0 : Int) < 256 ^ n.toNat := Int.pow_pos (by decide); omega
    have hcut := iCut num n.toNat (by omega) (by omega) (by omega) (by omega)
    rw [show ((n.toNat : Nat) : Int) = n by omega] at hcut
    unfold cut at hcut
    simp only [hcut, Option.bind_some, if_neg hp, tmod_nn (a := num) (b := 256 ^ n.toNat) (by omega), if_true]
    have T := tries_ev l1 q1.1 num acked n (by omega) (by omega) (by omega) (by omega) f1 f4 fd 8 (by omega)
    simpa using T
  simp only [laws_FnNumbers.f]
  exact Ev_ite (fun _ => j _) (fun _ => j _)

end Go.Proofs.Ytdojcdhlcnlohaa.Pure
