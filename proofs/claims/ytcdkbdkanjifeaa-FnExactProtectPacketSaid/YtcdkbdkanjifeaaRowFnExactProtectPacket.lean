/- For every input of its parameters' types the law FnExactProtectPacket answers true, and its arguments read as they did. No condition. -/
import Derived.Test.YtcdkbdkanjifeaaRows
import Derived.Test.YtcdkbdkanjifeaaSFnExactProtectPacketx19
import Derived.Test.YtcdkbdkanjifeaaPureFnExactProtectPacket
import Derived.Test.YtcdkbdkanjifeaaBOpen
import Derived.WalkKit
import Derived.ProofKit
import Derived.OpenShut
import Derived.ShutString
import Derived.ChangeOld
import Derived.Below
import Derived.SizedLaws
namespace Go.Proofs.Ytcdkbdkanjifeaa.fnExactProtectPacket
open Go.ChangeShapes Go.WideShapes Go.ChangeAt Go.RowKit Go.Proofs.Ytcdkbdkanjifeaa.Open
open Go.ChangeMaps (open_string shut_string)
set_option linter.unusedVariables false
theorem own : ownKnob Try.prog.godebug = none := by kernel_rfl
theorem laidOut : laidOutB Try.prog = true := by kernel_rfl
set_option maxRecDepth 100000 in
theorem lifted (os : Os) (started : os.Started) (H : Type) (enc : TypeId × Value → H) :
    ReturnsInHanded {} Try.checked os 13 .any (Rows.fnExactProtectPacketSpec.pre6 enc Try.prog Try.f13 Rows.fnExactProtectPacketRow.domain false) (Rows.fnExactProtectPacketSpec.post enc Try.prog Try.f13 false true false false) := by
  refine returnsInHanded_of_change_sized (C := Try.checked) own started (by kernel_rfl) Try.func13
    (ChangeSpec.witness6 (enc := enc) (C := Try.checked) false ⟨#[], #[.agg #[.slice none 0 0, .slice none 0 0, .slice none 0 0, .slice none 0 0], .agg #[.int .i64 0, .int .i64 0, .slice none 0 0, .slice none 0 0, .slice none 0 0, .int .i64 0, .int .i64 0, .int .i64 0], .slice none 0 0], []⟩ 8 (by kernel_rfl) (by kernel_rfl) (by kernel_rfl) (by kernel_rfl)) ?_
  intro W base args ds gs before hval0 hW hcnd hsz0 _
  have hval : ∀ (j : Nat) t v, Try.f13.params[j]? = some t → args[j]? = some v → Value.okWide Try.prog W .any base t v := hval0
  have hW' := hW
  obtain ⟨p, q, hA0, hV, rfl, hfz, hnd⟩ := hW
  have hA : DataW.TrodAll enc Try.prog W 0 (fun _ => true) true Try.f13.params.toList args.toList ds p := hA0
  rw [Try.params13] at hA hval
  obtain ⟨v0, vs0, d0, ds0, p0, q0, hargs, rfl, rfl, h0, r0⟩ := trodAll_cons hA
  obtain ⟨v1, vs1, d1, ds1, p1, q1, rfl, rfl, rfl, h1, r1⟩ := trodAll_cons r0
  obtain ⟨v2, vs2, d2, ds2, p2, q2, rfl, rfl, rfl, h2, r2⟩ := trodAll_cons r1
  obtain ⟨rfl, rfl, rfl⟩ := trodAll_nil r2
  obtain rfl : args = #[v0, v1, v2] := by cases args; simp_all
  obtain ⟨rfl, rfl⟩ := trodVars_none hV
  have k0 := h0
  have lt0 : ∀ x ∈ p0, x.block < W.heap.size := by obtain ⟨m, hm⟩ := k0; exact DataW.trod_lt m _ _ _ hm
  obtain ⟨cs0, rfl, hl0, hf0⟩ := open_fields Try.underlying30 (by kernel_rfl) (by kernel_rfl) (hval 0 30 v0 rfl rfl) h0
  obtain ⟨x0_0, x0_1, x0_2, x0_3, rfl⟩ := list4 hl0
  obtain ⟨_, m0_0, y0_0, e0_0, t0_0⟩ := hf0 0 _ rfl
  obtain rfl : x0_0 = _ := by simpa using e0_0
  obtain ⟨A0_0, c0_0, l0_0, rfl, hc0_0, hr0_0, w0_0⟩ := slice_cell ((opens_slice (q := 5) (0 : Int) Try.underlying22 (by kernel_rfl) (opens_int Try.underlying5)) _ _ _ t0_0)
  obtain ⟨_, m0_1, y0_1, e0_1, t0_1⟩ := hf0 1 _ rfl
  obtain rfl : x0_1 = _ := by simpa using e0_1
  obtain ⟨A0_1, c0_1, l0_1, rfl, hc0_1, hr0_1, w0_1⟩ := slice_cell ((opens_slice (q := 5) (0 : Int) Try.underlying22 (by kernel_rfl) (opens_int Try.underlying5)) _ _ _ t0_1)
  obtain ⟨_, m0_2, y0_2, e0_2, t0_2⟩ := hf0 2 _ rfl
  obtain rfl : x0_2 = _ := by simpa using e0_2
  obtain ⟨A0_2, c0_2, l0_2, rfl, hc0_2, hr0_2, w0_2⟩ := slice_cell ((opens_slice (q := 5) (0 : Int) Try.underlying22 (by kernel_rfl) (opens_int Try.underlying5)) _ _ _ t0_2)
  obtain ⟨_, m0_3, y0_3, e0_3, t0_3⟩ := hf0 3 _ rfl
  obtain rfl : x0_3 = _ := by simpa using e0_3
  obtain ⟨A0_3, c0_3, l0_3, rfl, hc0_3, hr0_3, w0_3⟩ := slice_cell ((opens_slice (q := 5) (0 : Int) Try.underlying22 (by kernel_rfl) (opens_int Try.underlying5)) _ _ _ t0_3)
  have k1 := h1
  have lt1 : ∀ x ∈ p1, x.block < W.heap.size := by obtain ⟨m, hm⟩ := k1; exact DataW.trod_lt m _ _ _ hm
  obtain ⟨cs1, rfl, hl1, hf1⟩ := open_fields Try.underlying41 (by kernel_rfl) (by kernel_rfl) (hval 1 41 v1 rfl rfl) h1
  obtain ⟨x1_0, x1_1, x1_2, x1_3, x1_4, x1_5, x1_6, x1_7, rfl⟩ := list8 hl1
  obtain ⟨_, m1_0, y1_0, e1_0, t1_0⟩ := hf1 0 _ rfl
  obtain rfl : x1_0 = _ := by simpa using e1_0
  obtain ⟨a1_0, rfl, w1_0⟩ := int_cell ((opens_int Try.underlying3) _ _ _ t1_0)
  obtain ⟨_, m1_1, y1_1, e1_1, t1_1⟩ := hf1 1 _ rfl
  obtain rfl : x1_1 = _ := by simpa using e1_1
  obtain ⟨a1_1, rfl, w1_1⟩ := int_cell ((opens_int Try.underlying3) _ _ _ t1_1)
  obtain ⟨_, m1_2, y1_2, e1_2, t1_2⟩ := hf1 2 _ rfl
  obtain rfl : x1_2 = _ := by simpa using e1_2
  obtain ⟨A1_2, c1_2, l1_2, rfl, hc1_2, hr1_2, w1_2⟩ := slice_cell ((opens_slice (q := 5) (0 : Int) Try.underlying22 (by kernel_rfl) (opens_int Try.underlying5)) _ _ _ t1_2)
  obtain ⟨_, m1_3, y1_3, e1_3, t1_3⟩ := hf1 3 _ rfl
  obtain rfl : x1_3 = _ := by simpa using e1_3
  obtain ⟨A1_3, c1_3, l1_3, rfl, hc1_3, hr1_3, w1_3⟩ := slice_cell ((opens_slice (q := 5) (0 : Int) Try.underlying22 (by kernel_rfl) (opens_int Try.underlying5)) _ _ _ t1_3)
  obtain ⟨_, m1_4, y1_4, e1_4, t1_4⟩ := hf1 4 _ rfl
  obtain rfl : x1_4 = _ := by simpa using e1_4
  obtain ⟨A1_4, c1_4, l1_4, rfl, hc1_4, hr1_4, w1_4⟩ := slice_cell ((opens_slice (q := 5) (0 : Int) Try.underlying22 (by kernel_rfl) (opens_int Try.underlying5)) _ _ _ t1_4)
  obtain ⟨_, m1_5, y1_5, e1_5, t1_5⟩ := hf1 5 _ rfl
  obtain rfl : x1_5 = _ := by simpa using e1_5
  obtain ⟨a1_5, rfl, w1_5⟩ := int_cell ((opens_int Try.underlying3) _ _ _ t1_5)
  obtain ⟨_, m1_6, y1_6, e1_6, t1_6⟩ := hf1 6 _ rfl
  obtain rfl : x1_6 = _ := by simpa using e1_6
  obtain ⟨a1_6, rfl, w1_6⟩ := int_cell ((opens_int Try.underlying3) _ _ _ t1_6)
  obtain ⟨_, m1_7, y1_7, e1_7, t1_7⟩ := hf1 7 _ rfl
  obtain rfl : x1_7 = _ := by simpa using e1_7
  obtain ⟨a1_7, rfl, w1_7⟩ := int_cell ((opens_int Try.underlying3) _ _ _ t1_7)
  have k2 := h2
  have lt2 : ∀ x ∈ p2, x.block < W.heap.size := by obtain ⟨m, hm⟩ := k2; exact DataW.trod_lt m _ _ _ hm
  obtain ⟨A2, c2, l2, rfl, hc2, hr2, w2⟩ := slice_arg Try.underlying22 (hval 2 22 v2 rfl rfl) h2 (opens_slice (q := 5) (0 : Int) Try.underlying22 (by kernel_rfl) (opens_int Try.underlying5))
  clear hA0 hval0 hsz0
  obtain ⟨k, h⟩ := Pure.FnExactProtectPacket l0_0 l0_1 l0_2 l0_3 a1_0 a1_1 l1_2 l1_3 l1_4 a1_5 a1_6 a1_7 l2 w0_0 w0_1 w0_2 w0_3 w1_0 w1_1 w1_2 w1_3 w1_4 w1_5 w1_6 w1_7 w2
  refine (SFnExactProtectPacket.laws_FnExactProtectPacket.calls (k := k) (w := W) (hr0_0 := hr0_0) (hc0_0 := hc0_0) (hr0_1 := hr0_1) (hc0_1 := hc0_1) (hr0_2 := hr0_2) (hc0_2 := hc0_2) (hr0_3 := hr0_3) (hc0_3 := hc0_3) (hr1_2 := hr1_2) (hc1_2 := hc1_2) (hr1_3 := hr1_3) (hc1_3 := hc1_3) (hr1_4 := hr1_4) (hc1_4 := hc1_4) (hr2 := hr2) (hc2 := hc2) (h := h)).mono fun e W' ⟨he, bel⟩ => ?_
  subst he
  exact ⟨_, rfl, _, _, _, [], _, [], hW', trodAll_mk1 (shut_bool Try.underlying4 _), (trodAll_cons_mk (Below.trod laidOut (by kernel_rfl) (of_decide_eq_true (by kernel_rfl)) k0 bel lt0) (trodAll_cons_mk (Below.trod laidOut (by kernel_rfl) (of_decide_eq_true (by kernel_rfl)) k1 bel lt1) (trodAll_cons_mk (Below.trod laidOut (by kernel_rfl) (of_decide_eq_true (by kernel_rfl)) k2 bel lt2) trodAll_mk0))), rfl, bel.frame _, fun h => by cases h⟩
theorem over : Rows.fnExactProtectPacketRow.holds Try.pinned (OpenSpec.ofChange Rows.fnExactProtectPacketSpec) :=
  OpenClaim.holds_of_wide 13 Try.f13 rfl rfl rfl rfl rfl rfl rfl ⟨rfl, rfl, rfl, rfl, rfl⟩ rfl rfl rfl rfl rfl (by kernel_rfl) Try.func13 (by kernel_rfl)
    (of_decide_eq_true (by kernel_rfl)) (by unfold Func.isWrapper; first | (rw [if_pos (by decide +kernel)]; kernel_rfl) | (rw [if_neg (by decide +kernel)]; exact ⟨rfl, rfl⟩))
    (fun os started H enc _ => lifted os started H enc)
theorem proved : Rows.FnExactProtectPacketSaid := over
#print axioms proved
end Go.Proofs.Ytcdkbdkanjifeaa.fnExactProtectPacket
namespace Go.Proofs.Ytcdkbdkanjifeaa
/-- The row, under a short name, for the claim. -/
theorem fnExactProtectPacket_holds : Rows.FnExactProtectPacketSaid := fnExactProtectPacket.proved
end Go.Proofs.Ytcdkbdkanjifeaa
