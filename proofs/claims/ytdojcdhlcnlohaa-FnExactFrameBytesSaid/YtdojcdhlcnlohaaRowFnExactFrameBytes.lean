/- For every input of its parameters' types the law FnExactFrameBytes answers true, and its arguments read as they did. No condition. -/
import Derived.Test.YtdojcdhlcnlohaaRows
import Derived.Test.YtdojcdhlcnlohaaSFnExactFrameBytesx15
import Derived.Test.YtdojcdhlcnlohaaPureFnExactFrameBytes
import Derived.Test.YtdojcdhlcnlohaaBOpen
import Derived.WalkKit
import Derived.ProofKit
import Derived.OpenShut
import Derived.ShutString
import Derived.ChangeOld
import Derived.Below
import Derived.SizedLaws
namespace Go.Proofs.Ytdojcdhlcnlohaa.fnExactFrameBytes
open Go.ChangeShapes Go.WideShapes Go.ChangeAt Go.RowKit Go.Proofs.Ytdojcdhlcnlohaa.Open
open Go.ChangeMaps (open_string shut_string)
set_option linter.unusedVariables false
theorem own : ownKnob Try.prog.godebug = none := by kernel_rfl
theorem laidOut : laidOutB Try.prog = true := by kernel_rfl
set_option maxRecDepth 100000 in
theorem lifted (os : Os) (started : os.Started) (H : Type) (enc : TypeId × Value → H) :
    ReturnsInHanded {} Try.checked os 10 .any (Rows.fnExactFrameBytesSpec.pre6 enc Try.prog Try.f10 Rows.fnExactFrameBytesRow.domain false) (Rows.fnExactFrameBytesSpec.post enc Try.prog Try.f10 false true false false) := by
  refine returnsInHanded_of_change_sized (C := Try.checked) own started (by kernel_rfl) Try.func10
    (ChangeSpec.witness6 (enc := enc) (C := Try.checked) false ⟨#[], #[.agg #[.int .i64 0, .int .i64 0, .int .i64 0, .int .i64 0, .bool false, .slice none 0 0, .slice none 0 0, .slice none 0 0]], []⟩ 8 (by kernel_rfl) (by kernel_rfl) (by kernel_rfl) (by kernel_rfl)) ?_
  intro W base args ds gs before hval0 hW hcnd hsz0 _
  have hval : ∀ (j : Nat) t v, Try.f10.params[j]? = some t → args[j]? = some v → Value.okWide Try.prog W .any base t v := hval0
  have hW' := hW
  obtain ⟨p, q, hA0, hV, rfl, hfz, hnd⟩ := hW
  have hA : DataW.TrodAll enc Try.prog W 0 (fun _ => true) true Try.f10.params.toList args.toList ds p := hA0
  rw [Try.params10] at hA hval
  obtain ⟨v0, vs0, d0, ds0, p0, q0, hargs, rfl, rfl, h0, r0⟩ := trodAll_cons hA
  obtain ⟨rfl, rfl, rfl⟩ := trodAll_nil r0
  obtain rfl : args = #[v0] := by cases args; simp_all
  obtain ⟨rfl, rfl⟩ := trodVars_none hV
  have k0 := h0
  have lt0 : ∀ x ∈ p0, x.block < W.heap.size := by obtain ⟨m, hm⟩ := k0; exact DataW.trod_lt m _ _ _ hm
  obtain ⟨cs0, rfl, hl0, hf0⟩ := open_fields Try.underlying50 (by kernel_rfl) (by kernel_rfl) (hval 0 50 v0 rfl rfl) h0
  obtain ⟨x0_0, x0_1, x0_2, x0_3, x0_4, x0_5, x0_6, x0_7, rfl⟩ := list8 hl0
  obtain ⟨_, m0_0, y0_0, e0_0, t0_0⟩ := hf0 0 _ rfl
  obtain rfl : x0_0 = _ := by simpa using e0_0
  obtain ⟨a0_0, rfl, w0_0⟩ := int_cell ((opens_int Try.underlying3) _ _ _ t0_0)
  obtain ⟨_, m0_1, y0_1, e0_1, t0_1⟩ := hf0 1 _ rfl
  obtain rfl : x0_1 = _ := by simpa using e0_1
  obtain ⟨a0_1, rfl, w0_1⟩ := int_cell ((opens_int Try.underlying3) _ _ _ t0_1)
  obtain ⟨_, m0_2, y0_2, e0_2, t0_2⟩ := hf0 2 _ rfl
  obtain rfl : x0_2 = _ := by simpa using e0_2
  obtain ⟨a0_2, rfl, w0_2⟩ := int_cell ((opens_int Try.underlying3) _ _ _ t0_2)
  obtain ⟨_, m0_3, y0_3, e0_3, t0_3⟩ := hf0 3 _ rfl
  obtain rfl : x0_3 = _ := by simpa using e0_3
  obtain ⟨a0_3, rfl, w0_3⟩ := int_cell ((opens_int Try.underlying3) _ _ _ t0_3)
  obtain ⟨_, m0_4, y0_4, e0_4, t0_4⟩ := hf0 4 _ rfl
  obtain rfl : x0_4 = _ := by simpa using e0_4
  obtain ⟨a0_4, rfl, _⟩ := bool_cell ((opens_bool Try.underlying4) _ _ _ t0_4)
  obtain ⟨_, m0_5, y0_5, e0_5, t0_5⟩ := hf0 5 _ rfl
  obtain rfl : x0_5 = _ := by simpa using e0_5
  obtain ⟨A0_5, c0_5, l0_5, rfl, hc0_5, hr0_5, w0_5⟩ := slice_cell ((opens_slice (q := 5) (0 : Int) Try.underlying22 (by kernel_rfl) (opens_int Try.underlying5)) _ _ _ t0_5)
  obtain ⟨_, m0_6, y0_6, e0_6, t0_6⟩ := hf0 6 _ rfl
  obtain rfl : x0_6 = _ := by simpa using e0_6
  obtain ⟨A0_6, c0_6, l0_6, rfl, hc0_6, hr0_6, w0_6⟩ := slice_cell ((opens_slice (q := 5) (0 : Int) Try.underlying22 (by kernel_rfl) (opens_int Try.underlying5)) _ _ _ t0_6)
  obtain ⟨_, m0_7, y0_7, e0_7, t0_7⟩ := hf0 7 _ rfl
  obtain rfl : x0_7 = _ := by simpa using e0_7
  obtain ⟨A0_7, c0_7, l0_7, rfl, hc0_7, hr0_7, w0_7⟩ := slice_cell ((opens_slice (q := 107) SFnExactFrameBytes.z107 Try.underlying48 (by kernel_rfl) (opens_pair (d := SFnExactFrameBytes.k107) (Q := fun x => (Lit.int .i64 x.f0).wf = true ∧ (Lit.int .i64 x.f1).wf = true) (fun a b => ⟨a, b⟩) Try.underlying107 (by kernel_rfl) (by kernel_rfl) Try.underlying3 Try.underlying3 (fun a b => SFnExactFrameBytes.k107_mk _ ⟨a, b⟩) (fun _ _ ha hb => ⟨ha, hb⟩))) _ _ _ t0_7)
  clear hA0 hval0 hsz0
  obtain ⟨k, h⟩ := Pure.FnExactFrameBytes a0_0 a0_1 a0_2 a0_3 a0_4 l0_5 l0_6 l0_7 w0_0 w0_1 w0_2 w0_3 w0_5 w0_6 w0_7
  refine (SFnExactFrameBytes.laws_FnExactFrameBytes.calls (k := k) (w := W) (hr0_5 := hr0_5) (hc0_5 := hc0_5) (hr0_6 := hr0_6) (hc0_6 := hc0_6) (hr0_7 := hr0_7) (hc0_7 := hc0_7) (h := h)).mono fun e W' ⟨he, bel⟩ => ?_
  subst he
  exact ⟨_, rfl, _, _, _, [], _, [], hW', trodAll_mk1 (shut_bool Try.underlying4 _), (trodAll_cons_mk (Below.trod laidOut (by kernel_rfl) (of_decide_eq_true (by kernel_rfl)) k0 bel lt0) trodAll_mk0), rfl, bel.frame _, fun h => by cases h⟩
theorem over : Rows.fnExactFrameBytesRow.holds Try.pinned (OpenSpec.ofChange Rows.fnExactFrameBytesSpec) :=
  OpenClaim.holds_of_wide 10 Try.f10 rfl rfl rfl rfl rfl rfl rfl ⟨rfl, rfl, rfl, rfl, rfl⟩ rfl rfl rfl rfl rfl (by kernel_rfl) Try.func10 (by kernel_rfl)
    (of_decide_eq_true (by kernel_rfl)) (by unfold Func.isWrapper; first | (rw [if_pos (by decide +kernel)]; kernel_rfl) | (rw [if_neg (by decide +kernel)]; exact ⟨rfl, rfl⟩))
    (fun os started H enc _ => lifted os started H enc)
theorem proved : Rows.FnExactFrameBytesSaid := over
#print axioms proved
end Go.Proofs.Ytdojcdhlcnlohaa.fnExactFrameBytes
namespace Go.Proofs.Ytdojcdhlcnlohaa
/-- The row, under a short name, for the claim. -/
theorem fnExactFrameBytes_holds : Rows.FnExactFrameBytesSaid := fnExactFrameBytes.proved
end Go.Proofs.Ytdojcdhlcnlohaa
