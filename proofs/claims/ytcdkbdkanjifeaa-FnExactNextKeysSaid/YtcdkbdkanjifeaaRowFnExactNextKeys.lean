/- For every input of its parameters' types the law FnExactNextKeys answers true, and its arguments read as they did. No condition. -/
import Derived.Test.YtcdkbdkanjifeaaRows
import Derived.Test.YtcdkbdkanjifeaaSFnExactNextKeysx6
import Derived.Test.YtcdkbdkanjifeaaPureFnExactNextKeys
import Derived.Test.YtcdkbdkanjifeaaUOpen
import Derived.WalkKit
import Derived.ProofKit
import Derived.OpenShut
import Derived.ShutString
import Derived.ChangeOld
import Derived.Below
import Derived.SizedLaws
namespace Go.Proofs.Ytcdkbdkanjifeaa.fnExactNextKeys
open Go.ChangeShapes Go.WideShapes Go.ChangeAt Go.RowKit Go.Proofs.Ytcdkbdkanjifeaa.Open
open Go.ChangeMaps (open_string shut_string)
set_option linter.unusedVariables false
theorem own : ownKnob Try.prog.godebug = none := by kernel_rfl
theorem laidOut : laidOutB Try.prog = true := by kernel_rfl
set_option maxRecDepth 100000 in
theorem lifted (os : Os) (started : os.Started) (H : Type) (enc : TypeId × Value → H) :
    ReturnsInHanded {} Try.checked os 10 .any (Rows.fnExactNextKeysSpec.pre6 enc Try.prog Try.f10 Rows.fnExactNextKeysRow.domain false) (Rows.fnExactNextKeysSpec.post enc Try.prog Try.f10 false true false false) := by
  refine returnsInHanded_of_change_sized (C := Try.checked) own started (by kernel_rfl) Try.func10
    (ChangeSpec.witness6 (enc := enc) (C := Try.checked) false ⟨#[], #[.agg #[.slice none 0 0, .slice none 0 0, .slice none 0 0, .slice none 0 0]], []⟩ 8 (by kernel_rfl) (by kernel_rfl) (by kernel_rfl) (by kernel_rfl)) ?_
  intro W base args ds gs before hval0 hW hcnd hsz0 _
  have hval : ∀ (j : Nat) t v, Try.f10.params[j]? = some t → args[j]? = some v → Value.okWide Try.prog W .any base t v := hval0
  have hW' := hW
  obtain ⟨p, q, hA0, hV, rfl, hfz, hnd⟩ := hW
  have hA : DataW.TrodAll enc Try.prog W 0 (fun _ => true) true Try.f10.params.toList args.toList ds p := hA0
  rw [Try.params10] at hA hval
  obtain ⟨v0, vs0, d0, ds0, p0, q0, hargs, rfl, rfl, h0, r0⟩ := trodAll_cons hA
  obtain ⟨rfl, rfl, rfl⟩ := trodAll_nil r0
  obtain rfl : args = #[v0] := by cases args; simp_all
  obtain ⟨rfl, rfl⟩ := trodVars_none hV
  have k0 := h0
  have lt0 : ∀ x ∈ p0, x.block < W.heap.size := by obtain ⟨m, hm⟩ := k0; exact DataW.trod_lt m _ _ _ hm
  obtain ⟨cs0, rfl, hl0, hf0⟩ := open_fields Try.underlying30 (by kernel_rfl) (by kernel_rfl) (hval 0 30 v0 rfl rfl) h0
  obtain ⟨x0_0, x0_1, x0_2, x0_3, rfl⟩ := list4 hl0
  obtain ⟨_, m0_0, y0_0, e0_0, t0_0⟩ := hf0 0 _ rfl
  obtain rfl : x0_0 = _ := by simpa using e0_0
  obtain ⟨A0_0, c0_0, l0_0, rfl, hc0_0, hr0_0, w0_0⟩ := slice_cell ((opens_slice (q := 5) (0 : Int) Try.underlying22 (by kernel_rfl) (opens_int Try.underlying5)) _ _ _ t0_0)
  obtain ⟨_, m0_1, y0_1, e0_1, t0_1⟩ := hf0 1 _ rfl
  obtain rfl : x0_1 = _ := by simpa using e0_1
  obtain ⟨A0_1, c0_1, l0_1, rfl, hc0_1, hr0_1, w0_1⟩ := slice_cell ((opens_slice (q := 5) (0 : Int) Try.underlying22 (by kernel_rfl) (opens_int Try.underlying5)) _ _ _ t0_1)
  obtain ⟨_, m0_2, y0_2, e0_2, t0_2⟩ := hf0 2 _ rfl
  obtain rfl : x0_2 = _ := by simpa using e0_2
  obtain ⟨A0_2, c0_2, l0_2, rfl, hc0_2, hr0_2, w0_2⟩ := slice_cell ((opens_slice (q := 5) (0 : Int) Try.underlying22 (by kernel_rfl) (opens_int Try.underlying5)) _ _ _ t0_2)
  obtain ⟨_, m0_3, y0_3, e0_3, t0_3⟩ := hf0 3 _ rfl
  obtain rfl : x0_3 = _ := by simpa using e0_3
  obtain ⟨A0_3, c0_3, l0_3, rfl, hc0_3, hr0_3, w0_3⟩ := slice_cell ((opens_slice (q := 5) (0 : Int) Try.underlying22 (by kernel_rfl) (opens_int Try.underlying5)) _ _ _ t0_3)
  clear hA0 hval0 hsz0
  obtain ⟨k, h⟩ := Pure.FnExactNextKeys l0_0 l0_1 l0_2 l0_3 w0_0 w0_1 w0_2 w0_3
  refine (SFnExactNextKeys.laws_FnExactNextKeys.calls (k := k) (w := W) (hr0_0 := hr0_0) (hc0_0 := hc0_0) (hr0_1 := hr0_1) (hc0_1 := hc0_1) (hr0_2 := hr0_2) (hc0_2 := hc0_2) (hr0_3 := hr0_3) (hc0_3 := hc0_3) (h := h)).mono fun e W' ⟨he, bel⟩ => ?_
  subst he
  exact ⟨_, rfl, _, _, _, [], _, [], hW', trodAll_mk1 (shut_bool Try.underlying4 _), (trodAll_cons_mk (Below.trod laidOut (by kernel_rfl) (of_decide_eq_true (by kernel_rfl)) k0 bel lt0) trodAll_mk0), rfl, bel.frame _, fun h => by cases h⟩
theorem over : Rows.fnExactNextKeysRow.holds Try.pinned (OpenSpec.ofChange Rows.fnExactNextKeysSpec) :=
  OpenClaim.holds_of_wide 10 Try.f10 rfl rfl rfl rfl rfl rfl rfl ⟨rfl, rfl, rfl, rfl, rfl⟩ rfl rfl rfl rfl rfl (by kernel_rfl) Try.func10 (by kernel_rfl)
    (of_decide_eq_true (by kernel_rfl)) (by unfold Func.isWrapper; first | (rw [if_pos (by decide +kernel)]; kernel_rfl) | (rw [if_neg (by decide +kernel)]; exact ⟨rfl, rfl⟩))
    (fun os started H enc _ => lifted os started H enc)
theorem proved : Rows.FnExactNextKeysSaid := over
#print axioms proved
end Go.Proofs.Ytcdkbdkanjifeaa.fnExactNextKeys
namespace Go.Proofs.Ytcdkbdkanjifeaa
/-- The row, under a short name, for the claim. -/
theorem fnExactNextKeys_holds : Rows.FnExactNextKeysSaid := fnExactNextKeys.proved
end Go.Proofs.Ytcdkbdkanjifeaa
