/- For every input of its parameters' types the law FnExactProbeDelay answers true, and its arguments read as they did. No condition. -/
import Derived.Test.YtjnmcdajolbjfaaRows
import Derived.Test.YtjnmcdajolbjfaaPFnExactProbeDelayx3
import Derived.Test.YtjnmcdajolbjfaaPureFnExactProbeDelay
import Derived.Test.YtjnmcdajolbjfaaOpen
import Derived.WalkKit
import Derived.ProofKit
import Derived.OpenShut
import Derived.ShutString
import Derived.ChangeOld
import Derived.Below
import Derived.SizedLaws
namespace Go.Proofs.Ytjnmcdajolbjfaa.fnExactProbeDelay
open Go.ChangeShapes Go.WideShapes Go.ChangeAt Go.RowKit Go.Proofs.Ytjnmcdajolbjfaa.Open
open Go.ChangeMaps (open_string shut_string)
set_option linter.unusedVariables false
theorem own : ownKnob Try.prog.godebug = none := by kernel_rfl
theorem laidOut : laidOutB Try.prog = true := by kernel_rfl
set_option maxRecDepth 100000 in
theorem lifted (os : Os) (started : os.Started) (H : Type) (enc : TypeId × Value → H) :
    ReturnsInHanded {} Try.checked os 13 .any (Rows.fnExactProbeDelaySpec.pre6 enc Try.prog Try.f13 Rows.fnExactProbeDelayRow.domain false) (Rows.fnExactProbeDelaySpec.post enc Try.prog Try.f13 false true false false) := by
  refine returnsInHanded_of_change_sized (C := Try.checked) own started (by kernel_rfl) Try.func13
    (ChangeSpec.witness6 (enc := enc) (C := Try.checked) false ⟨#[], #[.agg #[.int .i64 0, .int .i64 0, .int .i64 0, .int .i64 0], .int .i64 0, .int .i64 0], []⟩ 8 (by kernel_rfl) (by kernel_rfl) (by kernel_rfl) (by kernel_rfl)) ?_
  intro W base args ds gs before hval0 hW hcnd hsz0 _
  have hval : ∀ (j : Nat) t v, Try.f13.params[j]? = some t → args[j]? = some v → Value.okWide Try.prog W .any base t v := hval0
  have hW' := hW
  obtain ⟨p, q, hA0, hV, rfl, hfz, hnd⟩ := hW
  have hA : DataW.TrodAll enc Try.prog W 0 (fun _ => true) true Try.f13.params.toList args.toList ds p := hA0
  rw [Try.params13] at hA hval
  obtain ⟨v0, vs0, d0, ds0, p0, q0, hargs, rfl, rfl, h0, r0⟩ := trodAll_cons hA
  obtain ⟨v1, vs1, d1, ds1, p1, q1, rfl, rfl, rfl, h1, r1⟩ := trodAll_cons r0
  obtain ⟨v2, vs2, d2, ds2, p2, q2, rfl, rfl, rfl, h2, r2⟩ := trodAll_cons r1
  obtain ⟨rfl, rfl, rfl⟩ := trodAll_nil r2
  obtain rfl : args = #[v0, v1, v2] := by cases args; simp_all
  obtain ⟨rfl, rfl⟩ := trodVars_none hV
  have k0 := h0
  have lt0 : ∀ x ∈ p0, x.block < W.heap.size := by obtain ⟨m, hm⟩ := k0; exact DataW.trod_lt m _ _ _ hm
  obtain ⟨cs0, rfl, hl0, hf0⟩ := open_fields Try.underlying34 (by kernel_rfl) (by kernel_rfl) (hval 0 34 v0 rfl rfl) h0
  obtain ⟨x0_0, x0_1, x0_2, x0_3, rfl⟩ := list4 hl0
  obtain ⟨_, m0_0, y0_0, e0_0, t0_0⟩ := hf0 0 _ rfl
  obtain rfl : x0_0 = _ := by simpa using e0_0
  obtain ⟨a0_0, rfl, w0_0⟩ := int_cell ((opens_int Try.underlying3) _ _ _ t0_0)
  obtain ⟨_, m0_1, y0_1, e0_1, t0_1⟩ := hf0 1 _ rfl
  obtain rfl : x0_1 = _ := by simpa using e0_1
  obtain ⟨a0_1, rfl, w0_1⟩ := int_cell ((opens_int Try.underlying3) _ _ _ t0_1)
  obtain ⟨_, m0_2, y0_2, e0_2, t0_2⟩ := hf0 2 _ rfl
  obtain rfl : x0_2 = _ := by simpa using e0_2
  obtain ⟨a0_2, rfl, w0_2⟩ := int_cell ((opens_int Try.underlying3) _ _ _ t0_2)
  obtain ⟨_, m0_3, y0_3, e0_3, t0_3⟩ := hf0 3 _ rfl
  obtain rfl : x0_3 = _ := by simpa using e0_3
  obtain ⟨a0_3, rfl, w0_3⟩ := int_cell ((opens_int Try.underlying3) _ _ _ t0_3)
  obtain ⟨a1, rfl, rfl, rfl, w1⟩ := open_int Try.underlying3 (hval 1 3 v1 rfl rfl) h1
  obtain ⟨a2, rfl, rfl, rfl, w2⟩ := open_int Try.underlying3 (hval 2 3 v2 rfl rfl) h2
  clear hA0 hval0 hsz0
  obtain ⟨k, h⟩ := Pure.FnExactProbeDelay a0_0 a0_1 a0_2 a0_3 a1 a2 w0_0 w0_1 w0_2 w0_3 w1 w2
  refine (PFnExactProbeDelay.laws_FnExactProbeDelay.calls (k := k) (r := true) (w := W)  (h := h)).mono fun e W' ⟨he, bel⟩ => ?_
  subst he
  exact ⟨_, rfl, _, _, _, [], _, [], hW', trodAll_mk1 (shut_bool Try.underlying4 _), (trodAll_cons_mk (Below.trod laidOut (by kernel_rfl) (of_decide_eq_true (by kernel_rfl)) k0 bel lt0) (trodAll_cons_mk (shut_int Try.underlying3 w1) (trodAll_cons_mk (shut_int Try.underlying3 w2) trodAll_mk0))), rfl, bel.frame _, fun h => by cases h⟩
theorem over : Rows.fnExactProbeDelayRow.holds Try.pinned (OpenSpec.ofChange Rows.fnExactProbeDelaySpec) :=
  OpenClaim.holds_of_wide 13 Try.f13 rfl rfl rfl rfl rfl rfl rfl ⟨rfl, rfl, rfl, rfl, rfl⟩ rfl rfl rfl rfl rfl (by kernel_rfl) Try.func13 (by kernel_rfl)
    (of_decide_eq_true (by kernel_rfl)) (by unfold Func.isWrapper; first | (rw [if_pos (by decide +kernel)]; kernel_rfl) | (rw [if_neg (by decide +kernel)]; exact ⟨rfl, rfl⟩))
    (fun os started H enc _ => lifted os started H enc)
theorem proved : Rows.FnExactProbeDelaySaid := over
#print axioms proved
end Go.Proofs.Ytjnmcdajolbjfaa.fnExactProbeDelay
namespace Go.Proofs.Ytjnmcdajolbjfaa
/-- The row, under a short name, for the claim. -/
theorem fnExactProbeDelay_holds : Rows.FnExactProbeDelaySaid := fnExactProbeDelay.proved
end Go.Proofs.Ytjnmcdajolbjfaa
