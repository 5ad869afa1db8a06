/- For every input of its parameters' types the law FnExactOpenSealed answers true, and its arguments read as they did. No condition. -/
import Derived.Test.YtcdkbdkanjifeaaRows
import Derived.Test.YtcdkbdkanjifeaaSFnExactOpenSealedx9
import Derived.Test.YtcdkbdkanjifeaaPureFnExactOpenSealed
import Derived.Test.YtcdkbdkanjifeaaVOpen
import Derived.WalkKit
import Derived.ProofKit
import Derived.OpenShut
import Derived.ShutString
import Derived.ChangeOld
import Derived.Below
import Derived.SizedLaws
namespace Go.Proofs.Ytcdkbdkanjifeaa.fnExactOpenSealed
open Go.ChangeShapes Go.WideShapes Go.ChangeAt Go.RowKit Go.Proofs.Ytcdkbdkanjifeaa.Open
open Go.ChangeMaps (open_string shut_string)
set_option linter.unusedVariables false
theorem own : ownKnob Try.prog.godebug = none := by kernel_rfl
theorem laidOut : laidOutB Try.prog = true := by kernel_rfl
set_option maxRecDepth 100000 in
theorem lifted (os : Os) (started : os.Started) (H : Type) (enc : TypeId × Value → H) :
    ReturnsInHanded {} Try.checked os 11 .any (Rows.fnExactOpenSealedSpec.pre6 enc Try.prog Try.f11 Rows.fnExactOpenSealedRow.domain false) (Rows.fnExactOpenSealedSpec.post enc Try.prog Try.f11 false true false false) := by
  refine returnsInHanded_of_change_sized (C := Try.checked) own started (by kernel_rfl) Try.func11
    (ChangeSpec.witness6 (enc := enc) (C := Try.checked) false ⟨#[], #[.agg #[.slice none 0 0, .slice none 0 0, .slice none 0 0, .slice none 0 0], .int .i64 0, .slice none 0 0, .slice none 0 0], []⟩ 8 (by kernel_rfl) (by kernel_rfl) (by kernel_rfl) (by kernel_rfl)) ?_
  intro W base args ds gs before hval0 hW hcnd hsz0 _
  have hval : ∀ (j : Nat) t v, Try.f11.params[j]? = some t → args[j]? = some v → Value.okWide Try.prog W .any base t v := hval0
  have hW' := hW
  obtain ⟨p, q, hA0, hV, rfl, hfz, hnd⟩ := hW
  have hA : DataW.TrodAll enc Try.prog W 0 (fun _ => true) true Try.f11.params.toList args.toList ds p := hA0
  rw [Try.params11] at hA hval
  obtain ⟨v0, vs0, d0, ds0, p0, q0, hargs, rfl, rfl, h0, r0⟩ := trodAll_cons hA
  obtain ⟨v1, vs1, d1, ds1, p1, q1, rfl, rfl, rfl, h1, r1⟩ := trodAll_cons r0
  obtain ⟨v2, vs2, d2, ds2, p2, q2, rfl, rfl, rfl, h2, r2⟩ := trodAll_cons r1
  obtain ⟨v3, vs3, d3, ds3, p3, q3, rfl, rfl, rfl, h3, r3⟩ := trodAll_cons r2
  obtain ⟨rfl, rfl, rfl⟩ := trodAll_nil r3
  obtain rfl : args = #[v0, v1, v2, v3] := by cases args; simp_all
  obtain ⟨rfl, rfl⟩ := trodVars_none hV
  have k0 := h0
  have lt0 : ∀ x ∈ p0, x.block < W.heap.size := by obtain ⟨m, hm⟩ := k0; exact DataW.trod_lt m _ _ _ hm
  obtain ⟨cs0, rfl, hl0, hf0⟩ := open_fields Try.underlying30 (by kernel_rfl) (by kernel_rfl) (hval 0 30 v0 rfl rfl) h0
  obtain ⟨x0_0, x0_1, x0_2, x0_3, rfl⟩ := list4 hl0
  obtain ⟨_, m0_0, y0_0, e0_0, t0_0⟩ := hf0 0 _ rfl
  obtain rfl : x0_0 = _ := by simpa using e0_0
  obtain ⟨A0_0, c0_0, l0_0, rfl, hc0_0, hr0_0, w0_0⟩ := slice_cell ((opens_slice (q := 5) (0 : Int) Try.underlying22 (by kernel_rfl) (opens_int Try.underlying5)) _ _ _ t0_0)
  obtain ⟨_, m0_1, y0_1, e0_1, t0_1⟩ := hf0 1 _ rfl
  obtain rfl : x0_1 = _ := by simpa using e0_1
  obtain ⟨A0_1, c0_1, l0_1, rfl, hc0_1, hr0_1, w0_1⟩ := slice_cell ((opens_slice (q := 5) (0 : Int) Try.underlying22 (by kernel_rfl) (opens_int Try.underlying5)) _ _ _ t0_1)
  obtain ⟨_, m0_2, y0_2, e0_2, t0_2⟩ := hf0 2 _ rfl
  obtain rfl : x0_2 = _ := by simpa using e0_2
  obtain ⟨A0_2, c0_2, l0_2, rfl, hc0_2, hr0_2, w0_2⟩ := slice_cell ((opens_slice (q := 5) (0 : Int) Try.underlying22 (by kernel_rfl) (opens_int Try.underlying5)) _ _ _ t0_2)
  obtain ⟨_, m0_3, y0_3, e0_3, t0_3⟩ := hf0 3 _ rfl
  obtain rfl : x0_3 = _ := by simpa using e0_3
  obtain ⟨A0_3, c0_3, l0_3, rfl, hc0_3, hr0_3, w0_3⟩ := slice_cell ((opens_slice (q := 5) (0 : Int) Try.underlying22 (by kernel_rfl) (opens_int Try.underlying5)) _ _ _ t0_3)
  obtain ⟨a1, rfl, rfl, rfl, w1⟩ := open_int Try.underlying3 (hval 1 3 v1 rfl rfl) h1
  have k2 := h2
  have lt2 : ∀ x ∈ p2, x.block < W.heap.size := by obtain ⟨m, hm⟩ := k2; exact DataW.trod_lt m _ _ _ hm
  obtain ⟨A2, c2, l2, rfl, hc2, hr2, w2⟩ := slice_arg Try.underlying22 (hval 2 22 v2 rfl rfl) h2 (opens_slice (q := 5) (0 : Int) Try.underlying22 (by kernel_rfl) (opens_int Try.underlying5))
  have k3 := h3
  have lt3 : ∀ x ∈ p3, x.block < W.heap.size := by obtain ⟨m, hm⟩ := k3; exact DataW.trod_lt m _ _ _ hm
  obtain ⟨A3, c3, l3, rfl, hc3, hr3, w3⟩ := slice_arg Try.underlying22 (hval 3 22 v3 rfl rfl) h3 (opens_slice (q := 5) (0 : Int) Try.underlying22 (by kernel_rfl) (opens_int Try.underlying5))
  clear hA0 hval0 hsz0
  obtain ⟨k, h⟩ := Pure.FnExactOpenSealed l0_0 l0_1 l0_2 l0_3 a1 l2 l3 w0_0 w0_1 w0_2 w0_3 w1 w2 w3
  refine (SFnExactOpenSealed.laws_FnExactOpenSealed.calls (k := k) (w := W) (hr0_0 := hr0_0) (hc0_0 := hc0_0) (hr0_1 := hr0_1) (hc0_1 := hc0_1) (hr0_2 := hr0_2) (hc0_2 := hc0_2) (hr0_3 := hr0_3) (hc0_3 := hc0_3) (hr2 := hr2) (hc2 := hc2) (hr3 := hr3) (hc3 := hc3) (h := h)).mono fun e W' ⟨he, bel⟩ => ?_
  subst he
  exact ⟨_, rfl, _, _, _, [], _, [], hW', trodAll_mk1 (shut_bool Try.underlying4 _), (trodAll_cons_mk (Below.trod laidOut (by kernel_rfl) (of_decide_eq_true (by kernel_rfl)) k0 bel lt0) (trodAll_cons_mk (shut_int Try.underlying3 w1) (trodAll_cons_mk (Below.trod laidOut (by kernel_rfl) (of_decide_eq_true (by kernel_rfl)) k2 bel lt2) (trodAll_cons_mk (Below.trod laidOut (by kernel_rfl) (of_decide_eq_true (by kernel_rfl)) k3 bel lt3) trodAll_mk0)))), rfl, bel.frame _, fun h => by cases h⟩
theorem over : Rows.fnExactOpenSealedRow.holds Try.pinned (OpenSpec.ofChange Rows.fnExactOpenSealedSpec) :=
  OpenClaim.holds_of_wide 11 Try.f11 rfl rfl rfl rfl rfl rfl rfl ⟨rfl, rfl, rfl, rfl, rfl⟩ rfl rfl rfl rfl rfl (by kernel_rfl) Try.func11 (by kernel_rfl)
    (of_decide_eq_true (by kernel_rfl)) (by unfold Func.isWrapper; first | (rw [if_pos (by decide +kernel)]; kernel_rfl) | (rw [if_neg (by decide +kernel)]; exact ⟨rfl, rfl⟩))
    (fun os started H enc _ => lifted os started H enc)
theorem proved : Rows.FnExactOpenSealedSaid := over
#print axioms proved
end Go.Proofs.Ytcdkbdkanjifeaa.fnExactOpenSealed
namespace Go.Proofs.Ytcdkbdkanjifeaa
/-- The row, under a short name, for the claim. -/
theorem fnExactOpenSealed_holds : Rows.FnExactOpenSealedSaid := fnExactOpenSealed.proved
end Go.Proofs.Ytcdkbdkanjifeaa
