/- The walk of functions that the law FnExactHeadBytes uses, written by program. -/
import Derived.Test.YtdojcdhlcnlohaaSFnExactHeadBytesx0
import Derived.Test.YtdojcdhlcnlohaaSFnExactHeadBytesx1
import Derived.Test.YtdojcdhlcnlohaaSFnExactHeadBytesx4
import Derived.Test.YtdojcdhlcnlohaaSFnExactHeadBytesx5
import Derived.Test.YtdojcdhlcnlohaaSFnExactHeadBytesx8
import Derived.Test.YtdojcdhlcnlohaaSFnExactHeadBytesx9
namespace Go.Proofs.Ytdojcdhlcnlohaa.SFnExactHeadBytes
open Go.RowKit Go.Proofs.YtdojcdhlcnlohaaW.PrintWords Go.Proofs.YtdojcdhlcnlohaaW.PrintLast Go.Proofs.YtdojcdhlcnlohaaW.PrintMore
attribute [local go_sem] max2_int min2_int max_two min_two max_three min_three max_four min_four   -- for this text's walks alone
set_option linter.unusedVariables false
set_option linter.unusedSimpArgs false

/-! ### laws_FnExactHeadBytes: function 6 -/
mutual
def laws_FnExactHeadBytes.j0 : Nat → Int → List Int → Int → List Int → Int → Bool → Int → Int → List Int → List Int → List Int → Int → Int → Int → Int → Int → List Int → List Int → List Int → Int → Int → Int → Option (Bool)
 | 0, _, _, _, _, _, _, _, _, _, _, _, _, _, _, _, _, _, _, _, _, _, _ => none
 | k + 1, x1, x6, x7, x9, x10, x44, x323000, x323001, x323002, x323003, x323004, x323005, x323006, x323007, x357000, x357001, x357002, x357003, x357004, x357005, x357006, x357007 => if x44 = true then (some false) else ((laws_toHeader.f k x323000 x323001 x323002 x323003 x323004 x323005 x323006 x323007).bind fun bt362 => ((laws_eqHeader.f k x357000 x357001 x357002 x357003 x357004 x357005 x357006 x357007 bt362.1 bt362.2.1 bt362.2.2.1 bt362.2.2.2.1 bt362.2.2.2.2.1 bt362.2.2.2.2.2.1 bt362.2.2.2.2.2.2.1 bt362.2.2.2.2.2.2.2).bind fun t376 => (if t376 = true then ((laws_markHeader.f k x357000 x357001 x357002 x357003 x357004 x357005 x357006 x357007 1).bind fun bt377 => (if bt377.1 < 0 then (laws_FnExactHeadBytes.j1 k x1 x6 x7 x9 true x323000 x323001 x323002 x323003 x323004 x323005 x323006 x323007) else ((laws_eqByteS.f k x9 x6).bind fun t381 => (if t381 = true then (laws_FnExactHeadBytes.j1 k x1 x6 x7 x9 (x10 != x7) x323000 x323001 x323002 x323003 x323004 x323005 x323006 x323007) else (laws_FnExactHeadBytes.j1 k x1 x6 x7 x9 true x323000 x323001 x323002 x323003 x323004 x323005 x323006 x323007))))) else (some false))))
def laws_FnExactHeadBytes.j1 : Nat → Int → List Int → Int → List Int → Bool → Int → Int → List Int → List Int → List Int → Int → Int → Int → Option (Bool)
 | 0, _, _, _, _, _, _, _, _, _, _, _, _, _ => none
 | k + 1, x1, x6, x7, x9, x65, x323000, x323001, x323002, x323003, x323004, x323005, x323006, x323007 => if x65 = true then (some false) else ((laws_markByteS.f k x9 1).bind fun bt382 => ((laws_heldByteS.f k bt382.2 1).bind fun t384 => (if t384 < 0 then (some false) else (if t384 = bt382.1 then ((laws_toHeader.f k x323000 x323001 x323002 x323003 x323004 x323005 x323006 x323007).bind fun bt385 => ((impl_HeadBytes.f k bt385.1 bt385.2.1 bt385.2.2.1 bt385.2.2.2.1 bt385.2.2.2.2.1 bt385.2.2.2.2.2.1 bt385.2.2.2.2.2.2.1 bt385.2.2.2.2.2.2.2 x1).bind fun bt399 => ((laws_eqByteS.f k bt399.1 x6).bind fun t403 => (if t403 = true then (laws_FnExactHeadBytes.j2 k bt382.2 bt382.1 (bt399.2 != x7)) else (laws_FnExactHeadBytes.j2 k bt382.2 bt382.1 true))))) else (some false)))))
def laws_FnExactHeadBytes.j2 : Nat → List Int → Int → Bool → Option (Bool)
 | 0, _, _, _ => none
 | k + 1, x9, x12, x92 => if x92 = true then (some false) else ((laws_heldByteS.f k x9 1).bind fun t404 => (if t404 < 0 then (some false) else (if t404 = x12 then (some true) else (some false))))
end
def laws_FnExactHeadBytes.f (k : Nat) (a0_0 : Int) (a0_1 : Int) (l0_2 : List Int) (l0_3 : List Int) (l0_4 : List Int) (a0_5 : Int) (a0_6 : Int) (a0_7 : Int) (a1 : Int) : Option (Bool) := (laws_szHeader.f a0_0 a0_1 l0_2 l0_3 l0_4 a0_5 a0_6 a0_7 1048576).bind fun t323 => (if t323 < 0 then (some true) else ((laws_toHeader.f k a0_0 a0_1 l0_2 l0_3 l0_4 a0_5 a0_6 a0_7).bind fun bt324 => ((spec_HeadBytes.f k bt324.1 bt324.2.1 bt324.2.2.1 bt324.2.2.2.1 bt324.2.2.2.2.1 bt324.2.2.2.2.2.1 bt324.2.2.2.2.2.2.1 bt324.2.2.2.2.2.2.2 a1).bind fun bt338 => ((laws_toHeader.f k a0_0 a0_1 l0_2 l0_3 l0_4 a0_5 a0_6 a0_7).bind fun bt342 => ((impl_HeadBytes.f k bt342.1 bt342.2.1 bt342.2.2.1 bt342.2.2.2.1 bt342.2.2.2.2.1 bt342.2.2.2.2.2.1 bt342.2.2.2.2.2.2.1 bt342.2.2.2.2.2.2.2 a1).bind fun bt357 => ((laws_eqByteS.f k bt357.1 bt338.1).bind fun t361 => (if t361 = true then (laws_FnExactHeadBytes.j0 k a1 bt338.1 bt338.2 bt357.1 bt357.2 (bt357.2 != bt338.2) a0_0 a0_1 l0_2 l0_3 l0_4 a0_5 a0_6 a0_7 bt342.1 bt342.2.1 bt342.2.2.1 bt342.2.2.2.1 bt342.2.2.2.2.1 bt342.2.2.2.2.2.1 bt342.2.2.2.2.2.2.1 bt342.2.2.2.2.2.2.2) else (laws_FnExactHeadBytes.j0 k a1 bt338.1 bt338.2 bt357.1 bt357.2 true a0_0 a0_1 l0_2 l0_3 l0_4 a0_5 a0_6 a0_7 bt342.1 bt342.2.1 bt342.2.2.1 bt342.2.2.2.1 bt342.2.2.2.2.1 bt342.2.2.2.2.2.1 bt342.2.2.2.2.2.2.1 bt342.2.2.2.2.2.2.2))))))))
theorem laws_FnExactHeadBytes.mono_l : ∀ k, (∀ y0 y1 y2 y3 y4 y5 y6 y7 y8 y9 y10 y11 y12 y13 y14 y15 y16 y17 y18 y19 y20 y21, LeO (laws_FnExactHeadBytes.j0 k y0 y1 y2 y3 y4 y5 y6 y7 y8 y9 y10 y11 y12 y13 y14 y15 y16 y17 y18 y19 y20 y21) (laws_FnExactHeadBytes.j0 (k + 1) y0 y1 y2 y3 y4 y5 y6 y7 y8 y9 y10 y11 y12 y13 y14 y15 y16 y17 y18 y19 y20 y21)) ∧ (∀ y0 y1 y2 y3 y4 y5 y6 y7 y8 y9 y10 y11 y12, LeO (laws_FnExactHeadBytes.j1 k y0 y1 y2 y3 y4 y5 y6 y7 y8 y9 y10 y11 y12) (laws_FnExactHeadBytes.j1 (k + 1) y0 y1 y2 y3 y4 y5 y6 y7 y8 y9 y10 y11 y12)) ∧ (∀ y0 y1 y2, LeO (laws_FnExactHeadBytes.j2 k y0 y1 y2) (laws_FnExactHeadBytes.j2 (k + 1) y0 y1 y2))
 | 0 => ⟨fun _ _ _ _ _ _ _ _ _ _ _ _ _ _ _ _ _ _ _ _ _ _ r h => by simp [laws_FnExactHeadBytes.j0] at h, fun _ _ _ _ _ _ _ _ _ _ _ _ _ r h => by simp [laws_FnExactHeadBytes.j1] at h, fun _ _ _ r h => by simp [laws_FnExactHeadBytes.j2] at h⟩
 | k + 1 => by
  obtain ⟨ih0, ih1, ih2⟩ := laws_FnExactHeadBytes.mono_l k
  refine ⟨?_, ?_, ?_⟩
  ·intro y0 y1 y2 y3 y4 y5 y6 y7 y8 y9 y10 y11 y12 y13 y14 y15 y16 y17 y18 y19 y20 y21
   unfold laws_FnExactHeadBytes.j0
   repeat' first
   | (with_reducible exact ih0 _ _ _ _ _ _ _ _ _ _ _ _ _ _ _ _ _ _ _ _ _ _)
   | (with_reducible exact ih1 _ _ _ _ _ _ _ _ _ _ _ _ _)
   | (with_reducible exact ih2 _ _ _)
   | (with_reducible exact impl_HeadBytes.mono _ _ _ _ _ _ _ _ _ _)
   | (with_reducible exact laws_eqByteS.mono _ _ _)
   | (with_reducible exact laws_eqHeader.mono _ _ _ _ _ _ _ _ _ _ _ _ _ _ _ _ _)
   | (with_reducible exact laws_heldByteS.mono _ _ _)
   | (with_reducible exact laws_markByteS.mono _ _ _)
   | (with_reducible exact laws_markHeader.mono _ _ _ _ _ _ _ _ _ _)
   | (with_reducible exact laws_toHeader.mono _ _ _ _ _ _ _ _ _)
   | (with_reducible exact spec_HeadBytes.mono _ _ _ _ _ _ _ _ _ _)
   | (with_reducible exact LeO.refl _)
   | (with_reducible exact LeO.none _)
   | (with_reducible refine LeO.ite ?_ ?_)
   | (with_reducible refine LeO.bind ?_ (fun _ => ?_))
   | exact ih0 _ _ _ _ _ _ _ _ _ _ _ _ _ _ _ _ _ _ _ _ _ _
   | exact ih1 _ _ _ _ _ _ _ _ _ _ _ _ _
   | exact ih2 _ _ _
   | exact impl_HeadBytes.mono _ _ _ _ _ _ _ _ _ _
   | exact laws_eqByteS.mono _ _ _
   | exact laws_eqHeader.mono _ _ _ _ _ _ _ _ _ _ _ _ _ _ _ _ _
   | exact laws_heldByteS.mono _ _ _
   | exact laws_markByteS.mono _ _ _
   | exact laws_markHeader.mono _ _ _ _ _ _ _ _ _ _
   | exact laws_toHeader.mono _ _ _ _ _ _ _ _ _
   | exact spec_HeadBytes.mono _ _ _ _ _ _ _ _ _ _
   | exact LeO.none _
   | refine LeO.ite ?_ ?_
   | refine LeO.bind ?_ (fun _ => ?_)
  ·intro y0 y1 y2 y3 y4 y5 y6 y7 y8 y9 y10 y11 y12
   unfold laws_FnExactHeadBytes.j1
   repeat' first
   | (with_reducible exact ih0 _ _ _ _ _ _ _ _ _ _ _ _ _ _ _ _ _ _ _ _ _ _)
   | (with_reducible exact ih1 _ _ _ _ _ _ _ _ _ _ _ _ _)
   | (with_reducible exact ih2 _ _ _)
   | (with_reducible exact impl_HeadBytes.mono _ _ _ _ _ _ _ _ _ _)
   | (with_reducible exact laws_eqByteS.mono _ _ _)
   | (with_reducible exact laws_eqHeader.mono _ _ _ _ _ _ _ _ _ _ _ _ _ _ _ _ _)
   | (with_reducible exact laws_heldByteS.mono _ _ _)
   | (with_reducible exact laws_markByteS.mono _ _ _)
   | (with_reducible exact laws_markHeader.mono _ _ _ _ _ _ _ _ _ _)
   | (with_reducible exact laws_toHeader.mono _ _ _ _ _ _ _ _ _)
   | (with_reducible exact spec_HeadBytes.mono _ _ _ _ _ _ _ _ _ _)
   | (with_reducible exact LeO.refl _)
   | (with_reducible exact LeO.none _)
   | (with_reducible refine LeO.ite ?_ ?_)
   | (with_reducible refine LeO.bind ?_ (fun _ => ?_))
   | exact ih0 _ _ _ _ _ _ _ _ _ _ _ _ _ _ _ _ _ _ _ _ _ _
   | exact ih1 _ _ _ _ _ _ _ _ _ _ _ _ _
   | exact ih2 _ _ _
   | exact impl_HeadBytes.mono _ _ _ _ _ _ _ _ _ _
   | exact laws_eqByteS.mono _ _ _
   | exact laws_eqHeader.mono _ _ _ _ _ _ _ _ _ _ _ _ _ _ _ _ _
   | exact laws_heldByteS.mono _ _ _
   | exact laws_markByteS.mono _ _ _
   | exact laws_markHeader.mono _ _ _ _ _ _ _ _ _ _
   | exact laws_toHeader.mono _ _ _ _ _ _ _ _ _
   | exact spec_HeadBytes.mono _ _ _ _ _ _ _ _ _ _
   | exact LeO.none _
   | refine LeO.ite ?_ ?_
   | refine LeO.bind ?_ (fun _ => ?_)
  ·intro y0 y1 y2
   unfold laws_FnExactHeadBytes.j2
   repeat' first
   | (with_reducible exact ih0 _ _ _ _ _ _ _ _ _ _ _ _ _ _ _ _ _ _ _ _ _ _)
   | (with_reducible exact ih1 _ _ _ _ _ _ _ _ _ _ _ _ _)
   | (with_reducible exact ih2 _ _ _)
   | (with_reducible exact impl_HeadBytes.mono _ _ _ _ _ _ _ _ _ _)
   | (with_reducible exact laws_eqByteS.mono _ _ _)
   | (with_reducible exact laws_eqHeader.mono _ _ _ _ _ _ _ _ _ _ _ _ _ _ _ _ _)
   | (with_reducible exact laws_heldByteS.mono _ _ _)
   | (with_reducible exact laws_markByteS.mono _ _ _)
   | (with_reducible exact laws_markHeader.mono _ _ _ _ _ _ _ _ _ _)
   | (with_reducible exact laws_toHeader.mono _ _ _ _ _ _ _ _ _)
   | (with_reducible exact spec_HeadBytes.mono _ _ _ _ _ _ _ _ _ _)
   | (with_reducible exact LeO.refl _)
   | (with_reducible exact LeO.none _)
   | (with_reducible refine LeO.ite ?_ ?_)
   | (with_reducible refine LeO.bind ?_ (fun _ => ?_))
   | exact ih0 _ _ _ _ _ _ _ _ _ _ _ _ _ _ _ _ _ _ _ _ _ _
   | exact ih1 _ _ _ _ _ _ _ _ _ _ _ _ _
   | exact ih2 _ _ _
   | exact impl_HeadBytes.mono _ _ _ _ _ _ _ _ _ _
   | exact laws_eqByteS.mono _ _ _
   | exact laws_eqHeader.mono _ _ _ _ _ _ _ _ _ _ _ _ _ _ _ _ _
   | exact laws_heldByteS.mono _ _ _
   | exact laws_markByteS.mono _ _ _
   | exact laws_markHeader.mono _ _ _ _ _ _ _ _ _ _
   | exact laws_toHeader.mono _ _ _ _ _ _ _ _ _
   | exact spec_HeadBytes.mono _ _ _ _ _ _ _ _ _ _
   | exact LeO.none _
   | refine LeO.ite ?_ ?_
   | refine LeO.bind ?_ (fun _ => ?_)
theorem laws_FnExactHeadBytes.mono : ∀ a0 a1 a2 a3 a4 a5 a6 a7 a8 k, LeO (laws_FnExactHeadBytes.f k a0 a1 a2 a3 a4 a5 a6 a7 a8) (laws_FnExactHeadBytes.f (k + 1) a0 a1 a2 a3 a4 a5 a6 a7 a8) := by
 intro a0 a1 a2 a3 a4 a5 a6 a7 a8 k
 obtain ⟨ih0, ih1, ih2⟩ := laws_FnExactHeadBytes.mono_l k
 unfold laws_FnExactHeadBytes.f
 repeat' first
   | (with_reducible exact ih0 _ _ _ _ _ _ _ _ _ _ _ _ _ _ _ _ _ _ _ _ _ _)
   | (with_reducible exact ih1 _ _ _ _ _ _ _ _ _ _ _ _ _)
   | (with_reducible exact ih2 _ _ _)
   | (with_reducible exact impl_HeadBytes.mono _ _ _ _ _ _ _ _ _ _)
   | (with_reducible exact laws_eqByteS.mono _ _ _)
   | (with_reducible exact laws_eqHeader.mono _ _ _ _ _ _ _ _ _ _ _ _ _ _ _ _ _)
   | (with_reducible exact laws_heldByteS.mono _ _ _)
   | (with_reducible exact laws_markByteS.mono _ _ _)
   | (with_reducible exact laws_markHeader.mono _ _ _ _ _ _ _ _ _ _)
   | (with_reducible exact laws_toHeader.mono _ _ _ _ _ _ _ _ _)
   | (with_reducible exact spec_HeadBytes.mono _ _ _ _ _ _ _ _ _ _)
   | (with_reducible exact LeO.refl _)
   | (with_reducible exact LeO.none _)
   | (with_reducible refine LeO.ite ?_ ?_)
   | (with_reducible refine LeO.bind ?_ (fun _ => ?_))
   | exact ih0 _ _ _ _ _ _ _ _ _ _ _ _ _ _ _ _ _ _ _ _ _ _
   | exact ih1 _ _ _ _ _ _ _ _ _ _ _ _ _
   | exact ih2 _ _ _
   | exact impl_HeadBytes.mono _ _ _ _ _ _ _ _ _ _
   | exact laws_eqByteS.mono _ _ _
   | exact laws_eqHeader.mono _ _ _ _ _ _ _ _ _ _ _ _ _ _ _ _ _
   | exact laws_heldByteS.mono _ _ _
   | exact laws_markByteS.mono _ _ _
   | exact laws_markHeader.mono _ _ _ _ _ _ _ _ _ _
   | exact laws_toHeader.mono _ _ _ _ _ _ _ _ _
   | exact spec_HeadBytes.mono _ _ _ _ _ _ _ _ _ _
   | exact LeO.none _
   | refine LeO.ite ?_ ?_
   | refine LeO.bind ?_ (fun _ => ?_)
set_option maxHeartbeats 8000000 in
set_option maxRecDepth 100000 in
theorem laws_FnExactHeadBytes.calls (k : Nat) (a0_0 : Int) (a0_1 : Int) (A0_2 : Option Addr) (c0_2 : Nat) (l0_2 : List Int) (A0_3 : Option Addr) (c0_3 : Nat) (l0_3 : List Int) (A0_4 : Option Addr) (c0_4 : Nat) (l0_4 : List Int) (a0_5 : Int) (a0_6 : Int) (a0_7 : Int) (a1 : Int) (w : World) (hr0_2 : Kd.C (Kd.int .u8) w A0_2 l0_2.length l0_2) (hc0_2 : l0_2.length ≤ c0_2) (hr0_3 : Kd.C (Kd.int .u8) w A0_3 l0_3.length l0_3) (hc0_3 : l0_3.length ≤ c0_3) (hr0_4 : Kd.C (Kd.int .u8) w A0_4 l0_4.length l0_4) (hc0_4 : l0_4.length ≤ c0_4) (h : laws_FnExactHeadBytes.f k a0_0 a0_1 l0_2 l0_3 l0_4 a0_5 a0_6 a0_7 a1 = some true) :
  Calls Try.prog 6 #[.agg #[.int .i64 a0_0, .int .i64 a0_1, .slice A0_2 l0_2.length c0_2, .slice A0_3 l0_3.length c0_3, .slice A0_4 l0_4.length c0_4, .int .i64 a0_5, .int .i64 a0_6, .int .i64 a0_7], .int .i64 a1] w fun e w' => e = .returned (.bool true) ∧ Below w.heap.size w w' := by
 have hu39 := Try.underlying39
 have hu42 := Try.underlying42
 have HR0_2 := Aside0.mk hr0_2
 have HC0_2 := Aside0.mk hc0_2
 clear hr0_2 hc0_2
 have HR0_3 := Aside0.mk hr0_3
 have HC0_3 := Aside0.mk hc0_3
 clear hr0_3 hc0_3
 have HR0_4 := Aside0.mk hr0_4
 have HC0_4 := Aside0.mk hc0_4
 clear hr0_4 hc0_4
 have HB := Aside0.mk (Below.refl w.heap.size w)
 have H : ((laws_szHeader.f a0_0 a0_1 l0_2 l0_3 l0_4 a0_5 a0_6 a0_7 1048576).bind fun t323 => (if t323 < 0 then (some true) else ((laws_toHeader.f k a0_0 a0_1 l0_2 l0_3 l0_4 a0_5 a0_6 a0_7).bind fun bt324 => ((spec_HeadBytes.f k bt324.1 bt324.2.1 bt324.2.2.1 bt324.2.2.2.1 bt324.2.2.2.2.1 bt324.2.2.2.2.2.1 bt324.2.2.2.2.2.2.1 bt324.2.2.2.2.2.2.2 a1).bind fun bt338 => ((laws_toHeader.f k a0_0 a0_1 l0_2 l0_3 l0_4 a0_5 a0_6 a0_7).bind fun bt342 => ((impl_HeadBytes.f k bt342.1 bt342.2.1 bt342.2.2.1 bt342.2.2.2.1 bt342.2.2.2.2.1 bt342.2.2.2.2.2.1 bt342.2.2.2.2.2.2.1 bt342.2.2.2.2.2.2.2 a1).bind fun bt357 => ((laws_eqByteS.f k bt357.1 bt338.1).bind fun t361 => (if t361 = true then (laws_FnExactHeadBytes.j0 k a1 bt338.1 bt338.2 bt357.1 bt357.2 (bt357.2 != bt338.2) a0_0 a0_1 l0_2 l0_3 l0_4 a0_5 a0_6 a0_7 bt342.1 bt342.2.1 bt342.2.2.1 bt342.2.2.2.1 bt342.2.2.2.2.1 bt342.2.2.2.2.2.1 bt342.2.2.2.2.2.2.1 bt342.2.2.2.2.2.2.2) else (laws_FnExactHeadBytes.j0 k a1 bt338.1 bt338.2 bt357.1 bt357.2 true a0_0 a0_1 l0_2 l0_3 l0_4 a0_5 a0_6 a0_7 bt342.1 bt342.2.1 bt342.2.2.1 bt342.2.2.2.1 bt342.2.2.2.2.1 bt342.2.2.2.2.2.1 bt342.2.2.2.2.2.2.1 bt342.2.2.2.2.2.2.2))))))))) = some true := h
 clear h
 replace H := Option.bind_eq_some_iff.mp H
 obtain ⟨t323, A30, H⟩ := H
 replace H : (if t323 < 0 then (some true) else ((laws_toHeader.f k a0_0 a0_1 l0_2 l0_3 l0_4 a0_5 a0_6 a0_7).bind fun bt324 => ((spec_HeadBytes.f k bt324.1 bt324.2.1 bt324.2.2.1 bt324.2.2.2.1 bt324.2.2.2.2.1 bt324.2.2.2.2.2.1 bt324.2.2.2.2.2.2.1 bt324.2.2.2.2.2.2.2 a1).bind fun bt338 => ((laws_toHeader.f k a0_0 a0_1 l0_2 l0_3 l0_4 a0_5 a0_6 a0_7).bind fun bt342 => ((impl_HeadBytes.f k bt342.1 bt342.2.1 bt342.2.2.1 bt342.2.2.2.1 bt342.2.2.2.2.1 bt342.2.2.2.2.2.1 bt342.2.2.2.2.2.2.1 bt342.2.2.2.2.2.2.2 a1).bind fun bt357 => ((laws_eqByteS.f k bt357.1 bt338.1).bind fun t361 => (if t361 = true then (laws_FnExactHeadBytes.j0 k a1 bt338.1 bt338.2 bt357.1 bt357.2 (bt357.2 != bt338.2) a0_0 a0_1 l0_2 l0_3 l0_4 a0_5 a0_6 a0_7 bt342.1 bt342.2.1 bt342.2.2.1 bt342.2.2.2.1 bt342.2.2.2.2.1 bt342.2.2.2.2.2.1 bt342.2.2.2.2.2.2.1 bt342.2.2.2.2.2.2.2) else (laws_FnExactHeadBytes.j0 k a1 bt338.1 bt338.2 bt357.1 bt357.2 true a0_0 a0_1 l0_2 l0_3 l0_4 a0_5 a0_6 a0_7 bt342.1 bt342.2.1 bt342.2.2.1 bt342.2.2.2.1 bt342.2.2.2.2.1 bt342.2.2.2.2.2.1 bt342.2.2.2.2.2.2.1 bt342.2.2.2.2.2.2.2)))))))) = some true := H
 have A3 := Aside0.mk A30
 clear A30
 by_cases c4 : t323 < 0
 ·rw [if_pos c4] at H
  have c4b0 : decide (t323 < 0) = true := decide_eq_true c4
  clear c4
  clear H
  go_enter Try.func6, Try.ntmps6
  go_wp2_with (first | ((with_reducible refine gate_dst (N := 2) rfl ?_); refine box_event ?hg (N := 2) ?hd (cs := #[.int .i64 a0_0, .int .i64 a0_1, .slice A0_2 l0_2.length c0_2, .slice A0_3 l0_3.length c0_3, .slice A0_4 l0_4.length c0_4, .int .i64 a0_5, .int .i64 a0_6, .int .i64 a0_7]) (t := 39) ?hr ?_; (case hd => rfl); (case hg => rfl); (case hr => first | (go_simp; done) | (go_simp; rfl)); intro gb322 hg w5 hbox hb; have n0_ := Aside0.mk (below_step (by repeat (first | (with_reducible first | exact HB.out | apply below_alloc | apply pw_below_drewN | apply below_drew1) | exact HB.out)) hb); have n1_ := Aside0.mk (hbox); have n2_ := Aside0.mk ((by rw [hg]; exact (below_size (by repeat (first | (with_reducible first | exact HB.out | apply below_alloc | apply pw_below_drewN | apply below_drew1) | exact HB.out))) : w.heap.size ≤ gb322)); have n3_ := Aside0.mk ((by rw [hg]; exact (below_size (by repeat (first | (with_reducible first | exact HB.out | apply below_alloc | apply pw_below_drewN | apply below_drew1) | exact HB.out))) : w.heap.size ≤ gb322)); clear HB; have HB := n0_; have BK322 := n1_; have GW322 := n2_; have GE322 := n3_; clear n0_ n1_ n2_ n3_; clear hb hbox hg; have hcz6_0 : w5.cell? ⟨gb322, 0, none⟩ = some (.int .i64 a0_0) := (blk_cell BK322.out 0).trans rfl; have hcz6_1 : w5.cell? ⟨gb322, 1, none⟩ = some (.int .i64 a0_1) := (blk_cell BK322.out 1).trans rfl; have hcz6_2 : w5.cell? ⟨gb322, 2, none⟩ = some (.slice A0_2 l0_2.length c0_2) := (blk_cell BK322.out 2).trans rfl; have hcz6_3 : w5.cell? ⟨gb322, 3, none⟩ = some (.slice A0_3 l0_3.length c0_3) := (blk_cell BK322.out 3).trans rfl; have hcz6_4 : w5.cell? ⟨gb322, 4, none⟩ = some (.slice A0_4 l0_4.length c0_4) := (blk_cell BK322.out 4).trans rfl; have hcz6_5 : w5.cell? ⟨gb322, 5, none⟩ = some (.int .i64 a0_5) := (blk_cell BK322.out 5).trans rfl; have hcz6_6 : w5.cell? ⟨gb322, 6, none⟩ = some (.int .i64 a0_6) := (blk_cell BK322.out 6).trans rfl; have hcz6_7 : w5.cell? ⟨gb322, 7, none⟩ = some (.int .i64 a0_7) := (blk_cell BK322.out 7).trans rfl; have hfz6_0 := blk_frozen BK322.out 0; have hfz6_1 := blk_frozen BK322.out 1; have hfz6_2 := blk_frozen BK322.out 2; have hfz6_3 := blk_frozen BK322.out 3; have hfz6_4 := blk_frozen BK322.out 4; have hfz6_5 := blk_frozen BK322.out 5; have hfz6_6 := blk_frozen BK322.out 6; have hfz6_7 := blk_frozen BK322.out 7) | ((with_reducible refine gate_callee (f := 28) rfl ?_); refine goesL_ (some 18) rfl rfl Try.func28 (by kernel_rfl) rfl #[.agg #[.int .i64 a0_0, .int .i64 a0_1, .slice A0_2 l0_2.length c0_2, .slice A0_3 l0_3.length c0_3, .slice A0_4 l0_4.length c0_4, .int .i64 a0_5, .int .i64 a0_6, .int .i64 a0_7], .int .i64 1048576] rfl (by (try simp only [List.map_toArray, List.map_cons, List.map_nil]); first | done | rfl | (simp only [List.length_drop, List.length_take]; rfl)) ?_; (with_reducible refine (laws_szHeader.calls a0_0 a0_1 _ _ l0_2 _ _ l0_3 _ _ l0_4 a0_5 a0_6 a0_7 1048576 t323 _ ?side1 ?side2 ?side3 ?side4 ?side5 ?side6 A3.out).mono ?_); (case side1 => repeat (first | exact (Kd.C_below HR0_2.out HB.out) | (with_reducible refine Kd.C_alloc ?_ _) | (with_reducible refine Kd.C_drewN ?_ _) | (with_reducible refine Kd.C_drew ?_))); (case side2 => exact HC0_2.out); (case side3 => repeat (first | exact (Kd.C_below HR0_3.out HB.out) | (with_reducible refine Kd.C_alloc ?_ _) | (with_reducible refine Kd.C_drewN ?_ _) | (with_reducible refine Kd.C_drew ?_))); (case side4 => exact HC0_3.out); (case side5 => repeat (first | exact (Kd.C_below HR0_4.out HB.out) | (with_reducible refine Kd.C_alloc ?_ _) | (with_reducible refine Kd.C_drewN ?_ _) | (with_reducible refine Kd.C_drew ?_))); (case side6 => exact HC0_4.out); rintro e w7 ⟨rfl, hb⟩; refine ⟨_, rfl, ?_⟩; have n0_ := Aside0.mk (blk_below (g := gb322) (o := .cells #[.int .i64 a0_0, .int .i64 a0_1, .slice A0_2 l0_2.length c0_2, .slice A0_3 l0_3.length c0_3, .slice A0_4 l0_4.length c0_4, .int .i64 a0_5, .int .i64 a0_6, .int .i64 a0_7] 39 (0, 0)) (by (with_reducible repeat (first | refine blk_drewN ?_ _ | refine blk_drew ?_ | refine blk_alloc ?_ _)); exact BK322.out) hb); have n1_ := Aside0.mk (below_step (by repeat (first | (with_reducible first | exact HB.out | apply below_alloc | apply pw_below_drewN | apply below_drew1 | refine below_set ?_ GE322.out) | exact HB.out)) hb); clear BK322; clear HB; have BK322 := n0_; have HB := n1_; clear n0_ n1_; (try clear hb); (try clear hb2); (try clear hk); (try clear hi)))
  go_ret
  exact ⟨by first | rfl | (simp [errW_none, errW_some] <;> rfl) | (simp [*, errW_none, errW_some] <;> rfl), by repeat (first | (with_reducible first | exact HB.out | apply below_alloc | apply pw_below_drewN | apply below_drew1 | refine below_set ?_ GE322.out) | exact HB.out)⟩
 ·rw [if_neg c4] at H
  have c4b0 : decide (t323 < 0) = false := decide_eq_false c4
  clear c4
  replace H := Option.bind_eq_some_iff.mp H
  obtain ⟨⟨t324, t325, t326, t329, t332, t335, t336, t337⟩, A80, H⟩ := H
  replace H : ((spec_HeadBytes.f k t324 t325 t326 t329 t332 t335 t336 t337 a1).bind fun bt338 => ((laws_toHeader.f k a0_0 a0_1 l0_2 l0_3 l0_4 a0_5 a0_6 a0_7).bind fun bt342 => ((impl_HeadBytes.f k bt342.1 bt342.2.1 bt342.2.2.1 bt342.2.2.2.1 bt342.2.2.2.2.1 bt342.2.2.2.2.2.1 bt342.2.2.2.2.2.2.1 bt342.2.2.2.2.2.2.2 a1).bind fun bt357 => ((laws_eqByteS.f k bt357.1 bt338.1).bind fun t361 => (if t361 = true then (laws_FnExactHeadBytes.j0 k a1 bt338.1 bt338.2 bt357.1 bt357.2 (bt357.2 != bt338.2) a0_0 a0_1 l0_2 l0_3 l0_4 a0_5 a0_6 a0_7 bt342.1 bt342.2.1 bt342.2.2.1 bt342.2.2.2.1 bt342.2.2.2.2.1 bt342.2.2.2.2.2.1 bt342.2.2.2.2.2.2.1 bt342.2.2.2.2.2.2.2) else (laws_FnExactHeadBytes.j0 k a1 bt338.1 bt338.2 bt357.1 bt357.2 true a0_0 a0_1 l0_2 l0_3 l0_4 a0_5 a0_6 a0_7 bt342.1 bt342.2.1 bt342.2.2.1 bt342.2.2.2.1 bt342.2.2.2.2.1 bt342.2.2.2.2.2.1 bt342.2.2.2.2.2.2.1 bt342.2.2.2.2.2.2.2)))))) = some true := H
  have A8 := Aside0.mk A80
  clear A80
  replace H := Option.bind_eq_some_iff.mp H
  obtain ⟨⟨t338, t341⟩, A90, H⟩ := H
  replace H : ((laws_toHeader.f k a0_0 a0_1 l0_2 l0_3 l0_4 a0_5 a0_6 a0_7).bind fun bt342 => ((impl_HeadBytes.f k bt342.1 bt342.2.1 bt342.2.2.1 bt342.2.2.2.1 bt342.2.2.2.2.1 bt342.2.2.2.2.2.1 bt342.2.2.2.2.2.2.1 bt342.2.2.2.2.2.2.2 a1).bind fun bt357 => ((laws_eqByteS.f k bt357.1 t338).bind fun t361 => (if t361 = true then (laws_FnExactHeadBytes.j0 k a1 t338 t341 bt357.1 bt357.2 (bt357.2 != t341) a0_0 a0_1 l0_2 l0_3 l0_4 a0_5 a0_6 a0_7 bt342.1 bt342.2.1 bt342.2.2.1 bt342.2.2.2.1 bt342.2.2.2.2.1 bt342.2.2.2.2.2.1 bt342.2.2.2.2.2.2.1 bt342.2.2.2.2.2.2.2) else (laws_FnExactHeadBytes.j0 k a1 t338 t341 bt357.1 bt357.2 true a0_0 a0_1 l0_2 l0_3 l0_4 a0_5 a0_6 a0_7 bt342.1 bt342.2.1 bt342.2.2.1 bt342.2.2.2.1 bt342.2.2.2.2.1 bt342.2.2.2.2.2.1 bt342.2.2.2.2.2.2.1 bt342.2.2.2.2.2.2.2))))) = some true := H
  have A9 := Aside0.mk A90
  clear A90
  replace H := Option.bind_eq_some_iff.mp H
  obtain ⟨⟨t342, t343, t344, t347, t350, t353, t354, t355⟩, A100, H⟩ := H
  replace H : ((impl_HeadBytes.f k t342 t343 t344 t347 t350 t353 t354 t355 a1).bind fun bt357 => ((laws_eqByteS.f k bt357.1 t338).bind fun t361 => (if t361 = true then (laws_FnExactHeadBytes.j0 k a1 t338 t341 bt357.1 bt357.2 (bt357.2 != t341) a0_0 a0_1 l0_2 l0_3 l0_4 a0_5 a0_6 a0_7 t342 t343 t344 t347 t350 t353 t354 t355) else (laws_FnExactHeadBytes.j0 k a1 t338 t341 bt357.1 bt357.2 true a0_0 a0_1 l0_2 l0_3 l0_4 a0_5 a0_6 a0_7 t342 t343 t344 t347 t350 t353 t354 t355)))) = some true := H
  have A10 := Aside0.mk A100
  clear A100
  replace H := Option.bind_eq_some_iff.mp H
  obtain ⟨⟨t357, t360⟩, A110, H⟩ := H
  replace H : ((laws_eqByteS.f k t357 t338).bind fun t361 => (if t361 = true then (laws_FnExactHeadBytes.j0 k a1 t338 t341 t357 t360 (t360 != t341) a0_0 a0_1 l0_2 l0_3 l0_4 a0_5 a0_6 a0_7 t342 t343 t344 t347 t350 t353 t354 t355) else (laws_FnExactHeadBytes.j0 k a1 t338 t341 t357 t360 true a0_0 a0_1 l0_2 l0_3 l0_4 a0_5 a0_6 a0_7 t342 t343 t344 t347 t350 t353 t354 t355))) = some true := H
  have A11 := Aside0.mk A110
  clear A110
  have HC12 := Aside0.mk H
  clear H
  go_enter Try.func6, Try.ntmps6
  go_upto_region 8 with (first | ((with_reducible refine gate_dst (N := 2) rfl ?_); refine box_event ?hg (N := 2) ?hd (cs := #[.int .i64 a0_0, .int .i64 a0_1, .slice A0_2 l0_2.length c0_2, .slice A0_3 l0_3.length c0_3, .slice A0_4 l0_4.length c0_4, .int .i64 a0_5, .int .i64 a0_6, .int .i64 a0_7]) (t := 39) ?hr ?_; (case hd => rfl); (case hg => rfl); (case hr => first | (go_simp; done) | (go_simp; rfl)); intro gb322 hg w13 hbox hb; have n0_ := Aside0.mk (below_step (by repeat (first | (with_reducible first | exact HB.out | apply below_alloc | apply pw_below_drewN | apply below_drew1) | exact HB.out)) hb); have n1_ := Aside0.mk (hbox); have n2_ := Aside0.mk ((by rw [hg]; exact (below_size (by repeat (first | (with_reducible first | exact HB.out | apply below_alloc | apply pw_below_drewN | apply below_drew1) | exact HB.out))) : w.heap.size ≤ gb322)); have n3_ := Aside0.mk ((by rw [hg]; exact (below_size (by repeat (first | (with_reducible first | exact HB.out | apply below_alloc | apply pw_below_drewN | apply below_drew1) | exact HB.out))) : w.heap.size ≤ gb322)); clear HB; have HB := n0_; have BK322 := n1_; have GW322 := n2_; have GE322 := n3_; clear n0_ n1_ n2_ n3_; clear hb hbox hg; have hcz14_0 : w13.cell? ⟨gb322, 0, none⟩ = some (.int .i64 a0_0) := (blk_cell BK322.out 0).trans rfl; have hcz14_1 : w13.cell? ⟨gb322, 1, none⟩ = some (.int .i64 a0_1) := (blk_cell BK322.out 1).trans rfl; have hcz14_2 : w13.cell? ⟨gb322, 2, none⟩ = some (.slice A0_2 l0_2.length c0_2) := (blk_cell BK322.out 2).trans rfl; have hcz14_3 : w13.cell? ⟨gb322, 3, none⟩ = some (.slice A0_3 l0_3.length c0_3) := (blk_cell BK322.out 3).trans rfl; have hcz14_4 : w13.cell? ⟨gb322, 4, none⟩ = some (.slice A0_4 l0_4.length c0_4) := (blk_cell BK322.out 4).trans rfl; have hcz14_5 : w13.cell? ⟨gb322, 5, none⟩ = some (.int .i64 a0_5) := (blk_cell BK322.out 5).trans rfl; have hcz14_6 : w13.cell? ⟨gb322, 6, none⟩ = some (.int .i64 a0_6) := (blk_cell BK322.out 6).trans rfl; have hcz14_7 : w13.cell? ⟨gb322, 7, none⟩ = some (.int .i64 a0_7) := (blk_cell BK322.out 7).trans rfl; have hfz14_0 := blk_frozen BK322.out 0; have hfz14_1 := blk_frozen BK322.out 1; have hfz14_2 := blk_frozen BK322.out 2; have hfz14_3 := blk_frozen BK322.out 3; have hfz14_4 := blk_frozen BK322.out 4; have hfz14_5 := blk_frozen BK322.out 5; have hfz14_6 := blk_frozen BK322.out 6; have hfz14_7 := blk_frozen BK322.out 7) | ((with_reducible refine gate_callee (f := 28) rfl ?_); refine goesL_ (some 18) rfl rfl Try.func28 (by kernel_rfl) rfl #[.agg #[.int .i64 a0_0, .int .i64 a0_1, .slice A0_2 l0_2.length c0_2, .slice A0_3 l0_3.length c0_3, .slice A0_4 l0_4.length c0_4, .int .i64 a0_5, .int .i64 a0_6, .int .i64 a0_7], .int .i64 1048576] rfl (by (try simp only [List.map_toArray, List.map_cons, List.map_nil]); first | done | rfl | (simp only [List.length_drop, List.length_take]; rfl)) ?_; (with_reducible refine (laws_szHeader.calls a0_0 a0_1 _ _ l0_2 _ _ l0_3 _ _ l0_4 a0_5 a0_6 a0_7 1048576 t323 _ ?side1 ?side2 ?side3 ?side4 ?side5 ?side6 A3.out).mono ?_); (case side1 => repeat (first | exact (Kd.C_below HR0_2.out HB.out) | (with_reducible refine Kd.C_alloc ?_ _) | (with_reducible refine Kd.C_drewN ?_ _) | (with_reducible refine Kd.C_drew ?_))); (case side2 => exact HC0_2.out); (case side3 => repeat (first | exact (Kd.C_below HR0_3.out HB.out) | (with_reducible refine Kd.C_alloc ?_ _) | (with_reducible refine Kd.C_drewN ?_ _) | (with_reducible refine Kd.C_drew ?_))); (case side4 => exact HC0_3.out); (case side5 => repeat (first | exact (Kd.C_below HR0_4.out HB.out) | (with_reducible refine Kd.C_alloc ?_ _) | (with_reducible refine Kd.C_drewN ?_ _) | (with_reducible refine Kd.C_drew ?_))); (case side6 => exact HC0_4.out); rintro e w15 ⟨rfl, hb⟩; refine ⟨_, rfl, ?_⟩; have n0_ := Aside0.mk (blk_below (g := gb322) (o := .cells #[.int .i64 a0_0, .int .i64 a0_1, .slice A0_2 l0_2.length c0_2, .slice A0_3 l0_3.length c0_3, .slice A0_4 l0_4.length c0_4, .int .i64 a0_5, .int .i64 a0_6, .int .i64 a0_7] 39 (0, 0)) (by (with_reducible repeat (first | refine blk_drewN ?_ _ | refine blk_drew ?_ | refine blk_alloc ?_ _)); exact BK322.out) hb); have n1_ := Aside0.mk (below_step (by repeat (first | (with_reducible first | exact HB.out | apply below_alloc | apply pw_below_drewN | apply below_drew1 | refine below_set ?_ GE322.out) | exact HB.out)) hb); clear BK322; clear HB; have BK322 := n0_; have HB := n1_; clear n0_ n1_; (try clear hb); (try clear hb2); (try clear hk); (try clear hi); have hcz16_0 : w15.cell? ⟨gb322, 0, none⟩ = some (.int .i64 a0_0) := (blk_cell BK322.out 0).trans rfl; have hcz16_1 : w15.cell? ⟨gb322, 1, none⟩ = some (.int .i64 a0_1) := (blk_cell BK322.out 1).trans rfl; have hcz16_2 : w15.cell? ⟨gb322, 2, none⟩ = some (.slice A0_2 l0_2.length c0_2) := (blk_cell BK322.out 2).trans rfl; have hcz16_3 : w15.cell? ⟨gb322, 3, none⟩ = some (.slice A0_3 l0_3.length c0_3) := (blk_cell BK322.out 3).trans rfl; have hcz16_4 : w15.cell? ⟨gb322, 4, none⟩ = some (.slice A0_4 l0_4.length c0_4) := (blk_cell BK322.out 4).trans rfl; have hcz16_5 : w15.cell? ⟨gb322, 5, none⟩ = some (.int .i64 a0_5) := (blk_cell BK322.out 5).trans rfl; have hcz16_6 : w15.cell? ⟨gb322, 6, none⟩ = some (.int .i64 a0_6) := (blk_cell BK322.out 6).trans rfl; have hcz16_7 : w15.cell? ⟨gb322, 7, none⟩ = some (.int .i64 a0_7) := (blk_cell BK322.out 7).trans rfl; have hfz16_0 := blk_frozen BK322.out 0; have hfz16_1 := blk_frozen BK322.out 1; have hfz16_2 := blk_frozen BK322.out 2; have hfz16_3 := blk_frozen BK322.out 3; have hfz16_4 := blk_frozen BK322.out 4; have hfz16_5 := blk_frozen BK322.out 5; have hfz16_6 := blk_frozen BK322.out 6; have hfz16_7 := blk_frozen BK322.out 7) | ((with_reducible refine gate_callee (f := 30) rfl ?_); refine goesL_ (some 23) rfl rfl Try.func30 (by kernel_rfl) rfl #[.agg #[.int .i64 a0_0, .int .i64 a0_1, .slice A0_2 l0_2.length c0_2, .slice A0_3 l0_3.length c0_3, .slice A0_4 l0_4.length c0_4, .int .i64 a0_5, .int .i64 a0_6, .int .i64 a0_7]] rfl (by (try simp only [List.map_toArray, List.map_cons, List.map_nil]); first | done | rfl | (simp only [List.length_drop, List.length_take]; rfl)) ?_; (with_reducible refine (laws_toHeader.calls k a0_0 a0_1 _ _ l0_2 _ _ l0_3 _ _ l0_4 a0_5 a0_6 a0_7 t324 t325 t326 t329 t332 t335 t336 t337 _ ?side1 ?side2 ?side3 ?side4 ?side5 ?side6 A8.out).mono ?_); (case side1 => repeat (first | exact (Kd.C_below HR0_2.out HB.out) | (with_reducible refine Kd.C_alloc ?_ _) | (with_reducible refine Kd.C_drewN ?_ _) | (with_reducible refine Kd.C_drew ?_))); (case side2 => exact HC0_2.out); (case side3 => repeat (first | exact (Kd.C_below HR0_3.out HB.out) | (with_reducible refine Kd.C_alloc ?_ _) | (with_reducible refine Kd.C_drewN ?_ _) | (with_reducible refine Kd.C_drew ?_))); (case side4 => exact HC0_3.out); (case side5 => repeat (first | exact (Kd.C_below HR0_4.out HB.out) | (with_reducible refine Kd.C_alloc ?_ _) | (with_reducible refine Kd.C_drewN ?_ _) | (with_reducible refine Kd.C_drew ?_))); (case side6 => exact HC0_4.out); rintro e w17 ⟨v327, v330, v333, rfl, ho0, ho1, ho2, hb⟩; refine ⟨_, rfl, ?_⟩; have n0_ := Aside0.mk (Kd.R_lower ho0 (below_size (by repeat (first | (with_reducible first | exact HB.out | apply below_alloc | apply pw_below_drewN | apply below_drew1 | refine below_set ?_ GE322.out) | exact HB.out)))); have n1_ := Aside0.mk (Kd.R_lower ho1 (below_size (by repeat (first | (with_reducible first | exact HB.out | apply below_alloc | apply pw_below_drewN | apply below_drew1 | refine below_set ?_ GE322.out) | exact HB.out)))); have n2_ := Aside0.mk (Kd.R_lower ho2 (below_size (by repeat (first | (with_reducible first | exact HB.out | apply below_alloc | apply pw_below_drewN | apply below_drew1 | refine below_set ?_ GE322.out) | exact HB.out)))); have n3_ := Aside0.mk (blk_below (g := gb322) (o := .cells #[.int .i64 a0_0, .int .i64 a0_1, .slice A0_2 l0_2.length c0_2, .slice A0_3 l0_3.length c0_3, .slice A0_4 l0_4.length c0_4, .int .i64 a0_5, .int .i64 a0_6, .int .i64 a0_7] 39 (0, 0)) (by (with_reducible repeat (first | refine blk_drewN ?_ _ | refine blk_drew ?_ | refine blk_alloc ?_ _)); exact BK322.out) hb); have n4_ := Aside0.mk (below_step (by repeat (first | (with_reducible first | exact HB.out | apply below_alloc | apply pw_below_drewN | apply below_drew1 | refine below_set ?_ GE322.out) | exact HB.out)) hb); clear BK322; clear HB; have HO328 := n0_; have HO331 := n1_; have HO334 := n2_; have BK322 := n3_; have HB := n4_; clear n0_ n1_ n2_ n3_ n4_; (try clear hb); (try clear hb2); (try clear hk); (try clear hi); (try clear ho0); (try clear ho1); (try clear ho2); obtain ⟨Ao18, co18, eo18⟩ := Kd.R_slice HO328.out; subst eo18; obtain ⟨Ao19, co19, eo19⟩ := Kd.R_slice HO331.out; subst eo19; obtain ⟨Ao20, co20, eo20⟩ := Kd.R_slice HO334.out; subst eo20) | ((with_reducible refine gate_callee (f := 29) rfl ?_); refine goesL_ (some 25) rfl rfl Try.func29 (by kernel_rfl) rfl #[.agg #[.int .i64 t324, .int .i64 t325, .slice Ao18 t326.length co18, .slice Ao19 t329.length co19, .slice Ao20 t332.length co20, .int .i64 t335, .int .i64 t336, .int .i64 t337], .int .i64 a1] rfl (by (try simp only [List.map_toArray, List.map_cons, List.map_nil]); first | done | rfl | (simp only [List.length_drop, List.length_take]; rfl)) ?_; (with_reducible refine (spec_HeadBytes.calls k t324 t325 _ _ t326 _ _ t329 _ _ t332 t335 t336 t337 a1 t338 t341 _ ?side1 ?side2 ?side3 ?side4 ?side5 ?side6 A9.out).mono ?_); (case side1 => repeat (first | exact (Kd.R_reads' HO328.out).2.2 | (with_reducible refine Kd.C_alloc ?_ _) | (with_reducible refine Kd.C_drewN ?_ _) | (with_reducible refine Kd.C_drew ?_))); (case side2 => exact (Kd.R_reads' HO328.out).2.1); (case side3 => repeat (first | exact (Kd.R_reads' HO331.out).2.2 | (with_reducible refine Kd.C_alloc ?_ _) | (with_reducible refine Kd.C_drewN ?_ _) | (with_reducible refine Kd.C_drew ?_))); (case side4 => exact (Kd.R_reads' HO331.out).2.1); (case side5 => repeat (first | exact (Kd.R_reads' HO334.out).2.2 | (with_reducible refine Kd.C_alloc ?_ _) | (with_reducible refine Kd.C_drewN ?_ _) | (with_reducible refine Kd.C_drew ?_))); (case side6 => exact (Kd.R_reads' HO334.out).2.1); rintro e w21 ⟨v339, rfl, ho0, hb⟩; refine ⟨_, rfl, ?_⟩; have n0_ := Aside0.mk (Kd.R_elder' (by (with_reducible repeat (first | apply Kd.R_alloc | apply Kd.R_drewN | apply Kd.R_drew)); exact HO328.out) (Kd.R_base ho0) hb); have n1_ := Aside0.mk (Kd.R_elder' (by (with_reducible repeat (first | apply Kd.R_alloc | apply Kd.R_drewN | apply Kd.R_drew)); exact HO331.out) (Kd.R_base ho0) hb); have n2_ := Aside0.mk (Kd.R_elder' (by (with_reducible repeat (first | apply Kd.R_alloc | apply Kd.R_drewN | apply Kd.R_drew)); exact HO334.out) (Kd.R_base ho0) hb); have n3_ := Aside0.mk (Kd.R_lower (Kd.R_new' (Kd.R_new' (Kd.R_new' ho0 (Kd.R_lt (by (with_reducible repeat (first | apply Kd.R_alloc | apply Kd.R_drewN | apply Kd.R_drew)); exact HO328.out))) (Kd.R_lt (by (with_reducible repeat (first | apply Kd.R_alloc | apply Kd.R_drewN | apply Kd.R_drew)); exact HO331.out))) (Kd.R_lt (by (with_reducible repeat (first | apply Kd.R_alloc | apply Kd.R_drewN | apply Kd.R_drew)); exact HO334.out))) (below_size (by repeat (first | (with_reducible first | exact HB.out | apply below_alloc | apply pw_below_drewN | apply below_drew1 | refine below_set ?_ GE322.out) | exact HB.out)))); have n4_ := Aside0.mk (blk_below (g := gb322) (o := .cells #[.int .i64 a0_0, .int .i64 a0_1, .slice A0_2 l0_2.length c0_2, .slice A0_3 l0_3.length c0_3, .slice A0_4 l0_4.length c0_4, .int .i64 a0_5, .int .i64 a0_6, .int .i64 a0_7] 39 (0, 0)) (by (with_reducible repeat (first | refine blk_drewN ?_ _ | refine blk_drew ?_ | refine blk_alloc ?_ _)); exact BK322.out) hb); have n5_ := Aside0.mk (below_step (by repeat (first | (with_reducible first | exact HB.out | apply below_alloc | apply pw_below_drewN | apply below_drew1 | refine below_set ?_ GE322.out) | exact HB.out)) hb); clear HO328; clear HO331; clear HO334; clear BK322; clear HB; have HO328 := n0_; have HO331 := n1_; have HO334 := n2_; have HO340 := n3_; have BK322 := n4_; have HB := n5_; clear n0_ n1_ n2_ n3_ n4_ n5_; (try clear hb); (try clear hb2); (try clear hk); (try clear hi); (try clear ho0); have hcz22_0 : w21.cell? ⟨gb322, 0, none⟩ = some (.int .i64 a0_0) := (blk_cell BK322.out 0).trans rfl; have hcz22_1 : w21.cell? ⟨gb322, 1, none⟩ = some (.int .i64 a0_1) := (blk_cell BK322.out 1).trans rfl; have hcz22_2 : w21.cell? ⟨gb322, 2, none⟩ = some (.slice A0_2 l0_2.length c0_2) := (blk_cell BK322.out 2).trans rfl; have hcz22_3 : w21.cell? ⟨gb322, 3, none⟩ = some (.slice A0_3 l0_3.length c0_3) := (blk_cell BK322.out 3).trans rfl; have hcz22_4 : w21.cell? ⟨gb322, 4, none⟩ = some (.slice A0_4 l0_4.length c0_4) := (blk_cell BK322.out 4).trans rfl; have hcz22_5 : w21.cell? ⟨gb322, 5, none⟩ = some (.int .i64 a0_5) := (blk_cell BK322.out 5).trans rfl; have hcz22_6 : w21.cell? ⟨gb322, 6, none⟩ = some (.int .i64 a0_6) := (blk_cell BK322.out 6).trans rfl; have hcz22_7 : w21.cell? ⟨gb322, 7, none⟩ = some (.int .i64 a0_7) := (blk_cell BK322.out 7).trans rfl; have hfz22_0 := blk_frozen BK322.out 0; have hfz22_1 := blk_frozen BK322.out 1; have hfz22_2 := blk_frozen BK322.out 2; have hfz22_3 := blk_frozen BK322.out 3; have hfz22_4 := blk_frozen BK322.out 4; have hfz22_5 := blk_frozen BK322.out 5; have hfz22_6 := blk_frozen BK322.out 6; have hfz22_7 := blk_frozen BK322.out 7) | ((with_reducible refine gate_callee (f := 30) rfl ?_); refine goesL_ (some 29) rfl rfl Try.func30 (by kernel_rfl) rfl #[.agg #[.int .i64 a0_0, .int .i64 a0_1, .slice A0_2 l0_2.length c0_2, .slice A0_3 l0_3.length c0_3, .slice A0_4 l0_4.length c0_4, .int .i64 a0_5, .int .i64 a0_6, .int .i64 a0_7]] rfl (by (try simp only [List.map_toArray, List.map_cons, List.map_nil]); first | done | rfl | (simp only [List.length_drop, List.length_take]; rfl)) ?_; (with_reducible refine (laws_toHeader.calls k a0_0 a0_1 _ _ l0_2 _ _ l0_3 _ _ l0_4 a0_5 a0_6 a0_7 t342 t343 t344 t347 t350 t353 t354 t355 _ ?side1 ?side2 ?side3 ?side4 ?side5 ?side6 A10.out).mono ?_); (case side1 => repeat (first | exact (Kd.C_below HR0_2.out HB.out) | (with_reducible refine Kd.C_alloc ?_ _) | (with_reducible refine Kd.C_drewN ?_ _) | (with_reducible refine Kd.C_drew ?_))); (case side2 => exact HC0_2.out); (case side3 => repeat (first | exact (Kd.C_below HR0_3.out HB.out) | (with_reducible refine Kd.C_alloc ?_ _) | (with_reducible refine Kd.C_drewN ?_ _) | (with_reducible refine Kd.C_drew ?_))); (case side4 => exact HC0_3.out); (case side5 => repeat (first | exact (Kd.C_below HR0_4.out HB.out) | (with_reducible refine Kd.C_alloc ?_ _) | (with_reducible refine Kd.C_drewN ?_ _) | (with_reducible refine Kd.C_drew ?_))); (case side6 => exact HC0_4.out); rintro e w23 ⟨v345, v348, v351, rfl, ho0, ho1, ho2, hb⟩; refine ⟨_, rfl, ?_⟩; have n0_ := Aside0.mk (Kd.R_mono (Kd.R_told (Kd.R_told (Kd.R_told (Kd.R_old (by (with_reducible repeat (first | apply Kd.R_alloc | apply Kd.R_drewN | apply Kd.R_drew)); exact HO328.out) hb) (Kd.R_base ho0)) (Kd.R_base ho1)) (Kd.R_base ho2)) (fun _ h_ => h_.1)); have n1_ := Aside0.mk (Kd.R_mono (Kd.R_told (Kd.R_told (Kd.R_told (Kd.R_old (by (with_reducible repeat (first | apply Kd.R_alloc | apply Kd.R_drewN | apply Kd.R_drew)); exact HO331.out) hb) (Kd.R_base ho0)) (Kd.R_base ho1)) (Kd.R_base ho2)) (fun _ h_ => h_.1)); have n2_ := Aside0.mk (Kd.R_mono (Kd.R_told (Kd.R_told (Kd.R_told (Kd.R_old (by (with_reducible repeat (first | apply Kd.R_alloc | apply Kd.R_drewN | apply Kd.R_drew)); exact HO334.out) hb) (Kd.R_base ho0)) (Kd.R_base ho1)) (Kd.R_base ho2)) (fun _ h_ => h_.1)); have n3_ := Aside0.mk (Kd.R_mono (Kd.R_told (Kd.R_told (Kd.R_told (Kd.R_old (by (with_reducible repeat (first | apply Kd.R_alloc | apply Kd.R_drewN | apply Kd.R_drew)); exact HO340.out) hb) (Kd.R_base ho0)) (Kd.R_base ho1)) (Kd.R_base ho2)) (fun _ h_ => h_.1)); have n4_ := Aside0.mk (Kd.R_lower (Kd.R_new' (Kd.R_new' (Kd.R_new' (Kd.R_new' ho0 (Kd.R_lt (by (with_reducible repeat (first | apply Kd.R_alloc | apply Kd.R_drewN | apply Kd.R_drew)); exact HO328.out))) (Kd.R_lt (by (with_reducible repeat (first | apply Kd.R_alloc | apply Kd.R_drewN | apply Kd.R_drew)); exact HO331.out))) (Kd.R_lt (by (with_reducible repeat (first | apply Kd.R_alloc | apply Kd.R_drewN | apply Kd.R_drew)); exact HO334.out))) (Kd.R_lt (by (with_reducible repeat (first | apply Kd.R_alloc | apply Kd.R_drewN | apply Kd.R_drew)); exact HO340.out))) (below_size (by repeat (first | (with_reducible first | exact HB.out | apply below_alloc | apply pw_below_drewN | apply below_drew1 | refine below_set ?_ GE322.out) | exact HB.out)))); have n5_ := Aside0.mk (Kd.R_lower (Kd.R_new' (Kd.R_new' (Kd.R_new' (Kd.R_new' ho1 (Kd.R_lt (by (with_reducible repeat (first | apply Kd.R_alloc | apply Kd.R_drewN | apply Kd.R_drew)); exact HO328.out))) (Kd.R_lt (by (with_reducible repeat (first | apply Kd.R_alloc | apply Kd.R_drewN | apply Kd.R_drew)); exact HO331.out))) (Kd.R_lt (by (with_reducible repeat (first | apply Kd.R_alloc | apply Kd.R_drewN | apply Kd.R_drew)); exact HO334.out))) (Kd.R_lt (by (with_reducible repeat (first | apply Kd.R_alloc | apply Kd.R_drewN | apply Kd.R_drew)); exact HO340.out))) (below_size (by repeat (first | (with_reducible first | exact HB.out | apply below_alloc | apply pw_below_drewN | apply below_drew1 | refine below_set ?_ GE322.out) | exact HB.out)))); have n6_ := Aside0.mk (Kd.R_lower (Kd.R_new' (Kd.R_new' (Kd.R_new' (Kd.R_new' ho2 (Kd.R_lt (by (with_reducible repeat (first | apply Kd.R_alloc | apply Kd.R_drewN | apply Kd.R_drew)); exact HO328.out))) (Kd.R_lt (by (with_reducible repeat (first | apply Kd.R_alloc | apply Kd.R_drewN | apply Kd.R_drew)); exact HO331.out))) (Kd.R_lt (by (with_reducible repeat (first | apply Kd.R_alloc | apply Kd.R_drewN | apply Kd.R_drew)); exact HO334.out))) (Kd.R_lt (by (with_reducible repeat (first | apply Kd.R_alloc | apply Kd.R_drewN | apply Kd.R_drew)); exact HO340.out))) (below_size (by repeat (first | (with_reducible first | exact HB.out | apply below_alloc | apply pw_below_drewN | apply below_drew1 | refine below_set ?_ GE322.out) | exact HB.out)))); have n7_ := Aside0.mk (blk_below (g := gb322) (o := .cells #[.int .i64 a0_0, .int .i64 a0_1, .slice A0_2 l0_2.length c0_2, .slice A0_3 l0_3.length c0_3, .slice A0_4 l0_4.length c0_4, .int .i64 a0_5, .int .i64 a0_6, .int .i64 a0_7] 39 (0, 0)) (by (with_reducible repeat (first | refine blk_drewN ?_ _ | refine blk_drew ?_ | refine blk_alloc ?_ _)); exact BK322.out) hb); have n8_ := Aside0.mk (below_step (by repeat (first | (with_reducible first | exact HB.out | apply below_alloc | apply pw_below_drewN | apply below_drew1 | refine below_set ?_ GE322.out) | exact HB.out)) hb); clear HO328; clear HO331; clear HO334; clear HO340; clear BK322; clear HB; have HO328 := n0_; have HO331 := n1_; have HO334 := n2_; have HO340 := n3_; have HO346 := n4_; have HO349 := n5_; have HO352 := n6_; have BK322 := n7_; have HB := n8_; clear n0_ n1_ n2_ n3_ n4_ n5_ n6_ n7_ n8_; (try clear hb); (try clear hb2); (try clear hk); (try clear hi); (try clear ho0); (try clear ho1); (try clear ho2)) | ((with_reducible refine gate_dst (N := 8) rfl ?_); refine box_event ?hg (N := 8) ?hd (cs := #[.int .i64 0, .int .i64 0, .slice none 0 0, .slice none 0 0, .slice none 0 0, .int .i64 0, .int .i64 0, .int .i64 0]) (t := 42) ?hr ?_; (case hd => rfl); (case hg => rfl); (case hr => first | (go_simp; done) | (go_simp; rfl)); intro gb356 hg w24 hbox hb; have n0_ := Aside0.mk (Kd.R_below (by (with_reducible repeat (first | apply Kd.R_alloc | apply Kd.R_drewN | apply Kd.R_drew)); exact HO328.out) hb); have n1_ := Aside0.mk (Kd.R_below (by (with_reducible repeat (first | apply Kd.R_alloc | apply Kd.R_drewN | apply Kd.R_drew)); exact HO331.out) hb); have n2_ := Aside0.mk (Kd.R_below (by (with_reducible repeat (first | apply Kd.R_alloc | apply Kd.R_drewN | apply Kd.R_drew)); exact HO334.out) hb); have n3_ := Aside0.mk (Kd.R_below (by (with_reducible repeat (first | apply Kd.R_alloc | apply Kd.R_drewN | apply Kd.R_drew)); exact HO340.out) hb); have n4_ := Aside0.mk (Kd.R_below (by (with_reducible repeat (first | apply Kd.R_alloc | apply Kd.R_drewN | apply Kd.R_drew)); exact HO346.out) hb); have n5_ := Aside0.mk (Kd.R_below (by (with_reducible repeat (first | apply Kd.R_alloc | apply Kd.R_drewN | apply Kd.R_drew)); exact HO349.out) hb); have n6_ := Aside0.mk (Kd.R_below (by (with_reducible repeat (first | apply Kd.R_alloc | apply Kd.R_drewN | apply Kd.R_drew)); exact HO352.out) hb); have n7_ := Aside0.mk (blk_below (g := gb322) (o := .cells #[.int .i64 a0_0, .int .i64 a0_1, .slice A0_2 l0_2.length c0_2, .slice A0_3 l0_3.length c0_3, .slice A0_4 l0_4.length c0_4, .int .i64 a0_5, .int .i64 a0_6, .int .i64 a0_7] 39 (0, 0)) (by (with_reducible repeat (first | refine blk_drewN ?_ _ | refine blk_drew ?_ | refine blk_alloc ?_ _)); exact BK322.out) hb); have n8_ := Aside0.mk (below_step (by repeat (first | (with_reducible first | exact HB.out | apply below_alloc | apply pw_below_drewN | apply below_drew1 | refine below_set ?_ GE322.out) | exact HB.out)) hb); have n9_ := Aside0.mk (hbox); have n10_ := Aside0.mk ((by rw [hg]; exact (below_size (by repeat (first | (with_reducible first | exact HB.out | apply below_alloc | apply pw_below_drewN | apply below_drew1 | refine below_set ?_ GE322.out) | exact HB.out))) : w.heap.size ≤ gb356)); have n11_ := Aside0.mk ((by rw [hg]; exact (below_size (by repeat (first | (with_reducible first | exact HB.out | apply below_alloc | apply pw_below_drewN | apply below_drew1 | refine below_set ?_ GE322.out) | exact HB.out))) : w.heap.size ≤ gb356)); have n12_ := Aside0.mk ((by rw [hg]; exact Nat.ne_of_lt (blk_lt (g := gb322) (o := .cells #[.int .i64 a0_0, .int .i64 a0_1, .slice A0_2 l0_2.length c0_2, .slice A0_3 l0_3.length c0_3, .slice A0_4 l0_4.length c0_4, .int .i64 a0_5, .int .i64 a0_6, .int .i64 a0_7] 39 (0, 0)) (by (with_reducible repeat (first | refine blk_drewN ?_ _ | refine blk_drew ?_ | refine blk_alloc ?_ _)); exact BK322.out)) : gb322 ≠ gb356)); have n13_ := Aside0.mk ((by rw [hg]; exact Nat.ne_of_gt (blk_lt (g := gb322) (o := .cells #[.int .i64 a0_0, .int .i64 a0_1, .slice A0_2 l0_2.length c0_2, .slice A0_3 l0_3.length c0_3, .slice A0_4 l0_4.length c0_4, .int .i64 a0_5, .int .i64 a0_6, .int .i64 a0_7] 39 (0, 0)) (by (with_reducible repeat (first | refine blk_drewN ?_ _ | refine blk_drew ?_ | refine blk_alloc ?_ _)); exact BK322.out)) : gb356 ≠ gb322)); clear HO328; clear HO331; clear HO334; clear HO340; clear HO346; clear HO349; clear HO352; clear BK322; clear HB; have HO328 := n0_; have HO331 := n1_; have HO334 := n2_; have HO340 := n3_; have HO346 := n4_; have HO349 := n5_; have HO352 := n6_; have BK322 := n7_; have HB := n8_; have BK356 := n9_; have GW356 := n10_; have GE356 := n11_; have NB322_356 := n12_; have NB356_322 := n13_; clear n0_ n1_ n2_ n3_ n4_ n5_ n6_ n7_ n8_ n9_ n10_ n11_ n12_ n13_; clear hb hbox hg; have hnb25 := NB356_322.out; have hnc25 := NB322_356.out; have hcz26_0 : w24.cell? ⟨gb356, 0, none⟩ = some (.int .i64 0) := (blk_cell BK356.out 0).trans rfl; have hcz26_1 : w24.cell? ⟨gb356, 1, none⟩ = some (.int .i64 0) := (blk_cell BK356.out 1).trans rfl; have hcz26_2 : w24.cell? ⟨gb356, 2, none⟩ = some (.slice none 0 0) := (blk_cell BK356.out 2).trans rfl; have hcz26_3 : w24.cell? ⟨gb356, 3, none⟩ = some (.slice none 0 0) := (blk_cell BK356.out 3).trans rfl; have hcz26_4 : w24.cell? ⟨gb356, 4, none⟩ = some (.slice none 0 0) := (blk_cell BK356.out 4).trans rfl; have hcz26_5 : w24.cell? ⟨gb356, 5, none⟩ = some (.int .i64 0) := (blk_cell BK356.out 5).trans rfl; have hcz26_6 : w24.cell? ⟨gb356, 6, none⟩ = some (.int .i64 0) := (blk_cell BK356.out 6).trans rfl; have hcz26_7 : w24.cell? ⟨gb356, 7, none⟩ = some (.int .i64 0) := (blk_cell BK356.out 7).trans rfl; have hfz26_0 := blk_frozen BK356.out 0; have hfz26_1 := blk_frozen BK356.out 1; have hfz26_2 := blk_frozen BK356.out 2; have hfz26_3 := blk_frozen BK356.out 3; have hfz26_4 := blk_frozen BK356.out 4; have hfz26_5 := blk_frozen BK356.out 5; have hfz26_6 := blk_frozen BK356.out 6; have hfz26_7 := blk_frozen BK356.out 7; obtain ⟨Ao27, co27, eo27⟩ := Kd.R_slice HO346.out; subst eo27; obtain ⟨Ao28, co28, eo28⟩ := Kd.R_slice HO349.out; subst eo28; obtain ⟨Ao29, co29, eo29⟩ := Kd.R_slice HO352.out; subst eo29) | ((with_reducible refine gate_callee (f := 31) rfl ?_); refine goesL_ (some 33) rfl rfl Try.func31 (by kernel_rfl) rfl #[.agg #[.int .i64 t342, .int .i64 t343, .slice Ao27 t344.length co27, .slice Ao28 t347.length co28, .slice Ao29 t350.length co29, .int .i64 t353, .int .i64 t354, .int .i64 t355], .int .i64 a1] rfl (by (try simp only [List.map_toArray, List.map_cons, List.map_nil]); first | done | rfl | (simp only [List.length_drop, List.length_take]; rfl)) ?_; (with_reducible refine (impl_HeadBytes.calls k t342 t343 _ _ t344 _ _ t347 _ _ t350 t353 t354 t355 a1 t357 t360 _ ?side1 ?side2 ?side3 ?side4 ?side5 ?side6 A11.out).mono ?_); (case side1 => refine (Kd.R_reads' (e := 5) (base := w.heap.size) (ok := fun k_ => (((((some k_ ≠ (.slice Ao28 t347.length co28 : Value).ownBlock ∧ some k_ ≠ (.slice Ao29 t350.length co29 : Value).ownBlock) ∧ some k_ ≠ (.slice Ao18 t326.length co18 : Value).ownBlock) ∧ some k_ ≠ (.slice Ao19 t329.length co19 : Value).ownBlock) ∧ some k_ ≠ (.slice Ao20 t332.length co20 : Value).ownBlock) ∧ some k_ ≠ (v339 : Value).ownBlock)) (n := t344.length) (c := co27) ?_).2.2; exact (by (with_reducible repeat (first | apply Kd.R_alloc | apply Kd.R_drewN | apply Kd.R_drew)); exact (Kd.R_mono (Kd.R_far (p := ⟨gb356, 7, none⟩) (Kd.R_far (p := ⟨gb356, 6, none⟩) (Kd.R_far (p := ⟨gb356, 5, none⟩) (Kd.R_far (p := ⟨gb356, 4, none⟩) (Kd.R_far (p := ⟨gb356, 3, none⟩) (Kd.R_far (p := ⟨gb356, 2, none⟩) (Kd.R_far (p := ⟨gb356, 1, none⟩) (Kd.R_far (p := ⟨gb356, 0, none⟩) (Kd.R_types HO346.out BK356.out (by decide)) (fun _ hk => hk.2) (.int .i64 t342)) (fun _ hk => hk.2) (.int .i64 t343)) (fun _ hk => hk.2) (.slice Ao27 t344.length co27)) (fun _ hk => hk.2) (.slice Ao28 t347.length co28)) (fun _ hk => hk.2) (.slice Ao29 t350.length co29)) (fun _ hk => hk.2) (.int .i64 t353)) (fun _ hk => hk.2) (.int .i64 t354)) (fun _ hk => hk.2) (.int .i64 t355)) (fun _ h_ => h_.1)))); (case side2 => exact (Kd.R_reads' HO346.out).2.1); (case side3 => refine (Kd.R_reads' (e := 5) (base := w.heap.size) (ok := fun k_ => (((((some k_ ≠ (.slice Ao27 t344.length co27 : Value).ownBlock ∧ some k_ ≠ (.slice Ao29 t350.length co29 : Value).ownBlock) ∧ some k_ ≠ (.slice Ao18 t326.length co18 : Value).ownBlock) ∧ some k_ ≠ (.slice Ao19 t329.length co19 : Value).ownBlock) ∧ some k_ ≠ (.slice Ao20 t332.length co20 : Value).ownBlock) ∧ some k_ ≠ (v339 : Value).ownBlock)) (n := t347.length) (c := co28) ?_).2.2; exact (by (with_reducible repeat (first | apply Kd.R_alloc | apply Kd.R_drewN | apply Kd.R_drew)); exact (Kd.R_mono (Kd.R_far (p := ⟨gb356, 7, none⟩) (Kd.R_far (p := ⟨gb356, 6, none⟩) (Kd.R_far (p := ⟨gb356, 5, none⟩) (Kd.R_far (p := ⟨gb356, 4, none⟩) (Kd.R_far (p := ⟨gb356, 3, none⟩) (Kd.R_far (p := ⟨gb356, 2, none⟩) (Kd.R_far (p := ⟨gb356, 1, none⟩) (Kd.R_far (p := ⟨gb356, 0, none⟩) (Kd.R_types HO349.out BK356.out (by decide)) (fun _ hk => hk.2) (.int .i64 t342)) (fun _ hk => hk.2) (.int .i64 t343)) (fun _ hk => hk.2) (.slice Ao27 t344.length co27)) (fun _ hk => hk.2) (.slice Ao28 t347.length co28)) (fun _ hk => hk.2) (.slice Ao29 t350.length co29)) (fun _ hk => hk.2) (.int .i64 t353)) (fun _ hk => hk.2) (.int .i64 t354)) (fun _ hk => hk.2) (.int .i64 t355)) (fun _ h_ => h_.1)))); (case side4 => exact (Kd.R_reads' HO349.out).2.1); (case side5 => refine (Kd.R_reads' (e := 5) (base := w.heap.size) (ok := fun k_ => (((((some k_ ≠ (.slice Ao27 t344.length co27 : Value).ownBlock ∧ some k_ ≠ (.slice Ao28 t347.length co28 : Value).ownBlock) ∧ some k_ ≠ (.slice Ao18 t326.length co18 : Value).ownBlock) ∧ some k_ ≠ (.slice Ao19 t329.length co19 : Value).ownBlock) ∧ some k_ ≠ (.slice Ao20 t332.length co20 : Value).ownBlock) ∧ some k_ ≠ (v339 : Value).ownBlock)) (n := t350.length) (c := co29) ?_).2.2; exact (by (with_reducible repeat (first | apply Kd.R_alloc | apply Kd.R_drewN | apply Kd.R_drew)); exact (Kd.R_mono (Kd.R_far (p := ⟨gb356, 7, none⟩) (Kd.R_far (p := ⟨gb356, 6, none⟩) (Kd.R_far (p := ⟨gb356, 5, none⟩) (Kd.R_far (p := ⟨gb356, 4, none⟩) (Kd.R_far (p := ⟨gb356, 3, none⟩) (Kd.R_far (p := ⟨gb356, 2, none⟩) (Kd.R_far (p := ⟨gb356, 1, none⟩) (Kd.R_far (p := ⟨gb356, 0, none⟩) (Kd.R_types HO352.out BK356.out (by decide)) (fun _ hk => hk.2) (.int .i64 t342)) (fun _ hk => hk.2) (.int .i64 t343)) (fun _ hk => hk.2) (.slice Ao27 t344.length co27)) (fun _ hk => hk.2) (.slice Ao28 t347.length co28)) (fun _ hk => hk.2) (.slice Ao29 t350.length co29)) (fun _ hk => hk.2) (.int .i64 t353)) (fun _ hk => hk.2) (.int .i64 t354)) (fun _ hk => hk.2) (.int .i64 t355)) (fun _ h_ => h_.1)))); (case side6 => exact (Kd.R_reads' HO352.out).2.1); rintro e w30 ⟨v358, rfl, ho0, hb⟩; refine ⟨_, rfl, ?_⟩; have n0_ := Aside0.mk (Kd.R_elder' (by (with_reducible repeat (first | apply Kd.R_alloc | apply Kd.R_drewN | apply Kd.R_drew)); exact (Kd.R_mono (Kd.R_far (p := ⟨gb356, 7, none⟩) (Kd.R_far (p := ⟨gb356, 6, none⟩) (Kd.R_far (p := ⟨gb356, 5, none⟩) (Kd.R_far (p := ⟨gb356, 4, none⟩) (Kd.R_far (p := ⟨gb356, 3, none⟩) (Kd.R_far (p := ⟨gb356, 2, none⟩) (Kd.R_far (p := ⟨gb356, 1, none⟩) (Kd.R_far (p := ⟨gb356, 0, none⟩) (Kd.R_types HO328.out BK356.out (by decide)) (fun _ hk => hk.2) (.int .i64 t342)) (fun _ hk => hk.2) (.int .i64 t343)) (fun _ hk => hk.2) (.slice Ao27 t344.length co27)) (fun _ hk => hk.2) (.slice Ao28 t347.length co28)) (fun _ hk => hk.2) (.slice Ao29 t350.length co29)) (fun _ hk => hk.2) (.int .i64 t353)) (fun _ hk => hk.2) (.int .i64 t354)) (fun _ hk => hk.2) (.int .i64 t355)) (fun _ h_ => h_.1))) (Kd.R_base ho0) hb); have n1_ := Aside0.mk (Kd.R_elder' (by (with_reducible repeat (first | apply Kd.R_alloc | apply Kd.R_drewN | apply Kd.R_drew)); exact (Kd.R_mono (Kd.R_far (p := ⟨gb356, 7, none⟩) (Kd.R_far (p := ⟨gb356, 6, none⟩) (Kd.R_far (p := ⟨gb356, 5, none⟩) (Kd.R_far (p := ⟨gb356, 4, none⟩) (Kd.R_far (p := ⟨gb356, 3, none⟩) (Kd.R_far (p := ⟨gb356, 2, none⟩) (Kd.R_far (p := ⟨gb356, 1, none⟩) (Kd.R_far (p := ⟨gb356, 0, none⟩) (Kd.R_types HO331.out BK356.out (by decide)) (fun _ hk => hk.2) (.int .i64 t342)) (fun _ hk => hk.2) (.int .i64 t343)) (fun _ hk => hk.2) (.slice Ao27 t344.length co27)) (fun _ hk => hk.2) (.slice Ao28 t347.length co28)) (fun _ hk => hk.2) (.slice Ao29 t350.length co29)) (fun _ hk => hk.2) (.int .i64 t353)) (fun _ hk => hk.2) (.int .i64 t354)) (fun _ hk => hk.2) (.int .i64 t355)) (fun _ h_ => h_.1))) (Kd.R_base ho0) hb); have n2_ := Aside0.mk (Kd.R_elder' (by (with_reducible repeat (first | apply Kd.R_alloc | apply Kd.R_drewN | apply Kd.R_drew)); exact (Kd.R_mono (Kd.R_far (p := ⟨gb356, 7, none⟩) (Kd.R_far (p := ⟨gb356, 6, none⟩) (Kd.R_far (p := ⟨gb356, 5, none⟩) (Kd.R_far (p := ⟨gb356, 4, none⟩) (Kd.R_far (p := ⟨gb356, 3, none⟩) (Kd.R_far (p := ⟨gb356, 2, none⟩) (Kd.R_far (p := ⟨gb356, 1, none⟩) (Kd.R_far (p := ⟨gb356, 0, none⟩) (Kd.R_types HO334.out BK356.out (by decide)) (fun _ hk => hk.2) (.int .i64 t342)) (fun _ hk => hk.2) (.int .i64 t343)) (fun _ hk => hk.2) (.slice Ao27 t344.length co27)) (fun _ hk => hk.2) (.slice Ao28 t347.length co28)) (fun _ hk => hk.2) (.slice Ao29 t350.length co29)) (fun _ hk => hk.2) (.int .i64 t353)) (fun _ hk => hk.2) (.int .i64 t354)) (fun _ hk => hk.2) (.int .i64 t355)) (fun _ h_ => h_.1))) (Kd.R_base ho0) hb); have n3_ := Aside0.mk (Kd.R_elder' (by (with_reducible repeat (first | apply Kd.R_alloc | apply Kd.R_drewN | apply Kd.R_drew)); exact (Kd.R_mono (Kd.R_far (p := ⟨gb356, 7, none⟩) (Kd.R_far (p := ⟨gb356, 6, none⟩) (Kd.R_far (p := ⟨gb356, 5, none⟩) (Kd.R_far (p := ⟨gb356, 4, none⟩) (Kd.R_far (p := ⟨gb356, 3, none⟩) (Kd.R_far (p := ⟨gb356, 2, none⟩) (Kd.R_far (p := ⟨gb356, 1, none⟩) (Kd.R_far (p := ⟨gb356, 0, none⟩) (Kd.R_types HO340.out BK356.out (by decide)) (fun _ hk => hk.2) (.int .i64 t342)) (fun _ hk => hk.2) (.int .i64 t343)) (fun _ hk => hk.2) (.slice Ao27 t344.length co27)) (fun _ hk => hk.2) (.slice Ao28 t347.length co28)) (fun _ hk => hk.2) (.slice Ao29 t350.length co29)) (fun _ hk => hk.2) (.int .i64 t353)) (fun _ hk => hk.2) (.int .i64 t354)) (fun _ hk => hk.2) (.int .i64 t355)) (fun _ h_ => h_.1))) (Kd.R_base ho0) hb); have n4_ := Aside0.mk (Kd.R_elder' (by (with_reducible repeat (first | apply Kd.R_alloc | apply Kd.R_drewN | apply Kd.R_drew)); exact (Kd.R_mono (Kd.R_far (p := ⟨gb356, 7, none⟩) (Kd.R_far (p := ⟨gb356, 6, none⟩) (Kd.R_far (p := ⟨gb356, 5, none⟩) (Kd.R_far (p := ⟨gb356, 4, none⟩) (Kd.R_far (p := ⟨gb356, 3, none⟩) (Kd.R_far (p := ⟨gb356, 2, none⟩) (Kd.R_far (p := ⟨gb356, 1, none⟩) (Kd.R_far (p := ⟨gb356, 0, none⟩) (Kd.R_types HO346.out BK356.out (by decide)) (fun _ hk => hk.2) (.int .i64 t342)) (fun _ hk => hk.2) (.int .i64 t343)) (fun _ hk => hk.2) (.slice Ao27 t344.length co27)) (fun _ hk => hk.2) (.slice Ao28 t347.length co28)) (fun _ hk => hk.2) (.slice Ao29 t350.length co29)) (fun _ hk => hk.2) (.int .i64 t353)) (fun _ hk => hk.2) (.int .i64 t354)) (fun _ hk => hk.2) (.int .i64 t355)) (fun _ h_ => h_.1))) (Kd.R_base ho0) hb); have n5_ := Aside0.mk (Kd.R_elder' (by (with_reducible repeat (first | apply Kd.R_alloc | apply Kd.R_drewN | apply Kd.R_drew)); exact (Kd.R_mono (Kd.R_far (p := ⟨gb356, 7, none⟩) (Kd.R_far (p := ⟨gb356, 6, none⟩) (Kd.R_far (p := ⟨gb356, 5, none⟩) (Kd.R_far (p := ⟨gb356, 4, none⟩) (Kd.R_far (p := ⟨gb356, 3, none⟩) (Kd.R_far (p := ⟨gb356, 2, none⟩) (Kd.R_far (p := ⟨gb356, 1, none⟩) (Kd.R_far (p := ⟨gb356, 0, none⟩) (Kd.R_types HO349.out BK356.out (by decide)) (fun _ hk => hk.2) (.int .i64 t342)) (fun _ hk => hk.2) (.int .i64 t343)) (fun _ hk => hk.2) (.slice Ao27 t344.length co27)) (fun _ hk => hk.2) (.slice Ao28 t347.length co28)) (fun _ hk => hk.2) (.slice Ao29 t350.length co29)) (fun _ hk => hk.2) (.int .i64 t353)) (fun _ hk => hk.2) (.int .i64 t354)) (fun _ hk => hk.2) (.int .i64 t355)) (fun _ h_ => h_.1))) (Kd.R_base ho0) hb); have n6_ := Aside0.mk (Kd.R_elder' (by (with_reducible repeat (first | apply Kd.R_alloc | apply Kd.R_drewN | apply Kd.R_drew)); exact (Kd.R_mono (Kd.R_far (p := ⟨gb356, 7, none⟩) (Kd.R_far (p := ⟨gb356, 6, none⟩) (Kd.R_far (p := ⟨gb356, 5, none⟩) (Kd.R_far (p := ⟨gb356, 4, none⟩) (Kd.R_far (p := ⟨gb356, 3, none⟩) (Kd.R_far (p := ⟨gb356, 2, none⟩) (Kd.R_far (p := ⟨gb356, 1, none⟩) (Kd.R_far (p := ⟨gb356, 0, none⟩) (Kd.R_types HO352.out BK356.out (by decide)) (fun _ hk => hk.2) (.int .i64 t342)) (fun _ hk => hk.2) (.int .i64 t343)) (fun _ hk => hk.2) (.slice Ao27 t344.length co27)) (fun _ hk => hk.2) (.slice Ao28 t347.length co28)) (fun _ hk => hk.2) (.slice Ao29 t350.length co29)) (fun _ hk => hk.2) (.int .i64 t353)) (fun _ hk => hk.2) (.int .i64 t354)) (fun _ hk => hk.2) (.int .i64 t355)) (fun _ h_ => h_.1))) (Kd.R_base ho0) hb); have n7_ := Aside0.mk (Kd.R_lower (Kd.R_new' (Kd.R_new' (Kd.R_new' (Kd.R_new' (Kd.R_new' (Kd.R_new' (Kd.R_new' ho0 (Kd.R_lt (by (with_reducible repeat (first | apply Kd.R_alloc | apply Kd.R_drewN | apply Kd.R_drew)); exact (Kd.R_mono (Kd.R_far (p := ⟨gb356, 7, none⟩) (Kd.R_far (p := ⟨gb356, 6, none⟩) (Kd.R_far (p := ⟨gb356, 5, none⟩) (Kd.R_far (p := ⟨gb356, 4, none⟩) (Kd.R_far (p := ⟨gb356, 3, none⟩) (Kd.R_far (p := ⟨gb356, 2, none⟩) (Kd.R_far (p := ⟨gb356, 1, none⟩) (Kd.R_far (p := ⟨gb356, 0, none⟩) (Kd.R_types HO328.out BK356.out (by decide)) (fun _ hk => hk.2) (.int .i64 t342)) (fun _ hk => hk.2) (.int .i64 t343)) (fun _ hk => hk.2) (.slice Ao27 t344.length co27)) (fun _ hk => hk.2) (.slice Ao28 t347.length co28)) (fun _ hk => hk.2) (.slice Ao29 t350.length co29)) (fun _ hk => hk.2) (.int .i64 t353)) (fun _ hk => hk.2) (.int .i64 t354)) (fun _ hk => hk.2) (.int .i64 t355)) (fun _ h_ => h_.1))))) (Kd.R_lt (by (with_reducible repeat (first | apply Kd.R_alloc | apply Kd.R_drewN | apply Kd.R_drew)); exact (Kd.R_mono (Kd.R_far (p := ⟨gb356, 7, none⟩) (Kd.R_far (p := ⟨gb356, 6, none⟩) (Kd.R_far (p := ⟨gb356, 5, none⟩) (Kd.R_far (p := ⟨gb356, 4, none⟩) (Kd.R_far (p := ⟨gb356, 3, none⟩) (Kd.R_far (p := ⟨gb356, 2, none⟩) (Kd.R_far (p := ⟨gb356, 1, none⟩) (Kd.R_far (p := ⟨gb356, 0, none⟩) (Kd.R_types HO331.out BK356.out (by decide)) (fun _ hk => hk.2) (.int .i64 t342)) (fun _ hk => hk.2) (.int .i64 t343)) (fun _ hk => hk.2) (.slice Ao27 t344.length co27)) (fun _ hk => hk.2) (.slice Ao28 t347.length co28)) (fun _ hk => hk.2) (.slice Ao29 t350.length co29)) (fun _ hk => hk.2) (.int .i64 t353)) (fun _ hk => hk.2) (.int .i64 t354)) (fun _ hk => hk.2) (.int .i64 t355)) (fun _ h_ => h_.1))))) (Kd.R_lt (by (with_reducible repeat (first | apply Kd.R_alloc | apply Kd.R_drewN | apply Kd.R_drew)); exact (Kd.R_mono (Kd.R_far (p := ⟨gb356, 7, none⟩) (Kd.R_far (p := ⟨gb356, 6, none⟩) (Kd.R_far (p := ⟨gb356, 5, none⟩) (Kd.R_far (p := ⟨gb356, 4, none⟩) (Kd.R_far (p := ⟨gb356, 3, none⟩) (Kd.R_far (p := ⟨gb356, 2, none⟩) (Kd.R_far (p := ⟨gb356, 1, none⟩) (Kd.R_far (p := ⟨gb356, 0, none⟩) (Kd.R_types HO334.out BK356.out (by decide)) (fun _ hk => hk.2) (.int .i64 t342)) (fun _ hk => hk.2) (.int .i64 t343)) (fun _ hk => hk.2) (.slice Ao27 t344.length co27)) (fun _ hk => hk.2) (.slice Ao28 t347.length co28)) (fun _ hk => hk.2) (.slice Ao29 t350.length co29)) (fun _ hk => hk.2) (.int .i64 t353)) (fun _ hk => hk.2) (.int .i64 t354)) (fun _ hk => hk.2) (.int .i64 t355)) (fun _ h_ => h_.1))))) (Kd.R_lt (by (with_reducible repeat (first | apply Kd.R_alloc | apply Kd.R_drewN | apply Kd.R_drew)); exact (Kd.R_mono (Kd.R_far (p := ⟨gb356, 7, none⟩) (Kd.R_far (p := ⟨gb356, 6, none⟩) (Kd.R_far (p := ⟨gb356, 5, none⟩) (Kd.R_far (p := ⟨gb356, 4, none⟩) (Kd.R_far (p := ⟨gb356, 3, none⟩) (Kd.R_far (p := ⟨gb356, 2, none⟩) (Kd.R_far (p := ⟨gb356, 1, none⟩) (Kd.R_far (p := ⟨gb356, 0, none⟩) (Kd.R_types HO340.out BK356.out (by decide)) (fun _ hk => hk.2) (.int .i64 t342)) (fun _ hk => hk.2) (.int .i64 t343)) (fun _ hk => hk.2) (.slice Ao27 t344.length co27)) (fun _ hk => hk.2) (.slice Ao28 t347.length co28)) (fun _ hk => hk.2) (.slice Ao29 t350.length co29)) (fun _ hk => hk.2) (.int .i64 t353)) (fun _ hk => hk.2) (.int .i64 t354)) (fun _ hk => hk.2) (.int .i64 t355)) (fun _ h_ => h_.1))))) (Kd.R_lt (by (with_reducible repeat (first | apply Kd.R_alloc | apply Kd.R_drewN | apply Kd.R_drew)); exact (Kd.R_mono (Kd.R_far (p := ⟨gb356, 7, none⟩) (Kd.R_far (p := ⟨gb356, 6, none⟩) (Kd.R_far (p := ⟨gb356, 5, none⟩) (Kd.R_far (p := ⟨gb356, 4, none⟩) (Kd.R_far (p := ⟨gb356, 3, none⟩) (Kd.R_far (p := ⟨gb356, 2, none⟩) (Kd.R_far (p := ⟨gb356, 1, none⟩) (Kd.R_far (p := ⟨gb356, 0, none⟩) (Kd.R_types HO346.out BK356.out (by decide)) (fun _ hk => hk.2) (.int .i64 t342)) (fun _ hk => hk.2) (.int .i64 t343)) (fun _ hk => hk.2) (.slice Ao27 t344.length co27)) (fun _ hk => hk.2) (.slice Ao28 t347.length co28)) (fun _ hk => hk.2) (.slice Ao29 t350.length co29)) (fun _ hk => hk.2) (.int .i64 t353)) (fun _ hk => hk.2) (.int .i64 t354)) (fun _ hk => hk.2) (.int .i64 t355)) (fun _ h_ => h_.1))))) (Kd.R_lt (by (with_reducible repeat (first | apply Kd.R_alloc | apply Kd.R_drewN | apply Kd.R_drew)); exact (Kd.R_mono (Kd.R_far (p := ⟨gb356, 7, none⟩) (Kd.R_far (p := ⟨gb356, 6, none⟩) (Kd.R_far (p := ⟨gb356, 5, none⟩) (Kd.R_far (p := ⟨gb356, 4, none⟩) (Kd.R_far (p := ⟨gb356, 3, none⟩) (Kd.R_far (p := ⟨gb356, 2, none⟩) (Kd.R_far (p := ⟨gb356, 1, none⟩) (Kd.R_far (p := ⟨gb356, 0, none⟩) (Kd.R_types HO349.out BK356.out (by decide)) (fun _ hk => hk.2) (.int .i64 t342)) (fun _ hk => hk.2) (.int .i64 t343)) (fun _ hk => hk.2) (.slice Ao27 t344.length co27)) (fun _ hk => hk.2) (.slice Ao28 t347.length co28)) (fun _ hk => hk.2) (.slice Ao29 t350.length co29)) (fun _ hk => hk.2) (.int .i64 t353)) (fun _ hk => hk.2) (.int .i64 t354)) (fun _ hk => hk.2) (.int .i64 t355)) (fun _ h_ => h_.1))))) (Kd.R_lt (by (with_reducible repeat (first | apply Kd.R_alloc | apply Kd.R_drewN | apply Kd.R_drew)); exact (Kd.R_mono (Kd.R_far (p := ⟨gb356, 7, none⟩) (Kd.R_far (p := ⟨gb356, 6, none⟩) (Kd.R_far (p := ⟨gb356, 5, none⟩) (Kd.R_far (p := ⟨gb356, 4, none⟩) (Kd.R_far (p := ⟨gb356, 3, none⟩) (Kd.R_far (p := ⟨gb356, 2, none⟩) (Kd.R_far (p := ⟨gb356, 1, none⟩) (Kd.R_far (p := ⟨gb356, 0, none⟩) (Kd.R_types HO352.out BK356.out (by decide)) (fun _ hk => hk.2) (.int .i64 t342)) (fun _ hk => hk.2) (.int .i64 t343)) (fun _ hk => hk.2) (.slice Ao27 t344.length co27)) (fun _ hk => hk.2) (.slice Ao28 t347.length co28)) (fun _ hk => hk.2) (.slice Ao29 t350.length co29)) (fun _ hk => hk.2) (.int .i64 t353)) (fun _ hk => hk.2) (.int .i64 t354)) (fun _ hk => hk.2) (.int .i64 t355)) (fun _ h_ => h_.1))))) (below_size (by repeat (first | (with_reducible first | exact HB.out | apply below_alloc | apply pw_below_drewN | apply below_drew1 | refine below_set ?_ GE322.out | refine below_set ?_ GE356.out) | exact HB.out)))); have n8_ := Aside0.mk (blk_below (g := gb322) (o := .cells #[.int .i64 a0_0, .int .i64 a0_1, .slice A0_2 l0_2.length c0_2, .slice A0_3 l0_3.length c0_3, .slice A0_4 l0_4.length c0_4, .int .i64 a0_5, .int .i64 a0_6, .int .i64 a0_7] 39 (0, 0)) (by (with_reducible repeat (first | refine blk_drewN ?_ _ | refine blk_drew ?_ | refine blk_alloc ?_ _)); refine blk_far ?_ NB322_356.out _; (with_reducible repeat (first | refine blk_drewN ?_ _ | refine blk_drew ?_ | refine blk_alloc ?_ _)); refine blk_far ?_ NB322_356.out _; (with_reducible repeat (first | refine blk_drewN ?_ _ | refine blk_drew ?_ | refine blk_alloc ?_ _)); refine blk_far ?_ NB322_356.out _; (with_reducible repeat (first | refine blk_drewN ?_ _ | refine blk_drew ?_ | refine blk_alloc ?_ _)); refine blk_far ?_ NB322_356.out _; (with_reducible repeat (first | refine blk_drewN ?_ _ | refine blk_drew ?_ | refine blk_alloc ?_ _)); refine blk_far ?_ NB322_356.out _; (with_reducible repeat (first | refine blk_drewN ?_ _ | refine blk_drew ?_ | refine blk_alloc ?_ _)); refine blk_far ?_ NB322_356.out _; (with_reducible repeat (first | refine blk_drewN ?_ _ | refine blk_drew ?_ | refine blk_alloc ?_ _)); refine blk_far ?_ NB322_356.out _; (with_reducible repeat (first | refine blk_drewN ?_ _ | refine blk_drew ?_ | refine blk_alloc ?_ _)); refine blk_far ?_ NB322_356.out _; (with_reducible repeat (first | refine blk_drewN ?_ _ | refine blk_drew ?_ | refine blk_alloc ?_ _)); exact BK322.out) hb); have n9_ := Aside0.mk (blk_below (g := gb356) (o := .cells #[.int .i64 t342, .int .i64 t343, .slice Ao27 t344.length co27, .slice Ao28 t347.length co28, .slice Ao29 t350.length co29, .int .i64 t353, .int .i64 t354, .int .i64 t355] 42 (0, 0)) (by (with_reducible repeat (first | refine blk_drewN ?_ _ | refine blk_drew ?_ | refine blk_alloc ?_ _)); refine blk_put (cs := #[.int .i64 t342, .int .i64 t343, .slice Ao27 t344.length co27, .slice Ao28 t347.length co28, .slice Ao29 t350.length co29, .int .i64 t353, .int .i64 t354, .int .i64 0]) ?_ 7 _ rfl; (with_reducible repeat (first | refine blk_drewN ?_ _ | refine blk_drew ?_ | refine blk_alloc ?_ _)); refine blk_put (cs := #[.int .i64 t342, .int .i64 t343, .slice Ao27 t344.length co27, .slice Ao28 t347.length co28, .slice Ao29 t350.length co29, .int .i64 t353, .int .i64 0, .int .i64 0]) ?_ 6 _ rfl; (with_reducible repeat (first | refine blk_drewN ?_ _ | refine blk_drew ?_ | refine blk_alloc ?_ _)); refine blk_put (cs := #[.int .i64 t342, .int .i64 t343, .slice Ao27 t344.length co27, .slice Ao28 t347.length co28, .slice Ao29 t350.length co29, .int .i64 0, .int .i64 0, .int .i64 0]) ?_ 5 _ rfl; (with_reducible repeat (first | refine blk_drewN ?_ _ | refine blk_drew ?_ | refine blk_alloc ?_ _)); refine blk_put (cs := #[.int .i64 t342, .int .i64 t343, .slice Ao27 t344.length co27, .slice Ao28 t347.length co28, .slice none 0 0, .int .i64 0, .int .i64 0, .int .i64 0]) ?_ 4 _ rfl; (with_reducible repeat (first | refine blk_drewN ?_ _ | refine blk_drew ?_ | refine blk_alloc ?_ _)); refine blk_put (cs := #[.int .i64 t342, .int .i64 t343, .slice Ao27 t344.length co27, .slice none 0 0, .slice none 0 0, .int .i64 0, .int .i64 0, .int .i64 0]) ?_ 3 _ rfl; (with_reducible repeat (first | refine blk_drewN ?_ _ | refine blk_drew ?_ | refine blk_alloc ?_ _)); refine blk_put (cs := #[.int .i64 t342, .int .i64 t343, .slice none 0 0, .slice none 0 0, .slice none 0 0, .int .i64 0, .int .i64 0, .int .i64 0]) ?_ 2 _ rfl; (with_reducible repeat (first | refine blk_drewN ?_ _ | refine blk_drew ?_ | refine blk_alloc ?_ _)); refine blk_put (cs := #[.int .i64 t342, .int .i64 0, .slice none 0 0, .slice none 0 0, .slice none 0 0, .int .i64 0, .int .i64 0, .int .i64 0]) ?_ 1 _ rfl; (with_reducible repeat (first | refine blk_drewN ?_ _ | refine blk_drew ?_ | refine blk_alloc ?_ _)); refine blk_put (cs := #[.int .i64 0, .int .i64 0, .slice none 0 0, .slice none 0 0, .slice none 0 0, .int .i64 0, .int .i64 0, .int .i64 0]) ?_ 0 _ rfl; (with_reducible repeat (first | refine blk_drewN ?_ _ | refine blk_drew ?_ | refine blk_alloc ?_ _)); exact BK356.out) hb); have n10_ := Aside0.mk (below_step (by repeat (first | (with_reducible first | exact HB.out | apply below_alloc | apply pw_below_drewN | apply below_drew1 | refine below_set ?_ GE322.out | refine below_set ?_ GE356.out) | exact HB.out)) hb); clear HO328; clear HO331; clear HO334; clear HO340; clear HO346; clear HO349; clear HO352; clear BK322; clear BK356; clear HB; have HO328 := n0_; have HO331 := n1_; have HO334 := n2_; have HO340 := n3_; have HO346 := n4_; have HO349 := n5_; have HO352 := n6_; have HO359 := n7_; have BK322 := n8_; have BK356 := n9_; have HB := n10_; clear n0_ n1_ n2_ n3_ n4_ n5_ n6_ n7_ n8_ n9_ n10_; (try clear hb); (try clear hb2); (try clear hk); (try clear hi); (try clear ho0)))
  (try simp only [Act.put, List.setIfInBounds_toArray, List.set_cons_zero, List.set_cons_succ])
  go_cut [44] (fun v44 wc => ∃ (kq : Nat) (x44_11 : Bool), v44 = .bool x44_11 ∧ Aside0 (laws_FnExactHeadBytes.j0 kq a1 t338 t341 t357 t360 x44_11 a0_0 a0_1 l0_2 l0_3 l0_4 a0_5 a0_6 a0_7 t342 t343 t344 t347 t350 t353 t354 t355 = some true) ∧ Aside0 (kq ≤ k) ∧ Aside0 (Kd.R (Kd.int .u8) 5 wc w.heap.size (fun k_ => some k_ ≠ (v358 : Value).ownBlock ∧ some k_ ≠ ((.slice Ao27 t344.length co27) : Value).ownBlock ∧ some k_ ≠ ((.slice Ao28 t347.length co28) : Value).ownBlock ∧ some k_ ≠ ((.slice Ao29 t350.length co29) : Value).ownBlock) v339 t338) ∧ Aside0 (Kd.R (Kd.int .u8) 5 wc w.heap.size (fun k_ => some k_ ≠ (v339 : Value).ownBlock ∧ some k_ ≠ ((.slice Ao27 t344.length co27) : Value).ownBlock ∧ some k_ ≠ ((.slice Ao28 t347.length co28) : Value).ownBlock ∧ some k_ ≠ ((.slice Ao29 t350.length co29) : Value).ownBlock) v358 t357) ∧ Aside0 (Kd.R (Kd.int .u8) 5 wc w.heap.size (fun k_ => some k_ ≠ (v339 : Value).ownBlock ∧ some k_ ≠ (v358 : Value).ownBlock ∧ some k_ ≠ ((.slice Ao28 t347.length co28) : Value).ownBlock ∧ some k_ ≠ ((.slice Ao29 t350.length co29) : Value).ownBlock) (.slice Ao27 t344.length co27) t344) ∧ Aside0 (Kd.R (Kd.int .u8) 5 wc w.heap.size (fun k_ => some k_ ≠ (v339 : Value).ownBlock ∧ some k_ ≠ (v358 : Value).ownBlock ∧ some k_ ≠ ((.slice Ao27 t344.length co27) : Value).ownBlock ∧ some k_ ≠ ((.slice Ao29 t350.length co29) : Value).ownBlock) (.slice Ao28 t347.length co28) t347) ∧ Aside0 (Kd.R (Kd.int .u8) 5 wc w.heap.size (fun k_ => some k_ ≠ (v339 : Value).ownBlock ∧ some k_ ≠ (v358 : Value).ownBlock ∧ some k_ ≠ ((.slice Ao27 t344.length co27) : Value).ownBlock ∧ some k_ ≠ ((.slice Ao28 t347.length co28) : Value).ownBlock) (.slice Ao29 t350.length co29) t350) ∧ Aside0 (wc.heap[gb322]? = some (.cells #[.int .i64 a0_0, .int .i64 a0_1, (.slice A0_2 l0_2.length c0_2), (.slice A0_3 l0_3.length c0_3), (.slice A0_4 l0_4.length c0_4), .int .i64 a0_5, .int .i64 a0_6, .int .i64 a0_7] 39 (0, 0))) ∧ Aside0 (wc.heap[gb356]? = some (.cells #[.int .i64 t342, .int .i64 t343, (.slice Ao27 t344.length co27), (.slice Ao28 t347.length co28), (.slice Ao29 t350.length co29), .int .i64 t353, .int .i64 t354, .int .i64 t355] 42 (0, 0))) ∧ Aside0 (Below w.heap.size w wc))
  case first =>
   have H := HC12.out
   clear HC12
   replace H := Option.bind_eq_some_iff.mp H
   obtain ⟨t361, A310, H⟩ := H
   replace H : (if t361 = true then (laws_FnExactHeadBytes.j0 k a1 t338 t341 t357 t360 (t360 != t341) a0_0 a0_1 l0_2 l0_3 l0_4 a0_5 a0_6 a0_7 t342 t343 t344 t347 t350 t353 t354 t355) else (laws_FnExactHeadBytes.j0 k a1 t338 t341 t357 t360 true a0_0 a0_1 l0_2 l0_3 l0_4 a0_5 a0_6 a0_7 t342 t343 t344 t347 t350 t353 t354 t355)) = some true := H
   have A31 := Aside0.mk A310
   clear A310
   by_cases c32 : t361 = true
   ·subst c32
    have H1 : (laws_FnExactHeadBytes.j0 k a1 t338 t341 t357 t360 (t360 != t341) a0_0 a0_1 l0_2 l0_3 l0_4 a0_5 a0_6 a0_7 t342 t343 t344 t347 t350 t353 t354 t355) = some true := by rw [if_pos rfl] at H; exact H
    clear H
    have H := H1
    clear H1
    have H' := Aside0.mk H
    clear H
    obtain ⟨Ao33, co33, eo33⟩ := Kd.R_slice HO359.out
    subst eo33
    obtain ⟨Ao34, co34, eo34⟩ := Kd.R_slice HO340.out
    subst eo34
    go_wp2_with (first | ((with_reducible refine gate_callee (f := 16) rfl ?_); refine goesL_ (some 38) rfl rfl Try.func16 (by kernel_rfl) rfl #[.slice Ao33 t357.length co33, .slice Ao34 t338.length co34] rfl (by (try simp only [List.map_toArray, List.map_cons, List.map_nil]); first | done | rfl | (simp only [List.length_drop, List.length_take]; rfl)) ?_; (with_reducible refine (laws_eqByteS.calls k _ _ t357 _ _ t338 true _ ?side1 ?side2 ?side3 ?side4 A31.out).mono ?_); (case side1 => repeat (first | exact (Kd.R_reads' HO359.out).2.2 | (with_reducible refine Kd.C_alloc ?_ _) | (with_reducible refine Kd.C_drewN ?_ _) | (with_reducible refine Kd.C_drew ?_))); (case side2 => exact (Kd.R_reads' HO359.out).2.1); (case side3 => repeat (first | exact (Kd.R_reads' HO340.out).2.2 | (with_reducible refine Kd.C_alloc ?_ _) | (with_reducible refine Kd.C_drewN ?_ _) | (with_reducible refine Kd.C_drew ?_))); (case side4 => exact (Kd.R_reads' HO340.out).2.1); rintro e w' ⟨rfl, ⟨nd, rfl⟩⟩; refine ⟨_, rfl, ?_⟩))
    go_meet
    case rel => exact ⟨_, ((t360 != t341)), (by first | rfl | (simp; done) | (simp [*]; done)), H', ⟨by first | omega | exact Nat.le_refl _⟩, ⟨by (with_reducible repeat (first | apply Kd.R_alloc | apply Kd.R_drewN | apply Kd.R_drew)); exact Kd.R_mono HO340.out (fun _ hk => ⟨hk.2, ⟨hk.1.1.1.2, ⟨hk.1.1.2, hk.1.2⟩⟩⟩)⟩, ⟨by (with_reducible repeat (first | apply Kd.R_alloc | apply Kd.R_drewN | apply Kd.R_drew)); exact Kd.R_mono HO359.out (fun _ hk => ⟨hk.1.1.1.2, ⟨hk.1.1.2, ⟨hk.1.2, hk.2⟩⟩⟩)⟩, ⟨by (with_reducible repeat (first | apply Kd.R_alloc | apply Kd.R_drewN | apply Kd.R_drew)); exact Kd.R_mono HO346.out (fun _ hk => ⟨hk.1.2, ⟨hk.2, ⟨hk.1.1.1.1.1.1, hk.1.1.1.1.1.2⟩⟩⟩)⟩, ⟨by (with_reducible repeat (first | apply Kd.R_alloc | apply Kd.R_drewN | apply Kd.R_drew)); exact Kd.R_mono HO349.out (fun _ hk => ⟨hk.1.2, ⟨hk.2, ⟨hk.1.1.1.1.1.1, hk.1.1.1.1.1.2⟩⟩⟩)⟩, ⟨by (with_reducible repeat (first | apply Kd.R_alloc | apply Kd.R_drewN | apply Kd.R_drew)); exact Kd.R_mono HO352.out (fun _ hk => ⟨hk.1.2, ⟨hk.2, ⟨hk.1.1.1.1.1.1, hk.1.1.1.1.1.2⟩⟩⟩)⟩, ⟨by (with_reducible repeat (first | refine blk_drewN ?_ _ | refine blk_drew ?_ | refine blk_alloc ?_ _)); exact BK322.out⟩, ⟨by (with_reducible repeat (first | refine blk_drewN ?_ _ | refine blk_drew ?_ | refine blk_alloc ?_ _)); exact BK356.out⟩, ⟨by repeat (first | (with_reducible first | exact HB.out | apply below_alloc | apply pw_below_drewN | apply below_drew1 | refine below_set ?_ GE322.out | refine below_set ?_ GE356.out) | exact HB.out)⟩⟩
   ·replace c32 := Bool.eq_false_iff.mpr c32
    subst c32
    have H1 : (laws_FnExactHeadBytes.j0 k a1 t338 t341 t357 t360 true a0_0 a0_1 l0_2 l0_3 l0_4 a0_5 a0_6 a0_7 t342 t343 t344 t347 t350 t353 t354 t355) = some true := by rw [if_neg (show ¬ (false = true) by decide)] at H; exact H
    clear H
    have H := H1
    clear H1
    have H' := Aside0.mk H
    clear H
    obtain ⟨Ao35, co35, eo35⟩ := Kd.R_slice HO359.out
    subst eo35
    obtain ⟨Ao36, co36, eo36⟩ := Kd.R_slice HO340.out
    subst eo36
    go_wp2_with (first | ((with_reducible refine gate_callee (f := 16) rfl ?_); refine goesL_ (some 38) rfl rfl Try.func16 (by kernel_rfl) rfl #[.slice Ao35 t357.length co35, .slice Ao36 t338.length co36] rfl (by (try simp only [List.map_toArray, List.map_cons, List.map_nil]); first | done | rfl | (simp only [List.length_drop, List.length_take]; rfl)) ?_; (with_reducible refine (laws_eqByteS.calls k _ _ t357 _ _ t338 false _ ?side1 ?side2 ?side3 ?side4 A31.out).mono ?_); (case side1 => repeat (first | exact (Kd.R_reads' HO359.out).2.2 | (with_reducible refine Kd.C_alloc ?_ _) | (with_reducible refine Kd.C_drewN ?_ _) | (with_reducible refine Kd.C_drew ?_))); (case side2 => exact (Kd.R_reads' HO359.out).2.1); (case side3 => repeat (first | exact (Kd.R_reads' HO340.out).2.2 | (with_reducible refine Kd.C_alloc ?_ _) | (with_reducible refine Kd.C_drewN ?_ _) | (with_reducible refine Kd.C_drew ?_))); (case side4 => exact (Kd.R_reads' HO340.out).2.1); rintro e w' ⟨rfl, ⟨nd, rfl⟩⟩; refine ⟨_, rfl, ?_⟩))
    go_meet
    case rel => exact ⟨_, (true), (by first | rfl | (simp; done) | (simp [*]; done)), H', ⟨by first | omega | exact Nat.le_refl _⟩, ⟨by (with_reducible repeat (first | apply Kd.R_alloc | apply Kd.R_drewN | apply Kd.R_drew)); exact Kd.R_mono HO340.out (fun _ hk => ⟨hk.2, ⟨hk.1.1.1.2, ⟨hk.1.1.2, hk.1.2⟩⟩⟩)⟩, ⟨by (with_reducible repeat (first | apply Kd.R_alloc | apply Kd.R_drewN | apply Kd.R_drew)); exact Kd.R_mono HO359.out (fun _ hk => ⟨hk.1.1.1.2, ⟨hk.1.1.2, ⟨hk.1.2, hk.2⟩⟩⟩)⟩, ⟨by (with_reducible repeat (first | apply Kd.R_alloc | apply Kd.R_drewN | apply Kd.R_drew)); exact Kd.R_mono HO346.out (fun _ hk => ⟨hk.1.2, ⟨hk.2, ⟨hk.1.1.1.1.1.1, hk.1.1.1.1.1.2⟩⟩⟩)⟩, ⟨by (with_reducible repeat (first | apply Kd.R_alloc | apply Kd.R_drewN | apply Kd.R_drew)); exact Kd.R_mono HO349.out (fun _ hk => ⟨hk.1.2, ⟨hk.2, ⟨hk.1.1.1.1.1.1, hk.1.1.1.1.1.2⟩⟩⟩)⟩, ⟨by (with_reducible repeat (first | apply Kd.R_alloc | apply Kd.R_drewN | apply Kd.R_drew)); exact Kd.R_mono HO352.out (fun _ hk => ⟨hk.1.2, ⟨hk.2, ⟨hk.1.1.1.1.1.1, hk.1.1.1.1.1.2⟩⟩⟩)⟩, ⟨by (with_reducible repeat (first | refine blk_drewN ?_ _ | refine blk_drew ?_ | refine blk_alloc ?_ _)); exact BK322.out⟩, ⟨by (with_reducible repeat (first | refine blk_drewN ?_ _ | refine blk_drew ?_ | refine blk_alloc ?_ _)); exact BK356.out⟩, ⟨by repeat (first | (with_reducible first | exact HB.out | apply below_alloc | apply pw_below_drewN | apply below_drew1 | refine below_set ?_ GE322.out | refine below_set ?_ GE356.out) | exact HB.out)⟩⟩
  case rest =>
   clear HC12
   try clear c1
   try clear c2
   try clear p2
   try clear c3
   try clear c4
   try clear c4b0
   try clear c6
   try clear c16
   try clear c25
   try clear c28
   try clear c29
   try clear c30
   try clear c31
   try clear c32
   try clear hcz14_0
   try clear hcz14_1
   try clear hcz14_2
   try clear hcz14_3
   try clear hcz14_4
   try clear hcz14_5
   try clear hcz14_6
   try clear hcz14_7
   try clear hcz16_0
   try clear hcz16_1
   try clear hcz16_2
   try clear hcz16_3
   try clear hcz16_4
   try clear hcz16_5
   try clear hcz16_6
   try clear hcz16_7
   try clear hcz22_0
   try clear hcz22_1
   try clear hcz22_2
   try clear hcz22_3
   try clear hcz22_4
   try clear hcz22_5
   try clear hcz22_6
   try clear hcz22_7
   try clear hcz26_0
   try clear hcz26_1
   try clear hcz26_2
   try clear hcz26_3
   try clear hcz26_4
   try clear hcz26_5
   try clear hcz26_6
   try clear hcz26_7
   try clear hcz6_0
   try clear hcz6_1
   try clear hcz6_2
   try clear hcz6_3
   try clear hcz6_4
   try clear hcz6_5
   try clear hcz6_6
   try clear hcz6_7
   try clear hfz14_0
   try clear hfz14_1
   try clear hfz14_2
   try clear hfz14_3
   try clear hfz14_4
   try clear hfz14_5
   try clear hfz14_6
   try clear hfz14_7
   try clear hfz16_0
   try clear hfz16_1
   try clear hfz16_2
   try clear hfz16_3
   try clear hfz16_4
   try clear hfz16_5
   try clear hfz16_6
   try clear hfz16_7
   try clear hfz22_0
   try clear hfz22_1
   try clear hfz22_2
   try clear hfz22_3
   try clear hfz22_4
   try clear hfz22_5
   try clear hfz22_6
   try clear hfz22_7
   try clear hfz26_0
   try clear hfz26_1
   try clear hfz26_2
   try clear hfz26_3
   try clear hfz26_4
   try clear hfz26_5
   try clear hfz26_6
   try clear hfz26_7
   try clear hfz6_0
   try clear hfz6_1
   try clear hfz6_2
   try clear hfz6_3
   try clear hfz6_4
   try clear hfz6_5
   try clear hfz6_6
   try clear hfz6_7
   obtain ⟨kq, x44_11, rfl, HA, HJ11, HO_6, HO_9, HO_357002, HO_357003, HO_357004, BK322, BK356, HB⟩ := hcut
   cases kq with
   | zero => exact absurd HA.out (by simp [laws_FnExactHeadBytes.j0])
   | succ kj11 =>
    have H := HA.out
    clear HA
    simp only [laws_FnExactHeadBytes.j0] at H
    by_cases c37 : x44_11 = true
    ·subst c37
     have H1 : (some false) = some true := by rw [if_pos rfl] at H; exact H
     exact absurd H1 (by simp)
    ·replace c37 := Bool.eq_false_iff.mpr c37
     subst c37
     have H1 : ((laws_toHeader.f kj11 a0_0 a0_1 l0_2 l0_3 l0_4 a0_5 a0_6 a0_7).bind fun bt362 => ((laws_eqHeader.f kj11 t342 t343 t344 t347 t350 t353 t354 t355 bt362.1 bt362.2.1 bt362.2.2.1 bt362.2.2.2.1 bt362.2.2.2.2.1 bt362.2.2.2.2.2.1 bt362.2.2.2.2.2.2.1 bt362.2.2.2.2.2.2.2).bind fun t376 => (if t376 = true then ((laws_markHeader.f kj11 t342 t343 t344 t347 t350 t353 t354 t355 1).bind fun bt377 => (if bt377.1 < 0 then (laws_FnExactHeadBytes.j1 kj11 a1 t338 t341 t357 true a0_0 a0_1 l0_2 l0_3 l0_4 a0_5 a0_6 a0_7) else ((laws_eqByteS.f kj11 t357 t338).bind fun t381 => (if t381 = true then (laws_FnExactHeadBytes.j1 kj11 a1 t338 t341 t357 (t360 != t341) a0_0 a0_1 l0_2 l0_3 l0_4 a0_5 a0_6 a0_7) else (laws_FnExactHeadBytes.j1 kj11 a1 t338 t341 t357 true a0_0 a0_1 l0_2 l0_3 l0_4 a0_5 a0_6 a0_7))))) else (some false)))) = some true := by rw [if_neg (show ¬ (false = true) by decide)] at H; exact H
     clear H
     have H := H1
     clear H1
     replace H := Option.bind_eq_some_iff.mp H
     obtain ⟨⟨t362, t363, t364, t367, t370, t373, t374, t375⟩, A380, H⟩ := H
     replace H : ((laws_eqHeader.f kj11 t342 t343 t344 t347 t350 t353 t354 t355 t362 t363 t364 t367 t370 t373 t374 t375).bind fun t376 => (if t376 = true then ((laws_markHeader.f kj11 t342 t343 t344 t347 t350 t353 t354 t355 1).bind fun bt377 => (if bt377.1 < 0 then (laws_FnExactHeadBytes.j1 kj11 a1 t338 t341 t357 true a0_0 a0_1 l0_2 l0_3 l0_4 a0_5 a0_6 a0_7) else ((laws_eqByteS.f kj11 t357 t338).bind fun t381 => (if t381 = true then (laws_FnExactHeadBytes.j1 kj11 a1 t338 t341 t357 (t360 != t341) a0_0 a0_1 l0_2 l0_3 l0_4 a0_5 a0_6 a0_7) else (laws_FnExactHeadBytes.j1 kj11 a1 t338 t341 t357 true a0_0 a0_1 l0_2 l0_3 l0_4 a0_5 a0_6 a0_7))))) else (some false))) = some true := H
     have A38 := Aside0.mk A380
     clear A380
     replace H := Option.bind_eq_some_iff.mp H
     obtain ⟨t376, A390, H⟩ := H
     replace H : (if t376 = true then ((laws_markHeader.f kj11 t342 t343 t344 t347 t350 t353 t354 t355 1).bind fun bt377 => (if bt377.1 < 0 then (laws_FnExactHeadBytes.j1 kj11 a1 t338 t341 t357 true a0_0 a0_1 l0_2 l0_3 l0_4 a0_5 a0_6 a0_7) else ((laws_eqByteS.f kj11 t357 t338).bind fun t381 => (if t381 = true then (laws_FnExactHeadBytes.j1 kj11 a1 t338 t341 t357 (t360 != t341) a0_0 a0_1 l0_2 l0_3 l0_4 a0_5 a0_6 a0_7) else (laws_FnExactHeadBytes.j1 kj11 a1 t338 t341 t357 true a0_0 a0_1 l0_2 l0_3 l0_4 a0_5 a0_6 a0_7))))) else (some false)) = some true := H
     have A39 := Aside0.mk A390
     clear A390
     by_cases c40 : t376 = true
     ·subst c40
      have H1 : ((laws_markHeader.f kj11 t342 t343 t344 t347 t350 t353 t354 t355 1).bind fun bt377 => (if bt377.1 < 0 then (laws_FnExactHeadBytes.j1 kj11 a1 t338 t341 t357 true a0_0 a0_1 l0_2 l0_3 l0_4 a0_5 a0_6 a0_7) else ((laws_eqByteS.f kj11 t357 t338).bind fun t381 => (if t381 = true then (laws_FnExactHeadBytes.j1 kj11 a1 t338 t341 t357 (t360 != t341) a0_0 a0_1 l0_2 l0_3 l0_4 a0_5 a0_6 a0_7) else (laws_FnExactHeadBytes.j1 kj11 a1 t338 t341 t357 true a0_0 a0_1 l0_2 l0_3 l0_4 a0_5 a0_6 a0_7))))) = some true := by rw [if_pos rfl] at H; exact H
      clear H
      have H := H1
      clear H1
      replace H := Option.bind_eq_some_iff.mp H
      obtain ⟨⟨t377, t378, t379, t380⟩, A410, H⟩ := H
      replace H : (if t377 < 0 then (laws_FnExactHeadBytes.j1 kj11 a1 t338 t341 t357 true a0_0 a0_1 l0_2 l0_3 l0_4 a0_5 a0_6 a0_7) else ((laws_eqByteS.f kj11 t357 t338).bind fun t381 => (if t381 = true then (laws_FnExactHeadBytes.j1 kj11 a1 t338 t341 t357 (t360 != t341) a0_0 a0_1 l0_2 l0_3 l0_4 a0_5 a0_6 a0_7) else (laws_FnExactHeadBytes.j1 kj11 a1 t338 t341 t357 true a0_0 a0_1 l0_2 l0_3 l0_4 a0_5 a0_6 a0_7)))) = some true := H
      have A41 := Aside0.mk A410
      clear A410
      have HC42 := Aside0.mk H
      clear H
      try go_wp2
      have n0_ := Aside0.mk (Kd.R_drew HO_6.out)
      have n1_ := Aside0.mk (Kd.R_drew HO_9.out)
      have n2_ := Aside0.mk (Kd.R_drew HO_357002.out)
      have n3_ := Aside0.mk (Kd.R_drew HO_357003.out)
      have n4_ := Aside0.mk (Kd.R_drew HO_357004.out)
      have n5_ := Aside0.mk (blk_drew BK322.out)
      have n6_ := Aside0.mk (blk_drew BK356.out)
      have n7_ := Aside0.mk (below_drew1 HB.out)
      clear HO_6
      clear HO_9
      clear HO_357002
      clear HO_357003
      clear HO_357004
      clear BK322
      clear BK356
      clear HB
      have HO_6 := n0_
      have HO_9 := n1_
      have HO_357002 := n2_
      have HO_357003 := n3_
      have HO_357004 := n4_
      have BK322 := n5_
      have BK356 := n6_
      have HB := n7_
      clear n0_ n1_ n2_ n3_ n4_ n5_ n6_ n7_
      refine start_ (n := 5) (S := fun w' => w'.cell? ⟨gb356, 0, none⟩ = some (.int .i64 t342) ∧ w'.cell? ⟨gb356, 1, none⟩ = some (.int .i64 t343) ∧ w'.cell? ⟨gb356, 2, none⟩ = some (.slice Ao27 t344.length co27) ∧ w'.cell? ⟨gb356, 3, none⟩ = some (.slice Ao28 t347.length co28) ∧ w'.cell? ⟨gb356, 4, none⟩ = some (.slice Ao29 t350.length co29) ∧ w'.cell? ⟨gb356, 5, none⟩ = some (.int .i64 t353) ∧ w'.cell? ⟨gb356, 6, none⟩ = some (.int .i64 t354) ∧ w'.cell? ⟨gb356, 7, none⟩ = some (.int .i64 t355) ∧ w'.cell? ⟨gb322, 0, none⟩ = some (.int .i64 a0_0) ∧ w'.cell? ⟨gb322, 1, none⟩ = some (.int .i64 a0_1) ∧ w'.cell? ⟨gb322, 2, none⟩ = some (.slice A0_2 l0_2.length c0_2) ∧ w'.cell? ⟨gb322, 3, none⟩ = some (.slice A0_3 l0_3.length c0_3) ∧ w'.cell? ⟨gb322, 4, none⟩ = some (.slice A0_4 l0_4.length c0_4) ∧ w'.cell? ⟨gb322, 5, none⟩ = some (.int .i64 a0_5) ∧ w'.cell? ⟨gb322, 6, none⟩ = some (.int .i64 a0_6) ∧ w'.cell? ⟨gb322, 7, none⟩ = some (.int .i64 a0_7)) (ds := []) #[false, false, false, false, false] (by kernel_rfl) rfl rfl ⟨(blk_cell BK356.out 0).trans rfl, (blk_cell BK356.out 1).trans rfl, (blk_cell BK356.out 2).trans rfl, (blk_cell BK356.out 3).trans rfl, (blk_cell BK356.out 4).trans rfl, (blk_cell BK356.out 5).trans rfl, (blk_cell BK356.out 6).trans rfl, (blk_cell BK356.out 7).trans rfl, (blk_cell BK322.out 0).trans rfl, (blk_cell BK322.out 1).trans rfl, (blk_cell BK322.out 2).trans rfl, (blk_cell BK322.out 3).trans rfl, (blk_cell BK322.out 4).trans rfl, (blk_cell BK322.out 5).trans rfl, (blk_cell BK322.out 6).trans rfl, (blk_cell BK322.out 7).trans rfl⟩ (fun hHeld => ?_)
      generalize wc.drew = w43 at HO_6 HO_9 HO_357002 HO_357003 HO_357004 BK322 BK356 HB hHeld ⊢
      refine take_ (i := 0) (N := some 45) (v := ?_) (a' := ?_) #[true, false, false, false, false] rfl rfl (by kernel_rfl) (fun _ _ _ h => h) (Or.inl ⟨by rfl, ?_⟩) hHeld ?_ ?_
      rotate_left
      ·rintro w' ⟨s0, s1, s2, s3, s4, s5, s6, s7, s8, s9, s10, s11, s12, s13, s14, s15⟩
       go_simp
       with_reducible rfl
      rotate_left
      ·simp only [Act.put, List.setIfInBounds_toArray, List.set_cons_zero, List.set_cons_succ, i64_w, i32_w]
       rfl
      refine take_ (i := 1) (N := some 46) (v := ?_) (a' := ?_) #[true, true, false, false, false] rfl rfl (by kernel_rfl) (fun _ _ _ h => h) (Or.inl ⟨by rfl, ?_⟩) hHeld ?_ ?_
      rotate_left
      ·rintro w' ⟨s0, s1, s2, s3, s4, s5, s6, s7, s8, s9, s10, s11, s12, s13, s14, s15⟩
       go_simp
       with_reducible rfl
      rotate_left
      ·simp only [Act.put, List.setIfInBounds_toArray, List.set_cons_zero, List.set_cons_succ, i64_w, i32_w]
       rfl
      refine one_ (i := 2) (N := some 47) #[true, true, true, false, false] rfl rfl (by kernel_rfl) (by decide) (fun K hK => ?_)
      refine goes_ Try.func30 (by kernel_rfl) rfl #[.agg #[.int .i64 a0_0, .int .i64 a0_1, .slice A0_2 l0_2.length c0_2, .slice A0_3 l0_3.length c0_3, .slice A0_4 l0_4.length c0_4, .int .i64 a0_5, .int .i64 a0_6, .int .i64 a0_7]] (by rfl) rfl rfl (by (try simp only [List.map_toArray, List.map_cons, List.map_nil]); first | done | rfl | (simp only [List.length_drop, List.length_take]; rfl)) ?_
      with_reducible refine (laws_toHeader.calls kj11 a0_0 a0_1 _ _ l0_2 _ _ l0_3 _ _ l0_4 a0_5 a0_6 a0_7 t362 t363 t364 t367 t370 t373 t374 t375 _ ?side1 ?side2 ?side3 ?side4 ?side5 ?side6 A38.out).mono ?_
      (case side1 => repeat (first | exact (Kd.C_below HR0_2.out HB.out) | (with_reducible refine Kd.C_alloc ?_ _) | (with_reducible refine Kd.C_drewN ?_ _) | (with_reducible refine Kd.C_drew ?_)))
      (case side2 => exact HC0_2.out)
      (case side3 => repeat (first | exact (Kd.C_below HR0_3.out HB.out) | (with_reducible refine Kd.C_alloc ?_ _) | (with_reducible refine Kd.C_drewN ?_ _) | (with_reducible refine Kd.C_drew ?_)))
      (case side4 => exact HC0_3.out)
      (case side5 => repeat (first | exact (Kd.C_below HR0_4.out HB.out) | (with_reducible refine Kd.C_alloc ?_ _) | (with_reducible refine Kd.C_drewN ?_ _) | (with_reducible refine Kd.C_drew ?_)))
      (case side6 => exact HC0_4.out)
      rintro e w44 ⟨v365, v368, v371, rfl, ho0, ho1, ho2, hb⟩
      refine ⟨_, rfl, ?_⟩
      have n0_ := Aside0.mk (Kd.R_mono (Kd.R_told (Kd.R_told (Kd.R_told (Kd.R_old (by (with_reducible repeat (first | apply Kd.R_alloc | apply Kd.R_drewN | apply Kd.R_drew)); exact HO_6.out) hb) (Kd.R_base ho0)) (Kd.R_base ho1)) (Kd.R_base ho2)) (fun _ h_ => h_.1))
      have n1_ := Aside0.mk (Kd.R_mono (Kd.R_told (Kd.R_told (Kd.R_told (Kd.R_old (by (with_reducible repeat (first | apply Kd.R_alloc | apply Kd.R_drewN | apply Kd.R_drew)); exact HO_9.out) hb) (Kd.R_base ho0)) (Kd.R_base ho1)) (Kd.R_base ho2)) (fun _ h_ => h_.1))
      have n2_ := Aside0.mk (Kd.R_mono (Kd.R_told (Kd.R_told (Kd.R_told (Kd.R_old (by (with_reducible repeat (first | apply Kd.R_alloc | apply Kd.R_drewN | apply Kd.R_drew)); exact HO_357002.out) hb) (Kd.R_base ho0)) (Kd.R_base ho1)) (Kd.R_base ho2)) (fun _ h_ => h_.1))
      have n3_ := Aside0.mk (Kd.R_mono (Kd.R_told (Kd.R_told (Kd.R_told (Kd.R_old (by (with_reducible repeat (first | apply Kd.R_alloc | apply Kd.R_drewN | apply Kd.R_drew)); exact HO_357003.out) hb) (Kd.R_base ho0)) (Kd.R_base ho1)) (Kd.R_base ho2)) (fun _ h_ => h_.1))
      have n4_ := Aside0.mk (Kd.R_mono (Kd.R_told (Kd.R_told (Kd.R_told (Kd.R_old (by (with_reducible repeat (first | apply Kd.R_alloc | apply Kd.R_drewN | apply Kd.R_drew)); exact HO_357004.out) hb) (Kd.R_base ho0)) (Kd.R_base ho1)) (Kd.R_base ho2)) (fun _ h_ => h_.1))
      have n5_ := Aside0.mk (Kd.R_lower (Kd.R_new' (Kd.R_new' (Kd.R_new' (Kd.R_new' (Kd.R_new' ho0 (Kd.R_lt (by (with_reducible repeat (first | apply Kd.R_alloc | apply Kd.R_drewN | apply Kd.R_drew)); exact HO_6.out))) (Kd.R_lt (by (with_reducible repeat (first | apply Kd.R_alloc | apply Kd.R_drewN | apply Kd.R_drew)); exact HO_9.out))) (Kd.R_lt (by (with_reducible repeat (first | apply Kd.R_alloc | apply Kd.R_drewN | apply Kd.R_drew)); exact HO_357002.out))) (Kd.R_lt (by (with_reducible repeat (first | apply Kd.R_alloc | apply Kd.R_drewN | apply Kd.R_drew)); exact HO_357003.out))) (Kd.R_lt (by (with_reducible repeat (first | apply Kd.R_alloc | apply Kd.R_drewN | apply Kd.R_drew)); exact HO_357004.out))) (below_size (by repeat (first | (with_reducible first | exact HB.out | apply below_alloc | apply pw_below_drewN | apply below_drew1 | refine below_set ?_ GE322.out | refine below_set ?_ GE356.out) | exact HB.out))))
      have n6_ := Aside0.mk (Kd.R_lower (Kd.R_new' (Kd.R_new' (Kd.R_new' (Kd.R_new' (Kd.R_new' ho1 (Kd.R_lt (by (with_reducible repeat (first | apply Kd.R_alloc | apply Kd.R_drewN | apply Kd.R_drew)); exact HO_6.out))) (Kd.R_lt (by (with_reducible repeat (first | apply Kd.R_alloc | apply Kd.R_drewN | apply Kd.R_drew)); exact HO_9.out))) (Kd.R_lt (by (with_reducible repeat (first | apply Kd.R_alloc | apply Kd.R_drewN | apply Kd.R_drew)); exact HO_357002.out))) (Kd.R_lt (by (with_reducible repeat (first | apply Kd.R_alloc | apply Kd.R_drewN | apply Kd.R_drew)); exact HO_357003.out))) (Kd.R_lt (by (with_reducible repeat (first | apply Kd.R_alloc | apply Kd.R_drewN | apply Kd.R_drew)); exact HO_357004.out))) (below_size (by repeat (first | (with_reducible first | exact HB.out | apply below_alloc | apply pw_below_drewN | apply below_drew1 | refine below_set ?_ GE322.out | refine below_set ?_ GE356.out) | exact HB.out))))
      have n7_ := Aside0.mk (Kd.R_lower (Kd.R_new' (Kd.R_new' (Kd.R_new' (Kd.R_new' (Kd.R_new' ho2 (Kd.R_lt (by (with_reducible repeat (first | apply Kd.R_alloc | apply Kd.R_drewN | apply Kd.R_drew)); exact HO_6.out))) (Kd.R_lt (by (with_reducible repeat (first | apply Kd.R_alloc | apply Kd.R_drewN | apply Kd.R_drew)); exact HO_9.out))) (Kd.R_lt (by (with_reducible repeat (first | apply Kd.R_alloc | apply Kd.R_drewN | apply Kd.R_drew)); exact HO_357002.out))) (Kd.R_lt (by (with_reducible repeat (first | apply Kd.R_alloc | apply Kd.R_drewN | apply Kd.R_drew)); exact HO_357003.out))) (Kd.R_lt (by (with_reducible repeat (first | apply Kd.R_alloc | apply Kd.R_drewN | apply Kd.R_drew)); exact HO_357004.out))) (below_size (by repeat (first | (with_reducible first | exact HB.out | apply below_alloc | apply pw_below_drewN | apply below_drew1 | refine below_set ?_ GE322.out | refine below_set ?_ GE356.out) | exact HB.out))))
      have n8_ := Aside0.mk (blk_below (g := gb322) (o := .cells #[.int .i64 a0_0, .int .i64 a0_1, .slice A0_2 l0_2.length c0_2, .slice A0_3 l0_3.length c0_3, .slice A0_4 l0_4.length c0_4, .int .i64 a0_5, .int .i64 a0_6, .int .i64 a0_7] 39 (0, 0)) (by (with_reducible repeat (first | refine blk_drewN ?_ _ | refine blk_drew ?_ | refine blk_alloc ?_ _)); exact BK322.out) hb)
      have n9_ := Aside0.mk (blk_below (g := gb356) (o := .cells #[.int .i64 t342, .int .i64 t343, .slice Ao27 t344.length co27, .slice Ao28 t347.length co28, .slice Ao29 t350.length co29, .int .i64 t353, .int .i64 t354, .int .i64 t355] 42 (0, 0)) (by (with_reducible repeat (first | refine blk_drewN ?_ _ | refine blk_drew ?_ | refine blk_alloc ?_ _)); exact BK356.out) hb)
      have n10_ := Aside0.mk (below_step (by repeat (first | (with_reducible first | exact HB.out | apply below_alloc | apply pw_below_drewN | apply below_drew1 | refine below_set ?_ GE322.out | refine below_set ?_ GE356.out) | exact HB.out)) hb)
      clear HO_6
      clear HO_9
      clear HO_357002
      clear HO_357003
      clear HO_357004
      clear BK322
      clear BK356
      clear HB
      have HO_6 := n0_
      have HO_9 := n1_
      have HO_357002 := n2_
      have HO_357003 := n3_
      have HO_357004 := n4_
      have HO366 := n5_
      have HO369 := n6_
      have HO372 := n7_
      have BK322 := n8_
      have BK356 := n9_
      have HB := n10_
      clear n0_ n1_ n2_ n3_ n4_ n5_ n6_ n7_ n8_ n9_ n10_
      (try clear hb)
      (try clear hb2)
      (try clear hk)
      (try clear hi)
      (try clear ho0)
      (try clear ho1)
      (try clear ho2)
      obtain ⟨Ao45, co45, eo45⟩ := Kd.R_slice HO366.out
      (first | subst eo45 | (injection eo45 with f1_ f2_ f3_; have f4_ := f1_.symm; have f5_ := f3_.symm; clear f1_ f2_ f3_; subst f4_; subst f5_))
      obtain ⟨Ao46, co46, eo46⟩ := Kd.R_slice HO369.out
      (first | subst eo46 | (injection eo46 with f1_ f2_ f3_; have f4_ := f1_.symm; have f5_ := f3_.symm; clear f1_ f2_ f3_; subst f4_; subst f5_))
      obtain ⟨Ao47, co47, eo47⟩ := Kd.R_slice HO372.out
      (first | subst eo47 | (injection eo47 with f1_ f2_ f3_; have f4_ := f1_.symm; have f5_ := f3_.symm; clear f1_ f2_ f3_; subst f4_; subst f5_))
      refine hK.out _ _ ⟨(blk_cell BK356.out 0).trans rfl, (blk_cell BK356.out 1).trans rfl, (blk_cell BK356.out 2).trans rfl, (blk_cell BK356.out 3).trans rfl, (blk_cell BK356.out 4).trans rfl, (blk_cell BK356.out 5).trans rfl, (blk_cell BK356.out 6).trans rfl, (blk_cell BK356.out 7).trans rfl, (blk_cell BK322.out 0).trans rfl, (blk_cell BK322.out 1).trans rfl, (blk_cell BK322.out 2).trans rfl, (blk_cell BK322.out 3).trans rfl, (blk_cell BK322.out 4).trans rfl, (blk_cell BK322.out 5).trans rfl, (blk_cell BK322.out 6).trans rfl, (blk_cell BK322.out 7).trans rfl⟩ (fun hHeld => ?_)
      clear hK K
      refine norm_ (a' := ?_) ?_ ?_
      rotate_left
      ·show Act.put _ (some 47) _ = _
       simp only [Act.put, List.setIfInBounds_toArray, List.set_cons_zero, List.set_cons_succ, i64_w, i32_w]
       rfl
      refine one_ (i := 3) (N := some 48) #[true, true, true, true, false] rfl rfl (by kernel_rfl) (by decide) (fun K hK => ?_)
      refine goes_ Try.func32 (by kernel_rfl) rfl #[.agg #[.int .i64 t342, .int .i64 t343, .slice Ao27 t344.length co27, .slice Ao28 t347.length co28, .slice Ao29 t350.length co29, .int .i64 t353, .int .i64 t354, .int .i64 t355], .agg #[.int .i64 t362, .int .i64 t363, .slice Ao45 t364.length co45, .slice Ao46 t367.length co46, .slice Ao47 t370.length co47, .int .i64 t373, .int .i64 t374, .int .i64 t375]] (by rfl) rfl rfl (by (try simp only [List.map_toArray, List.map_cons, List.map_nil]); first | done | rfl | (simp only [List.length_drop, List.length_take]; rfl)) ?_
      with_reducible refine (laws_eqHeader.calls kj11 t342 t343 _ _ t344 _ _ t347 _ _ t350 t353 t354 t355 t362 t363 _ _ t364 _ _ t367 _ _ t370 t373 t374 t375 true _ ?side1 ?side2 ?side3 ?side4 ?side5 ?side6 ?side7 ?side8 ?side9 ?side10 ?side11 ?side12 A39.out).mono ?_
      (case side1 => repeat (first | exact (Kd.R_reads' HO_357002.out).2.2 | (with_reducible refine Kd.C_alloc ?_ _) | (with_reducible refine Kd.C_drewN ?_ _) | (with_reducible refine Kd.C_drew ?_)))
      (case side2 => exact (Kd.R_reads' HO_357002.out).2.1)
      (case side3 => repeat (first | exact (Kd.R_reads' HO_357003.out).2.2 | (with_reducible refine Kd.C_alloc ?_ _) | (with_reducible refine Kd.C_drewN ?_ _) | (with_reducible refine Kd.C_drew ?_)))
      (case side4 => exact (Kd.R_reads' HO_357003.out).2.1)
      (case side5 => repeat (first | exact (Kd.R_reads' HO_357004.out).2.2 | (with_reducible refine Kd.C_alloc ?_ _) | (with_reducible refine Kd.C_drewN ?_ _) | (with_reducible refine Kd.C_drew ?_)))
      (case side6 => exact (Kd.R_reads' HO_357004.out).2.1)
      (case side7 => repeat (first | exact (Kd.R_reads' HO366.out).2.2 | (with_reducible refine Kd.C_alloc ?_ _) | (with_reducible refine Kd.C_drewN ?_ _) | (with_reducible refine Kd.C_drew ?_)))
      (case side8 => exact (Kd.R_reads' HO366.out).2.1)
      (case side9 => repeat (first | exact (Kd.R_reads' HO369.out).2.2 | (with_reducible refine Kd.C_alloc ?_ _) | (with_reducible refine Kd.C_drewN ?_ _) | (with_reducible refine Kd.C_drew ?_)))
      (case side10 => exact (Kd.R_reads' HO369.out).2.1)
      (case side11 => repeat (first | exact (Kd.R_reads' HO372.out).2.2 | (with_reducible refine Kd.C_alloc ?_ _) | (with_reducible refine Kd.C_drewN ?_ _) | (with_reducible refine Kd.C_drew ?_)))
      (case side12 => exact (Kd.R_reads' HO372.out).2.1)
      rintro e w48 ⟨rfl, hb⟩
      refine ⟨_, rfl, ?_⟩
      have n0_ := Aside0.mk (Kd.R_below (by (with_reducible repeat (first | apply Kd.R_alloc | apply Kd.R_drewN | apply Kd.R_drew)); exact HO_6.out) hb)
      have n1_ := Aside0.mk (Kd.R_below (by (with_reducible repeat (first | apply Kd.R_alloc | apply Kd.R_drewN | apply Kd.R_drew)); exact HO_9.out) hb)
      have n2_ := Aside0.mk (Kd.R_below (by (with_reducible repeat (first | apply Kd.R_alloc | apply Kd.R_drewN | apply Kd.R_drew)); exact HO_357002.out) hb)
      have n3_ := Aside0.mk (Kd.R_below (by (with_reducible repeat (first | apply Kd.R_alloc | apply Kd.R_drewN | apply Kd.R_drew)); exact HO_357003.out) hb)
      have n4_ := Aside0.mk (Kd.R_below (by (with_reducible repeat (first | apply Kd.R_alloc | apply Kd.R_drewN | apply Kd.R_drew)); exact HO_357004.out) hb)
      have n5_ := Aside0.mk (Kd.R_below (by (with_reducible repeat (first | apply Kd.R_alloc | apply Kd.R_drewN | apply Kd.R_drew)); exact HO366.out) hb)
      have n6_ := Aside0.mk (Kd.R_below (by (with_reducible repeat (first | apply Kd.R_alloc | apply Kd.R_drewN | apply Kd.R_drew)); exact HO369.out) hb)
      have n7_ := Aside0.mk (Kd.R_below (by (with_reducible repeat (first | apply Kd.R_alloc | apply Kd.R_drewN | apply Kd.R_drew)); exact HO372.out) hb)
      have n8_ := Aside0.mk (blk_below (g := gb322) (o := .cells #[.int .i64 a0_0, .int .i64 a0_1, .slice A0_2 l0_2.length c0_2, .slice A0_3 l0_3.length c0_3, .slice A0_4 l0_4.length c0_4, .int .i64 a0_5, .int .i64 a0_6, .int .i64 a0_7] 39 (0, 0)) (by (with_reducible repeat (first | refine blk_drewN ?_ _ | refine blk_drew ?_ | refine blk_alloc ?_ _)); exact BK322.out) hb)
      have n9_ := Aside0.mk (blk_below (g := gb356) (o := .cells #[.int .i64 t342, .int .i64 t343, .slice Ao27 t344.length co27, .slice Ao28 t347.length co28, .slice Ao29 t350.length co29, .int .i64 t353, .int .i64 t354, .int .i64 t355] 42 (0, 0)) (by (with_reducible repeat (first | refine blk_drewN ?_ _ | refine blk_drew ?_ | refine blk_alloc ?_ _)); exact BK356.out) hb)
      have n10_ := Aside0.mk (below_step (by repeat (first | (with_reducible first | exact HB.out | apply below_alloc | apply pw_below_drewN | apply below_drew1 | refine below_set ?_ GE322.out | refine below_set ?_ GE356.out) | exact HB.out)) hb)
      clear HO_6
      clear HO_9
      clear HO_357002
      clear HO_357003
      clear HO_357004
      clear HO366
      clear HO369
      clear HO372
      clear BK322
      clear BK356
      clear HB
      have HO_6 := n0_
      have HO_9 := n1_
      have HO_357002 := n2_
      have HO_357003 := n3_
      have HO_357004 := n4_
      have HO366 := n5_
      have HO369 := n6_
      have HO372 := n7_
      have BK322 := n8_
      have BK356 := n9_
      have HB := n10_
      clear n0_ n1_ n2_ n3_ n4_ n5_ n6_ n7_ n8_ n9_ n10_
      (try clear hb)
      (try clear hb2)
      (try clear hk)
      (try clear hi)
      refine hK.out _ _ ⟨(blk_cell BK356.out 0).trans rfl, (blk_cell BK356.out 1).trans rfl, (blk_cell BK356.out 2).trans rfl, (blk_cell BK356.out 3).trans rfl, (blk_cell BK356.out 4).trans rfl, (blk_cell BK356.out 5).trans rfl, (blk_cell BK356.out 6).trans rfl, (blk_cell BK356.out 7).trans rfl, (blk_cell BK322.out 0).trans rfl, (blk_cell BK322.out 1).trans rfl, (blk_cell BK322.out 2).trans rfl, (blk_cell BK322.out 3).trans rfl, (blk_cell BK322.out 4).trans rfl, (blk_cell BK322.out 5).trans rfl, (blk_cell BK322.out 6).trans rfl, (blk_cell BK322.out 7).trans rfl⟩ (fun hHeld => ?_)
      clear hK K
      refine norm_ (a' := ?_) ?_ ?_
      rotate_left
      ·show Act.put _ (some 48) _ = _
       simp only [Act.put, List.setIfInBounds_toArray, List.set_cons_zero, List.set_cons_succ, i64_w, i32_w]
       rfl
      refine pure_ (i := 4) (N := some 49) (v := ?_) (a' := ?_) #[true, true, true, true, true] rfl rfl (by kernel_rfl) (fun _ _ _ h => h) (Or.inl ⟨by rfl, ?_⟩) ?_ ?_
      rotate_left
      ·intro w'
       go_simp
       with_reducible rfl
      rotate_left
      ·simp only [Act.put, List.setIfInBounds_toArray, List.set_cons_zero, List.set_cons_succ, i64_w, i32_w]
       rfl
      refine done_ (by kernel_rfl) ?_
      have hnb49 := NB356_322.out
      have hnc49 := NB322_356.out
      have hcz50_0 : w48.cell? ⟨gb356, 0, none⟩ = some (.int .i64 t342) := (blk_cell BK356.out 0).trans rfl
      have hcz50_1 : w48.cell? ⟨gb356, 1, none⟩ = some (.int .i64 t343) := (blk_cell BK356.out 1).trans rfl
      have hcz50_2 : w48.cell? ⟨gb356, 2, none⟩ = some (.slice Ao27 t344.length co27) := (blk_cell BK356.out 2).trans rfl
      have hcz50_3 : w48.cell? ⟨gb356, 3, none⟩ = some (.slice Ao28 t347.length co28) := (blk_cell BK356.out 3).trans rfl
      have hcz50_4 : w48.cell? ⟨gb356, 4, none⟩ = some (.slice Ao29 t350.length co29) := (blk_cell BK356.out 4).trans rfl
      have hcz50_5 : w48.cell? ⟨gb356, 5, none⟩ = some (.int .i64 t353) := (blk_cell BK356.out 5).trans rfl
      have hcz50_6 : w48.cell? ⟨gb356, 6, none⟩ = some (.int .i64 t354) := (blk_cell BK356.out 6).trans rfl
      have hcz50_7 : w48.cell? ⟨gb356, 7, none⟩ = some (.int .i64 t355) := (blk_cell BK356.out 7).trans rfl
      have hfz50_0 := blk_frozen BK356.out 0
      have hfz50_1 := blk_frozen BK356.out 1
      have hfz50_2 := blk_frozen BK356.out 2
      have hfz50_3 := blk_frozen BK356.out 3
      have hfz50_4 := blk_frozen BK356.out 4
      have hfz50_5 := blk_frozen BK356.out 5
      have hfz50_6 := blk_frozen BK356.out 6
      have hfz50_7 := blk_frozen BK356.out 7
      go_upto_region 14 with (first | ((with_reducible refine gate_callee (f := 33) rfl ?_); refine goesL_ (some 52) rfl rfl Try.func33 (by kernel_rfl) rfl #[.agg #[.int .i64 t342, .int .i64 t343, .slice Ao27 t344.length co27, .slice Ao28 t347.length co28, .slice Ao29 t350.length co29, .int .i64 t353, .int .i64 t354, .int .i64 t355], .int .i64 1] rfl (by (try simp only [List.map_toArray, List.map_cons, List.map_nil]); first | done | rfl | (simp only [List.length_drop, List.length_take]; rfl)) ?_; (with_reducible refine (laws_markHeader.calls kj11 t342 t343 (fun k_ => some k_ = (.slice Ao27 t344.length co27 : Value).ownBlock) (.slice Ao27 t344.length co27) t344 (fun k_ => some k_ = (.slice Ao28 t347.length co28 : Value).ownBlock) (.slice Ao28 t347.length co28) t347 (fun k_ => some k_ = (.slice Ao29 t350.length co29 : Value).ownBlock) (.slice Ao29 t350.length co29) t350 t353 t354 t355 1 t377 t378 t379 t380 w _ ?side1 ?side2 ?side3 ?side4 ?side5 ?side6 ?side7 ?side8 ?side9 ?side10 A41.out).mono ?_); (case side1 => repeat (first | (with_reducible first | exact HB.out | apply below_alloc | apply pw_below_drewN | apply below_drew1 | refine below_set ?_ GE322.out | refine below_set ?_ GE356.out) | exact HB.out)); (case side2 => exact Kd.R_tight rfl HO_357002.out); (case side3 => exact fun k_ e_ => (HO_357002.out.1 k_ e_.symm).1.1.1.2.2.1); (case side4 => exact fun k_ e_ => (HO_357002.out.1 k_ e_.symm).1.1.1.2.2.2); (case side5 => exact Kd.R_tight rfl HO_357003.out); (case side6 => exact fun k_ e_ => (HO_357003.out.1 k_ e_.symm).1.1.1.2.2.1); (case side7 => exact fun k_ e_ => (HO_357003.out.1 k_ e_.symm).1.1.1.2.2.2); (case side8 => exact Kd.R_tight rfl HO_357004.out); (case side9 => exact fun k_ e_ => (HO_357004.out.1 k_ e_.symm).1.1.1.2.2.1); (case side10 => exact fun k_ e_ => (HO_357004.out.1 k_ e_.symm).1.1.1.2.2.2); rintro e w51 ⟨rfl, hy0, hy1, hy2, hb, hkp⟩; refine ⟨_, rfl, ?_⟩; have n0_ := Aside0.mk (Kd.R_mono (ok' := fun k_ => some k_ ≠ (v358 : Value).ownBlock ∧ some k_ ≠ (.slice Ao27 t344.length co27 : Value).ownBlock ∧ some k_ ≠ (.slice Ao28 t347.length co28 : Value).ownBlock ∧ some k_ ≠ (.slice Ao29 t350.length co29 : Value).ownBlock ∧ some k_ ≠ (.slice Ao45 t364.length co45 : Value).ownBlock ∧ some k_ ≠ (.slice Ao46 t367.length co46 : Value).ownBlock ∧ some k_ ≠ (.slice Ao47 t370.length co47 : Value).ownBlock) (Kd.R_keptB (HO_6.out) hkp (fun k_ hk_ hs_ => Or.elim hs_ (fun e_ => (hk_.1.1.1.2.1) e_) (fun e_ => Or.elim e_ (fun e_ => (hk_.1.1.1.2.2.1) e_) (fun e_ => (hk_.1.1.1.2.2.2) e_)))) (fun k_ hk_ => ⟨hk_.1.1.1.1.1, hk_.1.1.1.1.2.1, hk_.1.1.1.1.2.2.1, hk_.1.1.1.1.2.2.2, hk_.1.1.1.2, hk_.1.1.2, hk_.1.2⟩)); have n1_ := Aside0.mk (Kd.R_mono (ok' := fun k_ => some k_ ≠ (v339 : Value).ownBlock ∧ some k_ ≠ (.slice Ao27 t344.length co27 : Value).ownBlock ∧ some k_ ≠ (.slice Ao28 t347.length co28 : Value).ownBlock ∧ some k_ ≠ (.slice Ao29 t350.length co29 : Value).ownBlock ∧ some k_ ≠ (.slice Ao45 t364.length co45 : Value).ownBlock ∧ some k_ ≠ (.slice Ao46 t367.length co46 : Value).ownBlock ∧ some k_ ≠ (.slice Ao47 t370.length co47 : Value).ownBlock) (Kd.R_keptB (HO_9.out) hkp (fun k_ hk_ hs_ => Or.elim hs_ (fun e_ => (hk_.1.1.1.2.1) e_) (fun e_ => Or.elim e_ (fun e_ => (hk_.1.1.1.2.2.1) e_) (fun e_ => (hk_.1.1.1.2.2.2) e_)))) (fun k_ hk_ => ⟨hk_.1.1.1.1.1, hk_.1.1.1.1.2.1, hk_.1.1.1.1.2.2.1, hk_.1.1.1.1.2.2.2, hk_.1.1.1.2, hk_.1.1.2, hk_.1.2⟩)); have n2_ := Aside0.mk (Kd.R_reok rfl hy0 (fun k_ e_ => HO_357002.out.1 k_ e_)); have n3_ := Aside0.mk (Kd.R_reok rfl hy1 (fun k_ e_ => HO_357003.out.1 k_ e_)); have n4_ := Aside0.mk (Kd.R_reok rfl hy2 (fun k_ e_ => HO_357004.out.1 k_ e_)); have n5_ := Aside0.mk (blk_kept (by (with_reducible repeat (first | refine blk_drewN ?_ _ | refine blk_drew ?_ | refine blk_alloc ?_ _)); exact BK322.out) hkp (fun hs_ => Or.elim hs_ (fun e_ => (fun e_ => (Kd.R_ne HO_357002.out BK322.out (by decide)) e_) e_) (fun e_ => Or.elim e_ (fun e_ => (fun e_ => (Kd.R_ne HO_357003.out BK322.out (by decide)) e_) e_) (fun e_ => (fun e_ => (Kd.R_ne HO_357004.out BK322.out (by decide)) e_) e_)))); have n6_ := Aside0.mk (blk_kept (by (with_reducible repeat (first | refine blk_drewN ?_ _ | refine blk_drew ?_ | refine blk_alloc ?_ _)); exact BK356.out) hkp (fun hs_ => Or.elim hs_ (fun e_ => (fun e_ => (Kd.R_ne HO_357002.out BK356.out (by decide)) e_) e_) (fun e_ => Or.elim e_ (fun e_ => (fun e_ => (Kd.R_ne HO_357003.out BK356.out (by decide)) e_) e_) (fun e_ => (fun e_ => (Kd.R_ne HO_357004.out BK356.out (by decide)) e_) e_)))); have n7_ := Aside0.mk (Kd.R_mono (ok' := fun k_ => some k_ ≠ (v339 : Value).ownBlock ∧ some k_ ≠ (v358 : Value).ownBlock ∧ some k_ ≠ (.slice Ao27 t344.length co27 : Value).ownBlock ∧ some k_ ≠ (.slice Ao28 t347.length co28 : Value).ownBlock ∧ some k_ ≠ (.slice Ao29 t350.length co29 : Value).ownBlock ∧ some k_ ≠ (.slice Ao46 t367.length co46 : Value).ownBlock ∧ some k_ ≠ (.slice Ao47 t370.length co47 : Value).ownBlock) (Kd.R_keptB (HO366.out) hkp (fun k_ hk_ hs_ => Or.elim hs_ (fun e_ => (hk_.1.1.2) e_) (fun e_ => Or.elim e_ (fun e_ => (hk_.1.2) e_) (fun e_ => (hk_.2) e_)))) (fun k_ hk_ => ⟨hk_.1.1.1.1.1.2, hk_.1.1.1.1.2, hk_.1.1.1.2, hk_.1.1.2, hk_.1.2, hk_.1.1.1.1.1.1.1, hk_.1.1.1.1.1.1.2⟩)); have n8_ := Aside0.mk (Kd.R_mono (ok' := fun k_ => some k_ ≠ (v339 : Value).ownBlock ∧ some k_ ≠ (v358 : Value).ownBlock ∧ some k_ ≠ (.slice Ao27 t344.length co27 : Value).ownBlock ∧ some k_ ≠ (.slice Ao28 t347.length co28 : Value).ownBlock ∧ some k_ ≠ (.slice Ao29 t350.length co29 : Value).ownBlock ∧ some k_ ≠ (.slice Ao45 t364.length co45 : Value).ownBlock ∧ some k_ ≠ (.slice Ao47 t370.length co47 : Value).ownBlock) (Kd.R_keptB (HO369.out) hkp (fun k_ hk_ hs_ => Or.elim hs_ (fun e_ => (hk_.1.1.2) e_) (fun e_ => Or.elim e_ (fun e_ => (hk_.1.2) e_) (fun e_ => (hk_.2) e_)))) (fun k_ hk_ => ⟨hk_.1.1.1.1.1.2, hk_.1.1.1.1.2, hk_.1.1.1.2, hk_.1.1.2, hk_.1.2, hk_.1.1.1.1.1.1.1, hk_.1.1.1.1.1.1.2⟩)); have n9_ := Aside0.mk (Kd.R_mono (ok' := fun k_ => some k_ ≠ (v339 : Value).ownBlock ∧ some k_ ≠ (v358 : Value).ownBlock ∧ some k_ ≠ (.slice Ao27 t344.length co27 : Value).ownBlock ∧ some k_ ≠ (.slice Ao28 t347.length co28 : Value).ownBlock ∧ some k_ ≠ (.slice Ao29 t350.length co29 : Value).ownBlock ∧ some k_ ≠ (.slice Ao45 t364.length co45 : Value).ownBlock ∧ some k_ ≠ (.slice Ao46 t367.length co46 : Value).ownBlock) (Kd.R_keptB (HO372.out) hkp (fun k_ hk_ hs_ => Or.elim hs_ (fun e_ => (hk_.1.1.2) e_) (fun e_ => Or.elim e_ (fun e_ => (hk_.1.2) e_) (fun e_ => (hk_.2) e_)))) (fun k_ hk_ => ⟨hk_.1.1.1.1.1.2, hk_.1.1.1.1.2, hk_.1.1.1.2, hk_.1.1.2, hk_.1.2, hk_.1.1.1.1.1.1.1, hk_.1.1.1.1.1.1.2⟩)); have n10_ := Aside0.mk (hb); clear HO_6; clear HO_9; clear HO_357002; clear HO_357003; clear HO_357004; clear BK322; clear BK356; clear HO366; clear HO369; clear HO372; clear HB; have HO_6 := n0_; have HO_9 := n1_; have HO_357002 := n2_; have HO_357003 := n3_; have HO_357004 := n4_; have BK322 := n5_; have BK356 := n6_; have HO366 := n7_; have HO369 := n8_; have HO372 := n9_; have HB := n10_; clear n0_ n1_ n2_ n3_ n4_ n5_ n6_ n7_ n8_ n9_ n10_; (try clear hb); (try clear hkp); (try clear hy0); (try clear hy1); (try clear hy2)))
      (try simp only [Act.put, List.setIfInBounds_toArray, List.set_cons_zero, List.set_cons_succ])
      go_cut [65] (fun v65 wc => ∃ (kq : Nat) (x65_41 : Bool), v65 = .bool x65_41 ∧ Aside0 (laws_FnExactHeadBytes.j1 kq a1 t338 t341 t357 x65_41 a0_0 a0_1 l0_2 l0_3 l0_4 a0_5 a0_6 a0_7 = some true) ∧ Aside0 (kq ≤ kj11) ∧ Aside0 (Kd.R (Kd.int .u8) 5 wc w.heap.size (fun k_ => some k_ ≠ (v358 : Value).ownBlock ∧ some k_ ≠ ((.slice Ao27 t344.length co27) : Value).ownBlock ∧ some k_ ≠ ((.slice Ao28 t347.length co28) : Value).ownBlock ∧ some k_ ≠ ((.slice Ao29 t350.length co29) : Value).ownBlock) v339 t338) ∧ Aside0 (Kd.R (Kd.int .u8) 5 wc w.heap.size (fun k_ => some k_ ≠ (v339 : Value).ownBlock ∧ some k_ ≠ ((.slice Ao27 t344.length co27) : Value).ownBlock ∧ some k_ ≠ ((.slice Ao28 t347.length co28) : Value).ownBlock ∧ some k_ ≠ ((.slice Ao29 t350.length co29) : Value).ownBlock) v358 t357) ∧ Aside0 (Kd.R (Kd.int .u8) 5 wc w.heap.size (fun k_ => some k_ ≠ (v339 : Value).ownBlock ∧ some k_ ≠ (v358 : Value).ownBlock ∧ some k_ ≠ ((.slice Ao28 t347.length co28) : Value).ownBlock ∧ some k_ ≠ ((.slice Ao29 t350.length co29) : Value).ownBlock) (.slice Ao27 t344.length co27) t378) ∧ Aside0 (Kd.R (Kd.int .u8) 5 wc w.heap.size (fun k_ => some k_ ≠ (v339 : Value).ownBlock ∧ some k_ ≠ (v358 : Value).ownBlock ∧ some k_ ≠ ((.slice Ao27 t344.length co27) : Value).ownBlock ∧ some k_ ≠ ((.slice Ao29 t350.length co29) : Value).ownBlock) (.slice Ao28 t347.length co28) t379) ∧ Aside0 (Kd.R (Kd.int .u8) 5 wc w.heap.size (fun k_ => some k_ ≠ (v339 : Value).ownBlock ∧ some k_ ≠ (v358 : Value).ownBlock ∧ some k_ ≠ ((.slice Ao27 t344.length co27) : Value).ownBlock ∧ some k_ ≠ ((.slice Ao28 t347.length co28) : Value).ownBlock) (.slice Ao29 t350.length co29) t380) ∧ Aside0 (wc.heap[gb322]? = some (.cells #[.int .i64 a0_0, .int .i64 a0_1, (.slice A0_2 l0_2.length c0_2), (.slice A0_3 l0_3.length c0_3), (.slice A0_4 l0_4.length c0_4), .int .i64 a0_5, .int .i64 a0_6, .int .i64 a0_7] 39 (0, 0))) ∧ Aside0 (wc.heap[gb356]? = some (.cells #[.int .i64 t342, .int .i64 t343, (.slice Ao27 t344.length co27), (.slice Ao28 t347.length co28), (.slice Ao29 t350.length co29), .int .i64 t353, .int .i64 t354, .int .i64 t355] 42 (0, 0))) ∧ Aside0 (Below w.heap.size w wc))
      case first =>
       have H := HC42.out
       clear HC42
       by_cases c52 : t377 < 0
       ·rw [if_pos c52] at H
        have c52b0 : decide (t377 < 0) = true := decide_eq_true c52
        clear c52
        (first | rw [c52b0] | (simp only [i64_w, i32_w]; rw [c52b0]) | skip)
        have H' := Aside0.mk H
        clear H
        go_wp2
        go_meet
        case rel => exact ⟨_, (true), (by first | rfl | (simp; done) | (simp [*]; done)), H', ⟨by have := HJ11.out; first | omega | exact Nat.le_refl _⟩, ⟨by (with_reducible repeat (first | apply Kd.R_alloc | apply Kd.R_drewN | apply Kd.R_drew)); exact Kd.R_mono HO_6.out (fun _ hk => ⟨hk.1, ⟨hk.2.1, ⟨hk.2.2.1, hk.2.2.2.1⟩⟩⟩)⟩, ⟨by (with_reducible repeat (first | apply Kd.R_alloc | apply Kd.R_drewN | apply Kd.R_drew)); exact Kd.R_mono HO_9.out (fun _ hk => ⟨hk.1, ⟨hk.2.1, ⟨hk.2.2.1, hk.2.2.2.1⟩⟩⟩)⟩, ⟨by (with_reducible repeat (first | apply Kd.R_alloc | apply Kd.R_drewN | apply Kd.R_drew)); exact Kd.R_mono HO_357002.out (fun _ hk => ⟨hk.1.1.1.1, ⟨hk.1.1.1.2.1, ⟨hk.1.1.1.2.2.1, hk.1.1.1.2.2.2⟩⟩⟩)⟩, ⟨by (with_reducible repeat (first | apply Kd.R_alloc | apply Kd.R_drewN | apply Kd.R_drew)); exact Kd.R_mono HO_357003.out (fun _ hk => ⟨hk.1.1.1.1, ⟨hk.1.1.1.2.1, ⟨hk.1.1.1.2.2.1, hk.1.1.1.2.2.2⟩⟩⟩)⟩, ⟨by (with_reducible repeat (first | apply Kd.R_alloc | apply Kd.R_drewN | apply Kd.R_drew)); exact Kd.R_mono HO_357004.out (fun _ hk => ⟨hk.1.1.1.1, ⟨hk.1.1.1.2.1, ⟨hk.1.1.1.2.2.1, hk.1.1.1.2.2.2⟩⟩⟩)⟩, ⟨by (with_reducible repeat (first | refine blk_drewN ?_ _ | refine blk_drew ?_ | refine blk_alloc ?_ _)); exact BK322.out⟩, ⟨by (with_reducible repeat (first | refine blk_drewN ?_ _ | refine blk_drew ?_ | refine blk_alloc ?_ _)); exact BK356.out⟩, ⟨by repeat (first | (with_reducible first | exact HB.out | apply below_alloc | apply pw_below_drewN | apply below_drew1 | refine below_set ?_ GE322.out | refine below_set ?_ GE356.out) | exact HB.out)⟩⟩
       ·rw [if_neg c52] at H
        have c52b0 : decide (t377 < 0) = false := decide_eq_false c52
        clear c52
        (first | rw [c52b0] | (simp only [i64_w, i32_w]; rw [c52b0]) | skip)
        replace H := Option.bind_eq_some_iff.mp H
        obtain ⟨t381, A530, H⟩ := H
        replace H : (if t381 = true then (laws_FnExactHeadBytes.j1 kj11 a1 t338 t341 t357 (t360 != t341) a0_0 a0_1 l0_2 l0_3 l0_4 a0_5 a0_6 a0_7) else (laws_FnExactHeadBytes.j1 kj11 a1 t338 t341 t357 true a0_0 a0_1 l0_2 l0_3 l0_4 a0_5 a0_6 a0_7)) = some true := H
        have A53 := Aside0.mk A530
        clear A530
        by_cases c54 : t381 = true
        ·subst c54
         have H1 : (laws_FnExactHeadBytes.j1 kj11 a1 t338 t341 t357 (t360 != t341) a0_0 a0_1 l0_2 l0_3 l0_4 a0_5 a0_6 a0_7) = some true := by rw [if_pos rfl] at H; exact H
         clear H
         have H := H1
         clear H1
         have H' := Aside0.mk H
         clear H
         obtain ⟨Ao55, co55, eo55⟩ := Kd.R_slice HO_9.out
         subst eo55
         obtain ⟨Ao56, co56, eo56⟩ := Kd.R_slice HO_6.out
         subst eo56
         go_wp2_with (first | (go_at_call 16; (with_reducible refine (laws_eqByteS.calls kj11 _ _ t357 _ _ t338 true _ ?side1 ?side2 ?side3 ?side4 A53.out).mono ?_); (case side1 => repeat (first | exact (Kd.R_reads' HO_9.out).2.2 | (with_reducible refine Kd.C_alloc ?_ _) | (with_reducible refine Kd.C_drewN ?_ _) | (with_reducible refine Kd.C_drew ?_))); (case side2 => exact (Kd.R_reads' HO_9.out).2.1); (case side3 => repeat (first | exact (Kd.R_reads' HO_6.out).2.2 | (with_reducible refine Kd.C_alloc ?_ _) | (with_reducible refine Kd.C_drewN ?_ _) | (with_reducible refine Kd.C_drew ?_))); (case side4 => exact (Kd.R_reads' HO_6.out).2.1); rintro e w' ⟨rfl, ⟨nd, rfl⟩⟩))
         go_meet
         case rel => exact ⟨_, ((t360 != t341)), (by first | rfl | (simp; done) | (simp [*]; done)), H', ⟨by have := HJ11.out; first | omega | exact Nat.le_refl _⟩, ⟨by (with_reducible repeat (first | apply Kd.R_alloc | apply Kd.R_drewN | apply Kd.R_drew)); exact Kd.R_mono HO_6.out (fun _ hk => ⟨hk.1, ⟨hk.2.1, ⟨hk.2.2.1, hk.2.2.2.1⟩⟩⟩)⟩, ⟨by (with_reducible repeat (first | apply Kd.R_alloc | apply Kd.R_drewN | apply Kd.R_drew)); exact Kd.R_mono HO_9.out (fun _ hk => ⟨hk.1, ⟨hk.2.1, ⟨hk.2.2.1, hk.2.2.2.1⟩⟩⟩)⟩, ⟨by (with_reducible repeat (first | apply Kd.R_alloc | apply Kd.R_drewN | apply Kd.R_drew)); exact Kd.R_mono HO_357002.out (fun _ hk => ⟨hk.1.1.1.1, ⟨hk.1.1.1.2.1, ⟨hk.1.1.1.2.2.1, hk.1.1.1.2.2.2⟩⟩⟩)⟩, ⟨by (with_reducible repeat (first | apply Kd.R_alloc | apply Kd.R_drewN | apply Kd.R_drew)); exact Kd.R_mono HO_357003.out (fun _ hk => ⟨hk.1.1.1.1, ⟨hk.1.1.1.2.1, ⟨hk.1.1.1.2.2.1, hk.1.1.1.2.2.2⟩⟩⟩)⟩, ⟨by (with_reducible repeat (first | apply Kd.R_alloc | apply Kd.R_drewN | apply Kd.R_drew)); exact Kd.R_mono HO_357004.out (fun _ hk => ⟨hk.1.1.1.1, ⟨hk.1.1.1.2.1, ⟨hk.1.1.1.2.2.1, hk.1.1.1.2.2.2⟩⟩⟩)⟩, ⟨by (with_reducible repeat (first | refine blk_drewN ?_ _ | refine blk_drew ?_ | refine blk_alloc ?_ _)); exact BK322.out⟩, ⟨by (with_reducible repeat (first | refine blk_drewN ?_ _ | refine blk_drew ?_ | refine blk_alloc ?_ _)); exact BK356.out⟩, ⟨by repeat (first | (with_reducible first | exact HB.out | apply below_alloc | apply pw_below_drewN | apply below_drew1 | refine below_set ?_ GE322.out | refine below_set ?_ GE356.out) | exact HB.out)⟩⟩
        ·replace c54 := Bool.eq_false_iff.mpr c54
         subst c54
         have H1 : (laws_FnExactHeadBytes.j1 kj11 a1 t338 t341 t357 true a0_0 a0_1 l0_2 l0_3 l0_4 a0_5 a0_6 a0_7) = some true := by rw [if_neg (show ¬ (false = true) by decide)] at H; exact H
         clear H
         have H := H1
         clear H1
         have H' := Aside0.mk H
         clear H
         obtain ⟨Ao57, co57, eo57⟩ := Kd.R_slice HO_9.out
         subst eo57
         obtain ⟨Ao58, co58, eo58⟩ := Kd.R_slice HO_6.out
         subst eo58
         go_wp2_with (first | (go_at_call 16; (with_reducible refine (laws_eqByteS.calls kj11 _ _ t357 _ _ t338 false _ ?side1 ?side2 ?side3 ?side4 A53.out).mono ?_); (case side1 => repeat (first | exact (Kd.R_reads' HO_9.out).2.2 | (with_reducible refine Kd.C_alloc ?_ _) | (with_reducible refine Kd.C_drewN ?_ _) | (with_reducible refine Kd.C_drew ?_))); (case side2 => exact (Kd.R_reads' HO_9.out).2.1); (case side3 => repeat (first | exact (Kd.R_reads' HO_6.out).2.2 | (with_reducible refine Kd.C_alloc ?_ _) | (with_reducible refine Kd.C_drewN ?_ _) | (with_reducible refine Kd.C_drew ?_))); (case side4 => exact (Kd.R_reads' HO_6.out).2.1); rintro e w' ⟨rfl, ⟨nd, rfl⟩⟩))
         go_meet
         case rel => exact ⟨_, (true), (by first | rfl | (simp; done) | (simp [*]; done)), H', ⟨by have := HJ11.out; first | omega | exact Nat.le_refl _⟩, ⟨by (with_reducible repeat (first | apply Kd.R_alloc | apply Kd.R_drewN | apply Kd.R_drew)); exact Kd.R_mono HO_6.out (fun _ hk => ⟨hk.1, ⟨hk.2.1, ⟨hk.2.2.1, hk.2.2.2.1⟩⟩⟩)⟩, ⟨by (with_reducible repeat (first | apply Kd.R_alloc | apply Kd.R_drewN | apply Kd.R_drew)); exact Kd.R_mono HO_9.out (fun _ hk => ⟨hk.1, ⟨hk.2.1, ⟨hk.2.2.1, hk.2.2.2.1⟩⟩⟩)⟩, ⟨by (with_reducible repeat (first | apply Kd.R_alloc | apply Kd.R_drewN | apply Kd.R_drew)); exact Kd.R_mono HO_357002.out (fun _ hk => ⟨hk.1.1.1.1, ⟨hk.1.1.1.2.1, ⟨hk.1.1.1.2.2.1, hk.1.1.1.2.2.2⟩⟩⟩)⟩, ⟨by (with_reducible repeat (first | apply Kd.R_alloc | apply Kd.R_drewN | apply Kd.R_drew)); exact Kd.R_mono HO_357003.out (fun _ hk => ⟨hk.1.1.1.1, ⟨hk.1.1.1.2.1, ⟨hk.1.1.1.2.2.1, hk.1.1.1.2.2.2⟩⟩⟩)⟩, ⟨by (with_reducible repeat (first | apply Kd.R_alloc | apply Kd.R_drewN | apply Kd.R_drew)); exact Kd.R_mono HO_357004.out (fun _ hk => ⟨hk.1.1.1.1, ⟨hk.1.1.1.2.1, ⟨hk.1.1.1.2.2.1, hk.1.1.1.2.2.2⟩⟩⟩)⟩, ⟨by (with_reducible repeat (first | refine blk_drewN ?_ _ | refine blk_drew ?_ | refine blk_alloc ?_ _)); exact BK322.out⟩, ⟨by (with_reducible repeat (first | refine blk_drewN ?_ _ | refine blk_drew ?_ | refine blk_alloc ?_ _)); exact BK356.out⟩, ⟨by repeat (first | (with_reducible first | exact HB.out | apply below_alloc | apply pw_below_drewN | apply below_drew1 | refine below_set ?_ GE322.out | refine below_set ?_ GE356.out) | exact HB.out)⟩⟩
      case rest =>
       clear HC42
       try clear c1
       try clear c2
       try clear p2
       try clear c3
       try clear c4
       try clear c4b0
       try clear c5
       try clear c6
       try clear c16
       try clear c25
       try clear c28
       try clear c29
       try clear c30
       try clear c31
       try clear c32
       try clear c33
       try clear c37
       try clear c40
       try clear c49
       try clear c52
       try clear c52b0
       try clear c54
       try clear hcz14_0
       try clear hcz14_1
       try clear hcz14_2
       try clear hcz14_3
       try clear hcz14_4
       try clear hcz14_5
       try clear hcz14_6
       try clear hcz14_7
       try clear hcz16_0
       try clear hcz16_1
       try clear hcz16_2
       try clear hcz16_3
       try clear hcz16_4
       try clear hcz16_5
       try clear hcz16_6
       try clear hcz16_7
       try clear hcz22_0
       try clear hcz22_1
       try clear hcz22_2
       try clear hcz22_3
       try clear hcz22_4
       try clear hcz22_5
       try clear hcz22_6
       try clear hcz22_7
       try clear hcz26_0
       try clear hcz26_1
       try clear hcz26_2
       try clear hcz26_3
       try clear hcz26_4
       try clear hcz26_5
       try clear hcz26_6
       try clear hcz26_7
       try clear hcz50_0
       try clear hcz50_1
       try clear hcz50_2
       try clear hcz50_3
       try clear hcz50_4
       try clear hcz50_5
       try clear hcz50_6
       try clear hcz50_7
       try clear hcz6_0
       try clear hcz6_1
       try clear hcz6_2
       try clear hcz6_3
       try clear hcz6_4
       try clear hcz6_5
       try clear hcz6_6
       try clear hcz6_7
       try clear hfz14_0
       try clear hfz14_1
       try clear hfz14_2
       try clear hfz14_3
       try clear hfz14_4
       try clear hfz14_5
       try clear hfz14_6
       try clear hfz14_7
       try clear hfz16_0
       try clear hfz16_1
       try clear hfz16_2
       try clear hfz16_3
       try clear hfz16_4
       try clear hfz16_5
       try clear hfz16_6
       try clear hfz16_7
       try clear hfz22_0
       try clear hfz22_1
       try clear hfz22_2
       try clear hfz22_3
       try clear hfz22_4
       try clear hfz22_5
       try clear hfz22_6
       try clear hfz22_7
       try clear hfz26_0
       try clear hfz26_1
       try clear hfz26_2
       try clear hfz26_3
       try clear hfz26_4
       try clear hfz26_5
       try clear hfz26_6
       try clear hfz26_7
       try clear hfz50_0
       try clear hfz50_1
       try clear hfz50_2
       try clear hfz50_3
       try clear hfz50_4
       try clear hfz50_5
       try clear hfz50_6
       try clear hfz50_7
       try clear hfz6_0
       try clear hfz6_1
       try clear hfz6_2
       try clear hfz6_3
       try clear hfz6_4
       try clear hfz6_5
       try clear hfz6_6
       try clear hfz6_7
       try clear p2
       obtain ⟨kq, x65_41, rfl, HA, HJ41, HO_6, HO_9, HO_357002, HO_357003, HO_357004, BK322, BK356, HB⟩ := hcut
       have hl357002_41 := (Kd.R_reads' HO_357002.out).1
       rw [hl357002_41] at HO_357002
       (try simp only [hl357002_41])
       (try simp only [hl357002_41] at BK322)
       (try simp only [hl357002_41] at BK356)
       (try simp only [hl357002_41] at HO_6)
       (try simp only [hl357002_41] at HO_9)
       (try simp only [hl357002_41] at HO_357003)
       (try simp only [hl357002_41] at HO_357004)
       have hl357003_41 := (Kd.R_reads' HO_357003.out).1
       rw [hl357003_41] at HO_357003
       (try simp only [hl357003_41])
       (try simp only [hl357003_41] at BK322)
       (try simp only [hl357003_41] at BK356)
       (try simp only [hl357003_41] at HO_6)
       (try simp only [hl357003_41] at HO_9)
       (try simp only [hl357003_41] at HO_357002)
       (try simp only [hl357003_41] at HO_357004)
       have hl357004_41 := (Kd.R_reads' HO_357004.out).1
       rw [hl357004_41] at HO_357004
       (try simp only [hl357004_41])
       (try simp only [hl357004_41] at BK322)
       (try simp only [hl357004_41] at BK356)
       (try simp only [hl357004_41] at HO_6)
       (try simp only [hl357004_41] at HO_9)
       (try simp only [hl357004_41] at HO_357002)
       (try simp only [hl357004_41] at HO_357003)
       cases kq with
       | zero => exact absurd HA.out (by simp [laws_FnExactHeadBytes.j1])
       | succ kj41 =>
        have H := HA.out
        clear HA
        simp only [laws_FnExactHeadBytes.j1] at H
        by_cases c59 : x65_41 = true
        ·subst c59
         have H1 : (some false) = some true := by rw [if_pos rfl] at H; exact H
         exact absurd H1 (by simp)
        ·replace c59 := Bool.eq_false_iff.mpr c59
         subst c59
         have H1 : ((laws_markByteS.f kj41 t357 1).bind fun bt382 => ((laws_heldByteS.f kj41 bt382.2 1).bind fun t384 => (if t384 < 0 then (some false) else (if t384 = bt382.1 then ((laws_toHeader.f kj41 a0_0 a0_1 l0_2 l0_3 l0_4 a0_5 a0_6 a0_7).bind fun bt385 => ((impl_HeadBytes.f kj41 bt385.1 bt385.2.1 bt385.2.2.1 bt385.2.2.2.1 bt385.2.2.2.2.1 bt385.2.2.2.2.2.1 bt385.2.2.2.2.2.2.1 bt385.2.2.2.2.2.2.2 a1).bind fun bt399 => ((laws_eqByteS.f kj41 bt399.1 t338).bind fun t403 => (if t403 = true then (laws_FnExactHeadBytes.j2 kj41 bt382.2 bt382.1 (bt399.2 != t341)) else (laws_FnExactHeadBytes.j2 kj41 bt382.2 bt382.1 true))))) else (some false))))) = some true := by rw [if_neg (show ¬ (false = true) by decide)] at H; exact H
         clear H
         have H := H1
         clear H1
         replace H := Option.bind_eq_some_iff.mp H
         obtain ⟨⟨t382, t383⟩, A600, H⟩ := H
         replace H : ((laws_heldByteS.f kj41 t383 1).bind fun t384 => (if t384 < 0 then (some false) else (if t384 = t382 then ((laws_toHeader.f kj41 a0_0 a0_1 l0_2 l0_3 l0_4 a0_5 a0_6 a0_7).bind fun bt385 => ((impl_HeadBytes.f kj41 bt385.1 bt385.2.1 bt385.2.2.1 bt385.2.2.2.1 bt385.2.2.2.2.1 bt385.2.2.2.2.2.1 bt385.2.2.2.2.2.2.1 bt385.2.2.2.2.2.2.2 a1).bind fun bt399 => ((laws_eqByteS.f kj41 bt399.1 t338).bind fun t403 => (if t403 = true then (laws_FnExactHeadBytes.j2 kj41 t383 t382 (bt399.2 != t341)) else (laws_FnExactHeadBytes.j2 kj41 t383 t382 true))))) else (some false)))) = some true := H
         have A60 := Aside0.mk A600
         clear A600
         replace H := Option.bind_eq_some_iff.mp H
         obtain ⟨t384, A610, H⟩ := H
         replace H : (if t384 < 0 then (some false) else (if t384 = t382 then ((laws_toHeader.f kj41 a0_0 a0_1 l0_2 l0_3 l0_4 a0_5 a0_6 a0_7).bind fun bt385 => ((impl_HeadBytes.f kj41 bt385.1 bt385.2.1 bt385.2.2.1 bt385.2.2.2.1 bt385.2.2.2.2.1 bt385.2.2.2.2.2.1 bt385.2.2.2.2.2.2.1 bt385.2.2.2.2.2.2.2 a1).bind fun bt399 => ((laws_eqByteS.f kj41 bt399.1 t338).bind fun t403 => (if t403 = true then (laws_FnExactHeadBytes.j2 kj41 t383 t382 (bt399.2 != t341)) else (laws_FnExactHeadBytes.j2 kj41 t383 t382 true))))) else (some false))) = some true := H
         have A61 := Aside0.mk A610
         clear A610
         by_cases c62 : t384 < 0
         ·rw [if_pos c62] at H
          exact absurd H (by simp)
         ·rw [if_neg c62] at H
          have c62b0 : decide (t384 < 0) = false := decide_eq_false c62
          clear c62
          by_cases c65 : t384 = t382
          ·rw [if_pos c65] at H
           have c65b0 : (t384 == t382) = true := beq_iff_eq.mpr c65
           have c65b1 : (t384 != t382) = false := bne_eq_false_iff_eq.mpr c65
           clear c65
           replace H := Option.bind_eq_some_iff.mp H
           obtain ⟨⟨t385, t386, t387, t390, t393, t396, t397, t398⟩, A660, H⟩ := H
           replace H : ((impl_HeadBytes.f kj41 t385 t386 t387 t390 t393 t396 t397 t398 a1).bind fun bt399 => ((laws_eqByteS.f kj41 bt399.1 t338).bind fun t403 => (if t403 = true then (laws_FnExactHeadBytes.j2 kj41 t383 t382 (bt399.2 != t341)) else (laws_FnExactHeadBytes.j2 kj41 t383 t382 true)))) = some true := H
           have A66 := Aside0.mk A660
           clear A660
           replace H := Option.bind_eq_some_iff.mp H
           obtain ⟨⟨t399, t402⟩, A670, H⟩ := H
           replace H : ((laws_eqByteS.f kj41 t399 t338).bind fun t403 => (if t403 = true then (laws_FnExactHeadBytes.j2 kj41 t383 t382 (t402 != t341)) else (laws_FnExactHeadBytes.j2 kj41 t383 t382 true))) = some true := H
           have A67 := Aside0.mk A670
           clear A670
           have HC68 := Aside0.mk H
           clear H
           obtain ⟨Ao69, co69, eo69⟩ := Kd.R_slice HO_9.out
           subst eo69
           go_upto_region 25 with (first | ((with_reducible refine gate_callee (f := 17) rfl ?_); refine goesL_ (some 68) rfl rfl Try.func17 (by kernel_rfl) rfl #[.slice Ao69 t357.length co69, .int .i64 1] rfl (by (try simp only [List.map_toArray, List.map_cons, List.map_nil]); first | done | rfl | (simp only [List.length_drop, List.length_take]; rfl)) ?_; (with_reducible refine (laws_markByteS.calls kj41 (fun k_ => some k_ = (.slice Ao69 t357.length co69 : Value).ownBlock) (.slice Ao69 t357.length co69) t357 1 t382 t383 w _ ?side1 ?side2 A60.out).mono ?_); (case side1 => repeat (first | (with_reducible first | exact HB.out | apply below_alloc | apply pw_below_drewN | apply below_drew1 | refine below_set ?_ GE322.out | refine below_set ?_ GE356.out) | exact HB.out)); (case side2 => exact Kd.R_tight rfl HO_9.out); rintro e w70 ⟨rfl, hy0, hb, hkp⟩; refine ⟨_, rfl, ?_⟩; have n0_ := Aside0.mk (Kd.R_mono (ok' := fun k_ => some k_ ≠ (.slice Ao69 t357.length co69 : Value).ownBlock ∧ some k_ ≠ (.slice Ao27 t378.length co27 : Value).ownBlock ∧ some k_ ≠ (.slice Ao28 t379.length co28 : Value).ownBlock ∧ some k_ ≠ (.slice Ao29 t380.length co29 : Value).ownBlock) (Kd.R_keptB (HO_6.out) hkp (fun k_ hk_ hs_ => (hk_.1) hs_)) (fun k_ hk_ => ⟨hk_.1.1, hk_.1.2.1, hk_.1.2.2.1, hk_.1.2.2.2⟩)); have n1_ := Aside0.mk (Kd.R_reok rfl hy0 (fun k_ e_ => HO_9.out.1 k_ e_)); have n2_ := Aside0.mk (Kd.R_mono (ok' := fun k_ => some k_ ≠ (v339 : Value).ownBlock ∧ some k_ ≠ (.slice Ao69 t357.length co69 : Value).ownBlock ∧ some k_ ≠ (.slice Ao28 t379.length co28 : Value).ownBlock ∧ some k_ ≠ (.slice Ao29 t380.length co29 : Value).ownBlock) (Kd.R_keptB (HO_357002.out) hkp (fun k_ hk_ hs_ => (hk_.2.1) hs_)) (fun k_ hk_ => ⟨hk_.1.1, hk_.1.2.1, hk_.1.2.2.1, hk_.1.2.2.2⟩)); have n3_ := Aside0.mk (Kd.R_mono (ok' := fun k_ => some k_ ≠ (v339 : Value).ownBlock ∧ some k_ ≠ (.slice Ao69 t357.length co69 : Value).ownBlock ∧ some k_ ≠ (.slice Ao27 t378.length co27 : Value).ownBlock ∧ some k_ ≠ (.slice Ao29 t380.length co29 : Value).ownBlock) (Kd.R_keptB (HO_357003.out) hkp (fun k_ hk_ hs_ => (hk_.2.1) hs_)) (fun k_ hk_ => ⟨hk_.1.1, hk_.1.2.1, hk_.1.2.2.1, hk_.1.2.2.2⟩)); have n4_ := Aside0.mk (Kd.R_mono (ok' := fun k_ => some k_ ≠ (v339 : Value).ownBlock ∧ some k_ ≠ (.slice Ao69 t357.length co69 : Value).ownBlock ∧ some k_ ≠ (.slice Ao27 t378.length co27 : Value).ownBlock ∧ some k_ ≠ (.slice Ao28 t379.length co28 : Value).ownBlock) (Kd.R_keptB (HO_357004.out) hkp (fun k_ hk_ hs_ => (hk_.2.1) hs_)) (fun k_ hk_ => ⟨hk_.1.1, hk_.1.2.1, hk_.1.2.2.1, hk_.1.2.2.2⟩)); have n5_ := Aside0.mk (blk_kept (by (with_reducible repeat (first | refine blk_drewN ?_ _ | refine blk_drew ?_ | refine blk_alloc ?_ _)); exact BK322.out) hkp (fun hs_ => (fun e_ => (Kd.R_ne HO_9.out BK322.out (by decide)) e_) hs_)); have n6_ := Aside0.mk (blk_kept (by (with_reducible repeat (first | refine blk_drewN ?_ _ | refine blk_drew ?_ | refine blk_alloc ?_ _)); exact BK356.out) hkp (fun hs_ => (fun e_ => (Kd.R_ne HO_9.out BK356.out (by decide)) e_) hs_)); have n7_ := Aside0.mk (hb); clear HO_6; clear HO_9; clear HO_357002; clear HO_357003; clear HO_357004; clear BK322; clear BK356; clear HB; have HO_6 := n0_; have HO_9 := n1_; have HO_357002 := n2_; have HO_357003 := n3_; have HO_357004 := n4_; have BK322 := n5_; have BK356 := n6_; have HB := n7_; clear n0_ n1_ n2_ n3_ n4_ n5_ n6_ n7_; (try clear hb); (try clear hkp); (try clear hy0)) | ((with_reducible refine gate_callee (f := 18) rfl ?_); refine goesL_ (some 71) rfl rfl Try.func18 (by kernel_rfl) rfl #[.slice Ao69 t383.length co69, .int .i64 1] rfl (by (try simp only [List.map_toArray, List.map_cons, List.map_nil]); first | done | (rw [show t383.length = t357.length from (Kd.R_reads' HO_9.out).1.symm] <;> rfl) | rfl | (simp only [List.length_drop, List.length_take]; rfl)) ?_; (with_reducible refine (laws_heldByteS.calls kj41 _ _ t383 1 t384 _ ?side1 ?side2 A61.out).mono ?_); (case side1 => repeat (first | exact (Kd.R_reads' HO_9.out).2.2 | (with_reducible refine Kd.C_alloc ?_ _) | (with_reducible refine Kd.C_drewN ?_ _) | (with_reducible refine Kd.C_drew ?_))); (case side2 => rw [show t383.length = t357.length from (Kd.R_reads' HO_9.out).1.symm]; exact (Kd.R_reads' HO_9.out).2.1); rintro e w' ⟨rfl, ⟨nd, rfl⟩⟩; refine ⟨_, rfl, ?_⟩; have hnb71 := NB322_356.out; have hnc71 := NB356_322.out; have hcz72_0 : w70.cell? ⟨gb322, 0, none⟩ = some (.int .i64 a0_0) := (blk_cell BK322.out 0).trans rfl; have hcz72_1 : w70.cell? ⟨gb322, 1, none⟩ = some (.int .i64 a0_1) := (blk_cell BK322.out 1).trans rfl; have hcz72_2 : w70.cell? ⟨gb322, 2, none⟩ = some (.slice A0_2 l0_2.length c0_2) := (blk_cell BK322.out 2).trans rfl; have hcz72_3 : w70.cell? ⟨gb322, 3, none⟩ = some (.slice A0_3 l0_3.length c0_3) := (blk_cell BK322.out 3).trans rfl; have hcz72_4 : w70.cell? ⟨gb322, 4, none⟩ = some (.slice A0_4 l0_4.length c0_4) := (blk_cell BK322.out 4).trans rfl; have hcz72_5 : w70.cell? ⟨gb322, 5, none⟩ = some (.int .i64 a0_5) := (blk_cell BK322.out 5).trans rfl; have hcz72_6 : w70.cell? ⟨gb322, 6, none⟩ = some (.int .i64 a0_6) := (blk_cell BK322.out 6).trans rfl; have hcz72_7 : w70.cell? ⟨gb322, 7, none⟩ = some (.int .i64 a0_7) := (blk_cell BK322.out 7).trans rfl; have hfz72_0 := blk_frozen BK322.out 0; have hfz72_1 := blk_frozen BK322.out 1; have hfz72_2 := blk_frozen BK322.out 2; have hfz72_3 := blk_frozen BK322.out 3; have hfz72_4 := blk_frozen BK322.out 4; have hfz72_5 := blk_frozen BK322.out 5; have hfz72_6 := blk_frozen BK322.out 6; have hfz72_7 := blk_frozen BK322.out 7) | ((with_reducible refine gate_callee (f := 30) rfl ?_); refine goesL_ (some 79) rfl rfl Try.func30 (by kernel_rfl) rfl #[.agg #[.int .i64 a0_0, .int .i64 a0_1, .slice A0_2 l0_2.length c0_2, .slice A0_3 l0_3.length c0_3, .slice A0_4 l0_4.length c0_4, .int .i64 a0_5, .int .i64 a0_6, .int .i64 a0_7]] rfl (by (try simp only [List.map_toArray, List.map_cons, List.map_nil]); first | done | rfl | (simp only [List.length_drop, List.length_take]; rfl)) ?_; (with_reducible refine (laws_toHeader.calls kj41 a0_0 a0_1 _ _ l0_2 _ _ l0_3 _ _ l0_4 a0_5 a0_6 a0_7 t385 t386 t387 t390 t393 t396 t397 t398 _ ?side1 ?side2 ?side3 ?side4 ?side5 ?side6 A66.out).mono ?_); (case side1 => repeat (first | exact (Kd.C_below HR0_2.out (by repeat (first | (with_reducible first | exact HB.out | apply below_alloc | apply pw_below_drewN | apply below_drew1 | refine below_set ?_ GE322.out | refine below_set ?_ GE356.out) | exact HB.out))) | (with_reducible refine Kd.C_alloc ?_ _) | (with_reducible refine Kd.C_drewN ?_ _) | (with_reducible refine Kd.C_drew ?_))); (case side2 => exact HC0_2.out); (case side3 => repeat (first | exact (Kd.C_below HR0_3.out (by repeat (first | (with_reducible first | exact HB.out | apply below_alloc | apply pw_below_drewN | apply below_drew1 | refine below_set ?_ GE322.out | refine below_set ?_ GE356.out) | exact HB.out))) | (with_reducible refine Kd.C_alloc ?_ _) | (with_reducible refine Kd.C_drewN ?_ _) | (with_reducible refine Kd.C_drew ?_))); (case side4 => exact HC0_3.out); (case side5 => repeat (first | exact (Kd.C_below HR0_4.out (by repeat (first | (with_reducible first | exact HB.out | apply below_alloc | apply pw_below_drewN | apply below_drew1 | refine below_set ?_ GE322.out | refine below_set ?_ GE356.out) | exact HB.out))) | (with_reducible refine Kd.C_alloc ?_ _) | (with_reducible refine Kd.C_drewN ?_ _) | (with_reducible refine Kd.C_drew ?_))); (case side6 => exact HC0_4.out); rintro e w73 ⟨v388, v391, v394, rfl, ho0, ho1, ho2, hb⟩; refine ⟨_, rfl, ?_⟩; have n0_ := Aside0.mk (Kd.R_mono (Kd.R_told (Kd.R_told (Kd.R_told (Kd.R_old (by (with_reducible repeat (first | apply Kd.R_alloc | apply Kd.R_drewN | apply Kd.R_drew)); exact HO_6.out) hb) (Kd.R_base ho0)) (Kd.R_base ho1)) (Kd.R_base ho2)) (fun _ h_ => h_.1)); have n1_ := Aside0.mk (Kd.R_mono (Kd.R_told (Kd.R_told (Kd.R_told (Kd.R_old (by (with_reducible repeat (first | apply Kd.R_alloc | apply Kd.R_drewN | apply Kd.R_drew)); exact HO_9.out) hb) (Kd.R_base ho0)) (Kd.R_base ho1)) (Kd.R_base ho2)) (fun _ h_ => h_.1)); have n2_ := Aside0.mk (Kd.R_mono (Kd.R_told (Kd.R_told (Kd.R_told (Kd.R_old (by (with_reducible repeat (first | apply Kd.R_alloc | apply Kd.R_drewN | apply Kd.R_drew)); exact HO_357002.out) hb) (Kd.R_base ho0)) (Kd.R_base ho1)) (Kd.R_base ho2)) (fun _ h_ => h_.1)); have n3_ := Aside0.mk (Kd.R_mono (Kd.R_told (Kd.R_told (Kd.R_told (Kd.R_old (by (with_reducible repeat (first | apply Kd.R_alloc | apply Kd.R_drewN | apply Kd.R_drew)); exact HO_357003.out) hb) (Kd.R_base ho0)) (Kd.R_base ho1)) (Kd.R_base ho2)) (fun _ h_ => h_.1)); have n4_ := Aside0.mk (Kd.R_mono (Kd.R_told (Kd.R_told (Kd.R_told (Kd.R_old (by (with_reducible repeat (first | apply Kd.R_alloc | apply Kd.R_drewN | apply Kd.R_drew)); exact HO_357004.out) hb) (Kd.R_base ho0)) (Kd.R_base ho1)) (Kd.R_base ho2)) (fun _ h_ => h_.1)); have n5_ := Aside0.mk (Kd.R_lower (Kd.R_new' (Kd.R_new' (Kd.R_new' (Kd.R_new' (Kd.R_new' ho0 (Kd.R_lt (by (with_reducible repeat (first | apply Kd.R_alloc | apply Kd.R_drewN | apply Kd.R_drew)); exact HO_6.out))) (Kd.R_lt (by (with_reducible repeat (first | apply Kd.R_alloc | apply Kd.R_drewN | apply Kd.R_drew)); exact HO_9.out))) (Kd.R_lt (by (with_reducible repeat (first | apply Kd.R_alloc | apply Kd.R_drewN | apply Kd.R_drew)); exact HO_357002.out))) (Kd.R_lt (by (with_reducible repeat (first | apply Kd.R_alloc | apply Kd.R_drewN | apply Kd.R_drew)); exact HO_357003.out))) (Kd.R_lt (by (with_reducible repeat (first | apply Kd.R_alloc | apply Kd.R_drewN | apply Kd.R_drew)); exact HO_357004.out))) (below_size (by repeat (first | (with_reducible first | exact HB.out | apply below_alloc | apply pw_below_drewN | apply below_drew1 | refine below_set ?_ GE322.out | refine below_set ?_ GE356.out) | exact HB.out)))); have n6_ := Aside0.mk (Kd.R_lower (Kd.R_new' (Kd.R_new' (Kd.R_new' (Kd.R_new' (Kd.R_new' ho1 (Kd.R_lt (by (with_reducible repeat (first | apply Kd.R_alloc | apply Kd.R_drewN | apply Kd.R_drew)); exact HO_6.out))) (Kd.R_lt (by (with_reducible repeat (first | apply Kd.R_alloc | apply Kd.R_drewN | apply Kd.R_drew)); exact HO_9.out))) (Kd.R_lt (by (with_reducible repeat (first | apply Kd.R_alloc | apply Kd.R_drewN | apply Kd.R_drew)); exact HO_357002.out))) (Kd.R_lt (by (with_reducible repeat (first | apply Kd.R_alloc | apply Kd.R_drewN | apply Kd.R_drew)); exact HO_357003.out))) (Kd.R_lt (by (with_reducible repeat (first | apply Kd.R_alloc | apply Kd.R_drewN | apply Kd.R_drew)); exact HO_357004.out))) (below_size (by repeat (first | (with_reducible first | exact HB.out | apply below_alloc | apply pw_below_drewN | apply below_drew1 | refine below_set ?_ GE322.out | refine below_set ?_ GE356.out) | exact HB.out)))); have n7_ := Aside0.mk (Kd.R_lower (Kd.R_new' (Kd.R_new' (Kd.R_new' (Kd.R_new' (Kd.R_new' ho2 (Kd.R_lt (by (with_reducible repeat (first | apply Kd.R_alloc | apply Kd.R_drewN | apply Kd.R_drew)); exact HO_6.out))) (Kd.R_lt (by (with_reducible repeat (first | apply Kd.R_alloc | apply Kd.R_drewN | apply Kd.R_drew)); exact HO_9.out))) (Kd.R_lt (by (with_reducible repeat (first | apply Kd.R_alloc | apply Kd.R_drewN | apply Kd.R_drew)); exact HO_357002.out))) (Kd.R_lt (by (with_reducible repeat (first | apply Kd.R_alloc | apply Kd.R_drewN | apply Kd.R_drew)); exact HO_357003.out))) (Kd.R_lt (by (with_reducible repeat (first | apply Kd.R_alloc | apply Kd.R_drewN | apply Kd.R_drew)); exact HO_357004.out))) (below_size (by repeat (first | (with_reducible first | exact HB.out | apply below_alloc | apply pw_below_drewN | apply below_drew1 | refine below_set ?_ GE322.out | refine below_set ?_ GE356.out) | exact HB.out)))); have n8_ := Aside0.mk (blk_below (g := gb322) (o := .cells #[.int .i64 a0_0, .int .i64 a0_1, .slice A0_2 l0_2.length c0_2, .slice A0_3 l0_3.length c0_3, .slice A0_4 l0_4.length c0_4, .int .i64 a0_5, .int .i64 a0_6, .int .i64 a0_7] 39 (0, 0)) (by (with_reducible repeat (first | refine blk_drewN ?_ _ | refine blk_drew ?_ | refine blk_alloc ?_ _)); exact BK322.out) hb); have n9_ := Aside0.mk (blk_below (g := gb356) (o := .cells #[.int .i64 t342, .int .i64 t343, .slice Ao27 t378.length co27, .slice Ao28 t379.length co28, .slice Ao29 t380.length co29, .int .i64 t353, .int .i64 t354, .int .i64 t355] 42 (0, 0)) (by (with_reducible repeat (first | refine blk_drewN ?_ _ | refine blk_drew ?_ | refine blk_alloc ?_ _)); exact BK356.out) hb); have n10_ := Aside0.mk (below_step (by repeat (first | (with_reducible first | exact HB.out | apply below_alloc | apply pw_below_drewN | apply below_drew1 | refine below_set ?_ GE322.out | refine below_set ?_ GE356.out) | exact HB.out)) hb); clear HO_6; clear HO_9; clear HO_357002; clear HO_357003; clear HO_357004; clear BK322; clear BK356; clear HB; have HO_6 := n0_; have HO_9 := n1_; have HO_357002 := n2_; have HO_357003 := n3_; have HO_357004 := n4_; have HO389 := n5_; have HO392 := n6_; have HO395 := n7_; have BK322 := n8_; have BK356 := n9_; have HB := n10_; clear n0_ n1_ n2_ n3_ n4_ n5_ n6_ n7_ n8_ n9_ n10_; (try clear hb); (try clear hb2); (try clear hk); (try clear hi); (try clear ho0); (try clear ho1); (try clear ho2); obtain ⟨Ao74, co74, eo74⟩ := Kd.R_slice HO389.out; subst eo74; obtain ⟨Ao75, co75, eo75⟩ := Kd.R_slice HO392.out; subst eo75; obtain ⟨Ao76, co76, eo76⟩ := Kd.R_slice HO395.out; subst eo76) | ((with_reducible refine gate_callee (f := 31) rfl ?_); refine goesL_ (some 81) rfl rfl Try.func31 (by kernel_rfl) rfl #[.agg #[.int .i64 t385, .int .i64 t386, .slice Ao74 t387.length co74, .slice Ao75 t390.length co75, .slice Ao76 t393.length co76, .int .i64 t396, .int .i64 t397, .int .i64 t398], .int .i64 a1] rfl (by (try simp only [List.map_toArray, List.map_cons, List.map_nil]); first | done | rfl | (simp only [List.length_drop, List.length_take]; rfl)) ?_; (with_reducible refine (impl_HeadBytes.calls kj41 t385 t386 _ _ t387 _ _ t390 _ _ t393 t396 t397 t398 a1 t399 t402 _ ?side1 ?side2 ?side3 ?side4 ?side5 ?side6 A67.out).mono ?_); (case side1 => repeat (first | exact (Kd.R_reads' HO389.out).2.2 | (with_reducible refine Kd.C_alloc ?_ _) | (with_reducible refine Kd.C_drewN ?_ _) | (with_reducible refine Kd.C_drew ?_))); (case side2 => exact (Kd.R_reads' HO389.out).2.1); (case side3 => repeat (first | exact (Kd.R_reads' HO392.out).2.2 | (with_reducible refine Kd.C_alloc ?_ _) | (with_reducible refine Kd.C_drewN ?_ _) | (with_reducible refine Kd.C_drew ?_))); (case side4 => exact (Kd.R_reads' HO392.out).2.1); (case side5 => repeat (first | exact (Kd.R_reads' HO395.out).2.2 | (with_reducible refine Kd.C_alloc ?_ _) | (with_reducible refine Kd.C_drewN ?_ _) | (with_reducible refine Kd.C_drew ?_))); (case side6 => exact (Kd.R_reads' HO395.out).2.1); rintro e w77 ⟨v400, rfl, ho0, hb⟩; refine ⟨_, rfl, ?_⟩; have n0_ := Aside0.mk (Kd.R_elder' (by (with_reducible repeat (first | apply Kd.R_alloc | apply Kd.R_drewN | apply Kd.R_drew)); exact HO_6.out) (Kd.R_base ho0) hb); have n1_ := Aside0.mk (Kd.R_elder' (by (with_reducible repeat (first | apply Kd.R_alloc | apply Kd.R_drewN | apply Kd.R_drew)); exact HO_9.out) (Kd.R_base ho0) hb); have n2_ := Aside0.mk (Kd.R_elder' (by (with_reducible repeat (first | apply Kd.R_alloc | apply Kd.R_drewN | apply Kd.R_drew)); exact HO_357002.out) (Kd.R_base ho0) hb); have n3_ := Aside0.mk (Kd.R_elder' (by (with_reducible repeat (first | apply Kd.R_alloc | apply Kd.R_drewN | apply Kd.R_drew)); exact HO_357003.out) (Kd.R_base ho0) hb); have n4_ := Aside0.mk (Kd.R_elder' (by (with_reducible repeat (first | apply Kd.R_alloc | apply Kd.R_drewN | apply Kd.R_drew)); exact HO_357004.out) (Kd.R_base ho0) hb); have n5_ := Aside0.mk (Kd.R_elder' (by (with_reducible repeat (first | apply Kd.R_alloc | apply Kd.R_drewN | apply Kd.R_drew)); exact HO389.out) (Kd.R_base ho0) hb); have n6_ := Aside0.mk (Kd.R_elder' (by (with_reducible repeat (first | apply Kd.R_alloc | apply Kd.R_drewN | apply Kd.R_drew)); exact HO392.out) (Kd.R_base ho0) hb); have n7_ := Aside0.mk (Kd.R_elder' (by (with_reducible repeat (first | apply Kd.R_alloc | apply Kd.R_drewN | apply Kd.R_drew)); exact HO395.out) (Kd.R_base ho0) hb); have n8_ := Aside0.mk (Kd.R_lower (Kd.R_new' (Kd.R_new' (Kd.R_new' (Kd.R_new' (Kd.R_new' (Kd.R_new' (Kd.R_new' (Kd.R_new' ho0 (Kd.R_lt (by (with_reducible repeat (first | apply Kd.R_alloc | apply Kd.R_drewN | apply Kd.R_drew)); exact HO_6.out))) (Kd.R_lt (by (with_reducible repeat (first | apply Kd.R_alloc | apply Kd.R_drewN | apply Kd.R_drew)); exact HO_9.out))) (Kd.R_lt (by (with_reducible repeat (first | apply Kd.R_alloc | apply Kd.R_drewN | apply Kd.R_drew)); exact HO_357002.out))) (Kd.R_lt (by (with_reducible repeat (first | apply Kd.R_alloc | apply Kd.R_drewN | apply Kd.R_drew)); exact HO_357003.out))) (Kd.R_lt (by (with_reducible repeat (first | apply Kd.R_alloc | apply Kd.R_drewN | apply Kd.R_drew)); exact HO_357004.out))) (Kd.R_lt (by (with_reducible repeat (first | apply Kd.R_alloc | apply Kd.R_drewN | apply Kd.R_drew)); exact HO389.out))) (Kd.R_lt (by (with_reducible repeat (first | apply Kd.R_alloc | apply Kd.R_drewN | apply Kd.R_drew)); exact HO392.out))) (Kd.R_lt (by (with_reducible repeat (first | apply Kd.R_alloc | apply Kd.R_drewN | apply Kd.R_drew)); exact HO395.out))) (below_size (by repeat (first | (with_reducible first | exact HB.out | apply below_alloc | apply pw_below_drewN | apply below_drew1 | refine below_set ?_ GE322.out | refine below_set ?_ GE356.out) | exact HB.out)))); have n9_ := Aside0.mk (blk_below (g := gb322) (o := .cells #[.int .i64 a0_0, .int .i64 a0_1, .slice A0_2 l0_2.length c0_2, .slice A0_3 l0_3.length c0_3, .slice A0_4 l0_4.length c0_4, .int .i64 a0_5, .int .i64 a0_6, .int .i64 a0_7] 39 (0, 0)) (by (with_reducible repeat (first | refine blk_drewN ?_ _ | refine blk_drew ?_ | refine blk_alloc ?_ _)); exact BK322.out) hb); have n10_ := Aside0.mk (blk_below (g := gb356) (o := .cells #[.int .i64 t342, .int .i64 t343, .slice Ao27 t378.length co27, .slice Ao28 t379.length co28, .slice Ao29 t380.length co29, .int .i64 t353, .int .i64 t354, .int .i64 t355] 42 (0, 0)) (by (with_reducible repeat (first | refine blk_drewN ?_ _ | refine blk_drew ?_ | refine blk_alloc ?_ _)); exact BK356.out) hb); have n11_ := Aside0.mk (below_step (by repeat (first | (with_reducible first | exact HB.out | apply below_alloc | apply pw_below_drewN | apply below_drew1 | refine below_set ?_ GE322.out | refine below_set ?_ GE356.out) | exact HB.out)) hb); clear HO_6; clear HO_9; clear HO_357002; clear HO_357003; clear HO_357004; clear HO389; clear HO392; clear HO395; clear BK322; clear BK356; clear HB; have HO_6 := n0_; have HO_9 := n1_; have HO_357002 := n2_; have HO_357003 := n3_; have HO_357004 := n4_; have HO389 := n5_; have HO392 := n6_; have HO395 := n7_; have HO401 := n8_; have BK322 := n9_; have BK356 := n10_; have HB := n11_; clear n0_ n1_ n2_ n3_ n4_ n5_ n6_ n7_ n8_ n9_ n10_ n11_; (try clear hb); (try clear hb2); (try clear hk); (try clear hi); (try clear ho0)))
           (try simp only [Act.put, List.setIfInBounds_toArray, List.set_cons_zero, List.set_cons_succ])
           go_cut [92] (fun v92 wc => ∃ (kq : Nat) (x92_67 : Bool), v92 = .bool x92_67 ∧ Aside0 (laws_FnExactHeadBytes.j2 kq t383 t382 x92_67 = some true) ∧ Aside0 (kq ≤ kj41) ∧ Aside0 (Kd.R (Kd.int .u8) 5 wc w.heap.size (fun k_ => some k_ ≠ ((.slice Ao27 t378.length co27) : Value).ownBlock ∧ some k_ ≠ ((.slice Ao28 t379.length co28) : Value).ownBlock ∧ some k_ ≠ ((.slice Ao29 t380.length co29) : Value).ownBlock) (.slice Ao69 t357.length co69) t383) ∧ Aside0 (Kd.R (Kd.int .u8) 5 wc w.heap.size (fun k_ => some k_ ≠ ((.slice Ao69 t357.length co69) : Value).ownBlock ∧ some k_ ≠ ((.slice Ao28 t379.length co28) : Value).ownBlock ∧ some k_ ≠ ((.slice Ao29 t380.length co29) : Value).ownBlock) (.slice Ao27 t378.length co27) t378) ∧ Aside0 (Kd.R (Kd.int .u8) 5 wc w.heap.size (fun k_ => some k_ ≠ ((.slice Ao69 t357.length co69) : Value).ownBlock ∧ some k_ ≠ ((.slice Ao27 t378.length co27) : Value).ownBlock ∧ some k_ ≠ ((.slice Ao29 t380.length co29) : Value).ownBlock) (.slice Ao28 t379.length co28) t379) ∧ Aside0 (Kd.R (Kd.int .u8) 5 wc w.heap.size (fun k_ => some k_ ≠ ((.slice Ao69 t357.length co69) : Value).ownBlock ∧ some k_ ≠ ((.slice Ao27 t378.length co27) : Value).ownBlock ∧ some k_ ≠ ((.slice Ao28 t379.length co28) : Value).ownBlock) (.slice Ao29 t380.length co29) t380) ∧ Aside0 (wc.heap[gb322]? = some (.cells #[.int .i64 a0_0, .int .i64 a0_1, (.slice A0_2 l0_2.length c0_2), (.slice A0_3 l0_3.length c0_3), (.slice A0_4 l0_4.length c0_4), .int .i64 a0_5, .int .i64 a0_6, .int .i64 a0_7] 39 (0, 0))) ∧ Aside0 (wc.heap[gb356]? = some (.cells #[.int .i64 t342, .int .i64 t343, (.slice Ao27 t378.length co27), (.slice Ao28 t379.length co28), (.slice Ao29 t380.length co29), .int .i64 t353, .int .i64 t354, .int .i64 t355] 42 (0, 0))) ∧ Aside0 (Below w.heap.size w wc))
           case first =>
            have H := HC68.out
            clear HC68
            replace H := Option.bind_eq_some_iff.mp H
            obtain ⟨t403, A780, H⟩ := H
            replace H : (if t403 = true then (laws_FnExactHeadBytes.j2 kj41 t383 t382 (t402 != t341)) else (laws_FnExactHeadBytes.j2 kj41 t383 t382 true)) = some true := H
            have A78 := Aside0.mk A780
            clear A780
            by_cases c79 : t403 = true
            ·subst c79
             have H1 : (laws_FnExactHeadBytes.j2 kj41 t383 t382 (t402 != t341)) = some true := by rw [if_pos rfl] at H; exact H
             clear H
             have H := H1
             clear H1
             have H' := Aside0.mk H
             clear H
             obtain ⟨Ao80, co80, eo80⟩ := Kd.R_slice HO401.out
             subst eo80
             obtain ⟨Ao81, co81, eo81⟩ := Kd.R_slice HO_6.out
             subst eo81
             go_wp2_with (first | ((with_reducible refine gate_callee (f := 16) rfl ?_); refine goesL_ (some 86) rfl rfl Try.func16 (by kernel_rfl) rfl #[.slice Ao80 t399.length co80, .slice Ao81 t338.length co81] rfl (by (try simp only [List.map_toArray, List.map_cons, List.map_nil]); first | done | rfl | (simp only [List.length_drop, List.length_take]; rfl)) ?_; (with_reducible refine (laws_eqByteS.calls kj41 _ _ t399 _ _ t338 true _ ?side1 ?side2 ?side3 ?side4 A78.out).mono ?_); (case side1 => repeat (first | exact (Kd.R_reads' HO401.out).2.2 | (with_reducible refine Kd.C_alloc ?_ _) | (with_reducible refine Kd.C_drewN ?_ _) | (with_reducible refine Kd.C_drew ?_))); (case side2 => exact (Kd.R_reads' HO401.out).2.1); (case side3 => repeat (first | exact (Kd.R_reads' HO_6.out).2.2 | (with_reducible refine Kd.C_alloc ?_ _) | (with_reducible refine Kd.C_drewN ?_ _) | (with_reducible refine Kd.C_drew ?_))); (case side4 => exact (Kd.R_reads' HO_6.out).2.1); rintro e w' ⟨rfl, ⟨nd, rfl⟩⟩; refine ⟨_, rfl, ?_⟩))
             go_meet
             case rel => exact ⟨_, ((t402 != t341)), (by first | rfl | (simp; done) | (simp [*]; done)), H', ⟨by have := HJ11.out; have := HJ41.out; first | omega | exact Nat.le_refl _⟩, ⟨by (try simp only [hl357002_41]); (try simp only [hl357003_41]); (try simp only [hl357004_41]); (with_reducible repeat (first | apply Kd.R_alloc | apply Kd.R_drewN | apply Kd.R_drew)); exact Kd.R_mono HO_9.out (fun _ hk => ⟨hk.1.1.1.1.2.1, ⟨hk.1.1.1.1.2.2.1, hk.1.1.1.1.2.2.2⟩⟩)⟩, ⟨by (try simp only [hl357002_41]); (try simp only [hl357003_41]); (try simp only [hl357004_41]); (with_reducible repeat (first | apply Kd.R_alloc | apply Kd.R_drewN | apply Kd.R_drew)); exact Kd.R_mono HO_357002.out (fun _ hk => ⟨hk.1.1.1.1.2.1, ⟨hk.1.1.1.1.2.2.1, hk.1.1.1.1.2.2.2⟩⟩)⟩, ⟨by (try simp only [hl357002_41]); (try simp only [hl357003_41]); (try simp only [hl357004_41]); (with_reducible repeat (first | apply Kd.R_alloc | apply Kd.R_drewN | apply Kd.R_drew)); exact Kd.R_mono HO_357003.out (fun _ hk => ⟨hk.1.1.1.1.2.1, ⟨hk.1.1.1.1.2.2.1, hk.1.1.1.1.2.2.2⟩⟩)⟩, ⟨by (try simp only [hl357002_41]); (try simp only [hl357003_41]); (try simp only [hl357004_41]); (with_reducible repeat (first | apply Kd.R_alloc | apply Kd.R_drewN | apply Kd.R_drew)); exact Kd.R_mono HO_357004.out (fun _ hk => ⟨hk.1.1.1.1.2.1, ⟨hk.1.1.1.1.2.2.1, hk.1.1.1.1.2.2.2⟩⟩)⟩, ⟨by (try simp only [hl357002_41]); (try simp only [hl357003_41]); (try simp only [hl357004_41]); (with_reducible repeat (first | refine blk_drewN ?_ _ | refine blk_drew ?_ | refine blk_alloc ?_ _)); exact BK322.out⟩, ⟨by (try simp only [hl357002_41]); (try simp only [hl357003_41]); (try simp only [hl357004_41]); (with_reducible repeat (first | refine blk_drewN ?_ _ | refine blk_drew ?_ | refine blk_alloc ?_ _)); exact BK356.out⟩, ⟨by repeat (first | (with_reducible first | exact HB.out | apply below_alloc | apply pw_below_drewN | apply below_drew1 | refine below_set ?_ GE322.out | refine below_set ?_ GE356.out) | exact HB.out)⟩⟩
            ·replace c79 := Bool.eq_false_iff.mpr c79
             subst c79
             have H1 : (laws_FnExactHeadBytes.j2 kj41 t383 t382 true) = some true := by rw [if_neg (show ¬ (false = true) by decide)] at H; exact H
             clear H
             have H := H1
             clear H1
             have H' := Aside0.mk H
             clear H
             obtain ⟨Ao82, co82, eo82⟩ := Kd.R_slice HO401.out
             subst eo82
             obtain ⟨Ao83, co83, eo83⟩ := Kd.R_slice HO_6.out
             subst eo83
             go_wp2_with (first | ((with_reducible refine gate_callee (f := 16) rfl ?_); refine goesL_ (some 86) rfl rfl Try.func16 (by kernel_rfl) rfl #[.slice Ao82 t399.length co82, .slice Ao83 t338.length co83] rfl (by (try simp only [List.map_toArray, List.map_cons, List.map_nil]); first | done | rfl | (simp only [List.length_drop, List.length_take]; rfl)) ?_; (with_reducible refine (laws_eqByteS.calls kj41 _ _ t399 _ _ t338 false _ ?side1 ?side2 ?side3 ?side4 A78.out).mono ?_); (case side1 => repeat (first | exact (Kd.R_reads' HO401.out).2.2 | (with_reducible refine Kd.C_alloc ?_ _) | (with_reducible refine Kd.C_drewN ?_ _) | (with_reducible refine Kd.C_drew ?_))); (case side2 => exact (Kd.R_reads' HO401.out).2.1); (case side3 => repeat (first | exact (Kd.R_reads' HO_6.out).2.2 | (with_reducible refine Kd.C_alloc ?_ _) | (with_reducible refine Kd.C_drewN ?_ _) | (with_reducible refine Kd.C_drew ?_))); (case side4 => exact (Kd.R_reads' HO_6.out).2.1); rintro e w' ⟨rfl, ⟨nd, rfl⟩⟩; refine ⟨_, rfl, ?_⟩))
             go_meet
             case rel => exact ⟨_, (true), (by first | rfl | (simp; done) | (simp [*]; done)), H', ⟨by have := HJ11.out; have := HJ41.out; first | omega | exact Nat.le_refl _⟩, ⟨by (try simp only [hl357002_41]); (try simp only [hl357003_41]); (try simp only [hl357004_41]); (with_reducible repeat (first | apply Kd.R_alloc | apply Kd.R_drewN | apply Kd.R_drew)); exact Kd.R_mono HO_9.out (fun _ hk => ⟨hk.1.1.1.1.2.1, ⟨hk.1.1.1.1.2.2.1, hk.1.1.1.1.2.2.2⟩⟩)⟩, ⟨by (try simp only [hl357002_41]); (try simp only [hl357003_41]); (try simp only [hl357004_41]); (with_reducible repeat (first | apply Kd.R_alloc | apply Kd.R_drewN | apply Kd.R_drew)); exact Kd.R_mono HO_357002.out (fun _ hk => ⟨hk.1.1.1.1.2.1, ⟨hk.1.1.1.1.2.2.1, hk.1.1.1.1.2.2.2⟩⟩)⟩, ⟨by (try simp only [hl357002_41]); (try simp only [hl357003_41]); (try simp only [hl357004_41]); (with_reducible repeat (first | apply Kd.R_alloc | apply Kd.R_drewN | apply Kd.R_drew)); exact Kd.R_mono HO_357003.out (fun _ hk => ⟨hk.1.1.1.1.2.1, ⟨hk.1.1.1.1.2.2.1, hk.1.1.1.1.2.2.2⟩⟩)⟩, ⟨by (try simp only [hl357002_41]); (try simp only [hl357003_41]); (try simp only [hl357004_41]); (with_reducible repeat (first | apply Kd.R_alloc | apply Kd.R_drewN | apply Kd.R_drew)); exact Kd.R_mono HO_357004.out (fun _ hk => ⟨hk.1.1.1.1.2.1, ⟨hk.1.1.1.1.2.2.1, hk.1.1.1.1.2.2.2⟩⟩)⟩, ⟨by (try simp only [hl357002_41]); (try simp only [hl357003_41]); (try simp only [hl357004_41]); (with_reducible repeat (first | refine blk_drewN ?_ _ | refine blk_drew ?_ | refine blk_alloc ?_ _)); exact BK322.out⟩, ⟨by (try simp only [hl357002_41]); (try simp only [hl357003_41]); (try simp only [hl357004_41]); (with_reducible repeat (first | refine blk_drewN ?_ _ | refine blk_drew ?_ | refine blk_alloc ?_ _)); exact BK356.out⟩, ⟨by repeat (first | (with_reducible first | exact HB.out | apply below_alloc | apply pw_below_drewN | apply below_drew1 | refine below_set ?_ GE322.out | refine below_set ?_ GE356.out) | exact HB.out)⟩⟩
           case rest =>
            clear HC68
            try clear c1
            try clear c2
            try clear p2
            try clear c3
            try clear c4
            try clear c4b0
            try clear c5
            try clear c6
            try clear c7
            try clear c16
            try clear c17
            try clear c18
            try clear c25
            try clear c28
            try clear c29
            try clear c30
            try clear c31
            try clear c32
            try clear c33
            try clear c37
            try clear c40
            try clear c49
            try clear c52
            try clear c52b0
            try clear c54
            try clear c59
            try clear c62
            try clear c62b0
            try clear c65
            try clear c65b0
            try clear c65b1
            try clear c71
            try clear c79
            try clear hcz14_0
            try clear hcz14_1
            try clear hcz14_2
            try clear hcz14_3
            try clear hcz14_4
            try clear hcz14_5
            try clear hcz14_6
            try clear hcz14_7
            try clear hcz16_0
            try clear hcz16_1
            try clear hcz16_2
            try clear hcz16_3
            try clear hcz16_4
            try clear hcz16_5
            try clear hcz16_6
            try clear hcz16_7
            try clear hcz22_0
            try clear hcz22_1
            try clear hcz22_2
            try clear hcz22_3
            try clear hcz22_4
            try clear hcz22_5
            try clear hcz22_6
            try clear hcz22_7
            try clear hcz26_0
            try clear hcz26_1
            try clear hcz26_2
            try clear hcz26_3
            try clear hcz26_4
            try clear hcz26_5
            try clear hcz26_6
            try clear hcz26_7
            try clear hcz50_0
            try clear hcz50_1
            try clear hcz50_2
            try clear hcz50_3
            try clear hcz50_4
            try clear hcz50_5
            try clear hcz50_6
            try clear hcz50_7
            try clear hcz6_0
            try clear hcz6_1
            try clear hcz6_2
            try clear hcz6_3
            try clear hcz6_4
            try clear hcz6_5
            try clear hcz6_6
            try clear hcz6_7
            try clear hcz72_0
            try clear hcz72_1
            try clear hcz72_2
            try clear hcz72_3
            try clear hcz72_4
            try clear hcz72_5
            try clear hcz72_6
            try clear hcz72_7
            try clear hfz14_0
            try clear hfz14_1
            try clear hfz14_2
            try clear hfz14_3
            try clear hfz14_4
            try clear hfz14_5
            try clear hfz14_6
            try clear hfz14_7
            try clear hfz16_0
            try clear hfz16_1
            try clear hfz16_2
            try clear hfz16_3
            try clear hfz16_4
            try clear hfz16_5
            try clear hfz16_6
            try clear hfz16_7
            try clear hfz22_0
            try clear hfz22_1
            try clear hfz22_2
            try clear hfz22_3
            try clear hfz22_4
            try clear hfz22_5
            try clear hfz22_6
            try clear hfz22_7
            try clear hfz26_0
            try clear hfz26_1
            try clear hfz26_2
            try clear hfz26_3
            try clear hfz26_4
            try clear hfz26_5
            try clear hfz26_6
            try clear hfz26_7
            try clear hfz50_0
            try clear hfz50_1
            try clear hfz50_2
            try clear hfz50_3
            try clear hfz50_4
            try clear hfz50_5
            try clear hfz50_6
            try clear hfz50_7
            try clear hfz6_0
            try clear hfz6_1
            try clear hfz6_2
            try clear hfz6_3
            try clear hfz6_4
            try clear hfz6_5
            try clear hfz6_6
            try clear hfz6_7
            try clear hfz72_0
            try clear hfz72_1
            try clear hfz72_2
            try clear hfz72_3
            try clear hfz72_4
            try clear hfz72_5
            try clear hfz72_6
            try clear hfz72_7
            try clear p2
            obtain ⟨kq, x92_67, rfl, HA, HJ67, HO_9, HO_357002, HO_357003, HO_357004, BK322, BK356, HB⟩ := hcut
            have hl9_67 := (Kd.R_reads' HO_9.out).1
            rw [hl9_67] at HO_9
            (try simp only [hl9_67])
            (try simp only [hl9_67] at BK322)
            (try simp only [hl9_67] at BK356)
            (try simp only [hl9_67] at HO_357002)
            (try simp only [hl9_67] at HO_357003)
            (try simp only [hl9_67] at HO_357004)
            cases kq with
            | zero => exact absurd HA.out (by simp [laws_FnExactHeadBytes.j2])
            | succ kj67 =>
             have H := HA.out
             clear HA
             simp only [laws_FnExactHeadBytes.j2] at H
             by_cases c84 : x92_67 = true
             ·subst c84
              have H1 : (some false) = some true := by rw [if_pos rfl] at H; exact H
              exact absurd H1 (by simp)
             ·replace c84 := Bool.eq_false_iff.mpr c84
              subst c84
              have H1 : ((laws_heldByteS.f kj67 t383 1).bind fun t404 => (if t404 < 0 then (some false) else (if t404 = t382 then (some true) else (some false)))) = some true := by rw [if_neg (show ¬ (false = true) by decide)] at H; exact H
              clear H
              have H := H1
              clear H1
              replace H := Option.bind_eq_some_iff.mp H
              obtain ⟨t404, A850, H⟩ := H
              replace H : (if t404 < 0 then (some false) else (if t404 = t382 then (some true) else (some false))) = some true := H
              have A85 := Aside0.mk A850
              clear A850
              by_cases c86 : t404 < 0
              ·rw [if_pos c86] at H
               exact absurd H (by simp)
              ·rw [if_neg c86] at H
               have c86b0 : decide (t404 < 0) = false := decide_eq_false c86
               clear c86
               by_cases c87 : t404 = t382
               ·rw [if_pos c87] at H
                have c87b0 : (t404 == t382) = true := beq_iff_eq.mpr c87
                have c87b1 : (t404 != t382) = false := bne_eq_false_iff_eq.mpr c87
                clear c87
                clear H
                go_wp2_with (first | ((with_reducible refine gate_callee (f := 18) rfl ?_); refine goesL_ (some 95) rfl rfl Try.func18 (by kernel_rfl) rfl #[.slice Ao69 t383.length co69, .int .i64 1] rfl (by (try simp only [List.map_toArray, List.map_cons, List.map_nil]); first | done | rfl | (simp only [List.length_drop, List.length_take]; rfl)) ?_; (with_reducible refine (laws_heldByteS.calls kj67 _ _ t383 1 t404 _ ?side1 ?side2 A85.out).mono ?_); (case side1 => repeat (first | exact (Kd.R_reads' HO_9.out).2.2 | (with_reducible refine Kd.C_alloc ?_ _) | (with_reducible refine Kd.C_drewN ?_ _) | (with_reducible refine Kd.C_drew ?_))); (case side2 => exact (Kd.R_reads' HO_9.out).2.1); rintro e w' ⟨rfl, ⟨nd, rfl⟩⟩; refine ⟨_, rfl, ?_⟩))
                go_ret
                exact ⟨by first | rfl | (simp [errW_none, errW_some] <;> rfl) | (simp [*, errW_none, errW_some] <;> rfl), by repeat (first | (with_reducible first | exact HB.out | apply below_alloc | apply pw_below_drewN | apply below_drew1 | refine below_set ?_ GE322.out | refine below_set ?_ GE356.out) | exact HB.out)⟩
               ·rw [if_neg c87] at H
                exact absurd H (by simp)
          ·rw [if_neg c65] at H
           exact absurd H (by simp)
     ·replace c40 := Bool.eq_false_iff.mpr c40
      subst c40
      have H1 : (some false) = some true := by rw [if_neg (show ¬ (false = true) by decide)] at H; exact H
      exact absurd H1 (by simp)
end Go.Proofs.Ytdojcdhlcnlohaa.SFnExactHeadBytes
