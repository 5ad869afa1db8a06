/- The walk of functions that the law FnExactRetryPacket uses, written by program. -/
import Derived.Test.YtcdkbdkanjifeaaSFnExactRetryPacketx0
import Derived.Test.YtcdkbdkanjifeaaSFnExactRetryPacketx1
import Derived.Test.YtcdkbdkanjifeaaSFnExactRetryPacketx3
import Derived.Test.YtcdkbdkanjifeaaSFnExactRetryPacketx5
import Derived.Test.YtcdkbdkanjifeaaSFnExactRetryPacketx6
namespace Go.Proofs.Ytcdkbdkanjifeaa.SFnExactRetryPacket
open Go.RowKit Go.Proofs.YtcdkbdkanjifeaaW.PrintWords Go.Proofs.YtcdkbdkanjifeaaW.PrintLast Go.Proofs.YtcdkbdkanjifeaaW.PrintMore
attribute [local go_sem] max2_int min2_int max_two min_two max_three min_three max_four min_four   -- for this text's walks alone
set_option linter.unusedVariables false
set_option linter.unusedSimpArgs false

/-! ### laws_FnExactRetryPacket: function 8 -/
mutual
def laws_FnExactRetryPacket.j0 : Nat → List Int → List Int → Int → List Int → List Int → Int → Bool → Int → Int → List Int → List Int → List Int → Int → Int → Int → Int → Int → List Int → List Int → List Int → Int → Int → Int → Option (Bool)
  | 0, _, _, _, _, _, _, _, _, _, _, _, _, _, _, _, _, _, _, _, _, _, _, _ => none
  | k + 1, x1, x6, x7, x9, x10, x11, x51, x324000, x324001, x324002, x324003, x324004, x324005, x324006, x324007, x361000, x361001, x361002, x361003, x361004, x361005, x361006, x361007 => if x51 = true then (some false) else ((laws_toHeader.f k x324000 x324001 x324002 x324003 x324004 x324005 x324006 x324007).bind fun bt369 => ((laws_eqHeader.f k x361000 x361001 x361002 x361003 x361004 x361005 x361006 x361007 bt369.1 bt369.2.1 bt369.2.2.1 bt369.2.2.2.1 bt369.2.2.2.2.1 bt369.2.2.2.2.2.1 bt369.2.2.2.2.2.2.1 bt369.2.2.2.2.2.2.2).bind fun t383 => (if t383 = true then ((laws_toByteS.f k x1).bind fun t384 => ((laws_eqByteS.f k x9 t384).bind fun t387 => (if t387 = true then ((laws_markHeader.f k x361000 x361001 x361002 x361003 x361004 x361005 x361006 x361007 1).bind fun bt388 => ((laws_markByteS.f k x9 bt388.1).bind fun bt392 => (if bt392.1 < 0 then (laws_FnExactRetryPacket.j1 k x1 x6 x7 x10 true x324000 x324001 x324002 x324003 x324004 x324005 x324006 x324007) else ((laws_eqByteS.f k x10 x6).bind fun t394 => (if t394 = true then (laws_FnExactRetryPacket.j1 k x1 x6 x7 x10 (x11 != x7) x324000 x324001 x324002 x324003 x324004 x324005 x324006 x324007) else (laws_FnExactRetryPacket.j1 k x1 x6 x7 x10 true x324000 x324001 x324002 x324003 x324004 x324005 x324006 x324007)))))) else (some false)))) else (some false))))
def laws_FnExactRetryPacket.j1 : Nat → List Int → List Int → Int → List Int → Bool → Int → Int → List Int → List Int → List Int → Int → Int → Int → Option (Bool)
  | 0, _, _, _, _, _, _, _, _, _, _, _, _, _ => none
  | k + 1, x1, x6, x7, x10, x80, x324000, x324001, x324002, x324003, x324004, x324005, x324006, x324007 => if x80 = true then (some false) else ((laws_markByteS.f k x10 1).bind fun bt395 => ((laws_heldByteS.f k bt395.2 1).bind fun t397 => (if t397 < 0 then (some false) else (if t397 = bt395.1 then ((laws_toHeader.f k x324000 x324001 x324002 x324003 x324004 x324005 x324006 x324007).bind fun bt398 => ((laws_toByteS.f k x1).bind fun t412 => ((impl_RetryPacket.f k bt398.1 bt398.2.1 bt398.2.2.1 bt398.2.2.2.1 bt398.2.2.2.2.1 bt398.2.2.2.2.2.1 bt398.2.2.2.2.2.2.1 bt398.2.2.2.2.2.2.2 t412).bind fun bt415 => ((laws_eqByteS.f k bt415.1 x6).bind fun t419 => (if t419 = true then (laws_FnExactRetryPacket.j2 k bt395.2 bt395.1 (bt415.2 != x7)) else (laws_FnExactRetryPacket.j2 k bt395.2 bt395.1 true)))))) else (some false)))))
def laws_FnExactRetryPacket.j2 : Nat → List Int → Int → Bool → Option (Bool)
  | 0, _, _, _ => none
  | k + 1, x10, x13, x108 => if x108 = true then (some false) else ((laws_heldByteS.f k x10 1).bind fun t420 => (if t420 < 0 then (some false) else (if t420 = x13 then (some true) else (some false))))
end
def laws_FnExactRetryPacket.f (k : Nat) (a0_0 : Int) (a0_1 : Int) (l0_2 : List Int) (l0_3 : List Int) (l0_4 : List Int) (a0_5 : Int) (a0_6 : Int) (a0_7 : Int) (l1 : List Int) : Option (Bool) := if (l1.length : Int) > 1048576 then (some true) else ((laws_szHeader.f a0_0 a0_1 l0_2 l0_3 l0_4 a0_5 a0_6 a0_7 1048576).bind fun t324 => (if t324 < 0 then (some true) else ((laws_toHeader.f k a0_0 a0_1 l0_2 l0_3 l0_4 a0_5 a0_6 a0_7).bind fun bt325 => ((laws_toByteS.f k l1).bind fun t339 => ((spec_RetryPacket.f k bt325.1 bt325.2.1 bt325.2.2.1 bt325.2.2.2.1 bt325.2.2.2.2.1 bt325.2.2.2.2.2.1 bt325.2.2.2.2.2.2.1 bt325.2.2.2.2.2.2.2 t339).bind fun bt342 => ((laws_toHeader.f k a0_0 a0_1 l0_2 l0_3 l0_4 a0_5 a0_6 a0_7).bind fun bt346 => ((laws_toByteS.f k l1).bind fun t361 => ((impl_RetryPacket.f k bt346.1 bt346.2.1 bt346.2.2.1 bt346.2.2.2.1 bt346.2.2.2.2.1 bt346.2.2.2.2.2.1 bt346.2.2.2.2.2.2.1 bt346.2.2.2.2.2.2.2 t361).bind fun bt364 => ((laws_eqByteS.f k bt364.1 bt342.1).bind fun t368 => (if t368 = true then (laws_FnExactRetryPacket.j0 k l1 bt342.1 bt342.2 t361 bt364.1 bt364.2 (bt364.2 != bt342.2) a0_0 a0_1 l0_2 l0_3 l0_4 a0_5 a0_6 a0_7 bt346.1 bt346.2.1 bt346.2.2.1 bt346.2.2.2.1 bt346.2.2.2.2.1 bt346.2.2.2.2.2.1 bt346.2.2.2.2.2.2.1 bt346.2.2.2.2.2.2.2) else (laws_FnExactRetryPacket.j0 k l1 bt342.1 bt342.2 t361 bt364.1 bt364.2 true a0_0 a0_1 l0_2 l0_3 l0_4 a0_5 a0_6 a0_7 bt346.1 bt346.2.1 bt346.2.2.1 bt346.2.2.2.1 bt346.2.2.2.2.1 bt346.2.2.2.2.2.1 bt346.2.2.2.2.2.2.1 bt346.2.2.2.2.2.2.2)))))))))))
theorem laws_FnExactRetryPacket.mono_l : ∀ k, (∀ y0 y1 y2 y3 y4 y5 y6 y7 y8 y9 y10 y11 y12 y13 y14 y15 y16 y17 y18 y19 y20 y21 y22, LeO (laws_FnExactRetryPacket.j0 k y0 y1 y2 y3 y4 y5 y6 y7 y8 y9 y10 y11 y12 y13 y14 y15 y16 y17 y18 y19 y20 y21 y22) (laws_FnExactRetryPacket.j0 (k + 1) y0 y1 y2 y3 y4 y5 y6 y7 y8 y9 y10 y11 y12 y13 y14 y15 y16 y17 y18 y19 y20 y21 y22)) ∧ (∀ y0 y1 y2 y3 y4 y5 y6 y7 y8 y9 y10 y11 y12, LeO (laws_FnExactRetryPacket.j1 k y0 y1 y2 y3 y4 y5 y6 y7 y8 y9 y10 y11 y12) (laws_FnExactRetryPacket.j1 (k + 1) y0 y1 y2 y3 y4 y5 y6 y7 y8 y9 y10 y11 y12)) ∧ (∀ y0 y1 y2, LeO (laws_FnExactRetryPacket.j2 k y0 y1 y2) (laws_FnExactRetryPacket.j2 (k + 1) y0 y1 y2))
  | 0 => ⟨fun _ _ _ _ _ _ _ _ _ _ _ _ _ _ _ _ _ _ _ _ _ _ _ r h => by simp [laws_FnExactRetryPacket.j0] at h, fun _ _ _ _ _ _ _ _ _ _ _ _ _ r h => by simp [laws_FnExactRetryPacket.j1] at h, fun _ _ _ r h => by simp [laws_FnExactRetryPacket.j2] at h⟩
  | k + 1 => by
    obtain ⟨ih0, ih1, ih2⟩ := laws_FnExactRetryPacket.mono_l k
    refine ⟨?_, ?_, ?_⟩
    · intro y0 y1 y2 y3 y4 y5 y6 y7 y8 y9 y10 y11 y12 y13 y14 y15 y16 y17 y18 y19 y20 y21 y22
      unfold laws_FnExactRetryPacket.j0
      repeat' first
      | (with_reducible exact ih0 _ _ _ _ _ _ _ _ _ _ _ _ _ _ _ _ _ _ _ _ _ _ _)
      | (with_reducible exact ih1 _ _ _ _ _ _ _ _ _ _ _ _ _)
      | (with_reducible exact ih2 _ _ _)
      | (with_reducible exact impl_RetryPacket.mono _ _ _ _ _ _ _ _ _ _)
      | (with_reducible exact laws_eqByteS.mono _ _ _)
      | (with_reducible exact laws_eqHeader.mono _ _ _ _ _ _ _ _ _ _ _ _ _ _ _ _ _)
      | (with_reducible exact laws_heldByteS.mono _ _ _)
      | (with_reducible exact laws_markByteS.mono _ _ _)
      | (with_reducible exact laws_markHeader.mono _ _ _ _ _ _ _ _ _ _)
      | (with_reducible exact laws_toByteS.mono _ _)
      | (with_reducible exact laws_toHeader.mono _ _ _ _ _ _ _ _ _)
      | (with_reducible exact spec_RetryPacket.mono _ _ _ _ _ _ _ _ _ _)
      | (with_reducible exact LeO.refl _)
      | (with_reducible exact LeO.none _)
      | (with_reducible refine LeO.ite ?_ ?_)
      | (with_reducible refine LeO.bind ?_ (fun _ => ?_))
      | exact ih0 _ _ _ _ _ _ _ _ _ _ _ _ _ _ _ _ _ _ _ _ _ _ _
      | exact ih1 _ _ _ _ _ _ _ _ _ _ _ _ _
      | exact ih2 _ _ _
      | exact impl_RetryPacket.mono _ _ _ _ _ _ _ _ _ _
      | exact laws_eqByteS.mono _ _ _
      | exact laws_eqHeader.mono _ _ _ _ _ _ _ _ _ _ _ _ _ _ _ _ _
      | exact laws_heldByteS.mono _ _ _
      | exact laws_markByteS.mono _ _ _
      | exact laws_markHeader.mono _ _ _ _ _ _ _ _ _ _
      | exact laws_toByteS.mono _ _
      | exact laws_toHeader.mono _ _ _ _ _ _ _ _ _
      | exact spec_RetryPacket.mono _ _ _ _ _ _ _ _ _ _
      | exact LeO.none _
      | refine LeO.ite ?_ ?_
      | refine LeO.bind ?_ (fun _ => ?_)
    · intro y0 y1 y2 y3 y4 y5 y6 y7 y8 y9 y10 y11 y12
      unfold laws_FnExactRetryPacket.j1
      repeat' first
      | (with_reducible exact ih0 _ _ _ _ _ _ _ _ _ _ _ _ _ _ _ _ _ _ _ _ _ _ _)
      | (with_reducible exact ih1 _ _ _ _ _ _ _ _ _ _ _ _ _)
      | (with_reducible exact ih2 _ _ _)
      | (with_reducible exact impl_RetryPacket.mono _ _ _ _ _ _ _ _ _ _)
      | (with_reducible exact laws_eqByteS.mono _ _ _)
      | (with_reducible exact laws_eqHeader.mono _ _ _ _ _ _ _ _ _ _ _ _ _ _ _ _ _)
      | (with_reducible exact laws_heldByteS.mono _ _ _)
      | (with_reducible exact laws_markByteS.mono _ _ _)
      | (with_reducible exact laws_markHeader.mono _ _ _ _ _ _ _ _ _ _)
      | (with_reducible exact laws_toByteS.mono _ _)
      | (with_reducible exact laws_toHeader.mono _ _ _ _ _ _ _ _ _)
      | (with_reducible exact spec_RetryPacket.mono _ _ _ _ _ _ _ _ _ _)
      | (with_reducible exact LeO.refl _)
      | (with_reducible exact LeO.none _)
      | (with_reducible refine LeO.ite ?_ ?_)
      | (with_reducible refine LeO.bind ?_ (fun _ => ?_))
      | exact ih0 _ _ _ _ _ _ _ _ _ _ _ _ _ _ _ _ _ _ _ _ _ _ _
      | exact ih1 _ _ _ _ _ _ _ _ _ _ _ _ _
      | exact ih2 _ _ _
      | exact impl_RetryPacket.mono _ _ _ _ _ _ _ _ _ _
      | exact laws_eqByteS.mono _ _ _
      | exact laws_eqHeader.mono _ _ _ _ _ _ _ _ _ _ _ _ _ _ _ _ _
      | exact laws_heldByteS.mono _ _ _
      | exact laws_markByteS.mono _ _ _
      | exact laws_markHeader.mono _ _ _ _ _ _ _ _ _ _
      | exact laws_toByteS.mono _ _
      | exact laws_toHeader.mono _ _ _ _ _ _ _ _ _
      | exact spec_RetryPacket.mono _ _ _ _ _ _ _ _ _ _
      | exact LeO.none _
      | refine LeO.ite ?_ ?_
      | refine LeO.bind ?_ (fun _ => ?_)
    · intro y0 y1 y2
      unfold laws_FnExactRetryPacket.j2
      repeat' first
      | (with_reducible exact ih0 _ _ _ _ _ _ _ _ _ _ _ _ _ _ _ _ _ _ _ _ _ _ _)
      | (with_reducible exact ih1 _ _ _ _ _ _ _ _ _ _ _ _ _)
      | (with_reducible exact ih2 _ _ _)
      | (with_reducible exact impl_RetryPacket.mono _ _ _ _ _ _ _ _ _ _)
      | (with_reducible exact laws_eqByteS.mono _ _ _)
      | (with_reducible exact laws_eqHeader.mono _ _ _ _ _ _ _ _ _ _ _ _ _ _ _ _ _)
      | (with_reducible exact laws_heldByteS.mono _ _ _)
      | (with_reducible exact laws_markByteS.mono _ _ _)
      | (with_reducible exact laws_markHeader.mono _ _ _ _ _ _ _ _ _ _)
      | (with_reducible exact laws_toByteS.mono _ _)
      | (with_reducible exact laws_toHeader.mono _ _ _ _ _ _ _ _ _)
      | (with_reducible exact spec_RetryPacket.mono _ _ _ _ _ _ _ _ _ _)
      | (with_reducible exact LeO.refl _)
      | (with_reducible exact LeO.none _)
      | (with_reducible refine LeO.ite ?_ ?_)
      | (with_reducible refine LeO.bind ?_ (fun _ => ?_))
      | exact ih0 _ _ _ _ _ _ _ _ _ _ _ _ _ _ _ _ _ _ _ _ _ _ _
      | exact ih1 _ _ _ _ _ _ _ _ _ _ _ _ _
      | exact ih2 _ _ _
      | exact impl_RetryPacket.mono _ _ _ _ _ _ _ _ _ _
      | exact laws_eqByteS.mono _ _ _
      | exact laws_eqHeader.mono _ _ _ _ _ _ _ _ _ _ _ _ _ _ _ _ _
      | exact laws_heldByteS.mono _ _ _
      | exact laws_markByteS.mono _ _ _
      | exact laws_markHeader.mono _ _ _ _ _ _ _ _ _ _
      | exact laws_toByteS.mono _ _
      | exact laws_toHeader.mono _ _ _ _ _ _ _ _ _
      | exact spec_RetryPacket.mono _ _ _ _ _ _ _ _ _ _
      | exact LeO.none _
      | refine LeO.ite ?_ ?_
      | refine LeO.bind ?_ (fun _ => ?_)
theorem laws_FnExactRetryPacket.mono : ∀ a0 a1 a2 a3 a4 a5 a6 a7 a8 k, LeO (laws_FnExactRetryPacket.f k a0 a1 a2 a3 a4 a5 a6 a7 a8) (laws_FnExactRetryPacket.f (k + 1) a0 a1 a2 a3 a4 a5 a6 a7 a8) := by
  intro a0 a1 a2 a3 a4 a5 a6 a7 a8 k
  obtain ⟨ih0, ih1, ih2⟩ := laws_FnExactRetryPacket.mono_l k
  unfold laws_FnExactRetryPacket.f
  repeat' first
      | (with_reducible exact ih0 _ _ _ _ _ _ _ _ _ _ _ _ _ _ _ _ _ _ _ _ _ _ _)
      | (with_reducible exact ih1 _ _ _ _ _ _ _ _ _ _ _ _ _)
      | (with_reducible exact ih2 _ _ _)
      | (with_reducible exact impl_RetryPacket.mono _ _ _ _ _ _ _ _ _ _)
      | (with_reducible exact laws_eqByteS.mono _ _ _)
      | (with_reducible exact laws_eqHeader.mono _ _ _ _ _ _ _ _ _ _ _ _ _ _ _ _ _)
      | (with_reducible exact laws_heldByteS.mono _ _ _)
      | (with_reducible exact laws_markByteS.mono _ _ _)
      | (with_reducible exact laws_markHeader.mono _ _ _ _ _ _ _ _ _ _)
      | (with_reducible exact laws_toByteS.mono _ _)
      | (with_reducible exact laws_toHeader.mono _ _ _ _ _ _ _ _ _)
      | (with_reducible exact spec_RetryPacket.mono _ _ _ _ _ _ _ _ _ _)
      | (with_reducible exact LeO.refl _)
      | (with_reducible exact LeO.none _)
      | (with_reducible refine LeO.ite ?_ ?_)
      | (with_reducible refine LeO.bind ?_ (fun _ => ?_))
      | exact ih0 _ _ _ _ _ _ _ _ _ _ _ _ _ _ _ _ _ _ _ _ _ _ _
      | exact ih1 _ _ _ _ _ _ _ _ _ _ _ _ _
      | exact ih2 _ _ _
      | exact impl_RetryPacket.mono _ _ _ _ _ _ _ _ _ _
      | exact laws_eqByteS.mono _ _ _
      | exact laws_eqHeader.mono _ _ _ _ _ _ _ _ _ _ _ _ _ _ _ _ _
      | exact laws_heldByteS.mono _ _ _
      | exact laws_markByteS.mono _ _ _
      | exact laws_markHeader.mono _ _ _ _ _ _ _ _ _ _
      | exact laws_toByteS.mono _ _
      | exact laws_toHeader.mono _ _ _ _ _ _ _ _ _
      | exact spec_RetryPacket.mono _ _ _ _ _ _ _ _ _ _
      | exact LeO.none _
      | refine LeO.ite ?_ ?_
      | refine LeO.bind ?_ (fun _ => ?_)
set_option maxHeartbeats 8000000 in
set_option maxRecDepth 100000 in
theorem laws_FnExactRetryPacket.calls (k : Nat) (a0_0 : Int) (a0_1 : Int) (A0_2 : Option Addr) (c0_2 : Nat) (l0_2 : List Int) (A0_3 : Option Addr) (c0_3 : Nat) (l0_3 : List Int) (A0_4 : Option Addr) (c0_4 : Nat) (l0_4 : List Int) (a0_5 : Int) (a0_6 : Int) (a0_7 : Int) (A1 : Option Addr) (c1 : Nat) (l1 : List Int) (w : World) (hr0_2 : Kd.C (Kd.int .u8) w A0_2 l0_2.length l0_2) (hc0_2 : l0_2.length ≤ c0_2) (hr0_3 : Kd.C (Kd.int .u8) w A0_3 l0_3.length l0_3) (hc0_3 : l0_3.length ≤ c0_3) (hr0_4 : Kd.C (Kd.int .u8) w A0_4 l0_4.length l0_4) (hc0_4 : l0_4.length ≤ c0_4) (hr1 : Kd.C (Kd.int .u8) w A1 l1.length l1) (hc1 : l1.length ≤ c1) (h : laws_FnExactRetryPacket.f k a0_0 a0_1 l0_2 l0_3 l0_4 a0_5 a0_6 a0_7 l1 = some true) :
    Calls Try.prog 8 #[.agg #[.int .i64 a0_0, .int .i64 a0_1, .slice A0_2 l0_2.length c0_2, .slice A0_3 l0_3.length c0_3, .slice A0_4 l0_4.length c0_4, .int .i64 a0_5, .int .i64 a0_6, .int .i64 a0_7], .slice A1 l1.length c1] w fun e w' => e = .returned (.bool true) ∧ Below w.heap.size w w' := by
  have hu41 := Try.underlying41
  have hu45 := Try.underlying45
  have HR0_2 := Aside0.mk hr0_2
  have HC0_2 := Aside0.mk hc0_2
  clear hr0_2 hc0_2
  have HR0_3 := Aside0.mk hr0_3
  have HC0_3 := Aside0.mk hc0_3
  clear hr0_3 hc0_3
  have HR0_4 := Aside0.mk hr0_4
  have HC0_4 := Aside0.mk hc0_4
  clear hr0_4 hc0_4
  have HR1 := Aside0.mk hr1
  have HC1 := Aside0.mk hc1
  clear hr1 hc1
  have HB := Aside0.mk (Below.refl w.heap.size w)
  have H : (if (l1.length : Int) > 1048576 then (some true) else ((laws_szHeader.f a0_0 a0_1 l0_2 l0_3 l0_4 a0_5 a0_6 a0_7 1048576).bind fun t324 => (if t324 < 0 then (some true) else ((laws_toHeader.f k a0_0 a0_1 l0_2 l0_3 l0_4 a0_5 a0_6 a0_7).bind fun bt325 => ((laws_toByteS.f k l1).bind fun t339 => ((spec_RetryPacket.f k bt325.1 bt325.2.1 bt325.2.2.1 bt325.2.2.2.1 bt325.2.2.2.2.1 bt325.2.2.2.2.2.1 bt325.2.2.2.2.2.2.1 bt325.2.2.2.2.2.2.2 t339).bind fun bt342 => ((laws_toHeader.f k a0_0 a0_1 l0_2 l0_3 l0_4 a0_5 a0_6 a0_7).bind fun bt346 => ((laws_toByteS.f k l1).bind fun t361 => ((impl_RetryPacket.f k bt346.1 bt346.2.1 bt346.2.2.1 bt346.2.2.2.1 bt346.2.2.2.2.1 bt346.2.2.2.2.2.1 bt346.2.2.2.2.2.2.1 bt346.2.2.2.2.2.2.2 t361).bind fun bt364 => ((laws_eqByteS.f k bt364.1 bt342.1).bind fun t368 => (if t368 = true then (laws_FnExactRetryPacket.j0 k l1 bt342.1 bt342.2 t361 bt364.1 bt364.2 (bt364.2 != bt342.2) a0_0 a0_1 l0_2 l0_3 l0_4 a0_5 a0_6 a0_7 bt346.1 bt346.2.1 bt346.2.2.1 bt346.2.2.2.1 bt346.2.2.2.2.1 bt346.2.2.2.2.2.1 bt346.2.2.2.2.2.2.1 bt346.2.2.2.2.2.2.2) else (laws_FnExactRetryPacket.j0 k l1 bt342.1 bt342.2 t361 bt364.1 bt364.2 true a0_0 a0_1 l0_2 l0_3 l0_4 a0_5 a0_6 a0_7 bt346.1 bt346.2.1 bt346.2.2.1 bt346.2.2.2.1 bt346.2.2.2.2.1 bt346.2.2.2.2.2.1 bt346.2.2.2.2.2.2.1 bt346.2.2.2.2.2.2.2)))))))))))) = some true := h
  clear h
  by_cases c3 : (l1.length : Int) > 1048576
  · rw [if_pos c3] at H
    have c3b0 : decide (1048576 < (l1.length : Int)) = true := decide_eq_true c3
    have c3b1 : decide (1048576 < l1.length) = true := decide_eq_true (by omega)
    clear c3
    clear H
    go_enter Try.func8, Try.ntmps8
    go_wp2_with (first | ((with_reducible refine gate_dst (N := 2) rfl ?_); refine box_event ?hg (N := 2) ?hd (cs := #[.int .i64 a0_0, .int .i64 a0_1, .slice A0_2 l0_2.length c0_2, .slice A0_3 l0_3.length c0_3, .slice A0_4 l0_4.length c0_4, .int .i64 a0_5, .int .i64 a0_6, .int .i64 a0_7]) (t := 41) ?hr ?_; (case hd => rfl); (case hg => rfl); (case hr => first | (go_simp; done) | (go_simp; rfl)); intro gb323 hg w4 hbox hb; have n0_ := Aside0.mk (below_step (by repeat (first | (with_reducible first | exact HB.out | apply below_alloc | apply pw_below_drewN | apply below_drew1) | exact HB.out)) hb); have n1_ := Aside0.mk (hbox); have n2_ := Aside0.mk ((by rw [hg]; exact (below_size (by repeat (first | (with_reducible first | exact HB.out | apply below_alloc | apply pw_below_drewN | apply below_drew1) | exact HB.out))) : w.heap.size ≤ gb323)); have n3_ := Aside0.mk ((by rw [hg]; exact (below_size (by repeat (first | (with_reducible first | exact HB.out | apply below_alloc | apply pw_below_drewN | apply below_drew1) | exact HB.out))) : w.heap.size ≤ gb323)); clear HB; have HB := n0_; have BK323 := n1_; have GW323 := n2_; have GE323 := n3_; clear n0_ n1_ n2_ n3_; clear hb hbox hg))
    go_ret
    exact ⟨by first | rfl | (simp [errW_none, errW_some] <;> rfl) | (simp [*, errW_none, errW_some] <;> rfl), by repeat (first | (with_reducible first | exact HB.out | apply below_alloc | apply pw_below_drewN | apply below_drew1 | refine below_set ?_ GE323.out) | exact HB.out)⟩
  · rw [if_neg c3] at H
    have c3b0 : decide (1048576 < (l1.length : Int)) = false := decide_eq_false c3
    have c3b1 : decide (1048576 < l1.length) = false := decide_eq_false (by omega)
    clear c3
    replace H := Option.bind_eq_some_iff.mp H
    obtain ⟨t324, A50, H⟩ := H
    replace H : (if t324 < 0 then (some true) else ((laws_toHeader.f k a0_0 a0_1 l0_2 l0_3 l0_4 a0_5 a0_6 a0_7).bind fun bt325 => ((laws_toByteS.f k l1).bind fun t339 => ((spec_RetryPacket.f k bt325.1 bt325.2.1 bt325.2.2.1 bt325.2.2.2.1 bt325.2.2.2.2.1 bt325.2.2.2.2.2.1 bt325.2.2.2.2.2.2.1 bt325.2.2.2.2.2.2.2 t339).bind fun bt342 => ((laws_toHeader.f k a0_0 a0_1 l0_2 l0_3 l0_4 a0_5 a0_6 a0_7).bind fun bt346 => ((laws_toByteS.f k l1).bind fun t361 => ((impl_RetryPacket.f k bt346.1 bt346.2.1 bt346.2.2.1 bt346.2.2.2.1 bt346.2.2.2.2.1 bt346.2.2.2.2.2.1 bt346.2.2.2.2.2.2.1 bt346.2.2.2.2.2.2.2 t361).bind fun bt364 => ((laws_eqByteS.f k bt364.1 bt342.1).bind fun t368 => (if t368 = true then (laws_FnExactRetryPacket.j0 k l1 bt342.1 bt342.2 t361 bt364.1 bt364.2 (bt364.2 != bt342.2) a0_0 a0_1 l0_2 l0_3 l0_4 a0_5 a0_6 a0_7 bt346.1 bt346.2.1 bt346.2.2.1 bt346.2.2.2.1 bt346.2.2.2.2.1 bt346.2.2.2.2.2.1 bt346.2.2.2.2.2.2.1 bt346.2.2.2.2.2.2.2) else (laws_FnExactRetryPacket.j0 k l1 bt342.1 bt342.2 t361 bt364.1 bt364.2 true a0_0 a0_1 l0_2 l0_3 l0_4 a0_5 a0_6 a0_7 bt346.1 bt346.2.1 bt346.2.2.1 bt346.2.2.2.1 bt346.2.2.2.2.1 bt346.2.2.2.2.2.1 bt346.2.2.2.2.2.2.1 bt346.2.2.2.2.2.2.2)))))))))) = some true := H
    have A5 := Aside0.mk A50
    clear A50
    by_cases c6 : t324 < 0
    · rw [if_pos c6] at H
      have c6b0 : decide (t324 < 0) = true := decide_eq_true c6
      clear c6
      clear H
      go_enter Try.func8, Try.ntmps8
      go_wp2_with (first | ((with_reducible refine gate_dst (N := 2) rfl ?_); refine box_event ?hg (N := 2) ?hd (cs := #[.int .i64 a0_0, .int .i64 a0_1, .slice A0_2 l0_2.length c0_2, .slice A0_3 l0_3.length c0_3, .slice A0_4 l0_4.length c0_4, .int .i64 a0_5, .int .i64 a0_6, .int .i64 a0_7]) (t := 41) ?hr ?_; (case hd => rfl); (case hg => rfl); (case hr => first | (go_simp; done) | (go_simp; rfl)); intro gb323 hg w7 hbox hb; have n0_ := Aside0.mk (below_step (by repeat (first | (with_reducible first | exact HB.out | apply below_alloc | apply pw_below_drewN | apply below_drew1) | exact HB.out)) hb); have n1_ := Aside0.mk (hbox); have n2_ := Aside0.mk ((by rw [hg]; exact (below_size (by repeat (first | (with_reducible first | exact HB.out | apply below_alloc | apply pw_below_drewN | apply below_drew1) | exact HB.out))) : w.heap.size ≤ gb323)); have n3_ := Aside0.mk ((by rw [hg]; exact (below_size (by repeat (first | (with_reducible first | exact HB.out | apply below_alloc | apply pw_below_drewN | apply below_drew1) | exact HB.out))) : w.heap.size ≤ gb323)); clear HB; have HB := n0_; have BK323 := n1_; have GW323 := n2_; have GE323 := n3_; clear n0_ n1_ n2_ n3_; clear hb hbox hg; have hcz8_0 : w7.cell? ⟨gb323, 0, none⟩ = some (.int .i64 a0_0) := (blk_cell BK323.out 0).trans rfl; have hcz8_1 : w7.cell? ⟨gb323, 1, none⟩ = some (.int .i64 a0_1) := (blk_cell BK323.out 1).trans rfl; have hcz8_2 : w7.cell? ⟨gb323, 2, none⟩ = some (.slice A0_2 l0_2.length c0_2) := (blk_cell BK323.out 2).trans rfl; have hcz8_3 : w7.cell? ⟨gb323, 3, none⟩ = some (.slice A0_3 l0_3.length c0_3) := (blk_cell BK323.out 3).trans rfl; have hcz8_4 : w7.cell? ⟨gb323, 4, none⟩ = some (.slice A0_4 l0_4.length c0_4) := (blk_cell BK323.out 4).trans rfl; have hcz8_5 : w7.cell? ⟨gb323, 5, none⟩ = some (.int .i64 a0_5) := (blk_cell BK323.out 5).trans rfl; have hcz8_6 : w7.cell? ⟨gb323, 6, none⟩ = some (.int .i64 a0_6) := (blk_cell BK323.out 6).trans rfl; have hcz8_7 : w7.cell? ⟨gb323, 7, none⟩ = some (.int .i64 a0_7) := (blk_cell BK323.out 7).trans rfl; have hfz8_0 := blk_frozen BK323.out 0; have hfz8_1 := blk_frozen BK323.out 1; have hfz8_2 := blk_frozen BK323.out 2; have hfz8_3 := blk_frozen BK323.out 3; have hfz8_4 := blk_frozen BK323.out 4; have hfz8_5 := blk_frozen BK323.out 5; have hfz8_6 := blk_frozen BK323.out 6; have hfz8_7 := blk_frozen BK323.out 7) | ((with_reducible refine gate_callee (f := 33) rfl ?_); refine goesL_ (some 22) rfl rfl Try.func33 (by kernel_rfl) rfl #[.agg #[.int .i64 a0_0, .int .i64 a0_1, .slice A0_2 l0_2.length c0_2, .slice A0_3 l0_3.length c0_3, .slice A0_4 l0_4.length c0_4, .int .i64 a0_5, .int .i64 a0_6, .int .i64 a0_7], .int .i64 1048576] rfl (by (try simp only [List.map_toArray, List.map_cons, List.map_nil]); first | done | rfl | (simp only [List.length_drop, List.length_take]; rfl)) ?_; (with_reducible refine (laws_szHeader.calls a0_0 a0_1 _ _ l0_2 _ _ l0_3 _ _ l0_4 a0_5 a0_6 a0_7 1048576 t324 _ ?side1 ?side2 ?side3 ?side4 ?side5 ?side6 A5.out).mono ?_); (case side1 => repeat (first | exact (Kd.C_below HR0_2.out HB.out) | (with_reducible refine Kd.C_alloc ?_ _) | (with_reducible refine Kd.C_drewN ?_ _) | (with_reducible refine Kd.C_drew ?_))); (case side2 => exact HC0_2.out); (case side3 => repeat (first | exact (Kd.C_below HR0_3.out HB.out) | (with_reducible refine Kd.C_alloc ?_ _) | (with_reducible refine Kd.C_drewN ?_ _) | (with_reducible refine Kd.C_drew ?_))); (case side4 => exact HC0_3.out); (case side5 => repeat (first | exact (Kd.C_below HR0_4.out HB.out) | (with_reducible refine Kd.C_alloc ?_ _) | (with_reducible refine Kd.C_drewN ?_ _) | (with_reducible refine Kd.C_drew ?_))); (case side6 => exact HC0_4.out); rintro e w9 ⟨rfl, hb⟩; refine ⟨_, rfl, ?_⟩; have n0_ := Aside0.mk (blk_below (g := gb323) (o := .cells #[.int .i64 a0_0, .int .i64 a0_1, .slice A0_2 l0_2.length c0_2, .slice A0_3 l0_3.length c0_3, .slice A0_4 l0_4.length c0_4, .int .i64 a0_5, .int .i64 a0_6, .int .i64 a0_7] 41 (0, 0)) (by (with_reducible repeat (first | refine blk_drewN ?_ _ | refine blk_drew ?_ | refine blk_alloc ?_ _)); exact BK323.out) hb); have n1_ := Aside0.mk (below_step (by repeat (first | (with_reducible first | exact HB.out | apply below_alloc | apply pw_below_drewN | apply below_drew1 | refine below_set ?_ GE323.out) | exact HB.out)) hb); clear BK323; clear HB; have BK323 := n0_; have HB := n1_; clear n0_ n1_; (try clear hb); (try clear hb2); (try clear hk); (try clear hi)))
      go_ret
      exact ⟨by first | rfl | (simp [errW_none, errW_some] <;> rfl) | (simp [*, errW_none, errW_some] <;> rfl), by repeat (first | (with_reducible first | exact HB.out | apply below_alloc | apply pw_below_drewN | apply below_drew1 | refine below_set ?_ GE323.out) | exact HB.out)⟩
    · rw [if_neg c6] at H
      have c6b0 : decide (t324 < 0) = false := decide_eq_false c6
      clear c6
      replace H := Option.bind_eq_some_iff.mp H
      obtain ⟨⟨t325, t326, t327, t330, t333, t336, t337, t338⟩, A100, H⟩ := H
      replace H : ((laws_toByteS.f k l1).bind fun t339 => ((spec_RetryPacket.f k t325 t326 t327 t330 t333 t336 t337 t338 t339).bind fun bt342 => ((laws_toHeader.f k a0_0 a0_1 l0_2 l0_3 l0_4 a0_5 a0_6 a0_7).bind fun bt346 => ((laws_toByteS.f k l1).bind fun t361 => ((impl_RetryPacket.f k bt346.1 bt346.2.1 bt346.2.2.1 bt346.2.2.2.1 bt346.2.2.2.2.1 bt346.2.2.2.2.2.1 bt346.2.2.2.2.2.2.1 bt346.2.2.2.2.2.2.2 t361).bind fun bt364 => ((laws_eqByteS.f k bt364.1 bt342.1).bind fun t368 => (if t368 = true then (laws_FnExactRetryPacket.j0 k l1 bt342.1 bt342.2 t361 bt364.1 bt364.2 (bt364.2 != bt342.2) a0_0 a0_1 l0_2 l0_3 l0_4 a0_5 a0_6 a0_7 bt346.1 bt346.2.1 bt346.2.2.1 bt346.2.2.2.1 bt346.2.2.2.2.1 bt346.2.2.2.2.2.1 bt346.2.2.2.2.2.2.1 bt346.2.2.2.2.2.2.2) else (laws_FnExactRetryPacket.j0 k l1 bt342.1 bt342.2 t361 bt364.1 bt364.2 true a0_0 a0_1 l0_2 l0_3 l0_4 a0_5 a0_6 a0_7 bt346.1 bt346.2.1 bt346.2.2.1 bt346.2.2.2.1 bt346.2.2.2.2.1 bt346.2.2.2.2.2.1 bt346.2.2.2.2.2.2.1 bt346.2.2.2.2.2.2.2)))))))) = some true := H
      have A10 := Aside0.mk A100
      clear A100
      replace H := Option.bind_eq_some_iff.mp H
      obtain ⟨t339, A110, H⟩ := H
      replace H : ((spec_RetryPacket.f k t325 t326 t327 t330 t333 t336 t337 t338 t339).bind fun bt342 => ((laws_toHeader.f k a0_0 a0_1 l0_2 l0_3 l0_4 a0_5 a0_6 a0_7).bind fun bt346 => ((laws_toByteS.f k l1).bind fun t361 => ((impl_RetryPacket.f k bt346.1 bt346.2.1 bt346.2.2.1 bt346.2.2.2.1 bt346.2.2.2.2.1 bt346.2.2.2.2.2.1 bt346.2.2.2.2.2.2.1 bt346.2.2.2.2.2.2.2 t361).bind fun bt364 => ((laws_eqByteS.f k bt364.1 bt342.1).bind fun t368 => (if t368 = true then (laws_FnExactRetryPacket.j0 k l1 bt342.1 bt342.2 t361 bt364.1 bt364.2 (bt364.2 != bt342.2) a0_0 a0_1 l0_2 l0_3 l0_4 a0_5 a0_6 a0_7 bt346.1 bt346.2.1 bt346.2.2.1 bt346.2.2.2.1 bt346.2.2.2.2.1 bt346.2.2.2.2.2.1 bt346.2.2.2.2.2.2.1 bt346.2.2.2.2.2.2.2) else (laws_FnExactRetryPacket.j0 k l1 bt342.1 bt342.2 t361 bt364.1 bt364.2 true a0_0 a0_1 l0_2 l0_3 l0_4 a0_5 a0_6 a0_7 bt346.1 bt346.2.1 bt346.2.2.1 bt346.2.2.2.1 bt346.2.2.2.2.1 bt346.2.2.2.2.2.1 bt346.2.2.2.2.2.2.1 bt346.2.2.2.2.2.2.2))))))) = some true := H
      have A11 := Aside0.mk A110
      clear A110
      replace H := Option.bind_eq_some_iff.mp H
      obtain ⟨⟨t342, t345⟩, A120, H⟩ := H
      replace H : ((laws_toHeader.f k a0_0 a0_1 l0_2 l0_3 l0_4 a0_5 a0_6 a0_7).bind fun bt346 => ((laws_toByteS.f k l1).bind fun t361 => ((impl_RetryPacket.f k bt346.1 bt346.2.1 bt346.2.2.1 bt346.2.2.2.1 bt346.2.2.2.2.1 bt346.2.2.2.2.2.1 bt346.2.2.2.2.2.2.1 bt346.2.2.2.2.2.2.2 t361).bind fun bt364 => ((laws_eqByteS.f k bt364.1 t342).bind fun t368 => (if t368 = true then (laws_FnExactRetryPacket.j0 k l1 t342 t345 t361 bt364.1 bt364.2 (bt364.2 != t345) a0_0 a0_1 l0_2 l0_3 l0_4 a0_5 a0_6 a0_7 bt346.1 bt346.2.1 bt346.2.2.1 bt346.2.2.2.1 bt346.2.2.2.2.1 bt346.2.2.2.2.2.1 bt346.2.2.2.2.2.2.1 bt346.2.2.2.2.2.2.2) else (laws_FnExactRetryPacket.j0 k l1 t342 t345 t361 bt364.1 bt364.2 true a0_0 a0_1 l0_2 l0_3 l0_4 a0_5 a0_6 a0_7 bt346.1 bt346.2.1 bt346.2.2.1 bt346.2.2.2.1 bt346.2.2.2.2.1 bt346.2.2.2.2.2.1 bt346.2.2.2.2.2.2.1 bt346.2.2.2.2.2.2.2)))))) = some true := H
      have A12 := Aside0.mk A120
      clear A120
      replace H := Option.bind_eq_some_iff.mp H
      obtain ⟨⟨t346, t347, t348, t351, t354, t357, t358, t359⟩, A130, H⟩ := H
      replace H : ((laws_toByteS.f k l1).bind fun t361 => ((impl_RetryPacket.f k t346 t347 t348 t351 t354 t357 t358 t359 t361).bind fun bt364 => ((laws_eqByteS.f k bt364.1 t342).bind fun t368 => (if t368 = true then (laws_FnExactRetryPacket.j0 k l1 t342 t345 t361 bt364.1 bt364.2 (bt364.2 != t345) a0_0 a0_1 l0_2 l0_3 l0_4 a0_5 a0_6 a0_7 t346 t347 t348 t351 t354 t357 t358 t359) else (laws_FnExactRetryPacket.j0 k l1 t342 t345 t361 bt364.1 bt364.2 true a0_0 a0_1 l0_2 l0_3 l0_4 a0_5 a0_6 a0_7 t346 t347 t348 t351 t354 t357 t358 t359))))) = some true := H
      have A13 := Aside0.mk A130
      clear A130
      replace H := Option.bind_eq_some_iff.mp H
      obtain ⟨t361, A140, H⟩ := H
      replace H : ((impl_RetryPacket.f k t346 t347 t348 t351 t354 t357 t358 t359 t361).bind fun bt364 => ((laws_eqByteS.f k bt364.1 t342).bind fun t368 => (if t368 = true then (laws_FnExactRetryPacket.j0 k l1 t342 t345 t361 bt364.1 bt364.2 (bt364.2 != t345) a0_0 a0_1 l0_2 l0_3 l0_4 a0_5 a0_6 a0_7 t346 t347 t348 t351 t354 t357 t358 t359) else (laws_FnExactRetryPacket.j0 k l1 t342 t345 t361 bt364.1 bt364.2 true a0_0 a0_1 l0_2 l0_3 l0_4 a0_5 a0_6 a0_7 t346 t347 t348 t351 t354 t357 t358 t359)))) = some true := H
      have A14 := Aside0.mk A140
      clear A140
      replace H := Option.bind_eq_some_iff.mp H
      obtain ⟨⟨t364, t367⟩, A150, H⟩ := H
      replace H : ((laws_eqByteS.f k t364 t342).bind fun t368 => (if t368 = true then (laws_FnExactRetryPacket.j0 k l1 t342 t345 t361 t364 t367 (t367 != t345) a0_0 a0_1 l0_2 l0_3 l0_4 a0_5 a0_6 a0_7 t346 t347 t348 t351 t354 t357 t358 t359) else (laws_FnExactRetryPacket.j0 k l1 t342 t345 t361 t364 t367 true a0_0 a0_1 l0_2 l0_3 l0_4 a0_5 a0_6 a0_7 t346 t347 t348 t351 t354 t357 t358 t359))) = some true := H
      have A15 := Aside0.mk A150
      clear A150
      have HC16 := Aside0.mk H
      clear H
      go_enter Try.func8, Try.ntmps8
      go_upto_region 11 with (first | ((with_reducible refine gate_dst (N := 2) rfl ?_); refine box_event ?hg (N := 2) ?hd (cs := #[.int .i64 a0_0, .int .i64 a0_1, .slice A0_2 l0_2.length c0_2, .slice A0_3 l0_3.length c0_3, .slice A0_4 l0_4.length c0_4, .int .i64 a0_5, .int .i64 a0_6, .int .i64 a0_7]) (t := 41) ?hr ?_; (case hd => rfl); (case hg => rfl); (case hr => first | (go_simp; done) | (go_simp; rfl)); intro gb323 hg w17 hbox hb; have n0_ := Aside0.mk (below_step (by repeat (first | (with_reducible first | exact HB.out | apply below_alloc | apply pw_below_drewN | apply below_drew1) | exact HB.out)) hb); have n1_ := Aside0.mk (hbox); have n2_ := Aside0.mk ((by rw [hg]; exact (below_size (by repeat (first | (with_reducible first | exact HB.out | apply below_alloc | apply pw_below_drewN | apply below_drew1) | exact HB.out))) : w.heap.size ≤ gb323)); have n3_ := Aside0.mk ((by rw [hg]; exact (below_size (by repeat (first | (with_reducible first | exact HB.out | apply below_alloc | apply pw_below_drewN | apply below_drew1) | exact HB.out))) : w.heap.size ≤ gb323)); clear HB; have HB := n0_; have BK323 := n1_; have GW323 := n2_; have GE323 := n3_; clear n0_ n1_ n2_ n3_; clear hb hbox hg; have hcz18_0 : w17.cell? ⟨gb323, 0, none⟩ = some (.int .i64 a0_0) := (blk_cell BK323.out 0).trans rfl; have hcz18_1 : w17.cell? ⟨gb323, 1, none⟩ = some (.int .i64 a0_1) := (blk_cell BK323.out 1).trans rfl; have hcz18_2 : w17.cell? ⟨gb323, 2, none⟩ = some (.slice A0_2 l0_2.length c0_2) := (blk_cell BK323.out 2).trans rfl; have hcz18_3 : w17.cell? ⟨gb323, 3, none⟩ = some (.slice A0_3 l0_3.length c0_3) := (blk_cell BK323.out 3).trans rfl; have hcz18_4 : w17.cell? ⟨gb323, 4, none⟩ = some (.slice A0_4 l0_4.length c0_4) := (blk_cell BK323.out 4).trans rfl; have hcz18_5 : w17.cell? ⟨gb323, 5, none⟩ = some (.int .i64 a0_5) := (blk_cell BK323.out 5).trans rfl; have hcz18_6 : w17.cell? ⟨gb323, 6, none⟩ = some (.int .i64 a0_6) := (blk_cell BK323.out 6).trans rfl; have hcz18_7 : w17.cell? ⟨gb323, 7, none⟩ = some (.int .i64 a0_7) := (blk_cell BK323.out 7).trans rfl; have hfz18_0 := blk_frozen BK323.out 0; have hfz18_1 := blk_frozen BK323.out 1; have hfz18_2 := blk_frozen BK323.out 2; have hfz18_3 := blk_frozen BK323.out 3; have hfz18_4 := blk_frozen BK323.out 4; have hfz18_5 := blk_frozen BK323.out 5; have hfz18_6 := blk_frozen BK323.out 6; have hfz18_7 := blk_frozen BK323.out 7) | ((with_reducible refine gate_callee (f := 33) rfl ?_); refine goesL_ (some 22) rfl rfl Try.func33 (by kernel_rfl) rfl #[.agg #[.int .i64 a0_0, .int .i64 a0_1, .slice A0_2 l0_2.length c0_2, .slice A0_3 l0_3.length c0_3, .slice A0_4 l0_4.length c0_4, .int .i64 a0_5, .int .i64 a0_6, .int .i64 a0_7], .int .i64 1048576] rfl (by (try simp only [List.map_toArray, List.map_cons, List.map_nil]); first | done | rfl | (simp only [List.length_drop, List.length_take]; rfl)) ?_; (with_reducible refine (laws_szHeader.calls a0_0 a0_1 _ _ l0_2 _ _ l0_3 _ _ l0_4 a0_5 a0_6 a0_7 1048576 t324 _ ?side1 ?side2 ?side3 ?side4 ?side5 ?side6 A5.out).mono ?_); (case side1 => repeat (first | exact (Kd.C_below HR0_2.out HB.out) | (with_reducible refine Kd.C_alloc ?_ _) | (with_reducible refine Kd.C_drewN ?_ _) | (with_reducible refine Kd.C_drew ?_))); (case side2 => exact HC0_2.out); (case side3 => repeat (first | exact (Kd.C_below HR0_3.out HB.out) | (with_reducible refine Kd.C_alloc ?_ _) | (with_reducible refine Kd.C_drewN ?_ _) | (with_reducible refine Kd.C_drew ?_))); (case side4 => exact HC0_3.out); (case side5 => repeat (first | exact (Kd.C_below HR0_4.out HB.out) | (with_reducible refine Kd.C_alloc ?_ _) | (with_reducible refine Kd.C_drewN ?_ _) | (with_reducible refine Kd.C_drew ?_))); (case side6 => exact HC0_4.out); rintro e w19 ⟨rfl, hb⟩; refine ⟨_, rfl, ?_⟩; have n0_ := Aside0.mk (blk_below (g := gb323) (o := .cells #[.int .i64 a0_0, .int .i64 a0_1, .slice A0_2 l0_2.length c0_2, .slice A0_3 l0_3.length c0_3, .slice A0_4 l0_4.length c0_4, .int .i64 a0_5, .int .i64 a0_6, .int .i64 a0_7] 41 (0, 0)) (by (with_reducible repeat (first | refine blk_drewN ?_ _ | refine blk_drew ?_ | refine blk_alloc ?_ _)); exact BK323.out) hb); have n1_ := Aside0.mk (below_step (by repeat (first | (with_reducible first | exact HB.out | apply below_alloc | apply pw_below_drewN | apply below_drew1 | refine below_set ?_ GE323.out) | exact HB.out)) hb); clear BK323; clear HB; have BK323 := n0_; have HB := n1_; clear n0_ n1_; (try clear hb); (try clear hb2); (try clear hk); (try clear hi); have hcz20_0 : w19.cell? ⟨gb323, 0, none⟩ = some (.int .i64 a0_0) := (blk_cell BK323.out 0).trans rfl; have hcz20_1 : w19.cell? ⟨gb323, 1, none⟩ = some (.int .i64 a0_1) := (blk_cell BK323.out 1).trans rfl; have hcz20_2 : w19.cell? ⟨gb323, 2, none⟩ = some (.slice A0_2 l0_2.length c0_2) := (blk_cell BK323.out 2).trans rfl; have hcz20_3 : w19.cell? ⟨gb323, 3, none⟩ = some (.slice A0_3 l0_3.length c0_3) := (blk_cell BK323.out 3).trans rfl; have hcz20_4 : w19.cell? ⟨gb323, 4, none⟩ = some (.slice A0_4 l0_4.length c0_4) := (blk_cell BK323.out 4).trans rfl; have hcz20_5 : w19.cell? ⟨gb323, 5, none⟩ = some (.int .i64 a0_5) := (blk_cell BK323.out 5).trans rfl; have hcz20_6 : w19.cell? ⟨gb323, 6, none⟩ = some (.int .i64 a0_6) := (blk_cell BK323.out 6).trans rfl; have hcz20_7 : w19.cell? ⟨gb323, 7, none⟩ = some (.int .i64 a0_7) := (blk_cell BK323.out 7).trans rfl; have hfz20_0 := blk_frozen BK323.out 0; have hfz20_1 := blk_frozen BK323.out 1; have hfz20_2 := blk_frozen BK323.out 2; have hfz20_3 := blk_frozen BK323.out 3; have hfz20_4 := blk_frozen BK323.out 4; have hfz20_5 := blk_frozen BK323.out 5; have hfz20_6 := blk_frozen BK323.out 6; have hfz20_7 := blk_frozen BK323.out 7) | ((with_reducible refine gate_callee (f := 35) rfl ?_); refine goesL_ (some 27) rfl rfl Try.func35 (by kernel_rfl) rfl #[.agg #[.int .i64 a0_0, .int .i64 a0_1, .slice A0_2 l0_2.length c0_2, .slice A0_3 l0_3.length c0_3, .slice A0_4 l0_4.length c0_4, .int .i64 a0_5, .int .i64 a0_6, .int .i64 a0_7]] rfl (by (try simp only [List.map_toArray, List.map_cons, List.map_nil]); first | done | rfl | (simp only [List.length_drop, List.length_take]; rfl)) ?_; (with_reducible refine (laws_toHeader.calls k a0_0 a0_1 _ _ l0_2 _ _ l0_3 _ _ l0_4 a0_5 a0_6 a0_7 t325 t326 t327 t330 t333 t336 t337 t338 _ ?side1 ?side2 ?side3 ?side4 ?side5 ?side6 A10.out).mono ?_); (case side1 => repeat (first | exact (Kd.C_below HR0_2.out HB.out) | (with_reducible refine Kd.C_alloc ?_ _) | (with_reducible refine Kd.C_drewN ?_ _) | (with_reducible refine Kd.C_drew ?_))); (case side2 => exact HC0_2.out); (case side3 => repeat (first | exact (Kd.C_below HR0_3.out HB.out) | (with_reducible refine Kd.C_alloc ?_ _) | (with_reducible refine Kd.C_drewN ?_ _) | (with_reducible refine Kd.C_drew ?_))); (case side4 => exact HC0_3.out); (case side5 => repeat (first | exact (Kd.C_below HR0_4.out HB.out) | (with_reducible refine Kd.C_alloc ?_ _) | (with_reducible refine Kd.C_drewN ?_ _) | (with_reducible refine Kd.C_drew ?_))); (case side6 => exact HC0_4.out); rintro e w21 ⟨v328, v331, v334, rfl, ho0, ho1, ho2, hb⟩; refine ⟨_, rfl, ?_⟩; have n0_ := Aside0.mk (Kd.R_lower ho0 (below_size (by repeat (first | (with_reducible first | exact HB.out | apply below_alloc | apply pw_below_drewN | apply below_drew1 | refine below_set ?_ GE323.out) | exact HB.out)))); have n1_ := Aside0.mk (Kd.R_lower ho1 (below_size (by repeat (first | (with_reducible first | exact HB.out | apply below_alloc | apply pw_below_drewN | apply below_drew1 | refine below_set ?_ GE323.out) | exact HB.out)))); have n2_ := Aside0.mk (Kd.R_lower ho2 (below_size (by repeat (first | (with_reducible first | exact HB.out | apply below_alloc | apply pw_below_drewN | apply below_drew1 | refine below_set ?_ GE323.out) | exact HB.out)))); have n3_ := Aside0.mk (blk_below (g := gb323) (o := .cells #[.int .i64 a0_0, .int .i64 a0_1, .slice A0_2 l0_2.length c0_2, .slice A0_3 l0_3.length c0_3, .slice A0_4 l0_4.length c0_4, .int .i64 a0_5, .int .i64 a0_6, .int .i64 a0_7] 41 (0, 0)) (by (with_reducible repeat (first | refine blk_drewN ?_ _ | refine blk_drew ?_ | refine blk_alloc ?_ _)); exact BK323.out) hb); have n4_ := Aside0.mk (below_step (by repeat (first | (with_reducible first | exact HB.out | apply below_alloc | apply pw_below_drewN | apply below_drew1 | refine below_set ?_ GE323.out) | exact HB.out)) hb); clear BK323; clear HB; have HO329 := n0_; have HO332 := n1_; have HO335 := n2_; have BK323 := n3_; have HB := n4_; clear n0_ n1_ n2_ n3_ n4_; (try clear hb); (try clear hb2); (try clear hk); (try clear hi); (try clear ho0); (try clear ho1); (try clear ho2)) | ((with_reducible refine gate_callee (f := 15) rfl ?_); refine goesL_ (some 29) rfl rfl Try.func15 (by kernel_rfl) rfl #[.slice A1 l1.length c1] rfl (by (try simp only [List.map_toArray, List.map_cons, List.map_nil]); first | done | rfl | (simp only [List.length_drop, List.length_take]; rfl)) ?_; (with_reducible refine (laws_toByteS.calls k _ _ l1 t339 _ ?side1 ?side2 A11.out).mono ?_); (case side1 => repeat (first | exact (Kd.C_below HR1.out HB.out) | (with_reducible refine Kd.C_alloc ?_ _) | (with_reducible refine Kd.C_drewN ?_ _) | (with_reducible refine Kd.C_drew ?_))); (case side2 => exact HC1.out); rintro e w22 ⟨v340, rfl, ho0, hb⟩; refine ⟨_, rfl, ?_⟩; have n0_ := Aside0.mk (Kd.R_elder' (by (with_reducible repeat (first | apply Kd.R_alloc | apply Kd.R_drewN | apply Kd.R_drew)); exact HO329.out) (Kd.R_base ho0) hb); have n1_ := Aside0.mk (Kd.R_elder' (by (with_reducible repeat (first | apply Kd.R_alloc | apply Kd.R_drewN | apply Kd.R_drew)); exact HO332.out) (Kd.R_base ho0) hb); have n2_ := Aside0.mk (Kd.R_elder' (by (with_reducible repeat (first | apply Kd.R_alloc | apply Kd.R_drewN | apply Kd.R_drew)); exact HO335.out) (Kd.R_base ho0) hb); have n3_ := Aside0.mk (Kd.R_lower (Kd.R_new' (Kd.R_new' (Kd.R_new' ho0 (Kd.R_lt (by (with_reducible repeat (first | apply Kd.R_alloc | apply Kd.R_drewN | apply Kd.R_drew)); exact HO329.out))) (Kd.R_lt (by (with_reducible repeat (first | apply Kd.R_alloc | apply Kd.R_drewN | apply Kd.R_drew)); exact HO332.out))) (Kd.R_lt (by (with_reducible repeat (first | apply Kd.R_alloc | apply Kd.R_drewN | apply Kd.R_drew)); exact HO335.out))) (below_size (by repeat (first | (with_reducible first | exact HB.out | apply below_alloc | apply pw_below_drewN | apply below_drew1 | refine below_set ?_ GE323.out) | exact HB.out)))); have n4_ := Aside0.mk (blk_below (g := gb323) (o := .cells #[.int .i64 a0_0, .int .i64 a0_1, .slice A0_2 l0_2.length c0_2, .slice A0_3 l0_3.length c0_3, .slice A0_4 l0_4.length c0_4, .int .i64 a0_5, .int .i64 a0_6, .int .i64 a0_7] 41 (0, 0)) (by (with_reducible repeat (first | refine blk_drewN ?_ _ | refine blk_drew ?_ | refine blk_alloc ?_ _)); exact BK323.out) hb); have n5_ := Aside0.mk (below_step (by repeat (first | (with_reducible first | exact HB.out | apply below_alloc | apply pw_below_drewN | apply below_drew1 | refine below_set ?_ GE323.out) | exact HB.out)) hb); clear HO329; clear HO332; clear HO335; clear BK323; clear HB; have HO329 := n0_; have HO332 := n1_; have HO335 := n2_; have HO341 := n3_; have BK323 := n4_; have HB := n5_; clear n0_ n1_ n2_ n3_ n4_ n5_; (try clear hb); (try clear hb2); (try clear hk); (try clear hi); (try clear ho0); obtain ⟨Ao23, co23, eo23⟩ := Kd.R_slice HO329.out; subst eo23; obtain ⟨Ao24, co24, eo24⟩ := Kd.R_slice HO332.out; subst eo24; obtain ⟨Ao25, co25, eo25⟩ := Kd.R_slice HO335.out; subst eo25; obtain ⟨Ao26, co26, eo26⟩ := Kd.R_slice HO341.out; subst eo26) | ((with_reducible refine gate_callee (f := 34) rfl ?_); refine goesL_ (some 30) rfl rfl Try.func34 (by kernel_rfl) rfl #[.agg #[.int .i64 t325, .int .i64 t326, .slice Ao23 t327.length co23, .slice Ao24 t330.length co24, .slice Ao25 t333.length co25, .int .i64 t336, .int .i64 t337, .int .i64 t338], .slice Ao26 t339.length co26] rfl (by (try simp only [List.map_toArray, List.map_cons, List.map_nil]); first | done | rfl | (simp only [List.length_drop, List.length_take]; rfl)) ?_; (with_reducible refine (spec_RetryPacket.calls k t325 t326 _ _ t327 _ _ t330 _ _ t333 t336 t337 t338 _ _ t339 t342 t345 _ ?side1 ?side2 ?side3 ?side4 ?side5 ?side6 ?side7 ?side8 A12.out).mono ?_); (case side1 => repeat (first | exact (Kd.R_reads' HO329.out).2.2 | (with_reducible refine Kd.C_alloc ?_ _) | (with_reducible refine Kd.C_drewN ?_ _) | (with_reducible refine Kd.C_drew ?_))); (case side2 => exact (Kd.R_reads' HO329.out).2.1); (case side3 => repeat (first | exact (Kd.R_reads' HO332.out).2.2 | (with_reducible refine Kd.C_alloc ?_ _) | (with_reducible refine Kd.C_drewN ?_ _) | (with_reducible refine Kd.C_drew ?_))); (case side4 => exact (Kd.R_reads' HO332.out).2.1); (case side5 => repeat (first | exact (Kd.R_reads' HO335.out).2.2 | (with_reducible refine Kd.C_alloc ?_ _) | (with_reducible refine Kd.C_drewN ?_ _) | (with_reducible refine Kd.C_drew ?_))); (case side6 => exact (Kd.R_reads' HO335.out).2.1); (case side7 => repeat (first | exact (Kd.R_reads' HO341.out).2.2 | (with_reducible refine Kd.C_alloc ?_ _) | (with_reducible refine Kd.C_drewN ?_ _) | (with_reducible refine Kd.C_drew ?_))); (case side8 => exact (Kd.R_reads' HO341.out).2.1); rintro e w27 ⟨v343, rfl, ho0, hb⟩; refine ⟨_, rfl, ?_⟩; have n0_ := Aside0.mk (Kd.R_elder' (by (with_reducible repeat (first | apply Kd.R_alloc | apply Kd.R_drewN | apply Kd.R_drew)); exact HO329.out) (Kd.R_base ho0) hb); have n1_ := Aside0.mk (Kd.R_elder' (by (with_reducible repeat (first | apply Kd.R_alloc | apply Kd.R_drewN | apply Kd.R_drew)); exact HO332.out) (Kd.R_base ho0) hb); have n2_ := Aside0.mk (Kd.R_elder' (by (with_reducible repeat (first | apply Kd.R_alloc | apply Kd.R_drewN | apply Kd.R_drew)); exact HO335.out) (Kd.R_base ho0) hb); have n3_ := Aside0.mk (Kd.R_elder' (by (with_reducible repeat (first | apply Kd.R_alloc | apply Kd.R_drewN | apply Kd.R_drew)); exact HO341.out) (Kd.R_base ho0) hb); have n4_ := Aside0.mk (Kd.R_lower (Kd.R_new' (Kd.R_new' (Kd.R_new' (Kd.R_new' ho0 (Kd.R_lt (by (with_reducible repeat (first | apply Kd.R_alloc | apply Kd.R_drewN | apply Kd.R_drew)); exact HO329.out))) (Kd.R_lt (by (with_reducible repeat (first | apply Kd.R_alloc | apply Kd.R_drewN | apply Kd.R_drew)); exact HO332.out))) (Kd.R_lt (by (with_reducible repeat (first | apply Kd.R_alloc | apply Kd.R_drewN | apply Kd.R_drew)); exact HO335.out))) (Kd.R_lt (by (with_reducible repeat (first | apply Kd.R_alloc | apply Kd.R_drewN | apply Kd.R_drew)); exact HO341.out))) (below_size (by repeat (first | (with_reducible first | exact HB.out | apply below_alloc | apply pw_below_drewN | apply below_drew1 | refine below_set ?_ GE323.out) | exact HB.out)))); have n5_ := Aside0.mk (blk_below (g := gb323) (o := .cells #[.int .i64 a0_0, .int .i64 a0_1, .slice A0_2 l0_2.length c0_2, .slice A0_3 l0_3.length c0_3, .slice A0_4 l0_4.length c0_4, .int .i64 a0_5, .int .i64 a0_6, .int .i64 a0_7] 41 (0, 0)) (by (with_reducible repeat (first | refine blk_drewN ?_ _ | refine blk_drew ?_ | refine blk_alloc ?_ _)); exact BK323.out) hb); have n6_ := Aside0.mk (below_step (by repeat (first | (with_reducible first | exact HB.out | apply below_alloc | apply pw_below_drewN | apply below_drew1 | refine below_set ?_ GE323.out) | exact HB.out)) hb); clear HO329; clear HO332; clear HO335; clear HO341; clear BK323; clear HB; have HO329 := n0_; have HO332 := n1_; have HO335 := n2_; have HO341 := n3_; have HO344 := n4_; have BK323 := n5_; have HB := n6_; clear n0_ n1_ n2_ n3_ n4_ n5_ n6_; (try clear hb); (try clear hb2); (try clear hk); (try clear hi); (try clear ho0); have hcz28_0 : w27.cell? ⟨gb323, 0, none⟩ = some (.int .i64 a0_0) := (blk_cell BK323.out 0).trans rfl; have hcz28_1 : w27.cell? ⟨gb323, 1, none⟩ = some (.int .i64 a0_1) := (blk_cell BK323.out 1).trans rfl; have hcz28_2 : w27.cell? ⟨gb323, 2, none⟩ = some (.slice A0_2 l0_2.length c0_2) := (blk_cell BK323.out 2).trans rfl; have hcz28_3 : w27.cell? ⟨gb323, 3, none⟩ = some (.slice A0_3 l0_3.length c0_3) := (blk_cell BK323.out 3).trans rfl; have hcz28_4 : w27.cell? ⟨gb323, 4, none⟩ = some (.slice A0_4 l0_4.length c0_4) := (blk_cell BK323.out 4).trans rfl; have hcz28_5 : w27.cell? ⟨gb323, 5, none⟩ = some (.int .i64 a0_5) := (blk_cell BK323.out 5).trans rfl; have hcz28_6 : w27.cell? ⟨gb323, 6, none⟩ = some (.int .i64 a0_6) := (blk_cell BK323.out 6).trans rfl; have hcz28_7 : w27.cell? ⟨gb323, 7, none⟩ = some (.int .i64 a0_7) := (blk_cell BK323.out 7).trans rfl; have hfz28_0 := blk_frozen BK323.out 0; have hfz28_1 := blk_frozen BK323.out 1; have hfz28_2 := blk_frozen BK323.out 2; have hfz28_3 := blk_frozen BK323.out 3; have hfz28_4 := blk_frozen BK323.out 4; have hfz28_5 := blk_frozen BK323.out 5; have hfz28_6 := blk_frozen BK323.out 6; have hfz28_7 := blk_frozen BK323.out 7) | ((with_reducible refine gate_callee (f := 35) rfl ?_); refine goesL_ (some 34) rfl rfl Try.func35 (by kernel_rfl) rfl #[.agg #[.int .i64 a0_0, .int .i64 a0_1, .slice A0_2 l0_2.length c0_2, .slice A0_3 l0_3.length c0_3, .slice A0_4 l0_4.length c0_4, .int .i64 a0_5, .int .i64 a0_6, .int .i64 a0_7]] rfl (by (try simp only [List.map_toArray, List.map_cons, List.map_nil]); first | done | rfl | (simp only [List.length_drop, List.length_take]; rfl)) ?_; (with_reducible refine (laws_toHeader.calls k a0_0 a0_1 _ _ l0_2 _ _ l0_3 _ _ l0_4 a0_5 a0_6 a0_7 t346 t347 t348 t351 t354 t357 t358 t359 _ ?side1 ?side2 ?side3 ?side4 ?side5 ?side6 A13.out).mono ?_); (case side1 => repeat (first | exact (Kd.C_below HR0_2.out HB.out) | (with_reducible refine Kd.C_alloc ?_ _) | (with_reducible refine Kd.C_drewN ?_ _) | (with_reducible refine Kd.C_drew ?_))); (case side2 => exact HC0_2.out); (case side3 => repeat (first | exact (Kd.C_below HR0_3.out HB.out) | (with_reducible refine Kd.C_alloc ?_ _) | (with_reducible refine Kd.C_drewN ?_ _) | (with_reducible refine Kd.C_drew ?_))); (case side4 => exact HC0_3.out); (case side5 => repeat (first | exact (Kd.C_below HR0_4.out HB.out) | (with_reducible refine Kd.C_alloc ?_ _) | (with_reducible refine Kd.C_drewN ?_ _) | (with_reducible refine Kd.C_drew ?_))); (case side6 => exact HC0_4.out); rintro e w29 ⟨v349, v352, v355, rfl, ho0, ho1, ho2, hb⟩; refine ⟨_, rfl, ?_⟩; have n0_ := Aside0.mk (Kd.R_mono (Kd.R_told (Kd.R_told (Kd.R_told (Kd.R_old (by (with_reducible repeat (first | apply Kd.R_alloc | apply Kd.R_drewN | apply Kd.R_drew)); exact HO329.out) hb) (Kd.R_base ho0)) (Kd.R_base ho1)) (Kd.R_base ho2)) (fun _ h_ => h_.1)); have n1_ := Aside0.mk (Kd.R_mono (Kd.R_told (Kd.R_told (Kd.R_told (Kd.R_old (by (with_reducible repeat (first | apply Kd.R_alloc | apply Kd.R_drewN | apply Kd.R_drew)); exact HO332.out) hb) (Kd.R_base ho0)) (Kd.R_base ho1)) (Kd.R_base ho2)) (fun _ h_ => h_.1)); have n2_ := Aside0.mk (Kd.R_mono (Kd.R_told (Kd.R_told (Kd.R_told (Kd.R_old (by (with_reducible repeat (first | apply Kd.R_alloc | apply Kd.R_drewN | apply Kd.R_drew)); exact HO335.out) hb) (Kd.R_base ho0)) (Kd.R_base ho1)) (Kd.R_base ho2)) (fun _ h_ => h_.1)); have n3_ := Aside0.mk (Kd.R_mono (Kd.R_told (Kd.R_told (Kd.R_told (Kd.R_old (by (with_reducible repeat (first | apply Kd.R_alloc | apply Kd.R_drewN | apply Kd.R_drew)); exact HO341.out) hb) (Kd.R_base ho0)) (Kd.R_base ho1)) (Kd.R_base ho2)) (fun _ h_ => h_.1)); have n4_ := Aside0.mk (Kd.R_mono (Kd.R_told (Kd.R_told (Kd.R_told (Kd.R_old (by (with_reducible repeat (first | apply Kd.R_alloc | apply Kd.R_drewN | apply Kd.R_drew)); exact HO344.out) hb) (Kd.R_base ho0)) (Kd.R_base ho1)) (Kd.R_base ho2)) (fun _ h_ => h_.1)); have n5_ := Aside0.mk (Kd.R_lower (Kd.R_new' (Kd.R_new' (Kd.R_new' (Kd.R_new' (Kd.R_new' ho0 (Kd.R_lt (by (with_reducible repeat (first | apply Kd.R_alloc | apply Kd.R_drewN | apply Kd.R_drew)); exact HO329.out))) (Kd.R_lt (by (with_reducible repeat (first | apply Kd.R_alloc | apply Kd.R_drewN | apply Kd.R_drew)); exact HO332.out))) (Kd.R_lt (by (with_reducible repeat (first | apply Kd.R_alloc | apply Kd.R_drewN | apply Kd.R_drew)); exact HO335.out))) (Kd.R_lt (by (with_reducible repeat (first | apply Kd.R_alloc | apply Kd.R_drewN | apply Kd.R_drew)); exact HO341.out))) (Kd.R_lt (by (with_reducible repeat (first | apply Kd.R_alloc | apply Kd.R_drewN | apply Kd.R_drew)); exact HO344.out))) (below_size (by repeat (first | (with_reducible first | exact HB.out | apply below_alloc | apply pw_below_drewN | apply below_drew1 | refine below_set ?_ GE323.out) | exact HB.out)))); have n6_ := Aside0.mk (Kd.R_lower (Kd.R_new' (Kd.R_new' (Kd.R_new' (Kd.R_new' (Kd.R_new' ho1 (Kd.R_lt (by (with_reducible repeat (first | apply Kd.R_alloc | apply Kd.R_drewN | apply Kd.R_drew)); exact HO329.out))) (Kd.R_lt (by (with_reducible repeat (first | apply Kd.R_alloc | apply Kd.R_drewN | apply Kd.R_drew)); exact HO332.out))) (Kd.R_lt (by (with_reducible repeat (first | apply Kd.R_alloc | apply Kd.R_drewN | apply Kd.R_drew)); exact HO335.out))) (Kd.R_lt (by (with_reducible repeat (first | apply Kd.R_alloc | apply Kd.R_drewN | apply Kd.R_drew)); exact HO341.out))) (Kd.R_lt (by (with_reducible repeat (first | apply Kd.R_alloc | apply Kd.R_drewN | apply Kd.R_drew)); exact HO344.out))) (below_size (by repeat (first | (with_reducible first | exact HB.out | apply below_alloc | apply pw_below_drewN | apply below_drew1 | refine below_set ?_ GE323.out) | exact HB.out)))); have n7_ := Aside0.mk (Kd.R_lower (Kd.R_new' (Kd.R_new' (Kd.R_new' (Kd.R_new' (Kd.R_new' ho2 (Kd.R_lt (by (with_reducible repeat (first | apply Kd.R_alloc | apply Kd.R_drewN | apply Kd.R_drew)); exact HO329.out))) (Kd.R_lt (by (with_reducible repeat (first | apply Kd.R_alloc | apply Kd.R_drewN | apply Kd.R_drew)); exact HO332.out))) (Kd.R_lt (by (with_reducible repeat (first | apply Kd.R_alloc | apply Kd.R_drewN | apply Kd.R_drew)); exact HO335.out))) (Kd.R_lt (by (with_reducible repeat (first | apply Kd.R_alloc | apply Kd.R_drewN | apply Kd.R_drew)); exact HO341.out))) (Kd.R_lt (by (with_reducible repeat (first | apply Kd.R_alloc | apply Kd.R_drewN | apply Kd.R_drew)); exact HO344.out))) (below_size (by repeat (first | (with_reducible first | exact HB.out | apply below_alloc | apply pw_below_drewN | apply below_drew1 | refine below_set ?_ GE323.out) | exact HB.out)))); have n8_ := Aside0.mk (blk_below (g := gb323) (o := .cells #[.int .i64 a0_0, .int .i64 a0_1, .slice A0_2 l0_2.length c0_2, .slice A0_3 l0_3.length c0_3, .slice A0_4 l0_4.length c0_4, .int .i64 a0_5, .int .i64 a0_6, .int .i64 a0_7] 41 (0, 0)) (by (with_reducible repeat (first | refine blk_drewN ?_ _ | refine blk_drew ?_ | refine blk_alloc ?_ _)); exact BK323.out) hb); have n9_ := Aside0.mk (below_step (by repeat (first | (with_reducible first | exact HB.out | apply below_alloc | apply pw_below_drewN | apply below_drew1 | refine below_set ?_ GE323.out) | exact HB.out)) hb); clear HO329; clear HO332; clear HO335; clear HO341; clear HO344; clear BK323; clear HB; have HO329 := n0_; have HO332 := n1_; have HO335 := n2_; have HO341 := n3_; have HO344 := n4_; have HO350 := n5_; have HO353 := n6_; have HO356 := n7_; have BK323 := n8_; have HB := n9_; clear n0_ n1_ n2_ n3_ n4_ n5_ n6_ n7_ n8_ n9_; (try clear hb); (try clear hb2); (try clear hk); (try clear hi); (try clear ho0); (try clear ho1); (try clear ho2)) | ((with_reducible refine gate_dst (N := 8) rfl ?_); refine box_event ?hg (N := 8) ?hd (cs := #[.int .i64 0, .int .i64 0, .slice none 0 0, .slice none 0 0, .slice none 0 0, .int .i64 0, .int .i64 0, .int .i64 0]) (t := 45) ?hr ?_; (case hd => rfl); (case hg => rfl); (case hr => first | (go_simp; done) | (go_simp; rfl)); intro gb360 hg w30 hbox hb; have n0_ := Aside0.mk (Kd.R_below (by (with_reducible repeat (first | apply Kd.R_alloc | apply Kd.R_drewN | apply Kd.R_drew)); exact HO329.out) hb); have n1_ := Aside0.mk (Kd.R_below (by (with_reducible repeat (first | apply Kd.R_alloc | apply Kd.R_drewN | apply Kd.R_drew)); exact HO332.out) hb); have n2_ := Aside0.mk (Kd.R_below (by (with_reducible repeat (first | apply Kd.R_alloc | apply Kd.R_drewN | apply Kd.R_drew)); exact HO335.out) hb); have n3_ := Aside0.mk (Kd.R_below (by (with_reducible repeat (first | apply Kd.R_alloc | apply Kd.R_drewN | apply Kd.R_drew)); exact HO341.out) hb); have n4_ := Aside0.mk (Kd.R_below (by (with_reducible repeat (first | apply Kd.R_alloc | apply Kd.R_drewN | apply Kd.R_drew)); exact HO344.out) hb); have n5_ := Aside0.mk (Kd.R_below (by (with_reducible repeat (first | apply Kd.R_alloc | apply Kd.R_drewN | apply Kd.R_drew)); exact HO350.out) hb); have n6_ := Aside0.mk (Kd.R_below (by (with_reducible repeat (first | apply Kd.R_alloc | apply Kd.R_drewN | apply Kd.R_drew)); exact HO353.out) hb); have n7_ := Aside0.mk (Kd.R_below (by (with_reducible repeat (first | apply Kd.R_alloc | apply Kd.R_drewN | apply Kd.R_drew)); exact HO356.out) hb); have n8_ := Aside0.mk (blk_below (g := gb323) (o := .cells #[.int .i64 a0_0, .int .i64 a0_1, .slice A0_2 l0_2.length c0_2, .slice A0_3 l0_3.length c0_3, .slice A0_4 l0_4.length c0_4, .int .i64 a0_5, .int .i64 a0_6, .int .i64 a0_7] 41 (0, 0)) (by (with_reducible repeat (first | refine blk_drewN ?_ _ | refine blk_drew ?_ | refine blk_alloc ?_ _)); exact BK323.out) hb); have n9_ := Aside0.mk (below_step (by repeat (first | (with_reducible first | exact HB.out | apply below_alloc | apply pw_below_drewN | apply below_drew1 | refine below_set ?_ GE323.out) | exact HB.out)) hb); have n10_ := Aside0.mk (hbox); have n11_ := Aside0.mk ((by rw [hg]; exact (below_size (by repeat (first | (with_reducible first | exact HB.out | apply below_alloc | apply pw_below_drewN | apply below_drew1 | refine below_set ?_ GE323.out) | exact HB.out))) : w.heap.size ≤ gb360)); have n12_ := Aside0.mk ((by rw [hg]; exact (below_size (by repeat (first | (with_reducible first | exact HB.out | apply below_alloc | apply pw_below_drewN | apply below_drew1 | refine below_set ?_ GE323.out) | exact HB.out))) : w.heap.size ≤ gb360)); have n13_ := Aside0.mk ((by rw [hg]; exact Nat.ne_of_lt (blk_lt (g := gb323) (o := .cells #[.int .i64 a0_0, .int .i64 a0_1, .slice A0_2 l0_2.length c0_2, .slice A0_3 l0_3.length c0_3, .slice A0_4 l0_4.length c0_4, .int .i64 a0_5, .int .i64 a0_6, .int .i64 a0_7] 41 (0, 0)) (by (with_reducible repeat (first | refine blk_drewN ?_ _ | refine blk_drew ?_ | refine blk_alloc ?_ _)); exact BK323.out)) : gb323 ≠ gb360)); have n14_ := Aside0.mk ((by rw [hg]; exact Nat.ne_of_gt (blk_lt (g := gb323) (o := .cells #[.int .i64 a0_0, .int .i64 a0_1, .slice A0_2 l0_2.length c0_2, .slice A0_3 l0_3.length c0_3, .slice A0_4 l0_4.length c0_4, .int .i64 a0_5, .int .i64 a0_6, .int .i64 a0_7] 41 (0, 0)) (by (with_reducible repeat (first | refine blk_drewN ?_ _ | refine blk_drew ?_ | refine blk_alloc ?_ _)); exact BK323.out)) : gb360 ≠ gb323)); clear HO329; clear HO332; clear HO335; clear HO341; clear HO344; clear HO350; clear HO353; clear HO356; clear BK323; clear HB; have HO329 := n0_; have HO332 := n1_; have HO335 := n2_; have HO341 := n3_; have HO344 := n4_; have HO350 := n5_; have HO353 := n6_; have HO356 := n7_; have BK323 := n8_; have HB := n9_; have BK360 := n10_; have GW360 := n11_; have GE360 := n12_; have NB323_360 := n13_; have NB360_323 := n14_; clear n0_ n1_ n2_ n3_ n4_ n5_ n6_ n7_ n8_ n9_ n10_ n11_ n12_ n13_ n14_; clear hb hbox hg; have hnb31 := NB360_323.out; have hnc31 := NB323_360.out; have hcz32_0 : w30.cell? ⟨gb360, 0, none⟩ = some (.int .i64 0) := (blk_cell BK360.out 0).trans rfl; have hcz32_1 : w30.cell? ⟨gb360, 1, none⟩ = some (.int .i64 0) := (blk_cell BK360.out 1).trans rfl; have hcz32_2 : w30.cell? ⟨gb360, 2, none⟩ = some (.slice none 0 0) := (blk_cell BK360.out 2).trans rfl; have hcz32_3 : w30.cell? ⟨gb360, 3, none⟩ = some (.slice none 0 0) := (blk_cell BK360.out 3).trans rfl; have hcz32_4 : w30.cell? ⟨gb360, 4, none⟩ = some (.slice none 0 0) := (blk_cell BK360.out 4).trans rfl; have hcz32_5 : w30.cell? ⟨gb360, 5, none⟩ = some (.int .i64 0) := (blk_cell BK360.out 5).trans rfl; have hcz32_6 : w30.cell? ⟨gb360, 6, none⟩ = some (.int .i64 0) := (blk_cell BK360.out 6).trans rfl; have hcz32_7 : w30.cell? ⟨gb360, 7, none⟩ = some (.int .i64 0) := (blk_cell BK360.out 7).trans rfl; have hfz32_0 := blk_frozen BK360.out 0; have hfz32_1 := blk_frozen BK360.out 1; have hfz32_2 := blk_frozen BK360.out 2; have hfz32_3 := blk_frozen BK360.out 3; have hfz32_4 := blk_frozen BK360.out 4; have hfz32_5 := blk_frozen BK360.out 5; have hfz32_6 := blk_frozen BK360.out 6; have hfz32_7 := blk_frozen BK360.out 7; obtain ⟨Ao33, co33, eo33⟩ := Kd.R_slice HO350.out; subst eo33; obtain ⟨Ao34, co34, eo34⟩ := Kd.R_slice HO353.out; subst eo34; obtain ⟨Ao35, co35, eo35⟩ := Kd.R_slice HO356.out; subst eo35) | ((with_reducible refine gate_callee (f := 15) rfl ?_); refine goesL_ (some 36) rfl rfl Try.func15 (by kernel_rfl) rfl #[.slice A1 l1.length c1] rfl (by (try simp only [List.map_toArray, List.map_cons, List.map_nil]); first | done | rfl | (simp only [List.length_drop, List.length_take]; rfl)) ?_; (with_reducible refine (laws_toByteS.calls k _ _ l1 t361 _ ?side1 ?side2 A14.out).mono ?_); (case side1 => exact Kd.C_below HR1.out (by repeat (first | (with_reducible first | exact HB.out | apply below_alloc | apply pw_below_drewN | apply below_drew1 | refine below_set ?_ GE323.out | refine below_set ?_ GE360.out) | exact HB.out))); (case side2 => exact HC1.out); rintro e w36 ⟨v362, rfl, ho0, hb⟩; refine ⟨_, rfl, ?_⟩; have n0_ := Aside0.mk (Kd.R_elder' (by (with_reducible repeat (first | apply Kd.R_alloc | apply Kd.R_drewN | apply Kd.R_drew)); exact (Kd.R_mono (Kd.R_far (p := ⟨gb360, 7, none⟩) (Kd.R_far (p := ⟨gb360, 6, none⟩) (Kd.R_far (p := ⟨gb360, 5, none⟩) (Kd.R_far (p := ⟨gb360, 4, none⟩) (Kd.R_far (p := ⟨gb360, 3, none⟩) (Kd.R_far (p := ⟨gb360, 2, none⟩) (Kd.R_far (p := ⟨gb360, 1, none⟩) (Kd.R_far (p := ⟨gb360, 0, none⟩) (Kd.R_types HO329.out BK360.out (by decide)) (fun _ hk => hk.2) (.int .i64 t346)) (fun _ hk => hk.2) (.int .i64 t347)) (fun _ hk => hk.2) (.slice Ao33 t348.length co33)) (fun _ hk => hk.2) (.slice Ao34 t351.length co34)) (fun _ hk => hk.2) (.slice Ao35 t354.length co35)) (fun _ hk => hk.2) (.int .i64 t357)) (fun _ hk => hk.2) (.int .i64 t358)) (fun _ hk => hk.2) (.int .i64 t359)) (fun _ h_ => h_.1))) (Kd.R_base ho0) hb); have n1_ := Aside0.mk (Kd.R_elder' (by (with_reducible repeat (first | apply Kd.R_alloc | apply Kd.R_drewN | apply Kd.R_drew)); exact (Kd.R_mono (Kd.R_far (p := ⟨gb360, 7, none⟩) (Kd.R_far (p := ⟨gb360, 6, none⟩) (Kd.R_far (p := ⟨gb360, 5, none⟩) (Kd.R_far (p := ⟨gb360, 4, none⟩) (Kd.R_far (p := ⟨gb360, 3, none⟩) (Kd.R_far (p := ⟨gb360, 2, none⟩) (Kd.R_far (p := ⟨gb360, 1, none⟩) (Kd.R_far (p := ⟨gb360, 0, none⟩) (Kd.R_types HO332.out BK360.out (by decide)) (fun _ hk => hk.2) (.int .i64 t346)) (fun _ hk => hk.2) (.int .i64 t347)) (fun _ hk => hk.2) (.slice Ao33 t348.length co33)) (fun _ hk => hk.2) (.slice Ao34 t351.length co34)) (fun _ hk => hk.2) (.slice Ao35 t354.length co35)) (fun _ hk => hk.2) (.int .i64 t357)) (fun _ hk => hk.2) (.int .i64 t358)) (fun _ hk => hk.2) (.int .i64 t359)) (fun _ h_ => h_.1))) (Kd.R_base ho0) hb); have n2_ := Aside0.mk (Kd.R_elder' (by (with_reducible repeat (first | apply Kd.R_alloc | apply Kd.R_drewN | apply Kd.R_drew)); exact (Kd.R_mono (Kd.R_far (p := ⟨gb360, 7, none⟩) (Kd.R_far (p := ⟨gb360, 6, none⟩) (Kd.R_far (p := ⟨gb360, 5, none⟩) (Kd.R_far (p := ⟨gb360, 4, none⟩) (Kd.R_far (p := ⟨gb360, 3, none⟩) (Kd.R_far (p := ⟨gb360, 2, none⟩) (Kd.R_far (p := ⟨gb360, 1, none⟩) (Kd.R_far (p := ⟨gb360, 0, none⟩) (Kd.R_types HO335.out BK360.out (by decide)) (fun _ hk => hk.2) (.int .i64 t346)) (fun _ hk => hk.2) (.int .i64 t347)) (fun _ hk => hk.2) (.slice Ao33 t348.length co33)) (fun _ hk => hk.2) (.slice Ao34 t351.length co34)) (fun _ hk => hk.2) (.slice Ao35 t354.length co35)) (fun _ hk => hk.2) (.int .i64 t357)) (fun _ hk => hk.2) (.int .i64 t358)) (fun _ hk => hk.2) (.int .i64 t359)) (fun _ h_ => h_.1))) (Kd.R_base ho0) hb); have n3_ := Aside0.mk (Kd.R_elder' (by (with_reducible repeat (first | apply Kd.R_alloc | apply Kd.R_drewN | apply Kd.R_drew)); exact (Kd.R_mono (Kd.R_far (p := ⟨gb360, 7, none⟩) (Kd.R_far (p := ⟨gb360, 6, none⟩) (Kd.R_far (p := ⟨gb360, 5, none⟩) (Kd.R_far (p := ⟨gb360, 4, none⟩) (Kd.R_far (p := ⟨gb360, 3, none⟩) (Kd.R_far (p := ⟨gb360, 2, none⟩) (Kd.R_far (p := ⟨gb360, 1, none⟩) (Kd.R_far (p := ⟨gb360, 0, none⟩) (Kd.R_types HO341.out BK360.out (by decide)) (fun _ hk => hk.2) (.int .i64 t346)) (fun _ hk => hk.2) (.int .i64 t347)) (fun _ hk => hk.2) (.slice Ao33 t348.length co33)) (fun _ hk => hk.2) (.slice Ao34 t351.length co34)) (fun _ hk => hk.2) (.slice Ao35 t354.length co35)) (fun _ hk => hk.2) (.int .i64 t357)) (fun _ hk => hk.2) (.int .i64 t358)) (fun _ hk => hk.2) (.int .i64 t359)) (fun _ h_ => h_.1))) (Kd.R_base ho0) hb); have n4_ := Aside0.mk (Kd.R_elder' (by (with_reducible repeat (first | apply Kd.R_alloc | apply Kd.R_drewN | apply Kd.R_drew)); exact (Kd.R_mono (Kd.R_far (p := ⟨gb360, 7, none⟩) (Kd.R_far (p := ⟨gb360, 6, none⟩) (Kd.R_far (p := ⟨gb360, 5, none⟩) (Kd.R_far (p := ⟨gb360, 4, none⟩) (Kd.R_far (p := ⟨gb360, 3, none⟩) (Kd.R_far (p := ⟨gb360, 2, none⟩) (Kd.R_far (p := ⟨gb360, 1, none⟩) (Kd.R_far (p := ⟨gb360, 0, none⟩) (Kd.R_types HO344.out BK360.out (by decide)) (fun _ hk => hk.2) (.int .i64 t346)) (fun _ hk => hk.2) (.int .i64 t347)) (fun _ hk => hk.2) (.slice Ao33 t348.length co33)) (fun _ hk => hk.2) (.slice Ao34 t351.length co34)) (fun _ hk => hk.2) (.slice Ao35 t354.length co35)) (fun _ hk => hk.2) (.int .i64 t357)) (fun _ hk => hk.2) (.int .i64 t358)) (fun _ hk => hk.2) (.int .i64 t359)) (fun _ h_ => h_.1))) (Kd.R_base ho0) hb); have n5_ := Aside0.mk (Kd.R_elder' (by (with_reducible repeat (first | apply Kd.R_alloc | apply Kd.R_drewN | apply Kd.R_drew)); exact (Kd.R_mono (Kd.R_far (p := ⟨gb360, 7, none⟩) (Kd.R_far (p := ⟨gb360, 6, none⟩) (Kd.R_far (p := ⟨gb360, 5, none⟩) (Kd.R_far (p := ⟨gb360, 4, none⟩) (Kd.R_far (p := ⟨gb360, 3, none⟩) (Kd.R_far (p := ⟨gb360, 2, none⟩) (Kd.R_far (p := ⟨gb360, 1, none⟩) (Kd.R_far (p := ⟨gb360, 0, none⟩) (Kd.R_types HO350.out BK360.out (by decide)) (fun _ hk => hk.2) (.int .i64 t346)) (fun _ hk => hk.2) (.int .i64 t347)) (fun _ hk => hk.2) (.slice Ao33 t348.length co33)) (fun _ hk => hk.2) (.slice Ao34 t351.length co34)) (fun _ hk => hk.2) (.slice Ao35 t354.length co35)) (fun _ hk => hk.2) (.int .i64 t357)) (fun _ hk => hk.2) (.int .i64 t358)) (fun _ hk => hk.2) (.int .i64 t359)) (fun _ h_ => h_.1))) (Kd.R_base ho0) hb); have n6_ := Aside0.mk (Kd.R_elder' (by (with_reducible repeat (first | apply Kd.R_alloc | apply Kd.R_drewN | apply Kd.R_drew)); exact (Kd.R_mono (Kd.R_far (p := ⟨gb360, 7, none⟩) (Kd.R_far (p := ⟨gb360, 6, none⟩) (Kd.R_far (p := ⟨gb360, 5, none⟩) (Kd.R_far (p := ⟨gb360, 4, none⟩) (Kd.R_far (p := ⟨gb360, 3, none⟩) (Kd.R_far (p := ⟨gb360, 2, none⟩) (Kd.R_far (p := ⟨gb360, 1, none⟩) (Kd.R_far (p := ⟨gb360, 0, none⟩) (Kd.R_types HO353.out BK360.out (by decide)) (fun _ hk => hk.2) (.int .i64 t346)) (fun _ hk => hk.2) (.int .i64 t347)) (fun _ hk => hk.2) (.slice Ao33 t348.length co33)) (fun _ hk => hk.2) (.slice Ao34 t351.length co34)) (fun _ hk => hk.2) (.slice Ao35 t354.length co35)) (fun _ hk => hk.2) (.int .i64 t357)) (fun _ hk => hk.2) (.int .i64 t358)) (fun _ hk => hk.2) (.int .i64 t359)) (fun _ h_ => h_.1))) (Kd.R_base ho0) hb); have n7_ := Aside0.mk (Kd.R_elder' (by (with_reducible repeat (first | apply Kd.R_alloc | apply Kd.R_drewN | apply Kd.R_drew)); exact (Kd.R_mono (Kd.R_far (p := ⟨gb360, 7, none⟩) (Kd.R_far (p := ⟨gb360, 6, none⟩) (Kd.R_far (p := ⟨gb360, 5, none⟩) (Kd.R_far (p := ⟨gb360, 4, none⟩) (Kd.R_far (p := ⟨gb360, 3, none⟩) (Kd.R_far (p := ⟨gb360, 2, none⟩) (Kd.R_far (p := ⟨gb360, 1, none⟩) (Kd.R_far (p := ⟨gb360, 0, none⟩) (Kd.R_types HO356.out BK360.out (by decide)) (fun _ hk => hk.2) (.int .i64 t346)) (fun _ hk => hk.2) (.int .i64 t347)) (fun _ hk => hk.2) (.slice Ao33 t348.length co33)) (fun _ hk => hk.2) (.slice Ao34 t351.length co34)) (fun _ hk => hk.2) (.slice Ao35 t354.length co35)) (fun _ hk => hk.2) (.int .i64 t357)) (fun _ hk => hk.2) (.int .i64 t358)) (fun _ hk => hk.2) (.int .i64 t359)) (fun _ h_ => h_.1))) (Kd.R_base ho0) hb); have n8_ := Aside0.mk (Kd.R_lower (Kd.R_new' (Kd.R_new' (Kd.R_new' (Kd.R_new' (Kd.R_new' (Kd.R_new' (Kd.R_new' (Kd.R_new' ho0 (Kd.R_lt (by (with_reducible repeat (first | apply Kd.R_alloc | apply Kd.R_drewN | apply Kd.R_drew)); exact (Kd.R_mono (Kd.R_far (p := ⟨gb360, 7, none⟩) (Kd.R_far (p := ⟨gb360, 6, none⟩) (Kd.R_far (p := ⟨gb360, 5, none⟩) (Kd.R_far (p := ⟨gb360, 4, none⟩) (Kd.R_far (p := ⟨gb360, 3, none⟩) (Kd.R_far (p := ⟨gb360, 2, none⟩) (Kd.R_far (p := ⟨gb360, 1, none⟩) (Kd.R_far (p := ⟨gb360, 0, none⟩) (Kd.R_types HO329.out BK360.out (by decide)) (fun _ hk => hk.2) (.int .i64 t346)) (fun _ hk => hk.2) (.int .i64 t347)) (fun _ hk => hk.2) (.slice Ao33 t348.length co33)) (fun _ hk => hk.2) (.slice Ao34 t351.length co34)) (fun _ hk => hk.2) (.slice Ao35 t354.length co35)) (fun _ hk => hk.2) (.int .i64 t357)) (fun _ hk => hk.2) (.int .i64 t358)) (fun _ hk => hk.2) (.int .i64 t359)) (fun _ h_ => h_.1))))) (Kd.R_lt (by (with_reducible repeat (first | apply Kd.R_alloc | apply Kd.R_drewN | apply Kd.R_drew)); exact (Kd.R_mono (Kd.R_far (p := ⟨gb360, 7, none⟩) (Kd.R_far (p := ⟨gb360, 6, none⟩) (Kd.R_far (p := ⟨gb360, 5, none⟩) (Kd.R_far (p := ⟨gb360, 4, none⟩) (Kd.R_far (p := ⟨gb360, 3, none⟩) (Kd.R_far (p := ⟨gb360, 2, none⟩) (Kd.R_far (p := ⟨gb360, 1, none⟩) (Kd.R_far (p := ⟨gb360, 0, none⟩) (Kd.R_types HO332.out BK360.out (by decide)) (fun _ hk => hk.2) (.int .i64 t346)) (fun _ hk => hk.2) (.int .i64 t347)) (fun _ hk => hk.2) (.slice Ao33 t348.length co33)) (fun _ hk => hk.2) (.slice Ao34 t351.length co34)) (fun _ hk => hk.2) (.slice Ao35 t354.length co35)) (fun _ hk => hk.2) (.int .i64 t357)) (fun _ hk => hk.2) (.int .i64 t358)) (fun _ hk => hk.2) (.int .i64 t359)) (fun _ h_ => h_.1))))) (Kd.R_lt (by (with_reducible repeat (first | apply Kd.R_alloc | apply Kd.R_drewN | apply Kd.R_drew)); exact (Kd.R_mono (Kd.R_far (p := ⟨gb360, 7, none⟩) (Kd.R_far (p := ⟨gb360, 6, none⟩) (Kd.R_far (p := ⟨gb360, 5, none⟩) (Kd.R_far (p := ⟨gb360, 4, none⟩) (Kd.R_far (p := ⟨gb360, 3, none⟩) (Kd.R_far (p := ⟨gb360, 2, none⟩) (Kd.R_far (p := ⟨gb360, 1, none⟩) (Kd.R_far (p := ⟨gb360, 0, none⟩) (Kd.R_types HO335.out BK360.out (by decide)) (fun _ hk => hk.2) (.int .i64 t346)) (fun _ hk => hk.2) (.int .i64 t347)) (fun _ hk => hk.2) (.slice Ao33 t348.length co33)) (fun _ hk => hk.2) (.slice Ao34 t351.length co34)) (fun _ hk => hk.2) (.slice Ao35 t354.length co35)) (fun _ hk => hk.2) (.int .i64 t357)) (fun _ hk => hk.2) (.int .i64 t358)) (fun _ hk => hk.2) (.int .i64 t359)) (fun _ h_ => h_.1))))) (Kd.R_lt (by (with_reducible repeat (first | apply Kd.R_alloc | apply Kd.R_drewN | apply Kd.R_drew)); exact (Kd.R_mono (Kd.R_far (p := ⟨gb360, 7, none⟩) (Kd.R_far (p := ⟨gb360, 6, none⟩) (Kd.R_far (p := ⟨gb360, 5, none⟩) (Kd.R_far (p := ⟨gb360, 4, none⟩) (Kd.R_far (p := ⟨gb360, 3, none⟩) (Kd.R_far (p := ⟨gb360, 2, none⟩) (Kd.R_far (p := ⟨gb360, 1, none⟩) (Kd.R_far (p := ⟨gb360, 0, none⟩) (Kd.R_types HO341.out BK360.out (by decide)) (fun _ hk => hk.2) (.int .i64 t346)) (fun _ hk => hk.2) (.int .i64 t347)) (fun _ hk => hk.2) (.slice Ao33 t348.length co33)) (fun _ hk => hk.2) (.slice Ao34 t351.length co34)) (fun _ hk => hk.2) (.slice Ao35 t354.length co35)) (fun _ hk => hk.2) (.int .i64 t357)) (fun _ hk => hk.2) (.int .i64 t358)) (fun _ hk => hk.2) (.int .i64 t359)) (fun _ h_ => h_.1))))) (Kd.R_lt (by (with_reducible repeat (first | apply Kd.R_alloc | apply Kd.R_drewN | apply Kd.R_drew)); exact (Kd.R_mono (Kd.R_far (p := ⟨gb360, 7, none⟩) (Kd.R_far (p := ⟨gb360, 6, none⟩) (Kd.R_far (p := ⟨gb360, 5, none⟩) (Kd.R_far (p := ⟨gb360, 4, none⟩) (Kd.R_far (p := ⟨gb360, 3, none⟩) (Kd.R_far (p := ⟨gb360, 2, none⟩) (Kd.R_far (p := ⟨gb360, 1, none⟩) (Kd.R_far (p := ⟨gb360, 0, none⟩) (Kd.R_types HO344.out BK360.out (by decide)) (fun _ hk => hk.2) (.int .i64 t346)) (fun _ hk => hk.2) (.int .i64 t347)) (fun _ hk => hk.2) (.slice Ao33 t348.length co33)) (fun _ hk => hk.2) (.slice Ao34 t351.length co34)) (fun _ hk => hk.2) (.slice Ao35 t354.length co35)) (fun _ hk => hk.2) (.int .i64 t357)) (fun _ hk => hk.2) (.int .i64 t358)) (fun _ hk => hk.2) (.int .i64 t359)) (fun _ h_ => h_.1))))) (Kd.R_lt (by (with_reducible repeat (first | apply Kd.R_alloc | apply Kd.R_drewN | apply Kd.R_drew)); exact (Kd.R_mono (Kd.R_far (p := ⟨gb360, 7, none⟩) (Kd.R_far (p := ⟨gb360, 6, none⟩) (Kd.R_far (p := ⟨gb360, 5, none⟩) (Kd.R_far (p := ⟨gb360, 4, none⟩) (Kd.R_far (p := ⟨gb360, 3, none⟩) (Kd.R_far (p := ⟨gb360, 2, none⟩) (Kd.R_far (p := ⟨gb360, 1, none⟩) (Kd.R_far (p := ⟨gb360, 0, none⟩) (Kd.R_types HO350.out BK360.out (by decide)) (fun _ hk => hk.2) (.int .i64 t346)) (fun _ hk => hk.2) (.int .i64 t347)) (fun _ hk => hk.2) (.slice Ao33 t348.length co33)) (fun _ hk => hk.2) (.slice Ao34 t351.length co34)) (fun _ hk => hk.2) (.slice Ao35 t354.length co35)) (fun _ hk => hk.2) (.int .i64 t357)) (fun _ hk => hk.2) (.int .i64 t358)) (fun _ hk => hk.2) (.int .i64 t359)) (fun _ h_ => h_.1))))) (Kd.R_lt (by (with_reducible repeat (first | apply Kd.R_alloc | apply Kd.R_drewN | apply Kd.R_drew)); exact (Kd.R_mono (Kd.R_far (p := ⟨gb360, 7, none⟩) (Kd.R_far (p := ⟨gb360, 6, none⟩) (Kd.R_far (p := ⟨gb360, 5, none⟩) (Kd.R_far (p := ⟨gb360, 4, none⟩) (Kd.R_far (p := ⟨gb360, 3, none⟩) (Kd.R_far (p := ⟨gb360, 2, none⟩) (Kd.R_far (p := ⟨gb360, 1, none⟩) (Kd.R_far (p := ⟨gb360, 0, none⟩) (Kd.R_types HO353.out BK360.out (by decide)) (fun _ hk => hk.2) (.int .i64 t346)) (fun _ hk => hk.2) (.int .i64 t347)) (fun _ hk => hk.2) (.slice Ao33 t348.length co33)) (fun _ hk => hk.2) (.slice Ao34 t351.length co34)) (fun _ hk => hk.2) (.slice Ao35 t354.length co35)) (fun _ hk => hk.2) (.int .i64 t357)) (fun _ hk => hk.2) (.int .i64 t358)) (fun _ hk => hk.2) (.int .i64 t359)) (fun _ h_ => h_.1))))) (Kd.R_lt (by (with_reducible repeat (first | apply Kd.R_alloc | apply Kd.R_drewN | apply Kd.R_drew)); exact (Kd.R_mono (Kd.R_far (p := ⟨gb360, 7, none⟩) (Kd.R_far (p := ⟨gb360, 6, none⟩) (Kd.R_far (p := ⟨gb360, 5, none⟩) (Kd.R_far (p := ⟨gb360, 4, none⟩) (Kd.R_far (p := ⟨gb360, 3, none⟩) (Kd.R_far (p := ⟨gb360, 2, none⟩) (Kd.R_far (p := ⟨gb360, 1, none⟩) (Kd.R_far (p := ⟨gb360, 0, none⟩) (Kd.R_types HO356.out BK360.out (by decide)) (fun _ hk => hk.2) (.int .i64 t346)) (fun _ hk => hk.2) (.int .i64 t347)) (fun _ hk => hk.2) (.slice Ao33 t348.length co33)) (fun _ hk => hk.2) (.slice Ao34 t351.length co34)) (fun _ hk => hk.2) (.slice Ao35 t354.length co35)) (fun _ hk => hk.2) (.int .i64 t357)) (fun _ hk => hk.2) (.int .i64 t358)) (fun _ hk => hk.2) (.int .i64 t359)) (fun _ h_ => h_.1))))) (below_size (by repeat (first | (with_reducible first | exact HB.out | apply below_alloc | apply pw_below_drewN | apply below_drew1 | refine below_set ?_ GE323.out | refine below_set ?_ GE360.out) | exact HB.out)))); have n9_ := Aside0.mk (blk_below (g := gb323) (o := .cells #[.int .i64 a0_0, .int .i64 a0_1, .slice A0_2 l0_2.length c0_2, .slice A0_3 l0_3.length c0_3, .slice A0_4 l0_4.length c0_4, .int .i64 a0_5, .int .i64 a0_6, .int .i64 a0_7] 41 (0, 0)) (by (with_reducible repeat (first | refine blk_drewN ?_ _ | refine blk_drew ?_ | refine blk_alloc ?_ _)); refine blk_far ?_ NB323_360.out _; (with_reducible repeat (first | refine blk_drewN ?_ _ | refine blk_drew ?_ | refine blk_alloc ?_ _)); refine blk_far ?_ NB323_360.out _; (with_reducible repeat (first | refine blk_drewN ?_ _ | refine blk_drew ?_ | refine blk_alloc ?_ _)); refine blk_far ?_ NB323_360.out _; (with_reducible repeat (first | refine blk_drewN ?_ _ | refine blk_drew ?_ | refine blk_alloc ?_ _)); refine blk_far ?_ NB323_360.out _; (with_reducible repeat (first | refine blk_drewN ?_ _ | refine blk_drew ?_ | refine blk_alloc ?_ _)); refine blk_far ?_ NB323_360.out _; (with_reducible repeat (first | refine blk_drewN ?_ _ | refine blk_drew ?_ | refine blk_alloc ?_ _)); refine blk_far ?_ NB323_360.out _; (with_reducible repeat (first | refine blk_drewN ?_ _ | refine blk_drew ?_ | refine blk_alloc ?_ _)); refine blk_far ?_ NB323_360.out _; (with_reducible repeat (first | refine blk_drewN ?_ _ | refine blk_drew ?_ | refine blk_alloc ?_ _)); refine blk_far ?_ NB323_360.out _; (with_reducible repeat (first | refine blk_drewN ?_ _ | refine blk_drew ?_ | refine blk_alloc ?_ _)); exact BK323.out) hb); have n10_ := Aside0.mk (blk_below (g := gb360) (o := .cells #[.int .i64 t346, .int .i64 t347, .slice Ao33 t348.length co33, .slice Ao34 t351.length co34, .slice Ao35 t354.length co35, .int .i64 t357, .int .i64 t358, .int .i64 t359] 45 (0, 0)) (by (with_reducible repeat (first | refine blk_drewN ?_ _ | refine blk_drew ?_ | refine blk_alloc ?_ _)); refine blk_put (cs := #[.int .i64 t346, .int .i64 t347, .slice Ao33 t348.length co33, .slice Ao34 t351.length co34, .slice Ao35 t354.length co35, .int .i64 t357, .int .i64 t358, .int .i64 0]) ?_ 7 _ rfl; (with_reducible repeat (first | refine blk_drewN ?_ _ | refine blk_drew ?_ | refine blk_alloc ?_ _)); refine blk_put (cs := #[.int .i64 t346, .int .i64 t347, .slice Ao33 t348.length co33, .slice Ao34 t351.length co34, .slice Ao35 t354.length co35, .int .i64 t357, .int .i64 0, .int .i64 0]) ?_ 6 _ rfl; (with_reducible repeat (first | refine blk_drewN ?_ _ | refine blk_drew ?_ | refine blk_alloc ?_ _)); refine blk_put (cs := #[.int .i64 t346, .int .i64 t347, .slice Ao33 t348.length co33, .slice Ao34 t351.length co34, .slice Ao35 t354.length co35, .int .i64 0, .int .i64 0, .int .i64 0]) ?_ 5 _ rfl; (with_reducible repeat (first | refine blk_drewN ?_ _ | refine blk_drew ?_ | refine blk_alloc ?_ _)); refine blk_put (cs := #[.int .i64 t346, .int .i64 t347, .slice Ao33 t348.length co33, .slice Ao34 t351.length co34, .slice none 0 0, .int .i64 0, .int .i64 0, .int .i64 0]) ?_ 4 _ rfl; (with_reducible repeat (first | refine blk_drewN ?_ _ | refine blk_drew ?_ | refine blk_alloc ?_ _)); refine blk_put (cs := #[.int .i64 t346, .int .i64 t347, .slice Ao33 t348.length co33, .slice none 0 0, .slice none 0 0, .int .i64 0, .int .i64 0, .int .i64 0]) ?_ 3 _ rfl; (with_reducible repeat (first | refine blk_drewN ?_ _ | refine blk_drew ?_ | refine blk_alloc ?_ _)); refine blk_put (cs := #[.int .i64 t346, .int .i64 t347, .slice none 0 0, .slice none 0 0, .slice none 0 0, .int .i64 0, .int .i64 0, .int .i64 0]) ?_ 2 _ rfl; (with_reducible repeat (first | refine blk_drewN ?_ _ | refine blk_drew ?_ | refine blk_alloc ?_ _)); refine blk_put (cs := #[.int .i64 t346, .int .i64 0, .slice none 0 0, .slice none 0 0, .slice none 0 0, .int .i64 0, .int .i64 0, .int .i64 0]) ?_ 1 _ rfl; (with_reducible repeat (first | refine blk_drewN ?_ _ | refine blk_drew ?_ | refine blk_alloc ?_ _)); refine blk_put (cs := #[.int .i64 0, .int .i64 0, .slice none 0 0, .slice none 0 0, .slice none 0 0, .int .i64 0, .int .i64 0, .int .i64 0]) ?_ 0 _ rfl; (with_reducible repeat (first | refine blk_drewN ?_ _ | refine blk_drew ?_ | refine blk_alloc ?_ _)); exact BK360.out) hb); have n11_ := Aside0.mk (below_step (by repeat (first | (with_reducible first | exact HB.out | apply below_alloc | apply pw_below_drewN | apply below_drew1 | refine below_set ?_ GE323.out | refine below_set ?_ GE360.out) | exact HB.out)) hb); clear HO329; clear HO332; clear HO335; clear HO341; clear HO344; clear HO350; clear HO353; clear HO356; clear BK323; clear BK360; clear HB; have HO329 := n0_; have HO332 := n1_; have HO335 := n2_; have HO341 := n3_; have HO344 := n4_; have HO350 := n5_; have HO353 := n6_; have HO356 := n7_; have HO363 := n8_; have BK323 := n9_; have BK360 := n10_; have HB := n11_; clear n0_ n1_ n2_ n3_ n4_ n5_ n6_ n7_ n8_ n9_ n10_ n11_; (try clear hb); (try clear hb2); (try clear hk); (try clear hi); (try clear ho0); have hcz37_0 : w36.cell? ⟨gb360, 0, none⟩ = some (.int .i64 t346) := (blk_cell BK360.out 0).trans rfl; have hcz37_1 : w36.cell? ⟨gb360, 1, none⟩ = some (.int .i64 t347) := (blk_cell BK360.out 1).trans rfl; have hcz37_2 : w36.cell? ⟨gb360, 2, none⟩ = some (.slice Ao33 t348.length co33) := (blk_cell BK360.out 2).trans rfl; have hcz37_3 : w36.cell? ⟨gb360, 3, none⟩ = some (.slice Ao34 t351.length co34) := (blk_cell BK360.out 3).trans rfl; have hcz37_4 : w36.cell? ⟨gb360, 4, none⟩ = some (.slice Ao35 t354.length co35) := (blk_cell BK360.out 4).trans rfl; have hcz37_5 : w36.cell? ⟨gb360, 5, none⟩ = some (.int .i64 t357) := (blk_cell BK360.out 5).trans rfl; have hcz37_6 : w36.cell? ⟨gb360, 6, none⟩ = some (.int .i64 t358) := (blk_cell BK360.out 6).trans rfl; have hcz37_7 : w36.cell? ⟨gb360, 7, none⟩ = some (.int .i64 t359) := (blk_cell BK360.out 7).trans rfl; have hfz37_0 := blk_frozen BK360.out 0; have hfz37_1 := blk_frozen BK360.out 1; have hfz37_2 := blk_frozen BK360.out 2; have hfz37_3 := blk_frozen BK360.out 3; have hfz37_4 := blk_frozen BK360.out 4; have hfz37_5 := blk_frozen BK360.out 5; have hfz37_6 := blk_frozen BK360.out 6; have hfz37_7 := blk_frozen BK360.out 7; obtain ⟨Ao38, co38, eo38⟩ := Kd.R_slice HO363.out; subst eo38) | ((with_reducible refine gate_callee (f := 36) rfl ?_); refine goesL_ (some 40) rfl rfl Try.func36 (by kernel_rfl) rfl #[.agg #[.int .i64 t346, .int .i64 t347, .slice Ao33 t348.length co33, .slice Ao34 t351.length co34, .slice Ao35 t354.length co35, .int .i64 t357, .int .i64 t358, .int .i64 t359], .slice Ao38 t361.length co38] rfl (by (try simp only [List.map_toArray, List.map_cons, List.map_nil]); first | done | rfl | (simp only [List.length_drop, List.length_take]; rfl)) ?_; (with_reducible refine (impl_RetryPacket.calls k t346 t347 _ _ t348 _ _ t351 _ _ t354 t357 t358 t359 _ _ t361 t364 t367 _ ?side1 ?side2 ?side3 ?side4 ?side5 ?side6 ?side7 ?side8 A15.out).mono ?_); (case side1 => repeat (first | exact (Kd.R_reads' HO350.out).2.2 | (with_reducible refine Kd.C_alloc ?_ _) | (with_reducible refine Kd.C_drewN ?_ _) | (with_reducible refine Kd.C_drew ?_))); (case side2 => exact (Kd.R_reads' HO350.out).2.1); (case side3 => repeat (first | exact (Kd.R_reads' HO353.out).2.2 | (with_reducible refine Kd.C_alloc ?_ _) | (with_reducible refine Kd.C_drewN ?_ _) | (with_reducible refine Kd.C_drew ?_))); (case side4 => exact (Kd.R_reads' HO353.out).2.1); (case side5 => repeat (first | exact (Kd.R_reads' HO356.out).2.2 | (with_reducible refine Kd.C_alloc ?_ _) | (with_reducible refine Kd.C_drewN ?_ _) | (with_reducible refine Kd.C_drew ?_))); (case side6 => exact (Kd.R_reads' HO356.out).2.1); (case side7 => repeat (first | exact (Kd.R_reads' HO363.out).2.2 | (with_reducible refine Kd.C_alloc ?_ _) | (with_reducible refine Kd.C_drewN ?_ _) | (with_reducible refine Kd.C_drew ?_))); (case side8 => exact (Kd.R_reads' HO363.out).2.1); rintro e w39 ⟨v365, rfl, ho0, hb⟩; refine ⟨_, rfl, ?_⟩; have n0_ := Aside0.mk (Kd.R_elder' (by (with_reducible repeat (first | apply Kd.R_alloc | apply Kd.R_drewN | apply Kd.R_drew)); exact HO329.out) (Kd.R_base ho0) hb); have n1_ := Aside0.mk (Kd.R_elder' (by (with_reducible repeat (first | apply Kd.R_alloc | apply Kd.R_drewN | apply Kd.R_drew)); exact HO332.out) (Kd.R_base ho0) hb); have n2_ := Aside0.mk (Kd.R_elder' (by (with_reducible repeat (first | apply Kd.R_alloc | apply Kd.R_drewN | apply Kd.R_drew)); exact HO335.out) (Kd.R_base ho0) hb); have n3_ := Aside0.mk (Kd.R_elder' (by (with_reducible repeat (first | apply Kd.R_alloc | apply Kd.R_drewN | apply Kd.R_drew)); exact HO341.out) (Kd.R_base ho0) hb); have n4_ := Aside0.mk (Kd.R_elder' (by (with_reducible repeat (first | apply Kd.R_alloc | apply Kd.R_drewN | apply Kd.R_drew)); exact HO344.out) (Kd.R_base ho0) hb); have n5_ := Aside0.mk (Kd.R_elder' (by (with_reducible repeat (first | apply Kd.R_alloc | apply Kd.R_drewN | apply Kd.R_drew)); exact HO350.out) (Kd.R_base ho0) hb); have n6_ := Aside0.mk (Kd.R_elder' (by (with_reducible repeat (first | apply Kd.R_alloc | apply Kd.R_drewN | apply Kd.R_drew)); exact HO353.out) (Kd.R_base ho0) hb); have n7_ := Aside0.mk (Kd.R_elder' (by (with_reducible repeat (first | apply Kd.R_alloc | apply Kd.R_drewN | apply Kd.R_drew)); exact HO356.out) (Kd.R_base ho0) hb); have n8_ := Aside0.mk (Kd.R_elder' (by (with_reducible repeat (first | apply Kd.R_alloc | apply Kd.R_drewN | apply Kd.R_drew)); exact HO363.out) (Kd.R_base ho0) hb); have n9_ := Aside0.mk (Kd.R_lower (Kd.R_new' (Kd.R_new' (Kd.R_new' (Kd.R_new' (Kd.R_new' (Kd.R_new' (Kd.R_new' (Kd.R_new' (Kd.R_new' ho0 (Kd.R_lt (by (with_reducible repeat (first | apply Kd.R_alloc | apply Kd.R_drewN | apply Kd.R_drew)); exact HO329.out))) (Kd.R_lt (by (with_reducible repeat (first | apply Kd.R_alloc | apply Kd.R_drewN | apply Kd.R_drew)); exact HO332.out))) (Kd.R_lt (by (with_reducible repeat (first | apply Kd.R_alloc | apply Kd.R_drewN | apply Kd.R_drew)); exact HO335.out))) (Kd.R_lt (by (with_reducible repeat (first | apply Kd.R_alloc | apply Kd.R_drewN | apply Kd.R_drew)); exact HO341.out))) (Kd.R_lt (by (with_reducible repeat (first | apply Kd.R_alloc | apply Kd.R_drewN | apply Kd.R_drew)); exact HO344.out))) (Kd.R_lt (by (with_reducible repeat (first | apply Kd.R_alloc | apply Kd.R_drewN | apply Kd.R_drew)); exact HO350.out))) (Kd.R_lt (by (with_reducible repeat (first | apply Kd.R_alloc | apply Kd.R_drewN | apply Kd.R_drew)); exact HO353.out))) (Kd.R_lt (by (with_reducible repeat (first | apply Kd.R_alloc | apply Kd.R_drewN | apply Kd.R_drew)); exact HO356.out))) (Kd.R_lt (by (with_reducible repeat (first | apply Kd.R_alloc | apply Kd.R_drewN | apply Kd.R_drew)); exact HO363.out))) (below_size (by repeat (first | (with_reducible first | exact HB.out | apply below_alloc | apply pw_below_drewN | apply below_drew1 | refine below_set ?_ GE323.out | refine below_set ?_ GE360.out) | exact HB.out)))); have n10_ := Aside0.mk (blk_below (g := gb323) (o := .cells #[.int .i64 a0_0, .int .i64 a0_1, .slice A0_2 l0_2.length c0_2, .slice A0_3 l0_3.length c0_3, .slice A0_4 l0_4.length c0_4, .int .i64 a0_5, .int .i64 a0_6, .int .i64 a0_7] 41 (0, 0)) (by (with_reducible repeat (first | refine blk_drewN ?_ _ | refine blk_drew ?_ | refine blk_alloc ?_ _)); exact BK323.out) hb); have n11_ := Aside0.mk (blk_below (g := gb360) (o := .cells #[.int .i64 t346, .int .i64 t347, .slice Ao33 t348.length co33, .slice Ao34 t351.length co34, .slice Ao35 t354.length co35, .int .i64 t357, .int .i64 t358, .int .i64 t359] 45 (0, 0)) (by (with_reducible repeat (first | refine blk_drewN ?_ _ | refine blk_drew ?_ | refine blk_alloc ?_ _)); exact BK360.out) hb); have n12_ := Aside0.mk (below_step (by repeat (first | (with_reducible first | exact HB.out | apply below_alloc | apply pw_below_drewN | apply below_drew1 | refine below_set ?_ GE323.out | refine below_set ?_ GE360.out) | exact HB.out)) hb); clear HO329; clear HO332; clear HO335; clear HO341; clear HO344; clear HO350; clear HO353; clear HO356; clear HO363; clear BK323; clear BK360; clear HB; have HO329 := n0_; have HO332 := n1_; have HO335 := n2_; have HO341 := n3_; have HO344 := n4_; have HO350 := n5_; have HO353 := n6_; have HO356 := n7_; have HO363 := n8_; have HO366 := n9_; have BK323 := n10_; have BK360 := n11_; have HB := n12_; clear n0_ n1_ n2_ n3_ n4_ n5_ n6_ n7_ n8_ n9_ n10_ n11_ n12_; (try clear hb); (try clear hb2); (try clear hk); (try clear hi); (try clear ho0)))
      (try simp only [Act.put, List.setIfInBounds_toArray, List.set_cons_zero, List.set_cons_succ])
      go_cut [51] (fun v51 wc => ∃ (kq : Nat) (x51_15 : Bool), v51 = .bool x51_15 ∧ Aside0 (laws_FnExactRetryPacket.j0 kq l1 t342 t345 t361 t364 t367 x51_15 a0_0 a0_1 l0_2 l0_3 l0_4 a0_5 a0_6 a0_7 t346 t347 t348 t351 t354 t357 t358 t359 = some true) ∧ Aside0 (kq ≤ k) ∧ Aside0 (Kd.R (Kd.int .u8) 5 wc w.heap.size (fun k_ => some k_ ≠ ((.slice Ao38 t361.length co38) : Value).ownBlock ∧ some k_ ≠ (v365 : Value).ownBlock ∧ some k_ ≠ ((.slice Ao33 t348.length co33) : Value).ownBlock ∧ some k_ ≠ ((.slice Ao34 t351.length co34) : Value).ownBlock ∧ some k_ ≠ ((.slice Ao35 t354.length co35) : Value).ownBlock) v343 t342) ∧ Aside0 (Kd.R (Kd.int .u8) 5 wc w.heap.size (fun k_ => some k_ ≠ (v343 : Value).ownBlock ∧ some k_ ≠ (v365 : Value).ownBlock ∧ some k_ ≠ ((.slice Ao33 t348.length co33) : Value).ownBlock ∧ some k_ ≠ ((.slice Ao34 t351.length co34) : Value).ownBlock ∧ some k_ ≠ ((.slice Ao35 t354.length co35) : Value).ownBlock) (.slice Ao38 t361.length co38) t361) ∧ Aside0 (Kd.R (Kd.int .u8) 5 wc w.heap.size (fun k_ => some k_ ≠ (v343 : Value).ownBlock ∧ some k_ ≠ ((.slice Ao38 t361.length co38) : Value).ownBlock ∧ some k_ ≠ ((.slice Ao33 t348.length co33) : Value).ownBlock ∧ some k_ ≠ ((.slice Ao34 t351.length co34) : Value).ownBlock ∧ some k_ ≠ ((.slice Ao35 t354.length co35) : Value).ownBlock) v365 t364) ∧ Aside0 (Kd.R (Kd.int .u8) 5 wc w.heap.size (fun k_ => some k_ ≠ (v343 : Value).ownBlock ∧ some k_ ≠ ((.slice Ao38 t361.length co38) : Value).ownBlock ∧ some k_ ≠ (v365 : Value).ownBlock ∧ some k_ ≠ ((.slice Ao34 t351.length co34) : Value).ownBlock ∧ some k_ ≠ ((.slice Ao35 t354.length co35) : Value).ownBlock) (.slice Ao33 t348.length co33) t348) ∧ Aside0 (Kd.R (Kd.int .u8) 5 wc w.heap.size (fun k_ => some k_ ≠ (v343 : Value).ownBlock ∧ some k_ ≠ ((.slice Ao38 t361.length co38) : Value).ownBlock ∧ some k_ ≠ (v365 : Value).ownBlock ∧ some k_ ≠ ((.slice Ao33 t348.length co33) : Value).ownBlock ∧ some k_ ≠ ((.slice Ao35 t354.length co35) : Value).ownBlock) (.slice Ao34 t351.length co34) t351) ∧ Aside0 (Kd.R (Kd.int .u8) 5 wc w.heap.size (fun k_ => some k_ ≠ (v343 : Value).ownBlock ∧ some k_ ≠ ((.slice Ao38 t361.length co38) : Value).ownBlock ∧ some k_ ≠ (v365 : Value).ownBlock ∧ some k_ ≠ ((.slice Ao33 t348.length co33) : Value).ownBlock ∧ some k_ ≠ ((.slice Ao34 t351.length co34) : Value).ownBlock) (.slice Ao35 t354.length co35) t354) ∧ Aside0 (wc.heap[gb323]? = some (.cells #[.int .i64 a0_0, .int .i64 a0_1, (.slice A0_2 l0_2.length c0_2), (.slice A0_3 l0_3.length c0_3), (.slice A0_4 l0_4.length c0_4), .int .i64 a0_5, .int .i64 a0_6, .int .i64 a0_7] 41 (0, 0))) ∧ Aside0 (wc.heap[gb360]? = some (.cells #[.int .i64 t346, .int .i64 t347, (.slice Ao33 t348.length co33), (.slice Ao34 t351.length co34), (.slice Ao35 t354.length co35), .int .i64 t357, .int .i64 t358, .int .i64 t359] 45 (0, 0))) ∧ Aside0 (Below w.heap.size w wc))
      case first =>
        have H := HC16.out
        clear HC16
        replace H := Option.bind_eq_some_iff.mp H
        obtain ⟨t368, A400, H⟩ := H
        replace H : (if t368 = true then (laws_FnExactRetryPacket.j0 k l1 t342 t345 t361 t364 t367 (t367 != t345) a0_0 a0_1 l0_2 l0_3 l0_4 a0_5 a0_6 a0_7 t346 t347 t348 t351 t354 t357 t358 t359) else (laws_FnExactRetryPacket.j0 k l1 t342 t345 t361 t364 t367 true a0_0 a0_1 l0_2 l0_3 l0_4 a0_5 a0_6 a0_7 t346 t347 t348 t351 t354 t357 t358 t359)) = some true := H
        have A40 := Aside0.mk A400
        clear A400
        by_cases c41 : t368 = true
        · subst c41
          have H1 : (laws_FnExactRetryPacket.j0 k l1 t342 t345 t361 t364 t367 (t367 != t345) a0_0 a0_1 l0_2 l0_3 l0_4 a0_5 a0_6 a0_7 t346 t347 t348 t351 t354 t357 t358 t359) = some true := by rw [if_pos rfl] at H; exact H
          clear H
          have H := H1
          clear H1
          have H' := Aside0.mk H
          clear H
          obtain ⟨Ao42, co42, eo42⟩ := Kd.R_slice HO366.out
          subst eo42
          obtain ⟨Ao43, co43, eo43⟩ := Kd.R_slice HO344.out
          subst eo43
          go_wp2_with (first | ((with_reducible refine gate_callee (f := 17) rfl ?_); refine goesL_ (some 45) rfl rfl Try.func17 (by kernel_rfl) rfl #[.slice Ao42 t364.length co42, .slice Ao43 t342.length co43] rfl (by (try simp only [List.map_toArray, List.map_cons, List.map_nil]); first | done | rfl | (simp only [List.length_drop, List.length_take]; rfl)) ?_; (with_reducible refine (laws_eqByteS.calls k _ _ t364 _ _ t342 true _ ?side1 ?side2 ?side3 ?side4 A40.out).mono ?_); (case side1 => repeat (first | exact (Kd.R_reads' HO366.out).2.2 | (with_reducible refine Kd.C_alloc ?_ _) | (with_reducible refine Kd.C_drewN ?_ _) | (with_reducible refine Kd.C_drew ?_))); (case side2 => exact (Kd.R_reads' HO366.out).2.1); (case side3 => repeat (first | exact (Kd.R_reads' HO344.out).2.2 | (with_reducible refine Kd.C_alloc ?_ _) | (with_reducible refine Kd.C_drewN ?_ _) | (with_reducible refine Kd.C_drew ?_))); (case side4 => exact (Kd.R_reads' HO344.out).2.1); rintro e w' ⟨rfl, ⟨nd, rfl⟩⟩; refine ⟨_, rfl, ?_⟩))
          go_meet
          case rel => exact ⟨_, ((t367 != t345)), (by first | rfl | (simp; done) | (simp [*]; done)), H', ⟨by first | omega | exact Nat.le_refl _⟩, ⟨by (with_reducible repeat (first | apply Kd.R_alloc | apply Kd.R_drewN | apply Kd.R_drew)); exact Kd.R_mono HO344.out (fun _ hk => ⟨hk.1.2, ⟨hk.2, ⟨hk.1.1.1.1.2, ⟨hk.1.1.1.2, hk.1.1.2⟩⟩⟩⟩)⟩, ⟨by (with_reducible repeat (first | apply Kd.R_alloc | apply Kd.R_drewN | apply Kd.R_drew)); exact Kd.R_mono HO363.out (fun _ hk => ⟨hk.1.1.1.1.2, ⟨hk.2, ⟨hk.1.1.1.2, ⟨hk.1.1.2, hk.1.2⟩⟩⟩⟩)⟩, ⟨by (with_reducible repeat (first | apply Kd.R_alloc | apply Kd.R_drewN | apply Kd.R_drew)); exact Kd.R_mono HO366.out (fun _ hk => ⟨hk.1.1.1.1.2, ⟨hk.2, ⟨hk.1.1.1.2, ⟨hk.1.1.2, hk.1.2⟩⟩⟩⟩)⟩, ⟨by (with_reducible repeat (first | apply Kd.R_alloc | apply Kd.R_drewN | apply Kd.R_drew)); exact Kd.R_mono HO350.out (fun _ hk => ⟨hk.1.1.2, ⟨hk.1.2, ⟨hk.2, ⟨hk.1.1.1.1.1.1.1.1, hk.1.1.1.1.1.1.1.2⟩⟩⟩⟩)⟩, ⟨by (with_reducible repeat (first | apply Kd.R_alloc | apply Kd.R_drewN | apply Kd.R_drew)); exact Kd.R_mono HO353.out (fun _ hk => ⟨hk.1.1.2, ⟨hk.1.2, ⟨hk.2, ⟨hk.1.1.1.1.1.1.1.1, hk.1.1.1.1.1.1.1.2⟩⟩⟩⟩)⟩, ⟨by (with_reducible repeat (first | apply Kd.R_alloc | apply Kd.R_drewN | apply Kd.R_drew)); exact Kd.R_mono HO356.out (fun _ hk => ⟨hk.1.1.2, ⟨hk.1.2, ⟨hk.2, ⟨hk.1.1.1.1.1.1.1.1, hk.1.1.1.1.1.1.1.2⟩⟩⟩⟩)⟩, ⟨by (with_reducible repeat (first | refine blk_drewN ?_ _ | refine blk_drew ?_ | refine blk_alloc ?_ _)); exact BK323.out⟩, ⟨by (with_reducible repeat (first | refine blk_drewN ?_ _ | refine blk_drew ?_ | refine blk_alloc ?_ _)); exact BK360.out⟩, ⟨by repeat (first | (with_reducible first | exact HB.out | apply below_alloc | apply pw_below_drewN | apply below_drew1 | refine below_set ?_ GE323.out | refine below_set ?_ GE360.out) | exact HB.out)⟩⟩
        · replace c41 := Bool.eq_false_iff.mpr c41
          subst c41
          have H1 : (laws_FnExactRetryPacket.j0 k l1 t342 t345 t361 t364 t367 true a0_0 a0_1 l0_2 l0_3 l0_4 a0_5 a0_6 a0_7 t346 t347 t348 t351 t354 t357 t358 t359) = some true := by rw [if_neg (show ¬ (false = true) by decide)] at H; exact H
          clear H
          have H := H1
          clear H1
          have H' := Aside0.mk H
          clear H
          obtain ⟨Ao44, co44, eo44⟩ := Kd.R_slice HO366.out
          subst eo44
          obtain ⟨Ao45, co45, eo45⟩ := Kd.R_slice HO344.out
          subst eo45
          go_wp2_with (first | ((with_reducible refine gate_callee (f := 17) rfl ?_); refine goesL_ (some 45) rfl rfl Try.func17 (by kernel_rfl) rfl #[.slice Ao44 t364.length co44, .slice Ao45 t342.length co45] rfl (by (try simp only [List.map_toArray, List.map_cons, List.map_nil]); first | done | rfl | (simp only [List.length_drop, List.length_take]; rfl)) ?_; (with_reducible refine (laws_eqByteS.calls k _ _ t364 _ _ t342 false _ ?side1 ?side2 ?side3 ?side4 A40.out).mono ?_); (case side1 => repeat (first | exact (Kd.R_reads' HO366.out).2.2 | (with_reducible refine Kd.C_alloc ?_ _) | (with_reducible refine Kd.C_drewN ?_ _) | (with_reducible refine Kd.C_drew ?_))); (case side2 => exact (Kd.R_reads' HO366.out).2.1); (case side3 => repeat (first | exact (Kd.R_reads' HO344.out).2.2 | (with_reducible refine Kd.C_alloc ?_ _) | (with_reducible refine Kd.C_drewN ?_ _) | (with_reducible refine Kd.C_drew ?_))); (case side4 => exact (Kd.R_reads' HO344.out).2.1); rintro e w' ⟨rfl, ⟨nd, rfl⟩⟩; refine ⟨_, rfl, ?_⟩))
          go_meet
          case rel => exact ⟨_, (true), (by first | rfl | (simp; done) | (simp [*]; done)), H', ⟨by first | omega | exact Nat.le_refl _⟩, ⟨by (with_reducible repeat (first | apply Kd.R_alloc | apply Kd.R_drewN | apply Kd.R_drew)); exact Kd.R_mono HO344.out (fun _ hk => ⟨hk.1.2, ⟨hk.2, ⟨hk.1.1.1.1.2, ⟨hk.1.1.1.2, hk.1.1.2⟩⟩⟩⟩)⟩, ⟨by (with_reducible repeat (first | apply Kd.R_alloc | apply Kd.R_drewN | apply Kd.R_drew)); exact Kd.R_mono HO363.out (fun _ hk => ⟨hk.1.1.1.1.2, ⟨hk.2, ⟨hk.1.1.1.2, ⟨hk.1.1.2, hk.1.2⟩⟩⟩⟩)⟩, ⟨by (with_reducible repeat (first | apply Kd.R_alloc | apply Kd.R_drewN | apply Kd.R_drew)); exact Kd.R_mono HO366.out (fun _ hk => ⟨hk.1.1.1.1.2, ⟨hk.2, ⟨hk.1.1.1.2, ⟨hk.1.1.2, hk.1.2⟩⟩⟩⟩)⟩, ⟨by (with_reducible repeat (first | apply Kd.R_alloc | apply Kd.R_drewN | apply Kd.R_drew)); exact Kd.R_mono HO350.out (fun _ hk => ⟨hk.1.1.2, ⟨hk.1.2, ⟨hk.2, ⟨hk.1.1.1.1.1.1.1.1, hk.1.1.1.1.1.1.1.2⟩⟩⟩⟩)⟩, ⟨by (with_reducible repeat (first | apply Kd.R_alloc | apply Kd.R_drewN | apply Kd.R_drew)); exact Kd.R_mono HO353.out (fun _ hk => ⟨hk.1.1.2, ⟨hk.1.2, ⟨hk.2, ⟨hk.1.1.1.1.1.1.1.1, hk.1.1.1.1.1.1.1.2⟩⟩⟩⟩)⟩, ⟨by (with_reducible repeat (first | apply Kd.R_alloc | apply Kd.R_drewN | apply Kd.R_drew)); exact Kd.R_mono HO356.out (fun _ hk => ⟨hk.1.1.2, ⟨hk.1.2, ⟨hk.2, ⟨hk.1.1.1.1.1.1.1.1, hk.1.1.1.1.1.1.1.2⟩⟩⟩⟩)⟩, ⟨by (with_reducible repeat (first | refine blk_drewN ?_ _ | refine blk_drew ?_ | refine blk_alloc ?_ _)); exact BK323.out⟩, ⟨by (with_reducible repeat (first | refine blk_drewN ?_ _ | refine blk_drew ?_ | refine blk_alloc ?_ _)); exact BK360.out⟩, ⟨by repeat (first | (with_reducible first | exact HB.out | apply below_alloc | apply pw_below_drewN | apply below_drew1 | refine below_set ?_ GE323.out | refine below_set ?_ GE360.out) | exact HB.out)⟩⟩
      case rest =>
        clear HC16
        try clear c1
        try clear p2
        try clear c3
        try clear c3b0
        try clear c3b1
        try clear c4
        try clear c6
        try clear c6b0
        try clear c8
        try clear c15
        try clear c17
        try clear c31
        try clear c33
        try clear c34
        try clear c35
        try clear c36
        try clear c41
        try clear hcz18_0
        try clear hcz18_1
        try clear hcz18_2
        try clear hcz18_3
        try clear hcz18_4
        try clear hcz18_5
        try clear hcz18_6
        try clear hcz18_7
        try clear hcz20_0
        try clear hcz20_1
        try clear hcz20_2
        try clear hcz20_3
        try clear hcz20_4
        try clear hcz20_5
        try clear hcz20_6
        try clear hcz20_7
        try clear hcz28_0
        try clear hcz28_1
        try clear hcz28_2
        try clear hcz28_3
        try clear hcz28_4
        try clear hcz28_5
        try clear hcz28_6
        try clear hcz28_7
        try clear hcz32_0
        try clear hcz32_1
        try clear hcz32_2
        try clear hcz32_3
        try clear hcz32_4
        try clear hcz32_5
        try clear hcz32_6
        try clear hcz32_7
        try clear hcz37_0
        try clear hcz37_1
        try clear hcz37_2
        try clear hcz37_3
        try clear hcz37_4
        try clear hcz37_5
        try clear hcz37_6
        try clear hcz37_7
        try clear hcz8_0
        try clear hcz8_1
        try clear hcz8_2
        try clear hcz8_3
        try clear hcz8_4
        try clear hcz8_5
        try clear hcz8_6
        try clear hcz8_7
        try clear hfz18_0
        try clear hfz18_1
        try clear hfz18_2
        try clear hfz18_3
        try clear hfz18_4
        try clear hfz18_5
        try clear hfz18_6
        try clear hfz18_7
        try clear hfz20_0
        try clear hfz20_1
        try clear hfz20_2
        try clear hfz20_3
        try clear hfz20_4
        try clear hfz20_5
        try clear hfz20_6
        try clear hfz20_7
        try clear hfz28_0
        try clear hfz28_1
        try clear hfz28_2
        try clear hfz28_3
        try clear hfz28_4
        try clear hfz28_5
        try clear hfz28_6
        try clear hfz28_7
        try clear hfz32_0
        try clear hfz32_1
        try clear hfz32_2
        try clear hfz32_3
        try clear hfz32_4
        try clear hfz32_5
        try clear hfz32_6
        try clear hfz32_7
        try clear hfz37_0
        try clear hfz37_1
        try clear hfz37_2
        try clear hfz37_3
        try clear hfz37_4
        try clear hfz37_5
        try clear hfz37_6
        try clear hfz37_7
        try clear hfz8_0
        try clear hfz8_1
        try clear hfz8_2
        try clear hfz8_3
        try clear hfz8_4
        try clear hfz8_5
        try clear hfz8_6
        try clear hfz8_7
        obtain ⟨kq, x51_15, rfl, HA, HJ15, HO_6, HO_9, HO_10, HO_361002, HO_361003, HO_361004, BK323, BK360, HB⟩ := hcut
        cases kq with
        | zero => exact absurd HA.out (by simp [laws_FnExactRetryPacket.j0])
        | succ kj15 =>
          have H := HA.out
          clear HA
          simp only [laws_FnExactRetryPacket.j0] at H
          by_cases c46 : x51_15 = true
          · subst c46
            have H1 : (some false) = some true := by rw [if_pos rfl] at H; exact H
            exact absurd H1 (by simp)
          · replace c46 := Bool.eq_false_iff.mpr c46
            subst c46
            have H1 : ((laws_toHeader.f kj15 a0_0 a0_1 l0_2 l0_3 l0_4 a0_5 a0_6 a0_7).bind fun bt369 => ((laws_eqHeader.f kj15 t346 t347 t348 t351 t354 t357 t358 t359 bt369.1 bt369.2.1 bt369.2.2.1 bt369.2.2.2.1 bt369.2.2.2.2.1 bt369.2.2.2.2.2.1 bt369.2.2.2.2.2.2.1 bt369.2.2.2.2.2.2.2).bind fun t383 => (if t383 = true then ((laws_toByteS.f kj15 l1).bind fun t384 => ((laws_eqByteS.f kj15 t361 t384).bind fun t387 => (if t387 = true then ((laws_markHeader.f kj15 t346 t347 t348 t351 t354 t357 t358 t359 1).bind fun bt388 => ((laws_markByteS.f kj15 t361 bt388.1).bind fun bt392 => (if bt392.1 < 0 then (laws_FnExactRetryPacket.j1 kj15 l1 t342 t345 t364 true a0_0 a0_1 l0_2 l0_3 l0_4 a0_5 a0_6 a0_7) else ((laws_eqByteS.f kj15 t364 t342).bind fun t394 => (if t394 = true then (laws_FnExactRetryPacket.j1 kj15 l1 t342 t345 t364 (t367 != t345) a0_0 a0_1 l0_2 l0_3 l0_4 a0_5 a0_6 a0_7) else (laws_FnExactRetryPacket.j1 kj15 l1 t342 t345 t364 true a0_0 a0_1 l0_2 l0_3 l0_4 a0_5 a0_6 a0_7)))))) else (some false)))) else (some false)))) = some true := by rw [if_neg (show ¬ (false = true) by decide)] at H; exact H
            clear H
            have H := H1
            clear H1
            replace H := Option.bind_eq_some_iff.mp H
            obtain ⟨⟨t369, t370, t371, t374, t377, t380, t381, t382⟩, A470, H⟩ := H
            replace H : ((laws_eqHeader.f kj15 t346 t347 t348 t351 t354 t357 t358 t359 t369 t370 t371 t374 t377 t380 t381 t382).bind fun t383 => (if t383 = true then ((laws_toByteS.f kj15 l1).bind fun t384 => ((laws_eqByteS.f kj15 t361 t384).bind fun t387 => (if t387 = true then ((laws_markHeader.f kj15 t346 t347 t348 t351 t354 t357 t358 t359 1).bind fun bt388 => ((laws_markByteS.f kj15 t361 bt388.1).bind fun bt392 => (if bt392.1 < 0 then (laws_FnExactRetryPacket.j1 kj15 l1 t342 t345 t364 true a0_0 a0_1 l0_2 l0_3 l0_4 a0_5 a0_6 a0_7) else ((laws_eqByteS.f kj15 t364 t342).bind fun t394 => (if t394 = true then (laws_FnExactRetryPacket.j1 kj15 l1 t342 t345 t364 (t367 != t345) a0_0 a0_1 l0_2 l0_3 l0_4 a0_5 a0_6 a0_7) else (laws_FnExactRetryPacket.j1 kj15 l1 t342 t345 t364 true a0_0 a0_1 l0_2 l0_3 l0_4 a0_5 a0_6 a0_7)))))) else (some false)))) else (some false))) = some true := H
            have A47 := Aside0.mk A470
            clear A470
            replace H := Option.bind_eq_some_iff.mp H
            obtain ⟨t383, A480, H⟩ := H
            replace H : (if t383 = true then ((laws_toByteS.f kj15 l1).bind fun t384 => ((laws_eqByteS.f kj15 t361 t384).bind fun t387 => (if t387 = true then ((laws_markHeader.f kj15 t346 t347 t348 t351 t354 t357 t358 t359 1).bind fun bt388 => ((laws_markByteS.f kj15 t361 bt388.1).bind fun bt392 => (if bt392.1 < 0 then (laws_FnExactRetryPacket.j1 kj15 l1 t342 t345 t364 true a0_0 a0_1 l0_2 l0_3 l0_4 a0_5 a0_6 a0_7) else ((laws_eqByteS.f kj15 t364 t342).bind fun t394 => (if t394 = true then (laws_FnExactRetryPacket.j1 kj15 l1 t342 t345 t364 (t367 != t345) a0_0 a0_1 l0_2 l0_3 l0_4 a0_5 a0_6 a0_7) else (laws_FnExactRetryPacket.j1 kj15 l1 t342 t345 t364 true a0_0 a0_1 l0_2 l0_3 l0_4 a0_5 a0_6 a0_7)))))) else (some false)))) else (some false)) = some true := H
            have A48 := Aside0.mk A480
            clear A480
            by_cases c49 : t383 = true
            · subst c49
              have H1 : ((laws_toByteS.f kj15 l1).bind fun t384 => ((laws_eqByteS.f kj15 t361 t384).bind fun t387 => (if t387 = true then ((laws_markHeader.f kj15 t346 t347 t348 t351 t354 t357 t358 t359 1).bind fun bt388 => ((laws_markByteS.f kj15 t361 bt388.1).bind fun bt392 => (if bt392.1 < 0 then (laws_FnExactRetryPacket.j1 kj15 l1 t342 t345 t364 true a0_0 a0_1 l0_2 l0_3 l0_4 a0_5 a0_6 a0_7) else ((laws_eqByteS.f kj15 t364 t342).bind fun t394 => (if t394 = true then (laws_FnExactRetryPacket.j1 kj15 l1 t342 t345 t364 (t367 != t345) a0_0 a0_1 l0_2 l0_3 l0_4 a0_5 a0_6 a0_7) else (laws_FnExactRetryPacket.j1 kj15 l1 t342 t345 t364 true a0_0 a0_1 l0_2 l0_3 l0_4 a0_5 a0_6 a0_7)))))) else (some false)))) = some true := by rw [if_pos rfl] at H; exact H
              clear H
              have H := H1
              clear H1
              replace H := Option.bind_eq_some_iff.mp H
              obtain ⟨t384, A500, H⟩ := H
              replace H : ((laws_eqByteS.f kj15 t361 t384).bind fun t387 => (if t387 = true then ((laws_markHeader.f kj15 t346 t347 t348 t351 t354 t357 t358 t359 1).bind fun bt388 => ((laws_markByteS.f kj15 t361 bt388.1).bind fun bt392 => (if bt392.1 < 0 then (laws_FnExactRetryPacket.j1 kj15 l1 t342 t345 t364 true a0_0 a0_1 l0_2 l0_3 l0_4 a0_5 a0_6 a0_7) else ((laws_eqByteS.f kj15 t364 t342).bind fun t394 => (if t394 = true then (laws_FnExactRetryPacket.j1 kj15 l1 t342 t345 t364 (t367 != t345) a0_0 a0_1 l0_2 l0_3 l0_4 a0_5 a0_6 a0_7) else (laws_FnExactRetryPacket.j1 kj15 l1 t342 t345 t364 true a0_0 a0_1 l0_2 l0_3 l0_4 a0_5 a0_6 a0_7)))))) else (some false))) = some true := H
              have A50 := Aside0.mk A500
              clear A500
              replace H := Option.bind_eq_some_iff.mp H
              obtain ⟨t387, A510, H⟩ := H
              replace H : (if t387 = true then ((laws_markHeader.f kj15 t346 t347 t348 t351 t354 t357 t358 t359 1).bind fun bt388 => ((laws_markByteS.f kj15 t361 bt388.1).bind fun bt392 => (if bt392.1 < 0 then (laws_FnExactRetryPacket.j1 kj15 l1 t342 t345 t364 true a0_0 a0_1 l0_2 l0_3 l0_4 a0_5 a0_6 a0_7) else ((laws_eqByteS.f kj15 t364 t342).bind fun t394 => (if t394 = true then (laws_FnExactRetryPacket.j1 kj15 l1 t342 t345 t364 (t367 != t345) a0_0 a0_1 l0_2 l0_3 l0_4 a0_5 a0_6 a0_7) else (laws_FnExactRetryPacket.j1 kj15 l1 t342 t345 t364 true a0_0 a0_1 l0_2 l0_3 l0_4 a0_5 a0_6 a0_7)))))) else (some false)) = some true := H
              have A51 := Aside0.mk A510
              clear A510
              by_cases c52 : t387 = true
              · subst c52
                have H1 : ((laws_markHeader.f kj15 t346 t347 t348 t351 t354 t357 t358 t359 1).bind fun bt388 => ((laws_markByteS.f kj15 t361 bt388.1).bind fun bt392 => (if bt392.1 < 0 then (laws_FnExactRetryPacket.j1 kj15 l1 t342 t345 t364 true a0_0 a0_1 l0_2 l0_3 l0_4 a0_5 a0_6 a0_7) else ((laws_eqByteS.f kj15 t364 t342).bind fun t394 => (if t394 = true then (laws_FnExactRetryPacket.j1 kj15 l1 t342 t345 t364 (t367 != t345) a0_0 a0_1 l0_2 l0_3 l0_4 a0_5 a0_6 a0_7) else (laws_FnExactRetryPacket.j1 kj15 l1 t342 t345 t364 true a0_0 a0_1 l0_2 l0_3 l0_4 a0_5 a0_6 a0_7)))))) = some true := by rw [if_pos rfl] at H; exact H
                clear H
                have H := H1
                clear H1
                replace H := Option.bind_eq_some_iff.mp H
                obtain ⟨⟨t388, t389, t390, t391⟩, A530, H⟩ := H
                replace H : ((laws_markByteS.f kj15 t361 t388).bind fun bt392 => (if bt392.1 < 0 then (laws_FnExactRetryPacket.j1 kj15 l1 t342 t345 t364 true a0_0 a0_1 l0_2 l0_3 l0_4 a0_5 a0_6 a0_7) else ((laws_eqByteS.f kj15 t364 t342).bind fun t394 => (if t394 = true then (laws_FnExactRetryPacket.j1 kj15 l1 t342 t345 t364 (t367 != t345) a0_0 a0_1 l0_2 l0_3 l0_4 a0_5 a0_6 a0_7) else (laws_FnExactRetryPacket.j1 kj15 l1 t342 t345 t364 true a0_0 a0_1 l0_2 l0_3 l0_4 a0_5 a0_6 a0_7))))) = some true := H
                have A53 := Aside0.mk A530
                clear A530
                replace H := Option.bind_eq_some_iff.mp H
                obtain ⟨⟨t392, t393⟩, A540, H⟩ := H
                replace H : (if t392 < 0 then (laws_FnExactRetryPacket.j1 kj15 l1 t342 t345 t364 true a0_0 a0_1 l0_2 l0_3 l0_4 a0_5 a0_6 a0_7) else ((laws_eqByteS.f kj15 t364 t342).bind fun t394 => (if t394 = true then (laws_FnExactRetryPacket.j1 kj15 l1 t342 t345 t364 (t367 != t345) a0_0 a0_1 l0_2 l0_3 l0_4 a0_5 a0_6 a0_7) else (laws_FnExactRetryPacket.j1 kj15 l1 t342 t345 t364 true a0_0 a0_1 l0_2 l0_3 l0_4 a0_5 a0_6 a0_7)))) = some true := H
                have A54 := Aside0.mk A540
                clear A540
                have HC55 := Aside0.mk H
                clear H
                try go_wp2
                have n0_ := Aside0.mk (Kd.R_drew HO_6.out)
                have n1_ := Aside0.mk (Kd.R_drew HO_9.out)
                have n2_ := Aside0.mk (Kd.R_drew HO_10.out)
                have n3_ := Aside0.mk (Kd.R_drew HO_361002.out)
                have n4_ := Aside0.mk (Kd.R_drew HO_361003.out)
                have n5_ := Aside0.mk (Kd.R_drew HO_361004.out)
                have n6_ := Aside0.mk (blk_drew BK323.out)
                have n7_ := Aside0.mk (blk_drew BK360.out)
                have n8_ := Aside0.mk (below_drew1 HB.out)
                clear HO_6
                clear HO_9
                clear HO_10
                clear HO_361002
                clear HO_361003
                clear HO_361004
                clear BK323
                clear BK360
                clear HB
                have HO_6 := n0_
                have HO_9 := n1_
                have HO_10 := n2_
                have HO_361002 := n3_
                have HO_361003 := n4_
                have HO_361004 := n5_
                have BK323 := n6_
                have BK360 := n7_
                have HB := n8_
                clear n0_ n1_ n2_ n3_ n4_ n5_ n6_ n7_ n8_
                refine start_ (n := 5) (S := fun w' => w'.cell? ⟨gb360, 0, none⟩ = some (.int .i64 t346) ∧ w'.cell? ⟨gb360, 1, none⟩ = some (.int .i64 t347) ∧ w'.cell? ⟨gb360, 2, none⟩ = some (.slice Ao33 t348.length co33) ∧ w'.cell? ⟨gb360, 3, none⟩ = some (.slice Ao34 t351.length co34) ∧ w'.cell? ⟨gb360, 4, none⟩ = some (.slice Ao35 t354.length co35) ∧ w'.cell? ⟨gb360, 5, none⟩ = some (.int .i64 t357) ∧ w'.cell? ⟨gb360, 6, none⟩ = some (.int .i64 t358) ∧ w'.cell? ⟨gb360, 7, none⟩ = some (.int .i64 t359) ∧ w'.cell? ⟨gb323, 0, none⟩ = some (.int .i64 a0_0) ∧ w'.cell? ⟨gb323, 1, none⟩ = some (.int .i64 a0_1) ∧ w'.cell? ⟨gb323, 2, none⟩ = some (.slice A0_2 l0_2.length c0_2) ∧ w'.cell? ⟨gb323, 3, none⟩ = some (.slice A0_3 l0_3.length c0_3) ∧ w'.cell? ⟨gb323, 4, none⟩ = some (.slice A0_4 l0_4.length c0_4) ∧ w'.cell? ⟨gb323, 5, none⟩ = some (.int .i64 a0_5) ∧ w'.cell? ⟨gb323, 6, none⟩ = some (.int .i64 a0_6) ∧ w'.cell? ⟨gb323, 7, none⟩ = some (.int .i64 a0_7)) (ds := []) #[false, false, false, false, false] (by kernel_rfl) rfl rfl ⟨(blk_cell BK360.out 0).trans rfl, (blk_cell BK360.out 1).trans rfl, (blk_cell BK360.out 2).trans rfl, (blk_cell BK360.out 3).trans rfl, (blk_cell BK360.out 4).trans rfl, (blk_cell BK360.out 5).trans rfl, (blk_cell BK360.out 6).trans rfl, (blk_cell BK360.out 7).trans rfl, (blk_cell BK323.out 0).trans rfl, (blk_cell BK323.out 1).trans rfl, (blk_cell BK323.out 2).trans rfl, (blk_cell BK323.out 3).trans rfl, (blk_cell BK323.out 4).trans rfl, (blk_cell BK323.out 5).trans rfl, (blk_cell BK323.out 6).trans rfl, (blk_cell BK323.out 7).trans rfl⟩ (fun hHeld => ?_)
                generalize wc.drew = w56 at HO_6 HO_9 HO_10 HO_361002 HO_361003 HO_361004 BK323 BK360 HB hHeld ⊢
                refine take_ (i := 0) (N := some 52) (v := ?_) (a' := ?_) #[true, false, false, false, false] rfl rfl (by kernel_rfl) (fun _ _ _ h => h) (Or.inl ⟨by rfl, ?_⟩) hHeld ?_ ?_
                rotate_left
                · rintro w' ⟨s0, s1, s2, s3, s4, s5, s6, s7, s8, s9, s10, s11, s12, s13, s14, s15⟩
                  go_simp
                  with_reducible rfl
                rotate_left
                · simp only [Act.put, List.setIfInBounds_toArray, List.set_cons_zero, List.set_cons_succ, i64_w, i32_w]
                  rfl
                refine take_ (i := 1) (N := some 53) (v := ?_) (a' := ?_) #[true, true, false, false, false] rfl rfl (by kernel_rfl) (fun _ _ _ h => h) (Or.inl ⟨by rfl, ?_⟩) hHeld ?_ ?_
                rotate_left
                · rintro w' ⟨s0, s1, s2, s3, s4, s5, s6, s7, s8, s9, s10, s11, s12, s13, s14, s15⟩
                  go_simp
                  with_reducible rfl
                rotate_left
                · simp only [Act.put, List.setIfInBounds_toArray, List.set_cons_zero, List.set_cons_succ, i64_w, i32_w]
                  rfl
                refine one_ (i := 2) (N := some 54) #[true, true, true, false, false] rfl rfl (by kernel_rfl) (by decide) (fun K hK => ?_)
                refine goes_ Try.func35 (by kernel_rfl) rfl #[.agg #[.int .i64 a0_0, .int .i64 a0_1, .slice A0_2 l0_2.length c0_2, .slice A0_3 l0_3.length c0_3, .slice A0_4 l0_4.length c0_4, .int .i64 a0_5, .int .i64 a0_6, .int .i64 a0_7]] (by rfl) rfl rfl (by (try simp only [List.map_toArray, List.map_cons, List.map_nil]); first | done | rfl | (simp only [List.length_drop, List.length_take]; rfl)) ?_
                with_reducible refine (laws_toHeader.calls kj15 a0_0 a0_1 _ _ l0_2 _ _ l0_3 _ _ l0_4 a0_5 a0_6 a0_7 t369 t370 t371 t374 t377 t380 t381 t382 _ ?side1 ?side2 ?side3 ?side4 ?side5 ?side6 A47.out).mono ?_
                (case side1 => repeat (first | exact (Kd.C_below HR0_2.out HB.out) | (with_reducible refine Kd.C_alloc ?_ _) | (with_reducible refine Kd.C_drewN ?_ _) | (with_reducible refine Kd.C_drew ?_)))
                (case side2 => exact HC0_2.out)
                (case side3 => repeat (first | exact (Kd.C_below HR0_3.out HB.out) | (with_reducible refine Kd.C_alloc ?_ _) | (with_reducible refine Kd.C_drewN ?_ _) | (with_reducible refine Kd.C_drew ?_)))
                (case side4 => exact HC0_3.out)
                (case side5 => repeat (first | exact (Kd.C_below HR0_4.out HB.out) | (with_reducible refine Kd.C_alloc ?_ _) | (with_reducible refine Kd.C_drewN ?_ _) | (with_reducible refine Kd.C_drew ?_)))
                (case side6 => exact HC0_4.out)
                rintro e w57 ⟨v372, v375, v378, rfl, ho0, ho1, ho2, hb⟩
                refine ⟨_, rfl, ?_⟩
                have n0_ := Aside0.mk (Kd.R_mono (Kd.R_told (Kd.R_told (Kd.R_told (Kd.R_old (by (with_reducible repeat (first | apply Kd.R_alloc | apply Kd.R_drewN | apply Kd.R_drew)); exact HO_6.out) hb) (Kd.R_base ho0)) (Kd.R_base ho1)) (Kd.R_base ho2)) (fun _ h_ => h_.1))
                have n1_ := Aside0.mk (Kd.R_mono (Kd.R_told (Kd.R_told (Kd.R_told (Kd.R_old (by (with_reducible repeat (first | apply Kd.R_alloc | apply Kd.R_drewN | apply Kd.R_drew)); exact HO_9.out) hb) (Kd.R_base ho0)) (Kd.R_base ho1)) (Kd.R_base ho2)) (fun _ h_ => h_.1))
                have n2_ := Aside0.mk (Kd.R_mono (Kd.R_told (Kd.R_told (Kd.R_told (Kd.R_old (by (with_reducible repeat (first | apply Kd.R_alloc | apply Kd.R_drewN | apply Kd.R_drew)); exact HO_10.out) hb) (Kd.R_base ho0)) (Kd.R_base ho1)) (Kd.R_base ho2)) (fun _ h_ => h_.1))
                have n3_ := Aside0.mk (Kd.R_mono (Kd.R_told (Kd.R_told (Kd.R_told (Kd.R_old (by (with_reducible repeat (first | apply Kd.R_alloc | apply Kd.R_drewN | apply Kd.R_drew)); exact HO_361002.out) hb) (Kd.R_base ho0)) (Kd.R_base ho1)) (Kd.R_base ho2)) (fun _ h_ => h_.1))
                have n4_ := Aside0.mk (Kd.R_mono (Kd.R_told (Kd.R_told (Kd.R_told (Kd.R_old (by (with_reducible repeat (first | apply Kd.R_alloc | apply Kd.R_drewN | apply Kd.R_drew)); exact HO_361003.out) hb) (Kd.R_base ho0)) (Kd.R_base ho1)) (Kd.R_base ho2)) (fun _ h_ => h_.1))
                have n5_ := Aside0.mk (Kd.R_mono (Kd.R_told (Kd.R_told (Kd.R_told (Kd.R_old (by (with_reducible repeat (first | apply Kd.R_alloc | apply Kd.R_drewN | apply Kd.R_drew)); exact HO_361004.out) hb) (Kd.R_base ho0)) (Kd.R_base ho1)) (Kd.R_base ho2)) (fun _ h_ => h_.1))
                have n6_ := Aside0.mk (Kd.R_lower (Kd.R_new' (Kd.R_new' (Kd.R_new' (Kd.R_new' (Kd.R_new' (Kd.R_new' ho0 (Kd.R_lt (by (with_reducible repeat (first | apply Kd.R_alloc | apply Kd.R_drewN | apply Kd.R_drew)); exact HO_6.out))) (Kd.R_lt (by (with_reducible repeat (first | apply Kd.R_alloc | apply Kd.R_drewN | apply Kd.R_drew)); exact HO_9.out))) (Kd.R_lt (by (with_reducible repeat (first | apply Kd.R_alloc | apply Kd.R_drewN | apply Kd.R_drew)); exact HO_10.out))) (Kd.R_lt (by (with_reducible repeat (first | apply Kd.R_alloc | apply Kd.R_drewN | apply Kd.R_drew)); exact HO_361002.out))) (Kd.R_lt (by (with_reducible repeat (first | apply Kd.R_alloc | apply Kd.R_drewN | apply Kd.R_drew)); exact HO_361003.out))) (Kd.R_lt (by (with_reducible repeat (first | apply Kd.R_alloc | apply Kd.R_drewN | apply Kd.R_drew)); exact HO_361004.out))) (below_size (by repeat (first | (with_reducible first | exact HB.out | apply below_alloc | apply pw_below_drewN | apply below_drew1 | refine below_set ?_ GE323.out | refine below_set ?_ GE360.out) | exact HB.out))))
                have n7_ := Aside0.mk (Kd.R_lower (Kd.R_new' (Kd.R_new' (Kd.R_new' (Kd.R_new' (Kd.R_new' (Kd.R_new' ho1 (Kd.R_lt (by (with_reducible repeat (first | apply Kd.R_alloc | apply Kd.R_drewN | apply Kd.R_drew)); exact HO_6.out))) (Kd.R_lt (by (with_reducible repeat (first | apply Kd.R_alloc | apply Kd.R_drewN | apply Kd.R_drew)); exact HO_9.out))) (Kd.R_lt (by (with_reducible repeat (first | apply Kd.R_alloc | apply Kd.R_drewN | apply Kd.R_drew)); exact HO_10.out))) (Kd.R_lt (by (with_reducible repeat (first | apply Kd.R_alloc | apply Kd.R_drewN | apply Kd.R_drew)); exact HO_361002.out))) (Kd.R_lt (by (with_reducible repeat (first | apply Kd.R_alloc | apply Kd.R_drewN | apply Kd.R_drew)); exact HO_361003.out))) (Kd.R_lt (by (with_reducible repeat (first | apply Kd.R_alloc | apply Kd.R_drewN | apply Kd.R_drew)); exact HO_361004.out))) (below_size (by repeat (first | (with_reducible first | exact HB.out | apply below_alloc | apply pw_below_drewN | apply below_drew1 | refine below_set ?_ GE323.out | refine below_set ?_ GE360.out) | exact HB.out))))
                have n8_ := Aside0.mk (Kd.R_lower (Kd.R_new' (Kd.R_new' (Kd.R_new' (Kd.R_new' (Kd.R_new' (Kd.R_new' ho2 (Kd.R_lt (by (with_reducible repeat (first | apply Kd.R_alloc | apply Kd.R_drewN | apply Kd.R_drew)); exact HO_6.out))) (Kd.R_lt (by (with_reducible repeat (first | apply Kd.R_alloc | apply Kd.R_drewN | apply Kd.R_drew)); exact HO_9.out))) (Kd.R_lt (by (with_reducible repeat (first | apply Kd.R_alloc | apply Kd.R_drewN | apply Kd.R_drew)); exact HO_10.out))) (Kd.R_lt (by (with_reducible repeat (first | apply Kd.R_alloc | apply Kd.R_drewN | apply Kd.R_drew)); exact HO_361002.out))) (Kd.R_lt (by (with_reducible repeat (first | apply Kd.R_alloc | apply Kd.R_drewN | apply Kd.R_drew)); exact HO_361003.out))) (Kd.R_lt (by (with_reducible repeat (first | apply Kd.R_alloc | apply Kd.R_drewN | apply Kd.R_drew)); exact HO_361004.out))) (below_size (by repeat (first | (with_reducible first | exact HB.out | apply below_alloc | apply pw_below_drewN | apply below_drew1 | refine below_set ?_ GE323.out | refine below_set ?_ GE360.out) | exact HB.out))))
                have n9_ := Aside0.mk (blk_below (g := gb323) (o := .cells #[.int .i64 a0_0, .int .i64 a0_1, .slice A0_2 l0_2.length c0_2, .slice A0_3 l0_3.length c0_3, .slice A0_4 l0_4.length c0_4, .int .i64 a0_5, .int .i64 a0_6, .int .i64 a0_7] 41 (0, 0)) (by (with_reducible repeat (first | refine blk_drewN ?_ _ | refine blk_drew ?_ | refine blk_alloc ?_ _)); exact BK323.out) hb)
                have n10_ := Aside0.mk (blk_below (g := gb360) (o := .cells #[.int .i64 t346, .int .i64 t347, .slice Ao33 t348.length co33, .slice Ao34 t351.length co34, .slice Ao35 t354.length co35, .int .i64 t357, .int .i64 t358, .int .i64 t359] 45 (0, 0)) (by (with_reducible repeat (first | refine blk_drewN ?_ _ | refine blk_drew ?_ | refine blk_alloc ?_ _)); exact BK360.out) hb)
                have n11_ := Aside0.mk (below_step (by repeat (first | (with_reducible first | exact HB.out | apply below_alloc | apply pw_below_drewN | apply below_drew1 | refine below_set ?_ GE323.out | refine below_set ?_ GE360.out) | exact HB.out)) hb)
                clear HO_6
                clear HO_9
                clear HO_10
                clear HO_361002
                clear HO_361003
                clear HO_361004
                clear BK323
                clear BK360
                clear HB
                have HO_6 := n0_
                have HO_9 := n1_
                have HO_10 := n2_
                have HO_361002 := n3_
                have HO_361003 := n4_
                have HO_361004 := n5_
                have HO373 := n6_
                have HO376 := n7_
                have HO379 := n8_
                have BK323 := n9_
                have BK360 := n10_
                have HB := n11_
                clear n0_ n1_ n2_ n3_ n4_ n5_ n6_ n7_ n8_ n9_ n10_ n11_
                (try clear hb)
                (try clear hb2)
                (try clear hk)
                (try clear hi)
                (try clear ho0)
                (try clear ho1)
                (try clear ho2)
                obtain ⟨Ao58, co58, eo58⟩ := Kd.R_slice HO373.out
                (first | subst eo58 | (injection eo58 with f1_ f2_ f3_; have f4_ := f1_.symm; have f5_ := f3_.symm; clear f1_ f2_ f3_; subst f4_; subst f5_))
                obtain ⟨Ao59, co59, eo59⟩ := Kd.R_slice HO376.out
                (first | subst eo59 | (injection eo59 with f1_ f2_ f3_; have f4_ := f1_.symm; have f5_ := f3_.symm; clear f1_ f2_ f3_; subst f4_; subst f5_))
                obtain ⟨Ao60, co60, eo60⟩ := Kd.R_slice HO379.out
                (first | subst eo60 | (injection eo60 with f1_ f2_ f3_; have f4_ := f1_.symm; have f5_ := f3_.symm; clear f1_ f2_ f3_; subst f4_; subst f5_))
                refine hK.out _ _ ⟨(blk_cell BK360.out 0).trans rfl, (blk_cell BK360.out 1).trans rfl, (blk_cell BK360.out 2).trans rfl, (blk_cell BK360.out 3).trans rfl, (blk_cell BK360.out 4).trans rfl, (blk_cell BK360.out 5).trans rfl, (blk_cell BK360.out 6).trans rfl, (blk_cell BK360.out 7).trans rfl, (blk_cell BK323.out 0).trans rfl, (blk_cell BK323.out 1).trans rfl, (blk_cell BK323.out 2).trans rfl, (blk_cell BK323.out 3).trans rfl, (blk_cell BK323.out 4).trans rfl, (blk_cell BK323.out 5).trans rfl, (blk_cell BK323.out 6).trans rfl, (blk_cell BK323.out 7).trans rfl⟩ (fun hHeld => ?_)
                clear hK K
                refine norm_ (a' := ?_) ?_ ?_
                rotate_left
                · show Act.put _ (some 54) _ = _
                  simp only [Act.put, List.setIfInBounds_toArray, List.set_cons_zero, List.set_cons_succ, i64_w, i32_w]
                  rfl
                refine one_ (i := 3) (N := some 55) #[true, true, true, true, false] rfl rfl (by kernel_rfl) (by decide) (fun K hK => ?_)
                refine goes_ Try.func37 (by kernel_rfl) rfl #[.agg #[.int .i64 t346, .int .i64 t347, .slice Ao33 t348.length co33, .slice Ao34 t351.length co34, .slice Ao35 t354.length co35, .int .i64 t357, .int .i64 t358, .int .i64 t359], .agg #[.int .i64 t369, .int .i64 t370, .slice Ao58 t371.length co58, .slice Ao59 t374.length co59, .slice Ao60 t377.length co60, .int .i64 t380, .int .i64 t381, .int .i64 t382]] (by rfl) rfl rfl (by (try simp only [List.map_toArray, List.map_cons, List.map_nil]); first | done | rfl | (simp only [List.length_drop, List.length_take]; rfl)) ?_
                with_reducible refine (laws_eqHeader.calls kj15 t346 t347 _ _ t348 _ _ t351 _ _ t354 t357 t358 t359 t369 t370 _ _ t371 _ _ t374 _ _ t377 t380 t381 t382 true _ ?side1 ?side2 ?side3 ?side4 ?side5 ?side6 ?side7 ?side8 ?side9 ?side10 ?side11 ?side12 A48.out).mono ?_
                (case side1 => repeat (first | exact (Kd.R_reads' HO_361002.out).2.2 | (with_reducible refine Kd.C_alloc ?_ _) | (with_reducible refine Kd.C_drewN ?_ _) | (with_reducible refine Kd.C_drew ?_)))
                (case side2 => exact (Kd.R_reads' HO_361002.out).2.1)
                (case side3 => repeat (first | exact (Kd.R_reads' HO_361003.out).2.2 | (with_reducible refine Kd.C_alloc ?_ _) | (with_reducible refine Kd.C_drewN ?_ _) | (with_reducible refine Kd.C_drew ?_)))
                (case side4 => exact (Kd.R_reads' HO_361003.out).2.1)
                (case side5 => repeat (first | exact (Kd.R_reads' HO_361004.out).2.2 | (with_reducible refine Kd.C_alloc ?_ _) | (with_reducible refine Kd.C_drewN ?_ _) | (with_reducible refine Kd.C_drew ?_)))
                (case side6 => exact (Kd.R_reads' HO_361004.out).2.1)
                (case side7 => repeat (first | exact (Kd.R_reads' HO373.out).2.2 | (with_reducible refine Kd.C_alloc ?_ _) | (with_reducible refine Kd.C_drewN ?_ _) | (with_reducible refine Kd.C_drew ?_)))
                (case side8 => exact (Kd.R_reads' HO373.out).2.1)
                (case side9 => repeat (first | exact (Kd.R_reads' HO376.out).2.2 | (with_reducible refine Kd.C_alloc ?_ _) | (with_reducible refine Kd.C_drewN ?_ _) | (with_reducible refine Kd.C_drew ?_)))
                (case side10 => exact (Kd.R_reads' HO376.out).2.1)
                (case side11 => repeat (first | exact (Kd.R_reads' HO379.out).2.2 | (with_reducible refine Kd.C_alloc ?_ _) | (with_reducible refine Kd.C_drewN ?_ _) | (with_reducible refine Kd.C_drew ?_)))
                (case side12 => exact (Kd.R_reads' HO379.out).2.1)
                rintro e w61 ⟨rfl, hb⟩
                refine ⟨_, rfl, ?_⟩
                have n0_ := Aside0.mk (Kd.R_below (by (with_reducible repeat (first | apply Kd.R_alloc | apply Kd.R_drewN | apply Kd.R_drew)); exact HO_6.out) hb)
                have n1_ := Aside0.mk (Kd.R_below (by (with_reducible repeat (first | apply Kd.R_alloc | apply Kd.R_drewN | apply Kd.R_drew)); exact HO_9.out) hb)
                have n2_ := Aside0.mk (Kd.R_below (by (with_reducible repeat (first | apply Kd.R_alloc | apply Kd.R_drewN | apply Kd.R_drew)); exact HO_10.out) hb)
                have n3_ := Aside0.mk (Kd.R_below (by (with_reducible repeat (first | apply Kd.R_alloc | apply Kd.R_drewN | apply Kd.R_drew)); exact HO_361002.out) hb)
                have n4_ := Aside0.mk (Kd.R_below (by (with_reducible repeat (first | apply Kd.R_alloc | apply Kd.R_drewN | apply Kd.R_drew)); exact HO_361003.out) hb)
                have n5_ := Aside0.mk (Kd.R_below (by (with_reducible repeat (first | apply Kd.R_alloc | apply Kd.R_drewN | apply Kd.R_drew)); exact HO_361004.out) hb)
                have n6_ := Aside0.mk (Kd.R_below (by (with_reducible repeat (first | apply Kd.R_alloc | apply Kd.R_drewN | apply Kd.R_drew)); exact HO373.out) hb)
                have n7_ := Aside0.mk (Kd.R_below (by (with_reducible repeat (first | apply Kd.R_alloc | apply Kd.R_drewN | apply Kd.R_drew)); exact HO376.out) hb)
                have n8_ := Aside0.mk (Kd.R_below (by (with_reducible repeat (first | apply Kd.R_alloc | apply Kd.R_drewN | apply Kd.R_drew)); exact HO379.out) hb)
                have n9_ := Aside0.mk (blk_below (g := gb323) (o := .cells #[.int .i64 a0_0, .int .i64 a0_1, .slice A0_2 l0_2.length c0_2, .slice A0_3 l0_3.length c0_3, .slice A0_4 l0_4.length c0_4, .int .i64 a0_5, .int .i64 a0_6, .int .i64 a0_7] 41 (0, 0)) (by (with_reducible repeat (first | refine blk_drewN ?_ _ | refine blk_drew ?_ | refine blk_alloc ?_ _)); exact BK323.out) hb)
                have n10_ := Aside0.mk (blk_below (g := gb360) (o := .cells #[.int .i64 t346, .int .i64 t347, .slice Ao33 t348.length co33, .slice Ao34 t351.length co34, .slice Ao35 t354.length co35, .int .i64 t357, .int .i64 t358, .int .i64 t359] 45 (0, 0)) (by (with_reducible repeat (first | refine blk_drewN ?_ _ | refine blk_drew ?_ | refine blk_alloc ?_ _)); exact BK360.out) hb)
                have n11_ := Aside0.mk (below_step (by repeat (first | (with_reducible first | exact HB.out | apply below_alloc | apply pw_below_drewN | apply below_drew1 | refine below_set ?_ GE323.out | refine below_set ?_ GE360.out) | exact HB.out)) hb)
                clear HO_6
                clear HO_9
                clear HO_10
                clear HO_361002
                clear HO_361003
                clear HO_361004
                clear HO373
                clear HO376
                clear HO379
                clear BK323
                clear BK360
                clear HB
                have HO_6 := n0_
                have HO_9 := n1_
                have HO_10 := n2_
                have HO_361002 := n3_
                have HO_361003 := n4_
                have HO_361004 := n5_
                have HO373 := n6_
                have HO376 := n7_
                have HO379 := n8_
                have BK323 := n9_
                have BK360 := n10_
                have HB := n11_
                clear n0_ n1_ n2_ n3_ n4_ n5_ n6_ n7_ n8_ n9_ n10_ n11_
                (try clear hb)
                (try clear hb2)
                (try clear hk)
                (try clear hi)
                refine hK.out _ _ ⟨(blk_cell BK360.out 0).trans rfl, (blk_cell BK360.out 1).trans rfl, (blk_cell BK360.out 2).trans rfl, (blk_cell BK360.out 3).trans rfl, (blk_cell BK360.out 4).trans rfl, (blk_cell BK360.out 5).trans rfl, (blk_cell BK360.out 6).trans rfl, (blk_cell BK360.out 7).trans rfl, (blk_cell BK323.out 0).trans rfl, (blk_cell BK323.out 1).trans rfl, (blk_cell BK323.out 2).trans rfl, (blk_cell BK323.out 3).trans rfl, (blk_cell BK323.out 4).trans rfl, (blk_cell BK323.out 5).trans rfl, (blk_cell BK323.out 6).trans rfl, (blk_cell BK323.out 7).trans rfl⟩ (fun hHeld => ?_)
                clear hK K
                refine norm_ (a' := ?_) ?_ ?_
                rotate_left
                · show Act.put _ (some 55) _ = _
                  simp only [Act.put, List.setIfInBounds_toArray, List.set_cons_zero, List.set_cons_succ, i64_w, i32_w]
                  rfl
                refine pure_ (i := 4) (N := some 56) (v := ?_) (a' := ?_) #[true, true, true, true, true] rfl rfl (by kernel_rfl) (fun _ _ _ h => h) (Or.inl ⟨by rfl, ?_⟩) ?_ ?_
                rotate_left
                · intro w'
                  go_simp
                  with_reducible rfl
                rotate_left
                · simp only [Act.put, List.setIfInBounds_toArray, List.set_cons_zero, List.set_cons_succ, i64_w, i32_w]
                  rfl
                refine done_ (by kernel_rfl) ?_
                go_upto_region 20 with (first | ((with_reducible refine gate_callee (f := 15) rfl ?_); refine goesL_ (some 59) rfl rfl Try.func15 (by kernel_rfl) rfl #[.slice A1 l1.length c1] rfl (by (try simp only [List.map_toArray, List.map_cons, List.map_nil]); first | done | rfl | (simp only [List.length_drop, List.length_take]; rfl)) ?_; (with_reducible refine (laws_toByteS.calls kj15 _ _ l1 t384 _ ?side1 ?side2 A50.out).mono ?_); (case side1 => repeat (first | exact (Kd.C_below HR1.out HB.out) | (with_reducible refine Kd.C_alloc ?_ _) | (with_reducible refine Kd.C_drewN ?_ _) | (with_reducible refine Kd.C_drew ?_))); (case side2 => exact HC1.out); rintro e w62 ⟨v385, rfl, ho0, hb⟩; refine ⟨_, rfl, ?_⟩; have n0_ := Aside0.mk (Kd.R_elder' (by (with_reducible repeat (first | apply Kd.R_alloc | apply Kd.R_drewN | apply Kd.R_drew)); exact HO_6.out) (Kd.R_base ho0) hb); have n1_ := Aside0.mk (Kd.R_elder' (by (with_reducible repeat (first | apply Kd.R_alloc | apply Kd.R_drewN | apply Kd.R_drew)); exact HO_9.out) (Kd.R_base ho0) hb); have n2_ := Aside0.mk (Kd.R_elder' (by (with_reducible repeat (first | apply Kd.R_alloc | apply Kd.R_drewN | apply Kd.R_drew)); exact HO_10.out) (Kd.R_base ho0) hb); have n3_ := Aside0.mk (Kd.R_elder' (by (with_reducible repeat (first | apply Kd.R_alloc | apply Kd.R_drewN | apply Kd.R_drew)); exact HO_361002.out) (Kd.R_base ho0) hb); have n4_ := Aside0.mk (Kd.R_elder' (by (with_reducible repeat (first | apply Kd.R_alloc | apply Kd.R_drewN | apply Kd.R_drew)); exact HO_361003.out) (Kd.R_base ho0) hb); have n5_ := Aside0.mk (Kd.R_elder' (by (with_reducible repeat (first | apply Kd.R_alloc | apply Kd.R_drewN | apply Kd.R_drew)); exact HO_361004.out) (Kd.R_base ho0) hb); have n6_ := Aside0.mk (Kd.R_elder' (by (with_reducible repeat (first | apply Kd.R_alloc | apply Kd.R_drewN | apply Kd.R_drew)); exact HO373.out) (Kd.R_base ho0) hb); have n7_ := Aside0.mk (Kd.R_elder' (by (with_reducible repeat (first | apply Kd.R_alloc | apply Kd.R_drewN | apply Kd.R_drew)); exact HO376.out) (Kd.R_base ho0) hb); have n8_ := Aside0.mk (Kd.R_elder' (by (with_reducible repeat (first | apply Kd.R_alloc | apply Kd.R_drewN | apply Kd.R_drew)); exact HO379.out) (Kd.R_base ho0) hb); have n9_ := Aside0.mk (Kd.R_lower (Kd.R_new' (Kd.R_new' (Kd.R_new' (Kd.R_new' (Kd.R_new' (Kd.R_new' (Kd.R_new' (Kd.R_new' (Kd.R_new' ho0 (Kd.R_lt (by (with_reducible repeat (first | apply Kd.R_alloc | apply Kd.R_drewN | apply Kd.R_drew)); exact HO_6.out))) (Kd.R_lt (by (with_reducible repeat (first | apply Kd.R_alloc | apply Kd.R_drewN | apply Kd.R_drew)); exact HO_9.out))) (Kd.R_lt (by (with_reducible repeat (first | apply Kd.R_alloc | apply Kd.R_drewN | apply Kd.R_drew)); exact HO_10.out))) (Kd.R_lt (by (with_reducible repeat (first | apply Kd.R_alloc | apply Kd.R_drewN | apply Kd.R_drew)); exact HO_361002.out))) (Kd.R_lt (by (with_reducible repeat (first | apply Kd.R_alloc | apply Kd.R_drewN | apply Kd.R_drew)); exact HO_361003.out))) (Kd.R_lt (by (with_reducible repeat (first | apply Kd.R_alloc | apply Kd.R_drewN | apply Kd.R_drew)); exact HO_361004.out))) (Kd.R_lt (by (with_reducible repeat (first | apply Kd.R_alloc | apply Kd.R_drewN | apply Kd.R_drew)); exact HO373.out))) (Kd.R_lt (by (with_reducible repeat (first | apply Kd.R_alloc | apply Kd.R_drewN | apply Kd.R_drew)); exact HO376.out))) (Kd.R_lt (by (with_reducible repeat (first | apply Kd.R_alloc | apply Kd.R_drewN | apply Kd.R_drew)); exact HO379.out))) (below_size (by repeat (first | (with_reducible first | exact HB.out | apply below_alloc | apply pw_below_drewN | apply below_drew1 | refine below_set ?_ GE323.out | refine below_set ?_ GE360.out) | exact HB.out)))); have n10_ := Aside0.mk (blk_below (g := gb323) (o := .cells #[.int .i64 a0_0, .int .i64 a0_1, .slice A0_2 l0_2.length c0_2, .slice A0_3 l0_3.length c0_3, .slice A0_4 l0_4.length c0_4, .int .i64 a0_5, .int .i64 a0_6, .int .i64 a0_7] 41 (0, 0)) (by (with_reducible repeat (first | refine blk_drewN ?_ _ | refine blk_drew ?_ | refine blk_alloc ?_ _)); exact BK323.out) hb); have n11_ := Aside0.mk (blk_below (g := gb360) (o := .cells #[.int .i64 t346, .int .i64 t347, .slice Ao33 t348.length co33, .slice Ao34 t351.length co34, .slice Ao35 t354.length co35, .int .i64 t357, .int .i64 t358, .int .i64 t359] 45 (0, 0)) (by (with_reducible repeat (first | refine blk_drewN ?_ _ | refine blk_drew ?_ | refine blk_alloc ?_ _)); exact BK360.out) hb); have n12_ := Aside0.mk (below_step (by repeat (first | (with_reducible first | exact HB.out | apply below_alloc | apply pw_below_drewN | apply below_drew1 | refine below_set ?_ GE323.out | refine below_set ?_ GE360.out) | exact HB.out)) hb); clear HO_6; clear HO_9; clear HO_10; clear HO_361002; clear HO_361003; clear HO_361004; clear HO373; clear HO376; clear HO379; clear BK323; clear BK360; clear HB; have HO_6 := n0_; have HO_9 := n1_; have HO_10 := n2_; have HO_361002 := n3_; have HO_361003 := n4_; have HO_361004 := n5_; have HO373 := n6_; have HO376 := n7_; have HO379 := n8_; have HO386 := n9_; have BK323 := n10_; have BK360 := n11_; have HB := n12_; clear n0_ n1_ n2_ n3_ n4_ n5_ n6_ n7_ n8_ n9_ n10_ n11_ n12_; (try clear hb); (try clear hb2); (try clear hk); (try clear hi); (try clear ho0); obtain ⟨Ao63, co63, eo63⟩ := Kd.R_slice HO386.out; subst eo63) | ((with_reducible refine gate_callee (f := 17) rfl ?_); refine goesL_ (some 60) rfl rfl Try.func17 (by kernel_rfl) rfl #[.slice Ao38 t361.length co38, .slice Ao63 t384.length co63] rfl (by (try simp only [List.map_toArray, List.map_cons, List.map_nil]); first | done | rfl | (simp only [List.length_drop, List.length_take]; rfl)) ?_; (with_reducible refine (laws_eqByteS.calls kj15 _ _ t361 _ _ t384 true _ ?side1 ?side2 ?side3 ?side4 A51.out).mono ?_); (case side1 => repeat (first | exact (Kd.R_reads' HO_9.out).2.2 | (with_reducible refine Kd.C_alloc ?_ _) | (with_reducible refine Kd.C_drewN ?_ _) | (with_reducible refine Kd.C_drew ?_))); (case side2 => exact (Kd.R_reads' HO_9.out).2.1); (case side3 => repeat (first | exact (Kd.R_reads' HO386.out).2.2 | (with_reducible refine Kd.C_alloc ?_ _) | (with_reducible refine Kd.C_drewN ?_ _) | (with_reducible refine Kd.C_drew ?_))); (case side4 => exact (Kd.R_reads' HO386.out).2.1); rintro e w' ⟨rfl, ⟨nd, rfl⟩⟩; refine ⟨_, rfl, ?_⟩; have hnb64 := NB360_323.out; have hnc64 := NB323_360.out; have hcz65_0 : w62.cell? ⟨gb360, 0, none⟩ = some (.int .i64 t346) := (blk_cell BK360.out 0).trans rfl; have hcz65_1 : w62.cell? ⟨gb360, 1, none⟩ = some (.int .i64 t347) := (blk_cell BK360.out 1).trans rfl; have hcz65_2 : w62.cell? ⟨gb360, 2, none⟩ = some (.slice Ao33 t348.length co33) := (blk_cell BK360.out 2).trans rfl; have hcz65_3 : w62.cell? ⟨gb360, 3, none⟩ = some (.slice Ao34 t351.length co34) := (blk_cell BK360.out 3).trans rfl; have hcz65_4 : w62.cell? ⟨gb360, 4, none⟩ = some (.slice Ao35 t354.length co35) := (blk_cell BK360.out 4).trans rfl; have hcz65_5 : w62.cell? ⟨gb360, 5, none⟩ = some (.int .i64 t357) := (blk_cell BK360.out 5).trans rfl; have hcz65_6 : w62.cell? ⟨gb360, 6, none⟩ = some (.int .i64 t358) := (blk_cell BK360.out 6).trans rfl; have hcz65_7 : w62.cell? ⟨gb360, 7, none⟩ = some (.int .i64 t359) := (blk_cell BK360.out 7).trans rfl; have hfz65_0 := blk_frozen BK360.out 0; have hfz65_1 := blk_frozen BK360.out 1; have hfz65_2 := blk_frozen BK360.out 2; have hfz65_3 := blk_frozen BK360.out 3; have hfz65_4 := blk_frozen BK360.out 4; have hfz65_5 := blk_frozen BK360.out 5; have hfz65_6 := blk_frozen BK360.out 6; have hfz65_7 := blk_frozen BK360.out 7) | (go_at_call 38; (with_reducible refine (laws_markHeader.calls kj15 t346 t347 (fun k_ => some k_ = (.slice Ao33 t348.length co33 : Value).ownBlock) (.slice Ao33 t348.length co33) t348 (fun k_ => some k_ = (.slice Ao34 t351.length co34 : Value).ownBlock) (.slice Ao34 t351.length co34) t351 (fun k_ => some k_ = (.slice Ao35 t354.length co35 : Value).ownBlock) (.slice Ao35 t354.length co35) t354 t357 t358 t359 1 t388 t389 t390 t391 w _ ?side1 ?side2 ?side3 ?side4 ?side5 ?side6 ?side7 ?side8 ?side9 ?side10 A53.out).mono ?_); (case side1 => repeat (first | (with_reducible first | exact HB.out | apply below_alloc | apply pw_below_drewN | apply below_drew1 | refine below_set ?_ GE323.out | refine below_set ?_ GE360.out) | exact HB.out)); (case side2 => exact Kd.R_tight rfl HO_361002.out); (case side3 => exact fun k_ e_ => by have h_ := HO_361002.out.1 k_ e_.symm; (try dsimp only at h_); simp only [h_, ne_eq, not_false_eq_true]); (case side4 => exact fun k_ e_ => by have h_ := HO_361002.out.1 k_ e_.symm; (try dsimp only at h_); simp only [h_, ne_eq, not_false_eq_true]); (case side5 => exact Kd.R_tight rfl HO_361003.out); (case side6 => exact fun k_ e_ => by have h_ := HO_361003.out.1 k_ e_.symm; (try dsimp only at h_); simp only [h_, ne_eq, not_false_eq_true]); (case side7 => exact fun k_ e_ => by have h_ := HO_361003.out.1 k_ e_.symm; (try dsimp only at h_); simp only [h_, ne_eq, not_false_eq_true]); (case side8 => exact Kd.R_tight rfl HO_361004.out); (case side9 => exact fun k_ e_ => by have h_ := HO_361004.out.1 k_ e_.symm; (try dsimp only at h_); simp only [h_, ne_eq, not_false_eq_true]); (case side10 => exact fun k_ e_ => by have h_ := HO_361004.out.1 k_ e_.symm; (try dsimp only at h_); simp only [h_, ne_eq, not_false_eq_true]); rintro e w66 ⟨rfl, hy0, hy1, hy2, hb, hkp⟩; have n0_ := Aside0.mk (Kd.R_mono (ok' := fun k_ => some k_ ≠ (.slice Ao38 t361.length co38 : Value).ownBlock ∧ some k_ ≠ (v365 : Value).ownBlock ∧ some k_ ≠ (.slice Ao33 t348.length co33 : Value).ownBlock ∧ some k_ ≠ (.slice Ao34 t351.length co34 : Value).ownBlock ∧ some k_ ≠ (.slice Ao35 t354.length co35 : Value).ownBlock ∧ some k_ ≠ (.slice Ao58 t371.length co58 : Value).ownBlock ∧ some k_ ≠ (.slice Ao59 t374.length co59 : Value).ownBlock ∧ some k_ ≠ (.slice Ao60 t377.length co60 : Value).ownBlock ∧ some k_ ≠ (.slice Ao63 t384.length co63 : Value).ownBlock) (Kd.R_keptB (HO_6.out) hkp (fun k_ hk_ hs_ => by (try dsimp only at hk_ hs_); simp only [hk_, or_self] at hs_)) (fun k_ hk_ => by (try dsimp only at hk_); simp only [hk_, ne_eq, not_false_eq_true, and_self])); have n1_ := Aside0.mk (Kd.R_mono (ok' := fun k_ => some k_ ≠ (v343 : Value).ownBlock ∧ some k_ ≠ (v365 : Value).ownBlock ∧ some k_ ≠ (.slice Ao33 t348.length co33 : Value).ownBlock ∧ some k_ ≠ (.slice Ao34 t351.length co34 : Value).ownBlock ∧ some k_ ≠ (.slice Ao35 t354.length co35 : Value).ownBlock ∧ some k_ ≠ (.slice Ao58 t371.length co58 : Value).ownBlock ∧ some k_ ≠ (.slice Ao59 t374.length co59 : Value).ownBlock ∧ some k_ ≠ (.slice Ao60 t377.length co60 : Value).ownBlock ∧ some k_ ≠ (.slice Ao63 t384.length co63 : Value).ownBlock) (Kd.R_keptB (HO_9.out) hkp (fun k_ hk_ hs_ => by (try dsimp only at hk_ hs_); simp only [hk_, or_self] at hs_)) (fun k_ hk_ => by (try dsimp only at hk_); simp only [hk_, ne_eq, not_false_eq_true, and_self])); have n2_ := Aside0.mk (Kd.R_mono (ok' := fun k_ => some k_ ≠ (v343 : Value).ownBlock ∧ some k_ ≠ (.slice Ao38 t361.length co38 : Value).ownBlock ∧ some k_ ≠ (.slice Ao33 t348.length co33 : Value).ownBlock ∧ some k_ ≠ (.slice Ao34 t351.length co34 : Value).ownBlock ∧ some k_ ≠ (.slice Ao35 t354.length co35 : Value).ownBlock ∧ some k_ ≠ (.slice Ao58 t371.length co58 : Value).ownBlock ∧ some k_ ≠ (.slice Ao59 t374.length co59 : Value).ownBlock ∧ some k_ ≠ (.slice Ao60 t377.length co60 : Value).ownBlock ∧ some k_ ≠ (.slice Ao63 t384.length co63 : Value).ownBlock) (Kd.R_keptB (HO_10.out) hkp (fun k_ hk_ hs_ => by (try dsimp only at hk_ hs_); simp only [hk_, or_self] at hs_)) (fun k_ hk_ => by (try dsimp only at hk_); simp only [hk_, ne_eq, not_false_eq_true, and_self])); have n3_ := Aside0.mk (Kd.R_reok rfl hy0 (fun k_ e_ => HO_361002.out.1 k_ e_)); have n4_ := Aside0.mk (Kd.R_reok rfl hy1 (fun k_ e_ => HO_361003.out.1 k_ e_)); have n5_ := Aside0.mk (Kd.R_reok rfl hy2 (fun k_ e_ => HO_361004.out.1 k_ e_)); have n6_ := Aside0.mk (blk_kept (g := gb323) (by first | exact BK323.out | exact blk_drewN BK323.out _) hkp (fun hs_ => Or.elim hs_ (fun e_ => (fun e_ => (Kd.R_ne HO_361002.out BK323.out (by decide)) e_) e_) (fun e_ => Or.elim e_ (fun e_ => (fun e_ => (Kd.R_ne HO_361003.out BK323.out (by decide)) e_) e_) (fun e_ => (fun e_ => (Kd.R_ne HO_361004.out BK323.out (by decide)) e_) e_)))); have n7_ := Aside0.mk (blk_kept (g := gb360) (by first | exact BK360.out | exact blk_drewN BK360.out _) hkp (fun hs_ => Or.elim hs_ (fun e_ => (fun e_ => (Kd.R_ne HO_361002.out BK360.out (by decide)) e_) e_) (fun e_ => Or.elim e_ (fun e_ => (fun e_ => (Kd.R_ne HO_361003.out BK360.out (by decide)) e_) e_) (fun e_ => (fun e_ => (Kd.R_ne HO_361004.out BK360.out (by decide)) e_) e_)))); have n8_ := Aside0.mk (Kd.R_mono (ok' := fun k_ => some k_ ≠ (v343 : Value).ownBlock ∧ some k_ ≠ (.slice Ao38 t361.length co38 : Value).ownBlock ∧ some k_ ≠ (v365 : Value).ownBlock ∧ some k_ ≠ (.slice Ao33 t348.length co33 : Value).ownBlock ∧ some k_ ≠ (.slice Ao34 t351.length co34 : Value).ownBlock ∧ some k_ ≠ (.slice Ao35 t354.length co35 : Value).ownBlock ∧ some k_ ≠ (.slice Ao59 t374.length co59 : Value).ownBlock ∧ some k_ ≠ (.slice Ao60 t377.length co60 : Value).ownBlock ∧ some k_ ≠ (.slice Ao63 t384.length co63 : Value).ownBlock) (Kd.R_keptB (HO373.out) hkp (fun k_ hk_ hs_ => by (try dsimp only at hk_ hs_); simp only [hk_, or_self] at hs_)) (fun k_ hk_ => by (try dsimp only at hk_); simp only [hk_, ne_eq, not_false_eq_true, and_self])); have n9_ := Aside0.mk (Kd.R_mono (ok' := fun k_ => some k_ ≠ (v343 : Value).ownBlock ∧ some k_ ≠ (.slice Ao38 t361.length co38 : Value).ownBlock ∧ some k_ ≠ (v365 : Value).ownBlock ∧ some k_ ≠ (.slice Ao33 t348.length co33 : Value).ownBlock ∧ some k_ ≠ (.slice Ao34 t351.length co34 : Value).ownBlock ∧ some k_ ≠ (.slice Ao35 t354.length co35 : Value).ownBlock ∧ some k_ ≠ (.slice Ao58 t371.length co58 : Value).ownBlock ∧ some k_ ≠ (.slice Ao60 t377.length co60 : Value).ownBlock ∧ some k_ ≠ (.slice Ao63 t384.length co63 : Value).ownBlock) (Kd.R_keptB (HO376.out) hkp (fun k_ hk_ hs_ => by (try dsimp only at hk_ hs_); simp only [hk_, or_self] at hs_)) (fun k_ hk_ => by (try dsimp only at hk_); simp only [hk_, ne_eq, not_false_eq_true, and_self])); have n10_ := Aside0.mk (Kd.R_mono (ok' := fun k_ => some k_ ≠ (v343 : Value).ownBlock ∧ some k_ ≠ (.slice Ao38 t361.length co38 : Value).ownBlock ∧ some k_ ≠ (v365 : Value).ownBlock ∧ some k_ ≠ (.slice Ao33 t348.length co33 : Value).ownBlock ∧ some k_ ≠ (.slice Ao34 t351.length co34 : Value).ownBlock ∧ some k_ ≠ (.slice Ao35 t354.length co35 : Value).ownBlock ∧ some k_ ≠ (.slice Ao58 t371.length co58 : Value).ownBlock ∧ some k_ ≠ (.slice Ao59 t374.length co59 : Value).ownBlock ∧ some k_ ≠ (.slice Ao63 t384.length co63 : Value).ownBlock) (Kd.R_keptB (HO379.out) hkp (fun k_ hk_ hs_ => by (try dsimp only at hk_ hs_); simp only [hk_, or_self] at hs_)) (fun k_ hk_ => by (try dsimp only at hk_); simp only [hk_, ne_eq, not_false_eq_true, and_self])); have n11_ := Aside0.mk (Kd.R_mono (ok' := fun k_ => some k_ ≠ (v343 : Value).ownBlock ∧ some k_ ≠ (.slice Ao38 t361.length co38 : Value).ownBlock ∧ some k_ ≠ (v365 : Value).ownBlock ∧ some k_ ≠ (.slice Ao33 t348.length co33 : Value).ownBlock ∧ some k_ ≠ (.slice Ao34 t351.length co34 : Value).ownBlock ∧ some k_ ≠ (.slice Ao35 t354.length co35 : Value).ownBlock ∧ some k_ ≠ (.slice Ao58 t371.length co58 : Value).ownBlock ∧ some k_ ≠ (.slice Ao59 t374.length co59 : Value).ownBlock ∧ some k_ ≠ (.slice Ao60 t377.length co60 : Value).ownBlock) (Kd.R_keptB (HO386.out) hkp (fun k_ hk_ hs_ => by (try dsimp only at hk_ hs_); simp only [hk_, or_self] at hs_)) (fun k_ hk_ => by (try dsimp only at hk_); simp only [hk_, ne_eq, not_false_eq_true, and_self])); have n12_ := Aside0.mk (hb); clear HO_6; clear HO_9; clear HO_10; clear HO_361002; clear HO_361003; clear HO_361004; clear BK323; clear BK360; clear HO373; clear HO376; clear HO379; clear HO386; clear HB; have HO_6 := n0_; have HO_9 := n1_; have HO_10 := n2_; have HO_361002 := n3_; have HO_361003 := n4_; have HO_361004 := n5_; have BK323 := n6_; have BK360 := n7_; have HO373 := n8_; have HO376 := n9_; have HO379 := n10_; have HO386 := n11_; have HB := n12_; clear n0_ n1_ n2_ n3_ n4_ n5_ n6_ n7_ n8_ n9_ n10_ n11_ n12_; (try clear hb); (try clear hkp); (try clear hy0); (try clear hy1); (try clear hy2)) | ((with_reducible refine gate_callee (f := 18) rfl ?_); refine goesL_ (some 67) rfl rfl Try.func18 (by kernel_rfl) rfl #[.slice Ao38 t361.length co38, .int .i64 t388] rfl (by (try simp only [List.map_toArray, List.map_cons, List.map_nil]); first | done | rfl | (simp only [List.length_drop, List.length_take]; rfl)) ?_; (with_reducible refine (laws_markByteS.calls kj15 (fun k_ => some k_ = (.slice Ao38 t361.length co38 : Value).ownBlock) (.slice Ao38 t361.length co38) t361 t388 t392 t393 w _ ?side1 ?side2 A54.out).mono ?_); (case side1 => repeat (first | (with_reducible first | exact HB.out | apply below_alloc | apply pw_below_drewN | apply below_drew1 | refine below_set ?_ GE323.out | refine below_set ?_ GE360.out) | exact HB.out)); (case side2 => exact Kd.R_tight rfl HO_9.out); rintro e w67 ⟨rfl, hy0, hb, hkp⟩; refine ⟨_, rfl, ?_⟩; have n0_ := Aside0.mk (Kd.R_mono (ok' := fun k_ => some k_ ≠ (.slice Ao38 t361.length co38 : Value).ownBlock ∧ some k_ ≠ (v365 : Value).ownBlock ∧ some k_ ≠ (.slice Ao33 t348.length co33 : Value).ownBlock ∧ some k_ ≠ (.slice Ao34 t351.length co34 : Value).ownBlock ∧ some k_ ≠ (.slice Ao35 t354.length co35 : Value).ownBlock ∧ some k_ ≠ (.slice Ao58 t371.length co58 : Value).ownBlock ∧ some k_ ≠ (.slice Ao59 t374.length co59 : Value).ownBlock ∧ some k_ ≠ (.slice Ao60 t377.length co60 : Value).ownBlock ∧ some k_ ≠ (.slice Ao63 t384.length co63 : Value).ownBlock) (Kd.R_keptB (HO_6.out) hkp (fun k_ hk_ hs_ => by (try dsimp only at hk_ hs_); simp only [hk_, or_self] at hs_)) (fun k_ hk_ => by (try dsimp only at hk_); simp only [hk_, ne_eq, not_false_eq_true, and_self])); have n1_ := Aside0.mk (Kd.R_reok rfl hy0 (fun k_ e_ => HO_9.out.1 k_ e_)); have n2_ := Aside0.mk (Kd.R_mono (ok' := fun k_ => some k_ ≠ (v343 : Value).ownBlock ∧ some k_ ≠ (.slice Ao38 t361.length co38 : Value).ownBlock ∧ some k_ ≠ (.slice Ao33 t348.length co33 : Value).ownBlock ∧ some k_ ≠ (.slice Ao34 t351.length co34 : Value).ownBlock ∧ some k_ ≠ (.slice Ao35 t354.length co35 : Value).ownBlock ∧ some k_ ≠ (.slice Ao58 t371.length co58 : Value).ownBlock ∧ some k_ ≠ (.slice Ao59 t374.length co59 : Value).ownBlock ∧ some k_ ≠ (.slice Ao60 t377.length co60 : Value).ownBlock ∧ some k_ ≠ (.slice Ao63 t384.length co63 : Value).ownBlock) (Kd.R_keptB (HO_10.out) hkp (fun k_ hk_ hs_ => by (try dsimp only at hk_ hs_); simp only [hk_, or_self] at hs_)) (fun k_ hk_ => by (try dsimp only at hk_); simp only [hk_, ne_eq, not_false_eq_true, and_self])); have n3_ := Aside0.mk (Kd.R_mono (ok' := fun k_ => some k_ ≠ (v343 : Value).ownBlock ∧ some k_ ≠ (.slice Ao38 t361.length co38 : Value).ownBlock ∧ some k_ ≠ (v365 : Value).ownBlock ∧ some k_ ≠ (.slice Ao34 t351.length co34 : Value).ownBlock ∧ some k_ ≠ (.slice Ao35 t354.length co35 : Value).ownBlock ∧ some k_ ≠ (.slice Ao58 t371.length co58 : Value).ownBlock ∧ some k_ ≠ (.slice Ao59 t374.length co59 : Value).ownBlock ∧ some k_ ≠ (.slice Ao60 t377.length co60 : Value).ownBlock ∧ some k_ ≠ (.slice Ao63 t384.length co63 : Value).ownBlock) (Kd.R_keptB (HO_361002.out) hkp (fun k_ hk_ hs_ => by (try dsimp only at hk_ hs_); simp only [hk_, or_self] at hs_)) (fun k_ hk_ => by (try dsimp only at hk_); simp only [hk_, ne_eq, not_false_eq_true, and_self])); have n4_ := Aside0.mk (Kd.R_mono (ok' := fun k_ => some k_ ≠ (v343 : Value).ownBlock ∧ some k_ ≠ (.slice Ao38 t361.length co38 : Value).ownBlock ∧ some k_ ≠ (v365 : Value).ownBlock ∧ some k_ ≠ (.slice Ao33 t348.length co33 : Value).ownBlock ∧ some k_ ≠ (.slice Ao35 t354.length co35 : Value).ownBlock ∧ some k_ ≠ (.slice Ao58 t371.length co58 : Value).ownBlock ∧ some k_ ≠ (.slice Ao59 t374.length co59 : Value).ownBlock ∧ some k_ ≠ (.slice Ao60 t377.length co60 : Value).ownBlock ∧ some k_ ≠ (.slice Ao63 t384.length co63 : Value).ownBlock) (Kd.R_keptB (HO_361003.out) hkp (fun k_ hk_ hs_ => by (try dsimp only at hk_ hs_); simp only [hk_, or_self] at hs_)) (fun k_ hk_ => by (try dsimp only at hk_); simp only [hk_, ne_eq, not_false_eq_true, and_self])); have n5_ := Aside0.mk (Kd.R_mono (ok' := fun k_ => some k_ ≠ (v343 : Value).ownBlock ∧ some k_ ≠ (.slice Ao38 t361.length co38 : Value).ownBlock ∧ some k_ ≠ (v365 : Value).ownBlock ∧ some k_ ≠ (.slice Ao33 t348.length co33 : Value).ownBlock ∧ some k_ ≠ (.slice Ao34 t351.length co34 : Value).ownBlock ∧ some k_ ≠ (.slice Ao58 t371.length co58 : Value).ownBlock ∧ some k_ ≠ (.slice Ao59 t374.length co59 : Value).ownBlock ∧ some k_ ≠ (.slice Ao60 t377.length co60 : Value).ownBlock ∧ some k_ ≠ (.slice Ao63 t384.length co63 : Value).ownBlock) (Kd.R_keptB (HO_361004.out) hkp (fun k_ hk_ hs_ => by (try dsimp only at hk_ hs_); simp only [hk_, or_self] at hs_)) (fun k_ hk_ => by (try dsimp only at hk_); simp only [hk_, ne_eq, not_false_eq_true, and_self])); have n6_ := Aside0.mk (blk_kept (g := gb323) (by first | exact BK323.out | exact blk_drewN BK323.out _) hkp (fun hs_ => (fun e_ => (Kd.R_ne HO_9.out BK323.out (by decide)) e_) hs_)); have n7_ := Aside0.mk (blk_kept (g := gb360) (by first | exact BK360.out | exact blk_drewN BK360.out _) hkp (fun hs_ => (fun e_ => (Kd.R_ne HO_9.out BK360.out (by decide)) e_) hs_)); have n8_ := Aside0.mk (Kd.R_mono (ok' := fun k_ => some k_ ≠ (v343 : Value).ownBlock ∧ some k_ ≠ (.slice Ao38 t361.length co38 : Value).ownBlock ∧ some k_ ≠ (v365 : Value).ownBlock ∧ some k_ ≠ (.slice Ao33 t348.length co33 : Value).ownBlock ∧ some k_ ≠ (.slice Ao34 t351.length co34 : Value).ownBlock ∧ some k_ ≠ (.slice Ao35 t354.length co35 : Value).ownBlock ∧ some k_ ≠ (.slice Ao59 t374.length co59 : Value).ownBlock ∧ some k_ ≠ (.slice Ao60 t377.length co60 : Value).ownBlock ∧ some k_ ≠ (.slice Ao63 t384.length co63 : Value).ownBlock) (Kd.R_keptB (HO373.out) hkp (fun k_ hk_ hs_ => by (try dsimp only at hk_ hs_); simp only [hk_, or_self] at hs_)) (fun k_ hk_ => by (try dsimp only at hk_); simp only [hk_, ne_eq, not_false_eq_true, and_self])); have n9_ := Aside0.mk (Kd.R_mono (ok' := fun k_ => some k_ ≠ (v343 : Value).ownBlock ∧ some k_ ≠ (.slice Ao38 t361.length co38 : Value).ownBlock ∧ some k_ ≠ (v365 : Value).ownBlock ∧ some k_ ≠ (.slice Ao33 t348.length co33 : Value).ownBlock ∧ some k_ ≠ (.slice Ao34 t351.length co34 : Value).ownBlock ∧ some k_ ≠ (.slice Ao35 t354.length co35 : Value).ownBlock ∧ some k_ ≠ (.slice Ao58 t371.length co58 : Value).ownBlock ∧ some k_ ≠ (.slice Ao60 t377.length co60 : Value).ownBlock ∧ some k_ ≠ (.slice Ao63 t384.length co63 : Value).ownBlock) (Kd.R_keptB (HO376.out) hkp (fun k_ hk_ hs_ => by (try dsimp only at hk_ hs_); simp only [hk_, or_self] at hs_)) (fun k_ hk_ => by (try dsimp only at hk_); simp only [hk_, ne_eq, not_false_eq_true, and_self])); have n10_ := Aside0.mk (Kd.R_mono (ok' := fun k_ => some k_ ≠ (v343 : Value).ownBlock ∧ some k_ ≠ (.slice Ao38 t361.length co38 : Value).ownBlock ∧ some k_ ≠ (v365 : Value).ownBlock ∧ some k_ ≠ (.slice Ao33 t348.length co33 : Value).ownBlock ∧ some k_ ≠ (.slice Ao34 t351.length co34 : Value).ownBlock ∧ some k_ ≠ (.slice Ao35 t354.length co35 : Value).ownBlock ∧ some k_ ≠ (.slice Ao58 t371.length co58 : Value).ownBlock ∧ some k_ ≠ (.slice Ao59 t374.length co59 : Value).ownBlock ∧ some k_ ≠ (.slice Ao63 t384.length co63 : Value).ownBlock) (Kd.R_keptB (HO379.out) hkp (fun k_ hk_ hs_ => by (try dsimp only at hk_ hs_); simp only [hk_, or_self] at hs_)) (fun k_ hk_ => by (try dsimp only at hk_); simp only [hk_, ne_eq, not_false_eq_true, and_self])); have n11_ := Aside0.mk (Kd.R_mono (ok' := fun k_ => some k_ ≠ (v343 : Value).ownBlock ∧ some k_ ≠ (.slice Ao38 t361.length co38 : Value).ownBlock ∧ some k_ ≠ (v365 : Value).ownBlock ∧ some k_ ≠ (.slice Ao33 t348.length co33 : Value).ownBlock ∧ some k_ ≠ (.slice Ao34 t351.length co34 : Value).ownBlock ∧ some k_ ≠ (.slice Ao35 t354.length co35 : Value).ownBlock ∧ some k_ ≠ (.slice Ao58 t371.length co58 : Value).ownBlock ∧ some k_ ≠ (.slice Ao59 t374.length co59 : Value).ownBlock ∧ some k_ ≠ (.slice Ao60 t377.length co60 : Value).ownBlock) (Kd.R_keptB (HO386.out) hkp (fun k_ hk_ hs_ => by (try dsimp only at hk_ hs_); simp only [hk_, or_self] at hs_)) (fun k_ hk_ => by (try dsimp only at hk_); simp only [hk_, ne_eq, not_false_eq_true, and_self])); have n12_ := Aside0.mk (hb); clear HO_6; clear HO_9; clear HO_10; clear HO_361002; clear HO_361003; clear HO_361004; clear BK323; clear BK360; clear HO373; clear HO376; clear HO379; clear HO386; clear HB; have HO_6 := n0_; have HO_9 := n1_; have HO_10 := n2_; have HO_361002 := n3_; have HO_361003 := n4_; have HO_361004 := n5_; have BK323 := n6_; have BK360 := n7_; have HO373 := n8_; have HO376 := n9_; have HO379 := n10_; have HO386 := n11_; have HB := n12_; clear n0_ n1_ n2_ n3_ n4_ n5_ n6_ n7_ n8_ n9_ n10_ n11_ n12_; (try clear hb); (try clear hkp); (try clear hy0)))
                (try simp only [Act.put, List.setIfInBounds_toArray, List.set_cons_zero, List.set_cons_succ])
                go_cut [80] (fun v80 wc => ∃ (kq : Nat) (x80_54 : Bool), v80 = .bool x80_54 ∧ Aside0 (laws_FnExactRetryPacket.j1 kq l1 t342 t345 t364 x80_54 a0_0 a0_1 l0_2 l0_3 l0_4 a0_5 a0_6 a0_7 = some true) ∧ Aside0 (kq ≤ kj15) ∧ Aside0 (Kd.R (Kd.int .u8) 5 wc w.heap.size (fun k_ => some k_ ≠ (v365 : Value).ownBlock ∧ some k_ ≠ ((.slice Ao33 t348.length co33) : Value).ownBlock ∧ some k_ ≠ ((.slice Ao34 t351.length co34) : Value).ownBlock ∧ some k_ ≠ ((.slice Ao35 t354.length co35) : Value).ownBlock) v343 t342) ∧ Aside0 (Kd.R (Kd.int .u8) 5 wc w.heap.size (fun k_ => some k_ ≠ (v343 : Value).ownBlock ∧ some k_ ≠ ((.slice Ao33 t348.length co33) : Value).ownBlock ∧ some k_ ≠ ((.slice Ao34 t351.length co34) : Value).ownBlock ∧ some k_ ≠ ((.slice Ao35 t354.length co35) : Value).ownBlock) v365 t364) ∧ Aside0 (Kd.R (Kd.int .u8) 5 wc w.heap.size (fun k_ => some k_ ≠ (v343 : Value).ownBlock ∧ some k_ ≠ (v365 : Value).ownBlock ∧ some k_ ≠ ((.slice Ao34 t351.length co34) : Value).ownBlock ∧ some k_ ≠ ((.slice Ao35 t354.length co35) : Value).ownBlock) (.slice Ao33 t348.length co33) t389) ∧ Aside0 (Kd.R (Kd.int .u8) 5 wc w.heap.size (fun k_ => some k_ ≠ (v343 : Value).ownBlock ∧ some k_ ≠ (v365 : Value).ownBlock ∧ some k_ ≠ ((.slice Ao33 t348.length co33) : Value).ownBlock ∧ some k_ ≠ ((.slice Ao35 t354.length co35) : Value).ownBlock) (.slice Ao34 t351.length co34) t390) ∧ Aside0 (Kd.R (Kd.int .u8) 5 wc w.heap.size (fun k_ => some k_ ≠ (v343 : Value).ownBlock ∧ some k_ ≠ (v365 : Value).ownBlock ∧ some k_ ≠ ((.slice Ao33 t348.length co33) : Value).ownBlock ∧ some k_ ≠ ((.slice Ao34 t351.length co34) : Value).ownBlock) (.slice Ao35 t354.length co35) t391) ∧ Aside0 (wc.heap[gb323]? = some (.cells #[.int .i64 a0_0, .int .i64 a0_1, (.slice A0_2 l0_2.length c0_2), (.slice A0_3 l0_3.length c0_3), (.slice A0_4 l0_4.length c0_4), .int .i64 a0_5, .int .i64 a0_6, .int .i64 a0_7] 41 (0, 0))) ∧ Aside0 (wc.heap[gb360]? = some (.cells #[.int .i64 t346, .int .i64 t347, (.slice Ao33 t348.length co33), (.slice Ao34 t351.length co34), (.slice Ao35 t354.length co35), .int .i64 t357, .int .i64 t358, .int .i64 t359] 45 (0, 0))) ∧ Aside0 (Below w.heap.size w wc))
                case first =>
                  have H := HC55.out
                  clear HC55
                  by_cases c68 : t392 < 0
                  · rw [if_pos c68] at H
                    have c68b0 : decide (t392 < 0) = true := decide_eq_true c68
                    clear c68
                    (first | rw [c68b0] | (simp only [i64_w, i32_w]; rw [c68b0]) | skip)
                    have H' := Aside0.mk H
                    clear H
                    go_wp2
                    go_meet
                    case rel => exact ⟨_, (true), (by first | rfl | (simp; done) | (simp [*]; done)), H', ⟨by have := HJ15.out; first | omega | exact Nat.le_refl _⟩, ⟨by (with_reducible repeat (first | apply Kd.R_alloc | apply Kd.R_drewN | apply Kd.R_drew)); exact Kd.R_mono HO_6.out (fun _ hk => ⟨hk.2.1, ⟨hk.2.2.1, ⟨hk.2.2.2.1, hk.2.2.2.2.1⟩⟩⟩)⟩, ⟨by (with_reducible repeat (first | apply Kd.R_alloc | apply Kd.R_drewN | apply Kd.R_drew)); exact Kd.R_mono HO_10.out (fun _ hk => ⟨hk.1, ⟨hk.2.2.1, ⟨hk.2.2.2.1, hk.2.2.2.2.1⟩⟩⟩)⟩, ⟨by (with_reducible repeat (first | apply Kd.R_alloc | apply Kd.R_drewN | apply Kd.R_drew)); exact Kd.R_mono HO_361002.out (fun _ hk => ⟨hk.1, ⟨hk.2.2.1, ⟨hk.2.2.2.1, hk.2.2.2.2.1⟩⟩⟩)⟩, ⟨by (with_reducible repeat (first | apply Kd.R_alloc | apply Kd.R_drewN | apply Kd.R_drew)); exact Kd.R_mono HO_361003.out (fun _ hk => ⟨hk.1, ⟨hk.2.2.1, ⟨hk.2.2.2.1, hk.2.2.2.2.1⟩⟩⟩)⟩, ⟨by (with_reducible repeat (first | apply Kd.R_alloc | apply Kd.R_drewN | apply Kd.R_drew)); exact Kd.R_mono HO_361004.out (fun _ hk => ⟨hk.1, ⟨hk.2.2.1, ⟨hk.2.2.2.1, hk.2.2.2.2.1⟩⟩⟩)⟩, ⟨by (with_reducible repeat (first | refine blk_drewN ?_ _ | refine blk_drew ?_ | refine blk_alloc ?_ _)); exact BK323.out⟩, ⟨by (with_reducible repeat (first | refine blk_drewN ?_ _ | refine blk_drew ?_ | refine blk_alloc ?_ _)); exact BK360.out⟩, ⟨by repeat (first | (with_reducible first | exact HB.out | apply below_alloc | apply pw_below_drewN | apply below_drew1 | refine below_set ?_ GE323.out | refine below_set ?_ GE360.out) | exact HB.out)⟩⟩
                  · rw [if_neg c68] at H
                    have c68b0 : decide (t392 < 0) = false := decide_eq_false c68
                    clear c68
                    (first | rw [c68b0] | (simp only [i64_w, i32_w]; rw [c68b0]) | skip)
                    replace H := Option.bind_eq_some_iff.mp H
                    obtain ⟨t394, A690, H⟩ := H
                    replace H : (if t394 = true then (laws_FnExactRetryPacket.j1 kj15 l1 t342 t345 t364 (t367 != t345) a0_0 a0_1 l0_2 l0_3 l0_4 a0_5 a0_6 a0_7) else (laws_FnExactRetryPacket.j1 kj15 l1 t342 t345 t364 true a0_0 a0_1 l0_2 l0_3 l0_4 a0_5 a0_6 a0_7)) = some true := H
                    have A69 := Aside0.mk A690
                    clear A690
                    by_cases c70 : t394 = true
                    · subst c70
                      have H1 : (laws_FnExactRetryPacket.j1 kj15 l1 t342 t345 t364 (t367 != t345) a0_0 a0_1 l0_2 l0_3 l0_4 a0_5 a0_6 a0_7) = some true := by rw [if_pos rfl] at H; exact H
                      clear H
                      have H := H1
                      clear H1
                      have H' := Aside0.mk H
                      clear H
                      obtain ⟨Ao71, co71, eo71⟩ := Kd.R_slice HO_10.out
                      subst eo71
                      obtain ⟨Ao72, co72, eo72⟩ := Kd.R_slice HO_6.out
                      subst eo72
                      go_wp2_with (first | (go_at_call 17; (with_reducible refine (laws_eqByteS.calls kj15 _ _ t364 _ _ t342 true _ ?side1 ?side2 ?side3 ?side4 A69.out).mono ?_); (case side1 => repeat (first | exact (Kd.R_reads' HO_10.out).2.2 | (with_reducible refine Kd.C_alloc ?_ _) | (with_reducible refine Kd.C_drewN ?_ _) | (with_reducible refine Kd.C_drew ?_))); (case side2 => exact (Kd.R_reads' HO_10.out).2.1); (case side3 => repeat (first | exact (Kd.R_reads' HO_6.out).2.2 | (with_reducible refine Kd.C_alloc ?_ _) | (with_reducible refine Kd.C_drewN ?_ _) | (with_reducible refine Kd.C_drew ?_))); (case side4 => exact (Kd.R_reads' HO_6.out).2.1); rintro e w' ⟨rfl, ⟨nd, rfl⟩⟩))
                      go_meet
                      case rel => exact ⟨_, ((t367 != t345)), (by first | rfl | (simp; done) | (simp [*]; done)), H', ⟨by have := HJ15.out; first | omega | exact Nat.le_refl _⟩, ⟨by (with_reducible repeat (first | apply Kd.R_alloc | apply Kd.R_drewN | apply Kd.R_drew)); exact Kd.R_mono HO_6.out (fun _ hk => ⟨hk.2.1, ⟨hk.2.2.1, ⟨hk.2.2.2.1, hk.2.2.2.2.1⟩⟩⟩)⟩, ⟨by (with_reducible repeat (first | apply Kd.R_alloc | apply Kd.R_drewN | apply Kd.R_drew)); exact Kd.R_mono HO_10.out (fun _ hk => ⟨hk.1, ⟨hk.2.2.1, ⟨hk.2.2.2.1, hk.2.2.2.2.1⟩⟩⟩)⟩, ⟨by (with_reducible repeat (first | apply Kd.R_alloc | apply Kd.R_drewN | apply Kd.R_drew)); exact Kd.R_mono HO_361002.out (fun _ hk => ⟨hk.1, ⟨hk.2.2.1, ⟨hk.2.2.2.1, hk.2.2.2.2.1⟩⟩⟩)⟩, ⟨by (with_reducible repeat (first | apply Kd.R_alloc | apply Kd.R_drewN | apply Kd.R_drew)); exact Kd.R_mono HO_361003.out (fun _ hk => ⟨hk.1, ⟨hk.2.2.1, ⟨hk.2.2.2.1, hk.2.2.2.2.1⟩⟩⟩)⟩, ⟨by (with_reducible repeat (first | apply Kd.R_alloc | apply Kd.R_drewN | apply Kd.R_drew)); exact Kd.R_mono HO_361004.out (fun _ hk => ⟨hk.1, ⟨hk.2.2.1, ⟨hk.2.2.2.1, hk.2.2.2.2.1⟩⟩⟩)⟩, ⟨by (with_reducible repeat (first | refine blk_drewN ?_ _ | refine blk_drew ?_ | refine blk_alloc ?_ _)); exact BK323.out⟩, ⟨by (with_reducible repeat (first | refine blk_drewN ?_ _ | refine blk_drew ?_ | refine blk_alloc ?_ _)); exact BK360.out⟩, ⟨by repeat (first | (with_reducible first | exact HB.out | apply below_alloc | apply pw_below_drewN | apply below_drew1 | refine below_set ?_ GE323.out | refine below_set ?_ GE360.out) | exact HB.out)⟩⟩
                    · replace c70 := Bool.eq_false_iff.mpr c70
                      subst c70
                      have H1 : (laws_FnExactRetryPacket.j1 kj15 l1 t342 t345 t364 true a0_0 a0_1 l0_2 l0_3 l0_4 a0_5 a0_6 a0_7) = some true := by rw [if_neg (show ¬ (false = true) by decide)] at H; exact H
                      clear H
                      have H := H1
                      clear H1
                      have H' := Aside0.mk H
                      clear H
                      obtain ⟨Ao73, co73, eo73⟩ := Kd.R_slice HO_10.out
                      subst eo73
                      obtain ⟨Ao74, co74, eo74⟩ := Kd.R_slice HO_6.out
                      subst eo74
                      go_wp2_with (first | (go_at_call 17; (with_reducible refine (laws_eqByteS.calls kj15 _ _ t364 _ _ t342 false _ ?side1 ?side2 ?side3 ?side4 A69.out).mono ?_); (case side1 => repeat (first | exact (Kd.R_reads' HO_10.out).2.2 | (with_reducible refine Kd.C_alloc ?_ _) | (with_reducible refine Kd.C_drewN ?_ _) | (with_reducible refine Kd.C_drew ?_))); (case side2 => exact (Kd.R_reads' HO_10.out).2.1); (case side3 => repeat (first | exact (Kd.R_reads' HO_6.out).2.2 | (with_reducible refine Kd.C_alloc ?_ _) | (with_reducible refine Kd.C_drewN ?_ _) | (with_reducible refine Kd.C_drew ?_))); (case side4 => exact (Kd.R_reads' HO_6.out).2.1); rintro e w' ⟨rfl, ⟨nd, rfl⟩⟩))
                      go_meet
                      case rel => exact ⟨_, (true), (by first | rfl | (simp; done) | (simp [*]; done)), H', ⟨by have := HJ15.out; first | omega | exact Nat.le_refl _⟩, ⟨by (with_reducible repeat (first | apply Kd.R_alloc | apply Kd.R_drewN | apply Kd.R_drew)); exact Kd.R_mono HO_6.out (fun _ hk => ⟨hk.2.1, ⟨hk.2.2.1, ⟨hk.2.2.2.1, hk.2.2.2.2.1⟩⟩⟩)⟩, ⟨by (with_reducible repeat (first | apply Kd.R_alloc | apply Kd.R_drewN | apply Kd.R_drew)); exact Kd.R_mono HO_10.out (fun _ hk => ⟨hk.1, ⟨hk.2.2.1, ⟨hk.2.2.2.1, hk.2.2.2.2.1⟩⟩⟩)⟩, ⟨by (with_reducible repeat (first | apply Kd.R_alloc | apply Kd.R_drewN | apply Kd.R_drew)); exact Kd.R_mono HO_361002.out (fun _ hk => ⟨hk.1, ⟨hk.2.2.1, ⟨hk.2.2.2.1, hk.2.2.2.2.1⟩⟩⟩)⟩, ⟨by (with_reducible repeat (first | apply Kd.R_alloc | apply Kd.R_drewN | apply Kd.R_drew)); exact Kd.R_mono HO_361003.out (fun _ hk => ⟨hk.1, ⟨hk.2.2.1, ⟨hk.2.2.2.1, hk.2.2.2.2.1⟩⟩⟩)⟩, ⟨by (with_reducible repeat (first | apply Kd.R_alloc | apply Kd.R_drewN | apply Kd.R_drew)); exact Kd.R_mono HO_361004.out (fun _ hk => ⟨hk.1, ⟨hk.2.2.1, ⟨hk.2.2.2.1, hk.2.2.2.2.1⟩⟩⟩)⟩, ⟨by (with_reducible repeat (first | refine blk_drewN ?_ _ | refine blk_drew ?_ | refine blk_alloc ?_ _)); exact BK323.out⟩, ⟨by (with_reducible repeat (first | refine blk_drewN ?_ _ | refine blk_drew ?_ | refine blk_alloc ?_ _)); exact BK360.out⟩, ⟨by repeat (first | (with_reducible first | exact HB.out | apply below_alloc | apply pw_below_drewN | apply below_drew1 | refine below_set ?_ GE323.out | refine below_set ?_ GE360.out) | exact HB.out)⟩⟩
                case rest =>
                  clear HC55
                  try clear c1
                  try clear p2
                  try clear c3
                  try clear c3b0
                  try clear c3b1
                  try clear c4
                  try clear c5
                  try clear c6
                  try clear c6b0
                  try clear c7
                  try clear c8
                  try clear c15
                  try clear c17
                  try clear c18
                  try clear c31
                  try clear c33
                  try clear c34
                  try clear c35
                  try clear c36
                  try clear c37
                  try clear c38
                  try clear c41
                  try clear c46
                  try clear c49
                  try clear c52
                  try clear c64
                  try clear c68
                  try clear c68b0
                  try clear c70
                  try clear hcz18_0
                  try clear hcz18_1
                  try clear hcz18_2
                  try clear hcz18_3
                  try clear hcz18_4
                  try clear hcz18_5
                  try clear hcz18_6
                  try clear hcz18_7
                  try clear hcz20_0
                  try clear hcz20_1
                  try clear hcz20_2
                  try clear hcz20_3
                  try clear hcz20_4
                  try clear hcz20_5
                  try clear hcz20_6
                  try clear hcz20_7
                  try clear hcz28_0
                  try clear hcz28_1
                  try clear hcz28_2
                  try clear hcz28_3
                  try clear hcz28_4
                  try clear hcz28_5
                  try clear hcz28_6
                  try clear hcz28_7
                  try clear hcz32_0
                  try clear hcz32_1
                  try clear hcz32_2
                  try clear hcz32_3
                  try clear hcz32_4
                  try clear hcz32_5
                  try clear hcz32_6
                  try clear hcz32_7
                  try clear hcz37_0
                  try clear hcz37_1
                  try clear hcz37_2
                  try clear hcz37_3
                  try clear hcz37_4
                  try clear hcz37_5
                  try clear hcz37_6
                  try clear hcz37_7
                  try clear hcz65_0
                  try clear hcz65_1
                  try clear hcz65_2
                  try clear hcz65_3
                  try clear hcz65_4
                  try clear hcz65_5
                  try clear hcz65_6
                  try clear hcz65_7
                  try clear hcz8_0
                  try clear hcz8_1
                  try clear hcz8_2
                  try clear hcz8_3
                  try clear hcz8_4
                  try clear hcz8_5
                  try clear hcz8_6
                  try clear hcz8_7
                  try clear hfz18_0
                  try clear hfz18_1
                  try clear hfz18_2
                  try clear hfz18_3
                  try clear hfz18_4
                  try clear hfz18_5
                  try clear hfz18_6
                  try clear hfz18_7
                  try clear hfz20_0
                  try clear hfz20_1
                  try clear hfz20_2
                  try clear hfz20_3
                  try clear hfz20_4
                  try clear hfz20_5
                  try clear hfz20_6
                  try clear hfz20_7
                  try clear hfz28_0
                  try clear hfz28_1
                  try clear hfz28_2
                  try clear hfz28_3
                  try clear hfz28_4
                  try clear hfz28_5
                  try clear hfz28_6
                  try clear hfz28_7
                  try clear hfz32_0
                  try clear hfz32_1
                  try clear hfz32_2
                  try clear hfz32_3
                  try clear hfz32_4
                  try clear hfz32_5
                  try clear hfz32_6
                  try clear hfz32_7
                  try clear hfz37_0
                  try clear hfz37_1
                  try clear hfz37_2
                  try clear hfz37_3
                  try clear hfz37_4
                  try clear hfz37_5
                  try clear hfz37_6
                  try clear hfz37_7
                  try clear hfz65_0
                  try clear hfz65_1
                  try clear hfz65_2
                  try clear hfz65_3
                  try clear hfz65_4
                  try clear hfz65_5
                  try clear hfz65_6
                  try clear hfz65_7
                  try clear hfz8_0
                  try clear hfz8_1
                  try clear hfz8_2
                  try clear hfz8_3
                  try clear hfz8_4
                  try clear hfz8_5
                  try clear hfz8_6
                  try clear hfz8_7
                  try clear p2
                  obtain ⟨kq, x80_54, rfl, HA, HJ54, HO_6, HO_10, HO_361002, HO_361003, HO_361004, BK323, BK360, HB⟩ := hcut
                  have hl361002_54 := (Kd.R_reads' HO_361002.out).1
                  rw [hl361002_54] at HO_361002
                  (try simp only [hl361002_54])
                  (try simp only [hl361002_54] at BK323)
                  (try simp only [hl361002_54] at BK360)
                  (try simp only [hl361002_54] at HO_6)
                  (try simp only [hl361002_54] at HO_10)
                  (try simp only [hl361002_54] at HO_361003)
                  (try simp only [hl361002_54] at HO_361004)
                  have hl361003_54 := (Kd.R_reads' HO_361003.out).1
                  rw [hl361003_54] at HO_361003
                  (try simp only [hl361003_54])
                  (try simp only [hl361003_54] at BK323)
                  (try simp only [hl361003_54] at BK360)
                  (try simp only [hl361003_54] at HO_6)
                  (try simp only [hl361003_54] at HO_10)
                  (try simp only [hl361003_54] at HO_361002)
                  (try simp only [hl361003_54] at HO_361004)
                  have hl361004_54 := (Kd.R_reads' HO_361004.out).1
                  rw [hl361004_54] at HO_361004
                  (try simp only [hl361004_54])
                  (try simp only [hl361004_54] at BK323)
                  (try simp only [hl361004_54] at BK360)
                  (try simp only [hl361004_54] at HO_6)
                  (try simp only [hl361004_54] at HO_10)
                  (try simp only [hl361004_54] at HO_361002)
                  (try simp only [hl361004_54] at HO_361003)
                  cases kq with
                  | zero => exact absurd HA.out (by simp [laws_FnExactRetryPacket.j1])
                  | succ kj54 =>
                    have H := HA.out
                    clear HA
                    simp only [laws_FnExactRetryPacket.j1] at H
                    by_cases c75 : x80_54 = true
                    · subst c75
                      have H1 : (some false) = some true := by rw [if_pos rfl] at H; exact H
                      exact absurd H1 (by simp)
                    · replace c75 := Bool.eq_false_iff.mpr c75
                      subst c75
                      have H1 : ((laws_markByteS.f kj54 t364 1).bind fun bt395 => ((laws_heldByteS.f kj54 bt395.2 1).bind fun t397 => (if t397 < 0 then (some false) else (if t397 = bt395.1 then ((laws_toHeader.f kj54 a0_0 a0_1 l0_2 l0_3 l0_4 a0_5 a0_6 a0_7).bind fun bt398 => ((laws_toByteS.f kj54 l1).bind fun t412 => ((impl_RetryPacket.f kj54 bt398.1 bt398.2.1 bt398.2.2.1 bt398.2.2.2.1 bt398.2.2.2.2.1 bt398.2.2.2.2.2.1 bt398.2.2.2.2.2.2.1 bt398.2.2.2.2.2.2.2 t412).bind fun bt415 => ((laws_eqByteS.f kj54 bt415.1 t342).bind fun t419 => (if t419 = true then (laws_FnExactRetryPacket.j2 kj54 bt395.2 bt395.1 (bt415.2 != t345)) else (laws_FnExactRetryPacket.j2 kj54 bt395.2 bt395.1 true)))))) else (some false))))) = some true := by rw [if_neg (show ¬ (false = true) by decide)] at H; exact H
                      clear H
                      have H := H1
                      clear H1
                      replace H := Option.bind_eq_some_iff.mp H
                      obtain ⟨⟨t395, t396⟩, A760, H⟩ := H
                      replace H : ((laws_heldByteS.f kj54 t396 1).bind fun t397 => (if t397 < 0 then (some false) else (if t397 = t395 then ((laws_toHeader.f kj54 a0_0 a0_1 l0_2 l0_3 l0_4 a0_5 a0_6 a0_7).bind fun bt398 => ((laws_toByteS.f kj54 l1).bind fun t412 => ((impl_RetryPacket.f kj54 bt398.1 bt398.2.1 bt398.2.2.1 bt398.2.2.2.1 bt398.2.2.2.2.1 bt398.2.2.2.2.2.1 bt398.2.2.2.2.2.2.1 bt398.2.2.2.2.2.2.2 t412).bind fun bt415 => ((laws_eqByteS.f kj54 bt415.1 t342).bind fun t419 => (if t419 = true then (laws_FnExactRetryPacket.j2 kj54 t396 t395 (bt415.2 != t345)) else (laws_FnExactRetryPacket.j2 kj54 t396 t395 true)))))) else (some false)))) = some true := H
                      have A76 := Aside0.mk A760
                      clear A760
                      replace H := Option.bind_eq_some_iff.mp H
                      obtain ⟨t397, A770, H⟩ := H
                      replace H : (if t397 < 0 then (some false) else (if t397 = t395 then ((laws_toHeader.f kj54 a0_0 a0_1 l0_2 l0_3 l0_4 a0_5 a0_6 a0_7).bind fun bt398 => ((laws_toByteS.f kj54 l1).bind fun t412 => ((impl_RetryPacket.f kj54 bt398.1 bt398.2.1 bt398.2.2.1 bt398.2.2.2.1 bt398.2.2.2.2.1 bt398.2.2.2.2.2.1 bt398.2.2.2.2.2.2.1 bt398.2.2.2.2.2.2.2 t412).bind fun bt415 => ((laws_eqByteS.f kj54 bt415.1 t342).bind fun t419 => (if t419 = true then (laws_FnExactRetryPacket.j2 kj54 t396 t395 (bt415.2 != t345)) else (laws_FnExactRetryPacket.j2 kj54 t396 t395 true)))))) else (some false))) = some true := H
                      have A77 := Aside0.mk A770
                      clear A770
                      by_cases c78 : t397 < 0
                      · rw [if_pos c78] at H
                        exact absurd H (by simp)
                      · rw [if_neg c78] at H
                        have c78b0 : decide (t397 < 0) = false := decide_eq_false c78
                        clear c78
                        by_cases c81 : t397 = t395
                        · rw [if_pos c81] at H
                          have c81b0 : (t397 == t395) = true := beq_iff_eq.mpr c81
                          have c81b1 : (t397 != t395) = false := bne_eq_false_iff_eq.mpr c81
                          clear c81
                          replace H := Option.bind_eq_some_iff.mp H
                          obtain ⟨⟨t398, t399, t400, t403, t406, t409, t410, t411⟩, A820, H⟩ := H
                          replace H : ((laws_toByteS.f kj54 l1).bind fun t412 => ((impl_RetryPacket.f kj54 t398 t399 t400 t403 t406 t409 t410 t411 t412).bind fun bt415 => ((laws_eqByteS.f kj54 bt415.1 t342).bind fun t419 => (if t419 = true then (laws_FnExactRetryPacket.j2 kj54 t396 t395 (bt415.2 != t345)) else (laws_FnExactRetryPacket.j2 kj54 t396 t395 true))))) = some true := H
                          have A82 := Aside0.mk A820
                          clear A820
                          replace H := Option.bind_eq_some_iff.mp H
                          obtain ⟨t412, A830, H⟩ := H
                          replace H : ((impl_RetryPacket.f kj54 t398 t399 t400 t403 t406 t409 t410 t411 t412).bind fun bt415 => ((laws_eqByteS.f kj54 bt415.1 t342).bind fun t419 => (if t419 = true then (laws_FnExactRetryPacket.j2 kj54 t396 t395 (bt415.2 != t345)) else (laws_FnExactRetryPacket.j2 kj54 t396 t395 true)))) = some true := H
                          have A83 := Aside0.mk A830
                          clear A830
                          replace H := Option.bind_eq_some_iff.mp H
                          obtain ⟨⟨t415, t418⟩, A840, H⟩ := H
                          replace H : ((laws_eqByteS.f kj54 t415 t342).bind fun t419 => (if t419 = true then (laws_FnExactRetryPacket.j2 kj54 t396 t395 (t418 != t345)) else (laws_FnExactRetryPacket.j2 kj54 t396 t395 true))) = some true := H
                          have A84 := Aside0.mk A840
                          clear A840
                          have HC85 := Aside0.mk H
                          clear H
                          obtain ⟨Ao86, co86, eo86⟩ := Kd.R_slice HO_10.out
                          subst eo86
                          go_upto_region 31 with (first | ((with_reducible refine gate_callee (f := 18) rfl ?_); refine goesL_ (some 83) rfl rfl Try.func18 (by kernel_rfl) rfl #[.slice Ao86 t364.length co86, .int .i64 1] rfl (by (try simp only [List.map_toArray, List.map_cons, List.map_nil]); first | done | rfl | (simp only [List.length_drop, List.length_take]; rfl)) ?_; (with_reducible refine (laws_markByteS.calls kj54 (fun k_ => some k_ = (.slice Ao86 t364.length co86 : Value).ownBlock) (.slice Ao86 t364.length co86) t364 1 t395 t396 w _ ?side1 ?side2 A76.out).mono ?_); (case side1 => repeat (first | (with_reducible first | exact HB.out | apply below_alloc | apply pw_below_drewN | apply below_drew1 | refine below_set ?_ GE323.out | refine below_set ?_ GE360.out) | exact HB.out)); (case side2 => exact Kd.R_tight rfl HO_10.out); rintro e w87 ⟨rfl, hy0, hb, hkp⟩; refine ⟨_, rfl, ?_⟩; have n0_ := Aside0.mk (Kd.R_mono (ok' := fun k_ => some k_ ≠ (.slice Ao86 t364.length co86 : Value).ownBlock ∧ some k_ ≠ (.slice Ao33 t389.length co33 : Value).ownBlock ∧ some k_ ≠ (.slice Ao34 t390.length co34 : Value).ownBlock ∧ some k_ ≠ (.slice Ao35 t391.length co35 : Value).ownBlock) (Kd.R_keptB (HO_6.out) hkp (fun k_ hk_ hs_ => by (try dsimp only at hk_ hs_); simp only [hk_, or_self] at hs_)) (fun k_ hk_ => by (try dsimp only at hk_); simp only [hk_, ne_eq, not_false_eq_true, and_self])); have n1_ := Aside0.mk (Kd.R_reok rfl hy0 (fun k_ e_ => HO_10.out.1 k_ e_)); have n2_ := Aside0.mk (Kd.R_mono (ok' := fun k_ => some k_ ≠ (v343 : Value).ownBlock ∧ some k_ ≠ (.slice Ao86 t364.length co86 : Value).ownBlock ∧ some k_ ≠ (.slice Ao34 t390.length co34 : Value).ownBlock ∧ some k_ ≠ (.slice Ao35 t391.length co35 : Value).ownBlock) (Kd.R_keptB (HO_361002.out) hkp (fun k_ hk_ hs_ => by (try dsimp only at hk_ hs_); simp only [hk_, or_self] at hs_)) (fun k_ hk_ => by (try dsimp only at hk_); simp only [hk_, ne_eq, not_false_eq_true, and_self])); have n3_ := Aside0.mk (Kd.R_mono (ok' := fun k_ => some k_ ≠ (v343 : Value).ownBlock ∧ some k_ ≠ (.slice Ao86 t364.length co86 : Value).ownBlock ∧ some k_ ≠ (.slice Ao33 t389.length co33 : Value).ownBlock ∧ some k_ ≠ (.slice Ao35 t391.length co35 : Value).ownBlock) (Kd.R_keptB (HO_361003.out) hkp (fun k_ hk_ hs_ => by (try dsimp only at hk_ hs_); simp only [hk_, or_self] at hs_)) (fun k_ hk_ => by (try dsimp only at hk_); simp only [hk_, ne_eq, not_false_eq_true, and_self])); have n4_ := Aside0.mk (Kd.R_mono (ok' := fun k_ => some k_ ≠ (v343 : Value).ownBlock ∧ some k_ ≠ (.slice Ao86 t364.length co86 : Value).ownBlock ∧ some k_ ≠ (.slice Ao33 t389.length co33 : Value).ownBlock ∧ some k_ ≠ (.slice Ao34 t390.length co34 : Value).ownBlock) (Kd.R_keptB (HO_361004.out) hkp (fun k_ hk_ hs_ => by (try dsimp only at hk_ hs_); simp only [hk_, or_self] at hs_)) (fun k_ hk_ => by (try dsimp only at hk_); simp only [hk_, ne_eq, not_false_eq_true, and_self])); have n5_ := Aside0.mk (blk_kept (g := gb323) (by first | exact BK323.out | exact blk_drewN BK323.out _) hkp (fun hs_ => (fun e_ => (Kd.R_ne HO_10.out BK323.out (by decide)) e_) hs_)); have n6_ := Aside0.mk (blk_kept (g := gb360) (by first | exact BK360.out | exact blk_drewN BK360.out _) hkp (fun hs_ => (fun e_ => (Kd.R_ne HO_10.out BK360.out (by decide)) e_) hs_)); have n7_ := Aside0.mk (hb); clear HO_6; clear HO_10; clear HO_361002; clear HO_361003; clear HO_361004; clear BK323; clear BK360; clear HB; have HO_6 := n0_; have HO_10 := n1_; have HO_361002 := n2_; have HO_361003 := n3_; have HO_361004 := n4_; have BK323 := n5_; have BK360 := n6_; have HB := n7_; clear n0_ n1_ n2_ n3_ n4_ n5_ n6_ n7_; (try clear hb); (try clear hkp); (try clear hy0)) | ((with_reducible refine gate_callee (f := 19) rfl ?_); refine goesL_ (some 86) rfl rfl Try.func19 (by kernel_rfl) rfl #[.slice Ao86 t396.length co86, .int .i64 1] rfl (by (try simp only [List.map_toArray, List.map_cons, List.map_nil]); first | done | (rw [show t396.length = t364.length from (Kd.R_reads' HO_10.out).1.symm] <;> rfl) | rfl | (simp only [List.length_drop, List.length_take]; rfl)) ?_; (with_reducible refine (laws_heldByteS.calls kj54 _ _ t396 1 t397 _ ?side1 ?side2 A77.out).mono ?_); (case side1 => repeat (first | exact (Kd.R_reads' HO_10.out).2.2 | (with_reducible refine Kd.C_alloc ?_ _) | (with_reducible refine Kd.C_drewN ?_ _) | (with_reducible refine Kd.C_drew ?_))); (case side2 => rw [show t396.length = t364.length from (Kd.R_reads' HO_10.out).1.symm]; exact (Kd.R_reads' HO_10.out).2.1); rintro e w' ⟨rfl, ⟨nd, rfl⟩⟩; refine ⟨_, rfl, ?_⟩; have hnb88 := NB323_360.out; have hnc88 := NB360_323.out; have hcz89_0 : w87.cell? ⟨gb323, 0, none⟩ = some (.int .i64 a0_0) := (blk_cell BK323.out 0).trans rfl; have hcz89_1 : w87.cell? ⟨gb323, 1, none⟩ = some (.int .i64 a0_1) := (blk_cell BK323.out 1).trans rfl; have hcz89_2 : w87.cell? ⟨gb323, 2, none⟩ = some (.slice A0_2 l0_2.length c0_2) := (blk_cell BK323.out 2).trans rfl; have hcz89_3 : w87.cell? ⟨gb323, 3, none⟩ = some (.slice A0_3 l0_3.length c0_3) := (blk_cell BK323.out 3).trans rfl; have hcz89_4 : w87.cell? ⟨gb323, 4, none⟩ = some (.slice A0_4 l0_4.length c0_4) := (blk_cell BK323.out 4).trans rfl; have hcz89_5 : w87.cell? ⟨gb323, 5, none⟩ = some (.int .i64 a0_5) := (blk_cell BK323.out 5).trans rfl; have hcz89_6 : w87.cell? ⟨gb323, 6, none⟩ = some (.int .i64 a0_6) := (blk_cell BK323.out 6).trans rfl; have hcz89_7 : w87.cell? ⟨gb323, 7, none⟩ = some (.int .i64 a0_7) := (blk_cell BK323.out 7).trans rfl; have hfz89_0 := blk_frozen BK323.out 0; have hfz89_1 := blk_frozen BK323.out 1; have hfz89_2 := blk_frozen BK323.out 2; have hfz89_3 := blk_frozen BK323.out 3; have hfz89_4 := blk_frozen BK323.out 4; have hfz89_5 := blk_frozen BK323.out 5; have hfz89_6 := blk_frozen BK323.out 6; have hfz89_7 := blk_frozen BK323.out 7) | ((with_reducible refine gate_callee (f := 35) rfl ?_); refine goesL_ (some 94) rfl rfl Try.func35 (by kernel_rfl) rfl #[.agg #[.int .i64 a0_0, .int .i64 a0_1, .slice A0_2 l0_2.length c0_2, .slice A0_3 l0_3.length c0_3, .slice A0_4 l0_4.length c0_4, .int .i64 a0_5, .int .i64 a0_6, .int .i64 a0_7]] rfl (by (try simp only [List.map_toArray, List.map_cons, List.map_nil]); first | done | rfl | (simp only [List.length_drop, List.length_take]; rfl)) ?_; (with_reducible refine (laws_toHeader.calls kj54 a0_0 a0_1 _ _ l0_2 _ _ l0_3 _ _ l0_4 a0_5 a0_6 a0_7 t398 t399 t400 t403 t406 t409 t410 t411 _ ?side1 ?side2 ?side3 ?side4 ?side5 ?side6 A82.out).mono ?_); (case side1 => repeat (first | exact (Kd.C_below HR0_2.out (by repeat (first | (with_reducible first | exact HB.out | apply below_alloc | apply pw_below_drewN | apply below_drew1 | refine below_set ?_ GE323.out | refine below_set ?_ GE360.out) | exact HB.out))) | (with_reducible refine Kd.C_alloc ?_ _) | (with_reducible refine Kd.C_drewN ?_ _) | (with_reducible refine Kd.C_drew ?_))); (case side2 => exact HC0_2.out); (case side3 => repeat (first | exact (Kd.C_below HR0_3.out (by repeat (first | (with_reducible first | exact HB.out | apply below_alloc | apply pw_below_drewN | apply below_drew1 | refine below_set ?_ GE323.out | refine below_set ?_ GE360.out) | exact HB.out))) | (with_reducible refine Kd.C_alloc ?_ _) | (with_reducible refine Kd.C_drewN ?_ _) | (with_reducible refine Kd.C_drew ?_))); (case side4 => exact HC0_3.out); (case side5 => repeat (first | exact (Kd.C_below HR0_4.out (by repeat (first | (with_reducible first | exact HB.out | apply below_alloc | apply pw_below_drewN | apply below_drew1 | refine below_set ?_ GE323.out | refine below_set ?_ GE360.out) | exact HB.out))) | (with_reducible refine Kd.C_alloc ?_ _) | (with_reducible refine Kd.C_drewN ?_ _) | (with_reducible refine Kd.C_drew ?_))); (case side6 => exact HC0_4.out); rintro e w90 ⟨v401, v404, v407, rfl, ho0, ho1, ho2, hb⟩; refine ⟨_, rfl, ?_⟩; have n0_ := Aside0.mk (Kd.R_mono (Kd.R_told (Kd.R_told (Kd.R_told (Kd.R_old (by (with_reducible repeat (first | apply Kd.R_alloc | apply Kd.R_drewN | apply Kd.R_drew)); exact HO_6.out) hb) (Kd.R_base ho0)) (Kd.R_base ho1)) (Kd.R_base ho2)) (fun _ h_ => h_.1)); have n1_ := Aside0.mk (Kd.R_mono (Kd.R_told (Kd.R_told (Kd.R_told (Kd.R_old (by (with_reducible repeat (first | apply Kd.R_alloc | apply Kd.R_drewN | apply Kd.R_drew)); exact HO_10.out) hb) (Kd.R_base ho0)) (Kd.R_base ho1)) (Kd.R_base ho2)) (fun _ h_ => h_.1)); have n2_ := Aside0.mk (Kd.R_mono (Kd.R_told (Kd.R_told (Kd.R_told (Kd.R_old (by (with_reducible repeat (first | apply Kd.R_alloc | apply Kd.R_drewN | apply Kd.R_drew)); exact HO_361002.out) hb) (Kd.R_base ho0)) (Kd.R_base ho1)) (Kd.R_base ho2)) (fun _ h_ => h_.1)); have n3_ := Aside0.mk (Kd.R_mono (Kd.R_told (Kd.R_told (Kd.R_told (Kd.R_old (by (with_reducible repeat (first | apply Kd.R_alloc | apply Kd.R_drewN | apply Kd.R_drew)); exact HO_361003.out) hb) (Kd.R_base ho0)) (Kd.R_base ho1)) (Kd.R_base ho2)) (fun _ h_ => h_.1)); have n4_ := Aside0.mk (Kd.R_mono (Kd.R_told (Kd.R_told (Kd.R_told (Kd.R_old (by (with_reducible repeat (first | apply Kd.R_alloc | apply Kd.R_drewN | apply Kd.R_drew)); exact HO_361004.out) hb) (Kd.R_base ho0)) (Kd.R_base ho1)) (Kd.R_base ho2)) (fun _ h_ => h_.1)); have n5_ := Aside0.mk (Kd.R_lower (Kd.R_new' (Kd.R_new' (Kd.R_new' (Kd.R_new' (Kd.R_new' ho0 (Kd.R_lt (by (with_reducible repeat (first | apply Kd.R_alloc | apply Kd.R_drewN | apply Kd.R_drew)); exact HO_6.out))) (Kd.R_lt (by (with_reducible repeat (first | apply Kd.R_alloc | apply Kd.R_drewN | apply Kd.R_drew)); exact HO_10.out))) (Kd.R_lt (by (with_reducible repeat (first | apply Kd.R_alloc | apply Kd.R_drewN | apply Kd.R_drew)); exact HO_361002.out))) (Kd.R_lt (by (with_reducible repeat (first | apply Kd.R_alloc | apply Kd.R_drewN | apply Kd.R_drew)); exact HO_361003.out))) (Kd.R_lt (by (with_reducible repeat (first | apply Kd.R_alloc | apply Kd.R_drewN | apply Kd.R_drew)); exact HO_361004.out))) (below_size (by repeat (first | (with_reducible first | exact HB.out | apply below_alloc | apply pw_below_drewN | apply below_drew1 | refine below_set ?_ GE323.out | refine below_set ?_ GE360.out) | exact HB.out)))); have n6_ := Aside0.mk (Kd.R_lower (Kd.R_new' (Kd.R_new' (Kd.R_new' (Kd.R_new' (Kd.R_new' ho1 (Kd.R_lt (by (with_reducible repeat (first | apply Kd.R_alloc | apply Kd.R_drewN | apply Kd.R_drew)); exact HO_6.out))) (Kd.R_lt (by (with_reducible repeat (first | apply Kd.R_alloc | apply Kd.R_drewN | apply Kd.R_drew)); exact HO_10.out))) (Kd.R_lt (by (with_reducible repeat (first | apply Kd.R_alloc | apply Kd.R_drewN | apply Kd.R_drew)); exact HO_361002.out))) (Kd.R_lt (by (with_reducible repeat (first | apply Kd.R_alloc | apply Kd.R_drewN | apply Kd.R_drew)); exact HO_361003.out))) (Kd.R_lt (by (with_reducible repeat (first | apply Kd.R_alloc | apply Kd.R_drewN | apply Kd.R_drew)); exact HO_361004.out))) (below_size (by repeat (first | (with_reducible first | exact HB.out | apply below_alloc | apply pw_below_drewN | apply below_drew1 | refine below_set ?_ GE323.out | refine below_set ?_ GE360.out) | exact HB.out)))); have n7_ := Aside0.mk (Kd.R_lower (Kd.R_new' (Kd.R_new' (Kd.R_new' (Kd.R_new' (Kd.R_new' ho2 (Kd.R_lt (by (with_reducible repeat (first | apply Kd.R_alloc | apply Kd.R_drewN | apply Kd.R_drew)); exact HO_6.out))) (Kd.R_lt (by (with_reducible repeat (first | apply Kd.R_alloc | apply Kd.R_drewN | apply Kd.R_drew)); exact HO_10.out))) (Kd.R_lt (by (with_reducible repeat (first | apply Kd.R_alloc | apply Kd.R_drewN | apply Kd.R_drew)); exact HO_361002.out))) (Kd.R_lt (by (with_reducible repeat (first | apply Kd.R_alloc | apply Kd.R_drewN | apply Kd.R_drew)); exact HO_361003.out))) (Kd.R_lt (by (with_reducible repeat (first | apply Kd.R_alloc | apply Kd.R_drewN | apply Kd.R_drew)); exact HO_361004.out))) (below_size (by repeat (first | (with_reducible first | exact HB.out | apply below_alloc | apply pw_below_drewN | apply below_drew1 | refine below_set ?_ GE323.out | refine below_set ?_ GE360.out) | exact HB.out)))); have n8_ := Aside0.mk (blk_below (g := gb323) (o := .cells #[.int .i64 a0_0, .int .i64 a0_1, .slice A0_2 l0_2.length c0_2, .slice A0_3 l0_3.length c0_3, .slice A0_4 l0_4.length c0_4, .int .i64 a0_5, .int .i64 a0_6, .int .i64 a0_7] 41 (0, 0)) (by (with_reducible repeat (first | refine blk_drewN ?_ _ | refine blk_drew ?_ | refine blk_alloc ?_ _)); exact BK323.out) hb); have n9_ := Aside0.mk (blk_below (g := gb360) (o := .cells #[.int .i64 t346, .int .i64 t347, .slice Ao33 t389.length co33, .slice Ao34 t390.length co34, .slice Ao35 t391.length co35, .int .i64 t357, .int .i64 t358, .int .i64 t359] 45 (0, 0)) (by (with_reducible repeat (first | refine blk_drewN ?_ _ | refine blk_drew ?_ | refine blk_alloc ?_ _)); exact BK360.out) hb); have n10_ := Aside0.mk (below_step (by repeat (first | (with_reducible first | exact HB.out | apply below_alloc | apply pw_below_drewN | apply below_drew1 | refine below_set ?_ GE323.out | refine below_set ?_ GE360.out) | exact HB.out)) hb); clear HO_6; clear HO_10; clear HO_361002; clear HO_361003; clear HO_361004; clear BK323; clear BK360; clear HB; have HO_6 := n0_; have HO_10 := n1_; have HO_361002 := n2_; have HO_361003 := n3_; have HO_361004 := n4_; have HO402 := n5_; have HO405 := n6_; have HO408 := n7_; have BK323 := n8_; have BK360 := n9_; have HB := n10_; clear n0_ n1_ n2_ n3_ n4_ n5_ n6_ n7_ n8_ n9_ n10_; (try clear hb); (try clear hb2); (try clear hk); (try clear hi); (try clear ho0); (try clear ho1); (try clear ho2)) | ((with_reducible refine gate_callee (f := 15) rfl ?_); refine goesL_ (some 96) rfl rfl Try.func15 (by kernel_rfl) rfl #[.slice A1 l1.length c1] rfl (by (try simp only [List.map_toArray, List.map_cons, List.map_nil]); first | done | rfl | (simp only [List.length_drop, List.length_take]; rfl)) ?_; (with_reducible refine (laws_toByteS.calls kj54 _ _ l1 t412 _ ?side1 ?side2 A83.out).mono ?_); (case side1 => repeat (first | exact (Kd.C_below HR1.out HB.out) | (with_reducible refine Kd.C_alloc ?_ _) | (with_reducible refine Kd.C_drewN ?_ _) | (with_reducible refine Kd.C_drew ?_))); (case side2 => exact HC1.out); rintro e w91 ⟨v413, rfl, ho0, hb⟩; refine ⟨_, rfl, ?_⟩; have n0_ := Aside0.mk (Kd.R_elder' (by (with_reducible repeat (first | apply Kd.R_alloc | apply Kd.R_drewN | apply Kd.R_drew)); exact HO_6.out) (Kd.R_base ho0) hb); have n1_ := Aside0.mk (Kd.R_elder' (by (with_reducible repeat (first | apply Kd.R_alloc | apply Kd.R_drewN | apply Kd.R_drew)); exact HO_10.out) (Kd.R_base ho0) hb); have n2_ := Aside0.mk (Kd.R_elder' (by (with_reducible repeat (first | apply Kd.R_alloc | apply Kd.R_drewN | apply Kd.R_drew)); exact HO_361002.out) (Kd.R_base ho0) hb); have n3_ := Aside0.mk (Kd.R_elder' (by (with_reducible repeat (first | apply Kd.R_alloc | apply Kd.R_drewN | apply Kd.R_drew)); exact HO_361003.out) (Kd.R_base ho0) hb); have n4_ := Aside0.mk (Kd.R_elder' (by (with_reducible repeat (first | apply Kd.R_alloc | apply Kd.R_drewN | apply Kd.R_drew)); exact HO_361004.out) (Kd.R_base ho0) hb); have n5_ := Aside0.mk (Kd.R_elder' (by (with_reducible repeat (first | apply Kd.R_alloc | apply Kd.R_drewN | apply Kd.R_drew)); exact HO402.out) (Kd.R_base ho0) hb); have n6_ := Aside0.mk (Kd.R_elder' (by (with_reducible repeat (first | apply Kd.R_alloc | apply Kd.R_drewN | apply Kd.R_drew)); exact HO405.out) (Kd.R_base ho0) hb); have n7_ := Aside0.mk (Kd.R_elder' (by (with_reducible repeat (first | apply Kd.R_alloc | apply Kd.R_drewN | apply Kd.R_drew)); exact HO408.out) (Kd.R_base ho0) hb); have n8_ := Aside0.mk (Kd.R_lower (Kd.R_new' (Kd.R_new' (Kd.R_new' (Kd.R_new' (Kd.R_new' (Kd.R_new' (Kd.R_new' (Kd.R_new' ho0 (Kd.R_lt (by (with_reducible repeat (first | apply Kd.R_alloc | apply Kd.R_drewN | apply Kd.R_drew)); exact HO_6.out))) (Kd.R_lt (by (with_reducible repeat (first | apply Kd.R_alloc | apply Kd.R_drewN | apply Kd.R_drew)); exact HO_10.out))) (Kd.R_lt (by (with_reducible repeat (first | apply Kd.R_alloc | apply Kd.R_drewN | apply Kd.R_drew)); exact HO_361002.out))) (Kd.R_lt (by (with_reducible repeat (first | apply Kd.R_alloc | apply Kd.R_drewN | apply Kd.R_drew)); exact HO_361003.out))) (Kd.R_lt (by (with_reducible repeat (first | apply Kd.R_alloc | apply Kd.R_drewN | apply Kd.R_drew)); exact HO_361004.out))) (Kd.R_lt (by (with_reducible repeat (first | apply Kd.R_alloc | apply Kd.R_drewN | apply Kd.R_drew)); exact HO402.out))) (Kd.R_lt (by (with_reducible repeat (first | apply Kd.R_alloc | apply Kd.R_drewN | apply Kd.R_drew)); exact HO405.out))) (Kd.R_lt (by (with_reducible repeat (first | apply Kd.R_alloc | apply Kd.R_drewN | apply Kd.R_drew)); exact HO408.out))) (below_size (by repeat (first | (with_reducible first | exact HB.out | apply below_alloc | apply pw_below_drewN | apply below_drew1 | refine below_set ?_ GE323.out | refine below_set ?_ GE360.out) | exact HB.out)))); have n9_ := Aside0.mk (blk_below (g := gb323) (o := .cells #[.int .i64 a0_0, .int .i64 a0_1, .slice A0_2 l0_2.length c0_2, .slice A0_3 l0_3.length c0_3, .slice A0_4 l0_4.length c0_4, .int .i64 a0_5, .int .i64 a0_6, .int .i64 a0_7] 41 (0, 0)) (by (with_reducible repeat (first | refine blk_drewN ?_ _ | refine blk_drew ?_ | refine blk_alloc ?_ _)); exact BK323.out) hb); have n10_ := Aside0.mk (blk_below (g := gb360) (o := .cells #[.int .i64 t346, .int .i64 t347, .slice Ao33 t389.length co33, .slice Ao34 t390.length co34, .slice Ao35 t391.length co35, .int .i64 t357, .int .i64 t358, .int .i64 t359] 45 (0, 0)) (by (with_reducible repeat (first | refine blk_drewN ?_ _ | refine blk_drew ?_ | refine blk_alloc ?_ _)); exact BK360.out) hb); have n11_ := Aside0.mk (below_step (by repeat (first | (with_reducible first | exact HB.out | apply below_alloc | apply pw_below_drewN | apply below_drew1 | refine below_set ?_ GE323.out | refine below_set ?_ GE360.out) | exact HB.out)) hb); clear HO_6; clear HO_10; clear HO_361002; clear HO_361003; clear HO_361004; clear HO402; clear HO405; clear HO408; clear BK323; clear BK360; clear HB; have HO_6 := n0_; have HO_10 := n1_; have HO_361002 := n2_; have HO_361003 := n3_; have HO_361004 := n4_; have HO402 := n5_; have HO405 := n6_; have HO408 := n7_; have HO414 := n8_; have BK323 := n9_; have BK360 := n10_; have HB := n11_; clear n0_ n1_ n2_ n3_ n4_ n5_ n6_ n7_ n8_ n9_ n10_ n11_; (try clear hb); (try clear hb2); (try clear hk); (try clear hi); (try clear ho0); obtain ⟨Ao92, co92, eo92⟩ := Kd.R_slice HO402.out; subst eo92; obtain ⟨Ao93, co93, eo93⟩ := Kd.R_slice HO405.out; subst eo93; obtain ⟨Ao94, co94, eo94⟩ := Kd.R_slice HO408.out; subst eo94; obtain ⟨Ao95, co95, eo95⟩ := Kd.R_slice HO414.out; subst eo95) | ((with_reducible refine gate_callee (f := 36) rfl ?_); refine goesL_ (some 97) rfl rfl Try.func36 (by kernel_rfl) rfl #[.agg #[.int .i64 t398, .int .i64 t399, .slice Ao92 t400.length co92, .slice Ao93 t403.length co93, .slice Ao94 t406.length co94, .int .i64 t409, .int .i64 t410, .int .i64 t411], .slice Ao95 t412.length co95] rfl (by (try simp only [List.map_toArray, List.map_cons, List.map_nil]); first | done | rfl | (simp only [List.length_drop, List.length_take]; rfl)) ?_; (with_reducible refine (impl_RetryPacket.calls kj54 t398 t399 _ _ t400 _ _ t403 _ _ t406 t409 t410 t411 _ _ t412 t415 t418 _ ?side1 ?side2 ?side3 ?side4 ?side5 ?side6 ?side7 ?side8 A84.out).mono ?_); (case side1 => repeat (first | exact (Kd.R_reads' HO402.out).2.2 | (with_reducible refine Kd.C_alloc ?_ _) | (with_reducible refine Kd.C_drewN ?_ _) | (with_reducible refine Kd.C_drew ?_))); (case side2 => exact (Kd.R_reads' HO402.out).2.1); (case side3 => repeat (first | exact (Kd.R_reads' HO405.out).2.2 | (with_reducible refine Kd.C_alloc ?_ _) | (with_reducible refine Kd.C_drewN ?_ _) | (with_reducible refine Kd.C_drew ?_))); (case side4 => exact (Kd.R_reads' HO405.out).2.1); (case side5 => repeat (first | exact (Kd.R_reads' HO408.out).2.2 | (with_reducible refine Kd.C_alloc ?_ _) | (with_reducible refine Kd.C_drewN ?_ _) | (with_reducible refine Kd.C_drew ?_))); (case side6 => exact (Kd.R_reads' HO408.out).2.1); (case side7 => repeat (first | exact (Kd.R_reads' HO414.out).2.2 | (with_reducible refine Kd.C_alloc ?_ _) | (with_reducible refine Kd.C_drewN ?_ _) | (with_reducible refine Kd.C_drew ?_))); (case side8 => exact (Kd.R_reads' HO414.out).2.1); rintro e w96 ⟨v416, rfl, ho0, hb⟩; refine ⟨_, rfl, ?_⟩; have n0_ := Aside0.mk (Kd.R_elder' (by (with_reducible repeat (first | apply Kd.R_alloc | apply Kd.R_drewN | apply Kd.R_drew)); exact HO_6.out) (Kd.R_base ho0) hb); have n1_ := Aside0.mk (Kd.R_elder' (by (with_reducible repeat (first | apply Kd.R_alloc | apply Kd.R_drewN | apply Kd.R_drew)); exact HO_10.out) (Kd.R_base ho0) hb); have n2_ := Aside0.mk (Kd.R_elder' (by (with_reducible repeat (first | apply Kd.R_alloc | apply Kd.R_drewN | apply Kd.R_drew)); exact HO_361002.out) (Kd.R_base ho0) hb); have n3_ := Aside0.mk (Kd.R_elder' (by (with_reducible repeat (first | apply Kd.R_alloc | apply Kd.R_drewN | apply Kd.R_drew)); exact HO_361003.out) (Kd.R_base ho0) hb); have n4_ := Aside0.mk (Kd.R_elder' (by (with_reducible repeat (first | apply Kd.R_alloc | apply Kd.R_drewN | apply Kd.R_drew)); exact HO_361004.out) (Kd.R_base ho0) hb); have n5_ := Aside0.mk (Kd.R_elder' (by (with_reducible repeat (first | apply Kd.R_alloc | apply Kd.R_drewN | apply Kd.R_drew)); exact HO402.out) (Kd.R_base ho0) hb); have n6_ := Aside0.mk (Kd.R_elder' (by (with_reducible repeat (first | apply Kd.R_alloc | apply Kd.R_drewN | apply Kd.R_drew)); exact HO405.out) (Kd.R_base ho0) hb); have n7_ := Aside0.mk (Kd.R_elder' (by (with_reducible repeat (first | apply Kd.R_alloc | apply Kd.R_drewN | apply Kd.R_drew)); exact HO408.out) (Kd.R_base ho0) hb); have n8_ := Aside0.mk (Kd.R_elder' (by (with_reducible repeat (first | apply Kd.R_alloc | apply Kd.R_drewN | apply Kd.R_drew)); exact HO414.out) (Kd.R_base ho0) hb); have n9_ := Aside0.mk (Kd.R_lower (Kd.R_new' (Kd.R_new' (Kd.R_new' (Kd.R_new' (Kd.R_new' (Kd.R_new' (Kd.R_new' (Kd.R_new' (Kd.R_new' ho0 (Kd.R_lt (by (with_reducible repeat (first | apply Kd.R_alloc | apply Kd.R_drewN | apply Kd.R_drew)); exact HO_6.out))) (Kd.R_lt (by (with_reducible repeat (first | apply Kd.R_alloc | apply Kd.R_drewN | apply Kd.R_drew)); exact HO_10.out))) (Kd.R_lt (by (with_reducible repeat (first | apply Kd.R_alloc | apply Kd.R_drewN | apply Kd.R_drew)); exact HO_361002.out))) (Kd.R_lt (by (with_reducible repeat (first | apply Kd.R_alloc | apply Kd.R_drewN | apply Kd.R_drew)); exact HO_361003.out))) (Kd.R_lt (by (with_reducible repeat (first | apply Kd.R_alloc | apply Kd.R_drewN | apply Kd.R_drew)); exact HO_361004.out))) (Kd.R_lt (by (with_reducible repeat (first | apply Kd.R_alloc | apply Kd.R_drewN | apply Kd.R_drew)); exact HO402.out))) (Kd.R_lt (by (with_reducible repeat (first | apply Kd.R_alloc | apply Kd.R_drewN | apply Kd.R_drew)); exact HO405.out))) (Kd.R_lt (by (with_reducible repeat (first | apply Kd.R_alloc | apply Kd.R_drewN | apply Kd.R_drew)); exact HO408.out))) (Kd.R_lt (by (with_reducible repeat (first | apply Kd.R_alloc | apply Kd.R_drewN | apply Kd.R_drew)); exact HO414.out))) (below_size (by repeat (first | (with_reducible first | exact HB.out | apply below_alloc | apply pw_below_drewN | apply below_drew1 | refine below_set ?_ GE323.out | refine below_set ?_ GE360.out) | exact HB.out)))); have n10_ := Aside0.mk (blk_below (g := gb323) (o := .cells #[.int .i64 a0_0, .int .i64 a0_1, .slice A0_2 l0_2.length c0_2, .slice A0_3 l0_3.length c0_3, .slice A0_4 l0_4.length c0_4, .int .i64 a0_5, .int .i64 a0_6, .int .i64 a0_7] 41 (0, 0)) (by (with_reducible repeat (first | refine blk_drewN ?_ _ | refine blk_drew ?_ | refine blk_alloc ?_ _)); exact BK323.out) hb); have n11_ := Aside0.mk (blk_below (g := gb360) (o := .cells #[.int .i64 t346, .int .i64 t347, .slice Ao33 t389.length co33, .slice Ao34 t390.length co34, .slice Ao35 t391.length co35, .int .i64 t357, .int .i64 t358, .int .i64 t359] 45 (0, 0)) (by (with_reducible repeat (first | refine blk_drewN ?_ _ | refine blk_drew ?_ | refine blk_alloc ?_ _)); exact BK360.out) hb); have n12_ := Aside0.mk (below_step (by repeat (first | (with_reducible first | exact HB.out | apply below_alloc | apply pw_below_drewN | apply below_drew1 | refine below_set ?_ GE323.out | refine below_set ?_ GE360.out) | exact HB.out)) hb); clear HO_6; clear HO_10; clear HO_361002; clear HO_361003; clear HO_361004; clear HO402; clear HO405; clear HO408; clear HO414; clear BK323; clear BK360; clear HB; have HO_6 := n0_; have HO_10 := n1_; have HO_361002 := n2_; have HO_361003 := n3_; have HO_361004 := n4_; have HO402 := n5_; have HO405 := n6_; have HO408 := n7_; have HO414 := n8_; have HO417 := n9_; have BK323 := n10_; have BK360 := n11_; have HB := n12_; clear n0_ n1_ n2_ n3_ n4_ n5_ n6_ n7_ n8_ n9_ n10_ n11_ n12_; (try clear hb); (try clear hb2); (try clear hk); (try clear hi); (try clear ho0)))
                          (try simp only [Act.put, List.setIfInBounds_toArray, List.set_cons_zero, List.set_cons_succ])
                          go_cut [108] (fun v108 wc => ∃ (kq : Nat) (x108_84 : Bool), v108 = .bool x108_84 ∧ Aside0 (laws_FnExactRetryPacket.j2 kq t396 t395 x108_84 = some true) ∧ Aside0 (kq ≤ kj54) ∧ Aside0 (Kd.R (Kd.int .u8) 5 wc w.heap.size (fun k_ => some k_ ≠ ((.slice Ao33 t389.length co33) : Value).ownBlock ∧ some k_ ≠ ((.slice Ao34 t390.length co34) : Value).ownBlock ∧ some k_ ≠ ((.slice Ao35 t391.length co35) : Value).ownBlock) (.slice Ao86 t364.length co86) t396) ∧ Aside0 (Kd.R (Kd.int .u8) 5 wc w.heap.size (fun k_ => some k_ ≠ ((.slice Ao86 t364.length co86) : Value).ownBlock ∧ some k_ ≠ ((.slice Ao34 t390.length co34) : Value).ownBlock ∧ some k_ ≠ ((.slice Ao35 t391.length co35) : Value).ownBlock) (.slice Ao33 t389.length co33) t389) ∧ Aside0 (Kd.R (Kd.int .u8) 5 wc w.heap.size (fun k_ => some k_ ≠ ((.slice Ao86 t364.length co86) : Value).ownBlock ∧ some k_ ≠ ((.slice Ao33 t389.length co33) : Value).ownBlock ∧ some k_ ≠ ((.slice Ao35 t391.length co35) : Value).ownBlock) (.slice Ao34 t390.length co34) t390) ∧ Aside0 (Kd.R (Kd.int .u8) 5 wc w.heap.size (fun k_ => some k_ ≠ ((.slice Ao86 t364.length co86) : Value).ownBlock ∧ some k_ ≠ ((.slice Ao33 t389.length co33) : Value).ownBlock ∧ some k_ ≠ ((.slice Ao34 t390.length co34) : Value).ownBlock) (.slice Ao35 t391.length co35) t391) ∧ Aside0 (wc.heap[gb323]? = some (.cells #[.int .i64 a0_0, .int .i64 a0_1, (.slice A0_2 l0_2.length c0_2), (.slice A0_3 l0_3.length c0_3), (.slice A0_4 l0_4.length c0_4), .int .i64 a0_5, .int .i64 a0_6, .int .i64 a0_7] 41 (0, 0))) ∧ Aside0 (wc.heap[gb360]? = some (.cells #[.int .i64 t346, .int .i64 t347, (.slice Ao33 t389.length co33), (.slice Ao34 t390.length co34), (.slice Ao35 t391.length co35), .int .i64 t357, .int .i64 t358, .int .i64 t359] 45 (0, 0))) ∧ Aside0 (Below w.heap.size w wc))
                          case first =>
                            have H := HC85.out
                            clear HC85
                            replace H := Option.bind_eq_some_iff.mp H
                            obtain ⟨t419, A970, H⟩ := H
                            replace H : (if t419 = true then (laws_FnExactRetryPacket.j2 kj54 t396 t395 (t418 != t345)) else (laws_FnExactRetryPacket.j2 kj54 t396 t395 true)) = some true := H
                            have A97 := Aside0.mk A970
                            clear A970
                            by_cases c98 : t419 = true
                            · subst c98
                              have H1 : (laws_FnExactRetryPacket.j2 kj54 t396 t395 (t418 != t345)) = some true := by rw [if_pos rfl] at H; exact H
                              clear H
                              have H := H1
                              clear H1
                              have H' := Aside0.mk H
                              clear H
                              obtain ⟨Ao99, co99, eo99⟩ := Kd.R_slice HO417.out
                              subst eo99
                              obtain ⟨Ao100, co100, eo100⟩ := Kd.R_slice HO_6.out
                              subst eo100
                              go_wp2_with (first | ((with_reducible refine gate_callee (f := 17) rfl ?_); refine goesL_ (some 102) rfl rfl Try.func17 (by kernel_rfl) rfl #[.slice Ao99 t415.length co99, .slice Ao100 t342.length co100] rfl (by (try simp only [List.map_toArray, List.map_cons, List.map_nil]); first | done | rfl | (simp only [List.length_drop, List.length_take]; rfl)) ?_; (with_reducible refine (laws_eqByteS.calls kj54 _ _ t415 _ _ t342 true _ ?side1 ?side2 ?side3 ?side4 A97.out).mono ?_); (case side1 => repeat (first | exact (Kd.R_reads' HO417.out).2.2 | (with_reducible refine Kd.C_alloc ?_ _) | (with_reducible refine Kd.C_drewN ?_ _) | (with_reducible refine Kd.C_drew ?_))); (case side2 => exact (Kd.R_reads' HO417.out).2.1); (case side3 => repeat (first | exact (Kd.R_reads' HO_6.out).2.2 | (with_reducible refine Kd.C_alloc ?_ _) | (with_reducible refine Kd.C_drewN ?_ _) | (with_reducible refine Kd.C_drew ?_))); (case side4 => exact (Kd.R_reads' HO_6.out).2.1); rintro e w' ⟨rfl, ⟨nd, rfl⟩⟩; refine ⟨_, rfl, ?_⟩))
                              go_meet
                              case rel => exact ⟨_, ((t418 != t345)), (by first | rfl | (simp; done) | (simp [*]; done)), H', ⟨by have := HJ15.out; have := HJ54.out; first | omega | exact Nat.le_refl _⟩, ⟨by (try simp only [hl361002_54]); (try simp only [hl361003_54]); (try simp only [hl361004_54]); (with_reducible repeat (first | apply Kd.R_alloc | apply Kd.R_drewN | apply Kd.R_drew)); exact Kd.R_mono HO_10.out (fun _ hk => ⟨hk.1.1.1.1.1.2.1, ⟨hk.1.1.1.1.1.2.2.1, hk.1.1.1.1.1.2.2.2⟩⟩)⟩, ⟨by (try simp only [hl361002_54]); (try simp only [hl361003_54]); (try simp only [hl361004_54]); (with_reducible repeat (first | apply Kd.R_alloc | apply Kd.R_drewN | apply Kd.R_drew)); exact Kd.R_mono HO_361002.out (fun _ hk => ⟨hk.1.1.1.1.1.2.1, ⟨hk.1.1.1.1.1.2.2.1, hk.1.1.1.1.1.2.2.2⟩⟩)⟩, ⟨by (try simp only [hl361002_54]); (try simp only [hl361003_54]); (try simp only [hl361004_54]); (with_reducible repeat (first | apply Kd.R_alloc | apply Kd.R_drewN | apply Kd.R_drew)); exact Kd.R_mono HO_361003.out (fun _ hk => ⟨hk.1.1.1.1.1.2.1, ⟨hk.1.1.1.1.1.2.2.1, hk.1.1.1.1.1.2.2.2⟩⟩)⟩, ⟨by (try simp only [hl361002_54]); (try simp only [hl361003_54]); (try simp only [hl361004_54]); (with_reducible repeat (first | apply Kd.R_alloc | apply Kd.R_drewN | apply Kd.R_drew)); exact Kd.R_mono HO_361004.out (fun _ hk => ⟨hk.1.1.1.1.1.2.1, ⟨hk.1.1.1.1.1.2.2.1, hk.1.1.1.1.1.2.2.2⟩⟩)⟩, ⟨by (try simp only [hl361002_54]); (try simp only [hl361003_54]); (try simp only [hl361004_54]); (with_reducible repeat (first | refine blk_drewN ?_ _ | refine blk_drew ?_ | refine blk_alloc ?_ _)); exact BK323.out⟩, ⟨by (try simp only [hl361002_54]); (try simp only [hl361003_54]); (try simp only [hl361004_54]); (with_reducible repeat (first | refine blk_drewN ?_ _ | refine blk_drew ?_ | refine blk_alloc ?_ _)); exact BK360.out⟩, ⟨by repeat (first | (with_reducible first | exact HB.out | apply below_alloc | apply pw_below_drewN | apply below_drew1 | refine below_set ?_ GE323.out | refine below_set ?_ GE360.out) | exact HB.out)⟩⟩
                            · replace c98 := Bool.eq_false_iff.mpr c98
                              subst c98
                              have H1 : (laws_FnExactRetryPacket.j2 kj54 t396 t395 true) = some true := by rw [if_neg (show ¬ (false = true) by decide)] at H; exact H
                              clear H
                              have H := H1
                              clear H1
                              have H' := Aside0.mk H
                              clear H
                              obtain ⟨Ao101, co101, eo101⟩ := Kd.R_slice HO417.out
                              subst eo101
                              obtain ⟨Ao102, co102, eo102⟩ := Kd.R_slice HO_6.out
                              subst eo102
                              go_wp2_with (first | ((with_reducible refine gate_callee (f := 17) rfl ?_); refine goesL_ (some 102) rfl rfl Try.func17 (by kernel_rfl) rfl #[.slice Ao101 t415.length co101, .slice Ao102 t342.length co102] rfl (by (try simp only [List.map_toArray, List.map_cons, List.map_nil]); first | done | rfl | (simp only [List.length_drop, List.length_take]; rfl)) ?_; (with_reducible refine (laws_eqByteS.calls kj54 _ _ t415 _ _ t342 false _ ?side1 ?side2 ?side3 ?side4 A97.out).mono ?_); (case side1 => repeat (first | exact (Kd.R_reads' HO417.out).2.2 | (with_reducible refine Kd.C_alloc ?_ _) | (with_reducible refine Kd.C_drewN ?_ _) | (with_reducible refine Kd.C_drew ?_))); (case side2 => exact (Kd.R_reads' HO417.out).2.1); (case side3 => repeat (first | exact (Kd.R_reads' HO_6.out).2.2 | (with_reducible refine Kd.C_alloc ?_ _) | (with_reducible refine Kd.C_drewN ?_ _) | (with_reducible refine Kd.C_drew ?_))); (case side4 => exact (Kd.R_reads' HO_6.out).2.1); rintro e w' ⟨rfl, ⟨nd, rfl⟩⟩; refine ⟨_, rfl, ?_⟩))
                              go_meet
                              case rel => exact ⟨_, (true), (by first | rfl | (simp; done) | (simp [*]; done)), H', ⟨by have := HJ15.out; have := HJ54.out; first | omega | exact Nat.le_refl _⟩, ⟨by (try simp only [hl361002_54]); (try simp only [hl361003_54]); (try simp only [hl361004_54]); (with_reducible repeat (first | apply Kd.R_alloc | apply Kd.R_drewN | apply Kd.R_drew)); exact Kd.R_mono HO_10.out (fun _ hk => ⟨hk.1.1.1.1.1.2.1, ⟨hk.1.1.1.1.1.2.2.1, hk.1.1.1.1.1.2.2.2⟩⟩)⟩, ⟨by (try simp only [hl361002_54]); (try simp only [hl361003_54]); (try simp only [hl361004_54]); (with_reducible repeat (first | apply Kd.R_alloc | apply Kd.R_drewN | apply Kd.R_drew)); exact Kd.R_mono HO_361002.out (fun _ hk => ⟨hk.1.1.1.1.1.2.1, ⟨hk.1.1.1.1.1.2.2.1, hk.1.1.1.1.1.2.2.2⟩⟩)⟩, ⟨by (try simp only [hl361002_54]); (try simp only [hl361003_54]); (try simp only [hl361004_54]); (with_reducible repeat (first | apply Kd.R_alloc | apply Kd.R_drewN | apply Kd.R_drew)); exact Kd.R_mono HO_361003.out (fun _ hk => ⟨hk.1.1.1.1.1.2.1, ⟨hk.1.1.1.1.1.2.2.1, hk.1.1.1.1.1.2.2.2⟩⟩)⟩, ⟨by (try simp only [hl361002_54]); (try simp only [hl361003_54]); (try simp only [hl361004_54]); (with_reducible repeat (first | apply Kd.R_alloc | apply Kd.R_drewN | apply Kd.R_drew)); exact Kd.R_mono HO_361004.out (fun _ hk => ⟨hk.1.1.1.1.1.2.1, ⟨hk.1.1.1.1.1.2.2.1, hk.1.1.1.1.1.2.2.2⟩⟩)⟩, ⟨by (try simp only [hl361002_54]); (try simp only [hl361003_54]); (try simp only [hl361004_54]); (with_reducible repeat (first | refine blk_drewN ?_ _ | refine blk_drew ?_ | refine blk_alloc ?_ _)); exact BK323.out⟩, ⟨by (try simp only [hl361002_54]); (try simp only [hl361003_54]); (try simp only [hl361004_54]); (with_reducible repeat (first | refine blk_drewN ?_ _ | refine blk_drew ?_ | refine blk_alloc ?_ _)); exact BK360.out⟩, ⟨by repeat (first | (with_reducible first | exact HB.out | apply below_alloc | apply pw_below_drewN | apply below_drew1 | refine below_set ?_ GE323.out | refine below_set ?_ GE360.out) | exact HB.out)⟩⟩
                          case rest =>
                            clear HC85
                            try clear c1
                            try clear p2
                            try clear c3
                            try clear c3b0
                            try clear c3b1
                            try clear c4
                            try clear c5
                            try clear c6
                            try clear c6b0
                            try clear c7
                            try clear c8
                            try clear c9
                            try clear c15
                            try clear c17
                            try clear c18
                            try clear c19
                            try clear c31
                            try clear c33
                            try clear c34
                            try clear c35
                            try clear c36
                            try clear c37
                            try clear c38
                            try clear c41
                            try clear c46
                            try clear c49
                            try clear c52
                            try clear c64
                            try clear c68
                            try clear c68b0
                            try clear c70
                            try clear c75
                            try clear c78
                            try clear c78b0
                            try clear c81
                            try clear c81b0
                            try clear c81b1
                            try clear c88
                            try clear c98
                            try clear hcz18_0
                            try clear hcz18_1
                            try clear hcz18_2
                            try clear hcz18_3
                            try clear hcz18_4
                            try clear hcz18_5
                            try clear hcz18_6
                            try clear hcz18_7
                            try clear hcz20_0
                            try clear hcz20_1
                            try clear hcz20_2
                            try clear hcz20_3
                            try clear hcz20_4
                            try clear hcz20_5
                            try clear hcz20_6
                            try clear hcz20_7
                            try clear hcz28_0
                            try clear hcz28_1
                            try clear hcz28_2
                            try clear hcz28_3
                            try clear hcz28_4
                            try clear hcz28_5
                            try clear hcz28_6
                            try clear hcz28_7
                            try clear hcz32_0
                            try clear hcz32_1
                            try clear hcz32_2
                            try clear hcz32_3
                            try clear hcz32_4
                            try clear hcz32_5
                            try clear hcz32_6
                            try clear hcz32_7
                            try clear hcz37_0
                            try clear hcz37_1
                            try clear hcz37_2
                            try clear hcz37_3
                            try clear hcz37_4
                            try clear hcz37_5
                            try clear hcz37_6
                            try clear hcz37_7
                            try clear hcz65_0
                            try clear hcz65_1
                            try clear hcz65_2
                            try clear hcz65_3
                            try clear hcz65_4
                            try clear hcz65_5
                            try clear hcz65_6
                            try clear hcz65_7
                            try clear hcz89_0
                            try clear hcz89_1
                            try clear hcz89_2
                            try clear hcz89_3
                            try clear hcz89_4
                            try clear hcz89_5
                            try clear hcz89_6
                            try clear hcz89_7
                            try clear hcz8_0
                            try clear hcz8_1
                            try clear hcz8_2
                            try clear hcz8_3
                            try clear hcz8_4
                            try clear hcz8_5
                            try clear hcz8_6
                            try clear hcz8_7
                            try clear hfz18_0
                            try clear hfz18_1
                            try clear hfz18_2
                            try clear hfz18_3
                            try clear hfz18_4
                            try clear hfz18_5
                            try clear hfz18_6
                            try clear hfz18_7
                            try clear hfz20_0
                            try clear hfz20_1
                            try clear hfz20_2
                            try clear hfz20_3
                            try clear hfz20_4
                            try clear hfz20_5
                            try clear hfz20_6
                            try clear hfz20_7
                            try clear hfz28_0
                            try clear hfz28_1
                            try clear hfz28_2
                            try clear hfz28_3
                            try clear hfz28_4
                            try clear hfz28_5
                            try clear hfz28_6
                            try clear hfz28_7
                            try clear hfz32_0
                            try clear hfz32_1
                            try clear hfz32_2
                            try clear hfz32_3
                            try clear hfz32_4
                            try clear hfz32_5
                            try clear hfz32_6
                            try clear hfz32_7
                            try clear hfz37_0
                            try clear hfz37_1
                            try clear hfz37_2
                            try clear hfz37_3
                            try clear hfz37_4
                            try clear hfz37_5
                            try clear hfz37_6
                            try clear hfz37_7
                            try clear hfz65_0
                            try clear hfz65_1
                            try clear hfz65_2
                            try clear hfz65_3
                            try clear hfz65_4
                            try clear hfz65_5
                            try clear hfz65_6
                            try clear hfz65_7
                            try clear hfz89_0
                            try clear hfz89_1
                            try clear hfz89_2
                            try clear hfz89_3
                            try clear hfz89_4
                            try clear hfz89_5
                            try clear hfz89_6
                            try clear hfz89_7
                            try clear hfz8_0
                            try clear hfz8_1
                            try clear hfz8_2
                            try clear hfz8_3
                            try clear hfz8_4
                            try clear hfz8_5
                            try clear hfz8_6
                            try clear hfz8_7
                            try clear p2
                            obtain ⟨kq, x108_84, rfl, HA, HJ84, HO_10, HO_361002, HO_361003, HO_361004, BK323, BK360, HB⟩ := hcut
                            have hl10_84 := (Kd.R_reads' HO_10.out).1
                            rw [hl10_84] at HO_10
                            (try simp only [hl10_84])
                            (try simp only [hl10_84] at BK323)
                            (try simp only [hl10_84] at BK360)
                            (try simp only [hl10_84] at HO_361002)
                            (try simp only [hl10_84] at HO_361003)
                            (try simp only [hl10_84] at HO_361004)
                            cases kq with
                            | zero => exact absurd HA.out (by simp [laws_FnExactRetryPacket.j2])
                            | succ kj84 =>
                              have H := HA.out
                              clear HA
                              simp only [laws_FnExactRetryPacket.j2] at H
                              by_cases c103 : x108_84 = true
                              · subst c103
                                have H1 : (some false) = some true := by rw [if_pos rfl] at H; exact H
                                exact absurd H1 (by simp)
                              · replace c103 := Bool.eq_false_iff.mpr c103
                                subst c103
                                have H1 : ((laws_heldByteS.f kj84 t396 1).bind fun t420 => (if t420 < 0 then (some false) else (if t420 = t395 then (some true) else (some false)))) = some true := by rw [if_neg (show ¬ (false = true) by decide)] at H; exact H
                                clear H
                                have H := H1
                                clear H1
                                replace H := Option.bind_eq_some_iff.mp H
                                obtain ⟨t420, A1040, H⟩ := H
                                replace H : (if t420 < 0 then (some false) else (if t420 = t395 then (some true) else (some false))) = some true := H
                                have A104 := Aside0.mk A1040
                                clear A1040
                                by_cases c105 : t420 < 0
                                · rw [if_pos c105] at H
                                  exact absurd H (by simp)
                                · rw [if_neg c105] at H
                                  have c105b0 : decide (t420 < 0) = false := decide_eq_false c105
                                  clear c105
                                  by_cases c106 : t420 = t395
                                  · rw [if_pos c106] at H
                                    have c106b0 : (t420 == t395) = true := beq_iff_eq.mpr c106
                                    have c106b1 : (t420 != t395) = false := bne_eq_false_iff_eq.mpr c106
                                    clear c106
                                    clear H
                                    go_wp2_with (first | ((with_reducible refine gate_callee (f := 19) rfl ?_); refine goesL_ (some 111) rfl rfl Try.func19 (by kernel_rfl) rfl #[.slice Ao86 t396.length co86, .int .i64 1] rfl (by (try simp only [List.map_toArray, List.map_cons, List.map_nil]); first | done | rfl | (simp only [List.length_drop, List.length_take]; rfl)) ?_; (with_reducible refine (laws_heldByteS.calls kj84 _ _ t396 1 t420 _ ?side1 ?side2 A104.out).mono ?_); (case side1 => repeat (first | exact (Kd.R_reads' HO_10.out).2.2 | (with_reducible refine Kd.C_alloc ?_ _) | (with_reducible refine Kd.C_drewN ?_ _) | (with_reducible refine Kd.C_drew ?_))); (case side2 => exact (Kd.R_reads' HO_10.out).2.1); rintro e w' ⟨rfl, ⟨nd, rfl⟩⟩; refine ⟨_, rfl, ?_⟩))
                                    go_ret
                                    exact ⟨by first | rfl | (simp [errW_none, errW_some] <;> rfl) | (simp [*, errW_none, errW_some] <;> rfl), by repeat (first | (with_reducible first | exact HB.out | apply below_alloc | apply pw_below_drewN | apply below_drew1 | refine below_set ?_ GE323.out | refine below_set ?_ GE360.out) | exact HB.out)⟩
                                  · rw [if_neg c106] at H
                                    exact absurd H (by simp)
                        · rw [if_neg c81] at H
                          exact absurd H (by simp)
              · replace c52 := Bool.eq_false_iff.mpr c52
                subst c52
                have H1 : (some false) = some true := by rw [if_neg (show ¬ (false = true) by decide)] at H; exact H
                exact absurd H1 (by simp)
            · replace c49 := Bool.eq_false_iff.mpr c49
              subst c49
              have H1 : (some false) = some true := by rw [if_neg (show ¬ (false = true) by decide)] at H; exact H
              exact absurd H1 (by simp)
end Go.Proofs.Ytcdkbdkanjifeaa.SFnExactRetryPacket
