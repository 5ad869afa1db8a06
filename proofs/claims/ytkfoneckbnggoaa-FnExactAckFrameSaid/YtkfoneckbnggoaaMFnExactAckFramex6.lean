/- The walk of some functions that the law FnExactAckFrame uses: part 6. -/
import Derived.Test.YtkfoneckbnggoaaMFnExactAckFramex0
import Derived.Test.YtkfoneckbnggoaaMFnExactAckFramex1
import Derived.Test.YtkfoneckbnggoaaMFnExactAckFramex2
import Derived.Test.YtkfoneckbnggoaaMFnExactAckFramex4
import Derived.Test.YtkfoneckbnggoaaMFnExactAckFramex5
namespace Go.Proofs.Ytkfoneckbnggoaa.MFnExactAckFrame
open Go.RowKit Go.Proofs.YtkfoneckbnggoaaW.PrintWords Go.Proofs.YtkfoneckbnggoaaW.PrintLast Go.Proofs.YtkfoneckbnggoaaW.PrintMore
attribute [local go_sem] max2_int min2_int max_two min_two max_three min_three max_four min_four   -- for this text's walks alone
set_option linter.unusedVariables false
set_option linter.unusedSimpArgs false

/-! ### laws_FnExactAckFrame: function 13 -/
mutual
def laws_FnExactAckFrame.j0 : Nat → List (S75) → Int → Int → List (S73) → Int → Bool → Int → Int → Int → Int → Bool → List Int → List Int → List (S73) → Int → Int → Int → Int → Bool → List Int → List Int → List (S73) → Option (Bool)
  | 0, _, _, _, _, _, _, _, _, _, _, _, _, _, _, _, _, _, _, _, _, _, _ => none
  | k + 1, x0, x1, x7, x8, x10, x44, x186000, x186001, x186002, x186003, x186004, x186005, x186006, x186007, x205000, x205001, x205002, x205003, x205004, x205005, x205006, x205007 => if x44 = true then (some false) else ((laws_toRangeS.f k x0).bind fun t206 => ((laws_eqRangeS.f k x8 t206).bind fun t209 => (if t209 = true then ((laws_markRangeS.f k x8 1).bind fun bt210 => (if bt210.1 < 0 then (laws_FnExactAckFrame.j1 k x0 x1 x7 true x186000 x186001 x186002 x186003 x186004 x186005 x186006 x186007 x205000 x205001 x205002 x205003 x205004 x205005 x205006 x205007) else ((laws_eqFrame.f k x205000 x205001 x205002 x205003 x205004 x205005 x205006 x205007 x186000 x186001 x186002 x186003 x186004 x186005 x186006 x186007).bind fun t212 => (if t212 = true then (laws_FnExactAckFrame.j1 k x0 x1 x7 (x10 != x7) x186000 x186001 x186002 x186003 x186004 x186005 x186006 x186007 x205000 x205001 x205002 x205003 x205004 x205005 x205006 x205007) else (laws_FnExactAckFrame.j1 k x0 x1 x7 true x186000 x186001 x186002 x186003 x186004 x186005 x186006 x186007 x205000 x205001 x205002 x205003 x205004 x205005 x205006 x205007))))) else (some false))))
def laws_FnExactAckFrame.j1 : Nat → List (S75) → Int → Int → Bool → Int → Int → Int → Int → Bool → List Int → List Int → List (S73) → Int → Int → Int → Int → Bool → List Int → List Int → List (S73) → Option (Bool)
  | 0, _, _, _, _, _, _, _, _, _, _, _, _, _, _, _, _, _, _, _, _ => none
  | k + 1, x0, x1, x7, x65, x186000, x186001, x186002, x186003, x186004, x186005, x186006, x186007, x205000, x205001, x205002, x205003, x205004, x205005, x205006, x205007 => if x65 = true then (some false) else ((laws_markFrame.f k x205000 x205001 x205002 x205003 x205004 x205005 x205006 x205007 1).bind fun bt213 => ((laws_heldFrame.f k x205000 x205001 x205002 x205003 x205004 bt213.2.1 bt213.2.2.1 bt213.2.2.2 1).bind fun t217 => (if t217 < 0 then (some false) else (if t217 = bt213.1 then ((laws_toRangeS.f k x0).bind fun t218 => ((impl_AckFrame.f k t218 x1).bind fun bt221 => ((laws_eqFrame.f k bt221.1 bt221.2.1 bt221.2.2.1 bt221.2.2.2.1 bt221.2.2.2.2.1 bt221.2.2.2.2.2.1 bt221.2.2.2.2.2.2.1 bt221.2.2.2.2.2.2.2.1 x186000 x186001 x186002 x186003 x186004 x186005 x186006 x186007).bind fun t237 => (if t237 = true then (laws_FnExactAckFrame.j2 k bt213.1 (bt221.2.2.2.2.2.2.2.2 != x7) x205000 x205001 x205002 x205003 x205004 bt213.2.1 bt213.2.2.1 bt213.2.2.2) else (laws_FnExactAckFrame.j2 k bt213.1 true x205000 x205001 x205002 x205003 x205004 bt213.2.1 bt213.2.2.1 bt213.2.2.2))))) else (some false)))))
def laws_FnExactAckFrame.j2 : Nat → Int → Bool → Int → Int → Int → Int → Bool → List Int → List Int → List (S73) → Option (Bool)
  | 0, _, _, _, _, _, _, _, _, _, _ => none
  | k + 1, x12, x92, x205000, x205001, x205002, x205003, x205004, x205005, x205006, x205007 => if x92 = true then (some false) else ((laws_heldFrame.f k x205000 x205001 x205002 x205003 x205004 x205005 x205006 x205007 1).bind fun t238 => (if t238 < 0 then (some false) else (if t238 = x12 then (some true) else (some false))))
end
def laws_FnExactAckFrame.f (k : Nat) (l0 : List (S75)) (a1 : Int) : Option (Bool) := (laws_szRangeS.f l0 1048576).bind fun t166 => (if t166 < 0 then (some true) else ((laws_toRangeS.f k l0).bind fun t167 => ((spec_AckFrame.f k t167 a1).bind fun bt170 => ((laws_toRangeS.f k l0).bind fun t186 => ((impl_AckFrame.f k t186 a1).bind fun bt189 => ((laws_eqFrame.f k bt189.1 bt189.2.1 bt189.2.2.1 bt189.2.2.2.1 bt189.2.2.2.2.1 bt189.2.2.2.2.2.1 bt189.2.2.2.2.2.2.1 bt189.2.2.2.2.2.2.2.1 bt170.1 bt170.2.1 bt170.2.2.1 bt170.2.2.2.1 bt170.2.2.2.2.1 bt170.2.2.2.2.2.1 bt170.2.2.2.2.2.2.1 bt170.2.2.2.2.2.2.2.1).bind fun t205 => (if t205 = true then (laws_FnExactAckFrame.j0 k l0 a1 bt170.2.2.2.2.2.2.2.2 t186 bt189.2.2.2.2.2.2.2.2 (bt189.2.2.2.2.2.2.2.2 != bt170.2.2.2.2.2.2.2.2) bt170.1 bt170.2.1 bt170.2.2.1 bt170.2.2.2.1 bt170.2.2.2.2.1 bt170.2.2.2.2.2.1 bt170.2.2.2.2.2.2.1 bt170.2.2.2.2.2.2.2.1 bt189.1 bt189.2.1 bt189.2.2.1 bt189.2.2.2.1 bt189.2.2.2.2.1 bt189.2.2.2.2.2.1 bt189.2.2.2.2.2.2.1 bt189.2.2.2.2.2.2.2.1) else (laws_FnExactAckFrame.j0 k l0 a1 bt170.2.2.2.2.2.2.2.2 t186 bt189.2.2.2.2.2.2.2.2 true bt170.1 bt170.2.1 bt170.2.2.1 bt170.2.2.2.1 bt170.2.2.2.2.1 bt170.2.2.2.2.2.1 bt170.2.2.2.2.2.2.1 bt170.2.2.2.2.2.2.2.1 bt189.1 bt189.2.1 bt189.2.2.1 bt189.2.2.2.1 bt189.2.2.2.2.1 bt189.2.2.2.2.2.1 bt189.2.2.2.2.2.2.1 bt189.2.2.2.2.2.2.2.1))))))))
theorem laws_FnExactAckFrame.mono_l : ∀ k, (∀ y0 y1 y2 y3 y4 y5 y6 y7 y8 y9 y10 y11 y12 y13 y14 y15 y16 y17 y18 y19 y20 y21, LeO (laws_FnExactAckFrame.j0 k y0 y1 y2 y3 y4 y5 y6 y7 y8 y9 y10 y11 y12 y13 y14 y15 y16 y17 y18 y19 y20 y21) (laws_FnExactAckFrame.j0 (k + 1) y0 y1 y2 y3 y4 y5 y6 y7 y8 y9 y10 y11 y12 y13 y14 y15 y16 y17 y18 y19 y20 y21)) ∧ (∀ y0 y1 y2 y3 y4 y5 y6 y7 y8 y9 y10 y11 y12 y13 y14 y15 y16 y17 y18 y19, LeO (laws_FnExactAckFrame.j1 k y0 y1 y2 y3 y4 y5 y6 y7 y8 y9 y10 y11 y12 y13 y14 y15 y16 y17 y18 y19) (laws_FnExactAckFrame.j1 (k + 1) y0 y1 y2 y3 y4 y5 y6 y7 y8 y9 y10 y11 y12 y13 y14 y15 y16 y17 y18 y19)) ∧ (∀ y0 y1 y2 y3 y4 y5 y6 y7 y8 y9, LeO (laws_FnExactAckFrame.j2 k y0 y1 y2 y3 y4 y5 y6 y7 y8 y9) (laws_FnExactAckFrame.j2 (k + 1) y0 y1 y2 y3 y4 y5 y6 y7 y8 y9))
  | 0 => ⟨fun _ _ _ _ _ _ _ _ _ _ _ _ _ _ _ _ _ _ _ _ _ _ r h => by simp [laws_FnExactAckFrame.j0] at h, fun _ _ _ _ _ _ _ _ _ _ _ _ _ _ _ _ _ _ _ _ r h => by simp [laws_FnExactAckFrame.j1] at h, fun _ _ _ _ _ _ _ _ _ _ r h => by simp [laws_FnExactAckFrame.j2] at h⟩
  | k + 1 => by
    obtain ⟨ih0, ih1, ih2⟩ := laws_FnExactAckFrame.mono_l k
    refine ⟨?_, ?_, ?_⟩
    · intro y0 y1 y2 y3 y4 y5 y6 y7 y8 y9 y10 y11 y12 y13 y14 y15 y16 y17 y18 y19 y20 y21
      unfold laws_FnExactAckFrame.j0
      repeat' first
      | (with_reducible exact ih0 _ _ _ _ _ _ _ _ _ _ _ _ _ _ _ _ _ _ _ _ _ _)
      | (with_reducible exact ih1 _ _ _ _ _ _ _ _ _ _ _ _ _ _ _ _ _ _ _ _)
      | (with_reducible exact ih2 _ _ _ _ _ _ _ _ _ _)
      | (with_reducible exact impl_AckFrame.mono _ _ _)
      | (with_reducible exact laws_eqFrame.mono _ _ _ _ _ _ _ _ _ _ _ _ _ _ _ _ _)
      | (with_reducible exact laws_eqRangeS.mono _ _ _)
      | (with_reducible exact laws_heldFrame.mono _ _ _ _ _ _ _ _ _ _)
      | (with_reducible exact laws_markFrame.mono _ _ _ _ _ _ _ _ _ _)
      | (with_reducible exact laws_markRangeS.mono _ _ _)
      | (with_reducible exact laws_toRangeS.mono _ _)
      | (with_reducible exact spec_AckFrame.mono _ _ _)
      | (with_reducible exact LeO.refl _)
      | (with_reducible exact LeO.none _)
      | (with_reducible refine LeO.ite ?_ ?_)
      | (with_reducible refine LeO.bind ?_ (fun _ => ?_))
      | exact ih0 _ _ _ _ _ _ _ _ _ _ _ _ _ _ _ _ _ _ _ _ _ _
      | exact ih1 _ _ _ _ _ _ _ _ _ _ _ _ _ _ _ _ _ _ _ _
      | exact ih2 _ _ _ _ _ _ _ _ _ _
      | exact impl_AckFrame.mono _ _ _
      | exact laws_eqFrame.mono _ _ _ _ _ _ _ _ _ _ _ _ _ _ _ _ _
      | exact laws_eqRangeS.mono _ _ _
      | exact laws_heldFrame.mono _ _ _ _ _ _ _ _ _ _
      | exact laws_markFrame.mono _ _ _ _ _ _ _ _ _ _
      | exact laws_markRangeS.mono _ _ _
      | exact laws_toRangeS.mono _ _
      | exact spec_AckFrame.mono _ _ _
      | exact LeO.none _
      | refine LeO.ite ?_ ?_
      | refine LeO.bind ?_ (fun _ => ?_)
    · intro y0 y1 y2 y3 y4 y5 y6 y7 y8 y9 y10 y11 y12 y13 y14 y15 y16 y17 y18 y19
      unfold laws_FnExactAckFrame.j1
      repeat' first
      | (with_reducible exact ih0 _ _ _ _ _ _ _ _ _ _ _ _ _ _ _ _ _ _ _ _ _ _)
      | (with_reducible exact ih1 _ _ _ _ _ _ _ _ _ _ _ _ _ _ _ _ _ _ _ _)
      | (with_reducible exact ih2 _ _ _ _ _ _ _ _ _ _)
      | (with_reducible exact impl_AckFrame.mono _ _ _)
      | (with_reducible exact laws_eqFrame.mono _ _ _ _ _ _ _ _ _ _ _ _ _ _ _ _ _)
      | (with_reducible exact laws_eqRangeS.mono _ _ _)
      | (with_reducible exact laws_heldFrame.mono _ _ _ _ _ _ _ _ _ _)
      | (with_reducible exact laws_markFrame.mono _ _ _ _ _ _ _ _ _ _)
      | (with_reducible exact laws_markRangeS.mono _ _ _)
      | (with_reducible exact laws_toRangeS.mono _ _)
      | (with_reducible exact spec_AckFrame.mono _ _ _)
      | (with_reducible exact LeO.refl _)
      | (with_reducible exact LeO.none _)
      | (with_reducible refine LeO.ite ?_ ?_)
      | (with_reducible refine LeO.bind ?_ (fun _ => ?_))
      | exact ih0 _ _ _ _ _ _ _ _ _ _ _ _ _ _ _ _ _ _ _ _ _ _
      | exact ih1 _ _ _ _ _ _ _ _ _ _ _ _ _ _ _ _ _ _ _ _
      | exact ih2 _ _ _ _ _ _ _ _ _ _
      | exact impl_AckFrame.mono _ _ _
      | exact laws_eqFrame.mono _ _ _ _ _ _ _ _ _ _ _ _ _ _ _ _ _
      | exact laws_eqRangeS.mono _ _ _
      | exact laws_heldFrame.mono _ _ _ _ _ _ _ _ _ _
      | exact laws_markFrame.mono _ _ _ _ _ _ _ _ _ _
      | exact laws_markRangeS.mono _ _ _
      | exact laws_toRangeS.mono _ _
      | exact spec_AckFrame.mono _ _ _
      | exact LeO.none _
      | refine LeO.ite ?_ ?_
      | refine LeO.bind ?_ (fun _ => ?_)
    · intro y0 y1 y2 y3 y4 y5 y6 y7 y8 y9
      unfold laws_FnExactAckFrame.j2
      repeat' first
      | (with_reducible exact ih0 _ _ _ _ _ _ _ _ _ _ _ _ _ _ _ _ _ _ _ _ _ _)
      | (with_reducible exact ih1 _ _ _ _ _ _ _ _ _ _ _ _ _ _ _ _ _ _ _ _)
      | (with_reducible exact ih2 _ _ _ _ _ _ _ _ _ _)
      | (with_reducible exact impl_AckFrame.mono _ _ _)
      | (with_reducible exact laws_eqFrame.mono _ _ _ _ _ _ _ _ _ _ _ _ _ _ _ _ _)
      | (with_reducible exact laws_eqRangeS.mono _ _ _)
      | (with_reducible exact laws_heldFrame.mono _ _ _ _ _ _ _ _ _ _)
      | (with_reducible exact laws_markFrame.mono _ _ _ _ _ _ _ _ _ _)
      | (with_reducible exact laws_markRangeS.mono _ _ _)
      | (with_reducible exact laws_toRangeS.mono _ _)
      | (with_reducible exact spec_AckFrame.mono _ _ _)
      | (with_reducible exact LeO.refl _)
      | (with_reducible exact LeO.none _)
      | (with_reducible refine LeO.ite ?_ ?_)
      | (with_reducible refine LeO.bind ?_ (fun _ => ?_))
      | exact ih0 _ _ _ _ _ _ _ _ _ _ _ _ _ _ _ _ _ _ _ _ _ _
      | exact ih1 _ _ _ _ _ _ _ _ _ _ _ _ _ _ _ _ _ _ _ _
      | exact ih2 _ _ _ _ _ _ _ _ _ _
      | exact impl_AckFrame.mono _ _ _
      | exact laws_eqFrame.mono _ _ _ _ _ _ _ _ _ _ _ _ _ _ _ _ _
      | exact laws_eqRangeS.mono _ _ _
      | exact laws_heldFrame.mono _ _ _ _ _ _ _ _ _ _
      | exact laws_markFrame.mono _ _ _ _ _ _ _ _ _ _
      | exact laws_markRangeS.mono _ _ _
      | exact laws_toRangeS.mono _ _
      | exact spec_AckFrame.mono _ _ _
      | exact LeO.none _
      | refine LeO.ite ?_ ?_
      | refine LeO.bind ?_ (fun _ => ?_)
theorem laws_FnExactAckFrame.mono : ∀ a0 a1 k, LeO (laws_FnExactAckFrame.f k a0 a1) (laws_FnExactAckFrame.f (k + 1) a0 a1) := by
  intro a0 a1 k
  obtain ⟨ih0, ih1, ih2⟩ := laws_FnExactAckFrame.mono_l k
  unfold laws_FnExactAckFrame.f
  repeat' first
      | (with_reducible exact ih0 _ _ _ _ _ _ _ _ _ _ _ _ _ _ _ _ _ _ _ _ _ _)
      | (with_reducible exact ih1 _ _ _ _ _ _ _ _ _ _ _ _ _ _ _ _ _ _ _ _)
      | (with_reducible exact ih2 _ _ _ _ _ _ _ _ _ _)
      | (with_reducible exact impl_AckFrame.mono _ _ _)
      | (with_reducible exact laws_eqFrame.mono _ _ _ _ _ _ _ _ _ _ _ _ _ _ _ _ _)
      | (with_reducible exact laws_eqRangeS.mono _ _ _)
      | (with_reducible exact laws_heldFrame.mono _ _ _ _ _ _ _ _ _ _)
      | (with_reducible exact laws_markFrame.mono _ _ _ _ _ _ _ _ _ _)
      | (with_reducible exact laws_markRangeS.mono _ _ _)
      | (with_reducible exact laws_toRangeS.mono _ _)
      | (with_reducible exact spec_AckFrame.mono _ _ _)
      | (with_reducible exact LeO.refl _)
      | (with_reducible exact LeO.none _)
      | (with_reducible refine LeO.ite ?_ ?_)
      | (with_reducible refine LeO.bind ?_ (fun _ => ?_))
      | exact ih0 _ _ _ _ _ _ _ _ _ _ _ _ _ _ _ _ _ _ _ _ _ _
      | exact ih1 _ _ _ _ _ _ _ _ _ _ _ _ _ _ _ _ _ _ _ _
      | exact ih2 _ _ _ _ _ _ _ _ _ _
      | exact impl_AckFrame.mono _ _ _
      | exact laws_eqFrame.mono _ _ _ _ _ _ _ _ _ _ _ _ _ _ _ _ _
      | exact laws_eqRangeS.mono _ _ _
      | exact laws_heldFrame.mono _ _ _ _ _ _ _ _ _ _
      | exact laws_markFrame.mono _ _ _ _ _ _ _ _ _ _
      | exact laws_markRangeS.mono _ _ _
      | exact laws_toRangeS.mono _ _
      | exact spec_AckFrame.mono _ _ _
      | exact LeO.none _
      | refine LeO.ite ?_ ?_
      | refine LeO.bind ?_ (fun _ => ?_)

end Go.Proofs.Ytkfoneckbnggoaa.MFnExactAckFrame
