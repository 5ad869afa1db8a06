/- The walk of functions that the law FnExactProtectPacket uses, written by program. -/
import Derived.Test.YtcdkbdkanjifeaaSFnExactProtectPacketx0
import Derived.Test.YtcdkbdkanjifeaaSteps2
import Derived.Test.YtcdkbdkanjifeaaSteps3
namespace Go.Proofs.Ytcdkbdkanjifeaa.SFnExactProtectPacket
open Go.Proofs.Ytcdkbdkanjifeaa.Steps3 Go.Proofs.Ytcdkbdkanjifeaa.Steps2 Go.RowKit Go.Proofs.YtcdkbdkanjifeaaW.PrintWords Go.Proofs.YtcdkbdkanjifeaaW.PrintLast Go.Proofs.YtcdkbdkanjifeaaW.PrintMore
attribute [local go_sem] max2_int min2_int max_two min_two max_three min_three max_four min_four 
set_option linter.unusedVariables false
set_option linter.unusedSimpArgs false
def spec_l04Bits.f (a0:Int):Option (Int):=if a0≥128 then (some 15) else (some 31)
set_option maxHeartbeats 8000000 in
set_option maxRecDepth 100000 in
theorem spec_l04Bits.calls (a0:Int) (r:Int) (w:World) (h:spec_l04Bits.f a0=some r) :
  Calls Try.prog 76 #[.int .u8 a0] w fun e w' =>e = .returned (.int .u8 r)∧Drawn0 w w' :=by
 have H:(if a0≥128 then (some 15) else (some 31))=some r:=h
 clear h
 by_cases c2:a0≥128
 ·rw [if_pos c2] at H
  have c2b0:decide (128≤a0)=true:=decide_eq_true c2
  clear c2
  obtain rfl:=Option.some.inj H
  go_enter Try.func76,Try.ntmps76
  go_wp2
  go_ret
  exact ⟨by first|rfl|(simp;done)|(simp [*];done),by repeat (first|exact Drawn0.refl _|apply Drawn0.step)⟩
 rw [if_neg c2] at H
 have c2b0:decide (128≤a0)=false:=decide_eq_false c2
 clear c2
 obtain rfl:=Option.some.inj H
 go_enter Try.func76,Try.ntmps76
 go_wp2
 go_ret
 exact ⟨by first|rfl|(simp;done)|(simp [*];done),by repeat (first|exact Drawn0.refl _|apply Drawn0.step)⟩
end Go.Proofs.Ytcdkbdkanjifeaa.SFnExactProtectPacket
