/- The walk of functions that the law FnExactProtectPacket uses, written by program. -/
import Derived.Test.YtcdkbdkanjifeaaSFnExactProtectPacketx0
import Derived.Test.YtcdkbdkanjifeaaSFnExactProtectPacketx5
import Derived.Test.YtcdkbdkanjifeaaSteps2
import Derived.Test.YtcdkbdkanjifeaaSteps3
namespace Go.Proofs.Ytcdkbdkanjifeaa.SFnExactProtectPacket
open Go.Proofs.Ytcdkbdkanjifeaa.Steps3 Go.Proofs.Ytcdkbdkanjifeaa.Steps2 Go.RowKit Go.Proofs.YtcdkbdkanjifeaaW.PrintWords Go.Proofs.YtcdkbdkanjifeaaW.PrintLast Go.Proofs.YtcdkbdkanjifeaaW.PrintMore
open Go.Proofs.YtcdkbdkanjifeaaW.PrintWords renaming below_alloc → qh, pw_below_drewN → qi, below_drew1 → qj, below_set → qk
open Go.Proofs.YtcdkbdkanjifeaaW.PrintWords.Aside0 renaming mk → qm
attribute [local go_sem] max2_int min2_int max_two min_two max_three min_three max_four min_four 
set_option linter.unusedVariables false
set_option linter.unusedSimpArgs false
def spec_l04HeaderOK.j0:Nat→Bool→Int→Int→List Int→List Int→List Int→Int→Int→Int→Option (Bool)
 |0,_,_,_,_,_,_,_,_,_=>none
 |k+1,x26,x361000,x361001,x361002,x361003,x361004,x361005,x361006,x361007=>if x26=true then (some false) else (if x361000=1 then ((spec_l04VersionOK.f x361001).bind fun t361=>(if t361=true then (if (x361003.length:Int)≤8 then (if (x361004.length:Int)≤64 then (some (x361007 == 0)) else (some false)) else (some false)) else (some false))) else (if x361000=2 then ((spec_l04VersionOK.f x361001).bind fun t362=>(if t362=true then (if (x361003.length:Int)≤8 then (if (x361004.length:Int)=0 then (some (x361007 == 0)) else (some false)) else (some false)) else (some false))) else (if x361000=4 then (if x361001=0 then (if (x361003.length:Int)=0 then (if (x361004.length:Int)=0 then (if x361007=0 then (some true) else (some (x361007 == 1))) else (some false)) else (some false)) else (some false)) else (some false))))
def spec_l04HeaderOK.f (k:Nat) (a0_0:Int) (a0_1:Int) (l0_2:List Int) (l0_3:List Int) (l0_4:List Int) (a0_5:Int) (a0_6:Int) (a0_7:Int):Option (Bool):=if a0_5<0 then (spec_l04HeaderOK.j0 k true a0_0 a0_1 l0_2 l0_3 l0_4 a0_5 a0_6 a0_7) else (if a0_5>4611686018427387903 then (spec_l04HeaderOK.j0 k true a0_0 a0_1 l0_2 l0_3 l0_4 a0_5 a0_6 a0_7) else (if a0_6<1 then (spec_l04HeaderOK.j0 k true a0_0 a0_1 l0_2 l0_3 l0_4 a0_5 a0_6 a0_7) else (if a0_6>4 then (spec_l04HeaderOK.j0 k true a0_0 a0_1 l0_2 l0_3 l0_4 a0_5 a0_6 a0_7) else (spec_l04HeaderOK.j0 k (decide ((l0_2.length:Int)>8)) a0_0 a0_1 l0_2 l0_3 l0_4 a0_5 a0_6 a0_7))))
set_option maxHeartbeats 8000000 in
set_option maxRecDepth 100000 in
theorem spec_l04HeaderOK.calls (k:Nat) (a0_0:Int) (a0_1:Int) (A0_2:Option Addr) (c0_2:Nat) (l0_2:List Int) (A0_3:Option Addr) (c0_3:Nat) (l0_3:List Int) (A0_4:Option Addr) (c0_4:Nat) (l0_4:List Int) (a0_5:Int) (a0_6:Int) (a0_7:Int) (r:Bool) (w:World) (hr0_2:Kd.C (Kd.int .u8) w A0_2 l0_2.length l0_2) (hc0_2:l0_2.length≤c0_2) (hr0_3:Kd.C (Kd.int .u8) w A0_3 l0_3.length l0_3) (hc0_3:l0_3.length≤c0_3) (hr0_4:Kd.C (Kd.int .u8) w A0_4 l0_4.length l0_4) (hc0_4:l0_4.length≤c0_4) (h:spec_l04HeaderOK.f k a0_0 a0_1 l0_2 l0_3 l0_4 a0_5 a0_6 a0_7=some r) :
  Calls Try.prog 71 #[.agg #[.int .i64 a0_0, .int .i64 a0_1, .slice A0_2 l0_2.length c0_2, .slice A0_3 l0_3.length c0_3, .slice A0_4 l0_4.length c0_4, .int .i64 a0_5, .int .i64 a0_6, .int .i64 a0_7]] w fun e w' =>e = .returned (.bool r)∧Below w.heap.size w w' :=by
 have hu45:=Try.underlying45
 have HR0_2:=qm hr0_2
 have HC0_2:=qm hc0_2
 clear hr0_2 hc0_2
 have HR0_3:=qm hr0_3
 have HC0_3:=qm hc0_3
 clear hr0_3 hc0_3
 have HR0_4:=qm hr0_4
 have HC0_4:=qm hc0_4
 clear hr0_4 hc0_4
 have HB:=qm (Below.refl w.heap.size w)
 have H:(if a0_5<0 then (spec_l04HeaderOK.j0 k true a0_0 a0_1 l0_2 l0_3 l0_4 a0_5 a0_6 a0_7) else (if a0_5>4611686018427387903 then (spec_l04HeaderOK.j0 k true a0_0 a0_1 l0_2 l0_3 l0_4 a0_5 a0_6 a0_7) else (if a0_6<1 then (spec_l04HeaderOK.j0 k true a0_0 a0_1 l0_2 l0_3 l0_4 a0_5 a0_6 a0_7) else (if a0_6>4 then (spec_l04HeaderOK.j0 k true a0_0 a0_1 l0_2 l0_3 l0_4 a0_5 a0_6 a0_7) else (spec_l04HeaderOK.j0 k (decide ((l0_2.length:Int)>8)) a0_0 a0_1 l0_2 l0_3 l0_4 a0_5 a0_6 a0_7)))))=some r:=h
 clear h
 have HC2:=qm H
 clear H
 go_enter Try.func71,Try.ntmps71
 go_upto_region 1 with (first|((with_reducible refine gate_dst (N:=1) rfl ?_);(try (refine gate_guard (by rfl) ?_;dsimp only));refine box_event (by rfl) (N:=1) (by rfl) (cs:=#[.int .i64 a0_0, .int .i64 a0_1, .slice A0_2 l0_2.length c0_2, .slice A0_3 l0_3.length c0_3, .slice A0_4 l0_4.length c0_4, .int .i64 a0_5, .int .i64 a0_6, .int .i64 a0_7]) (t:=45) (by first|(go_simp;done)|(go_simp;rfl)) ?_;intro gb360 hg w3 hbox hb;have _:=qm (below_step HB.out hb);have _:=qm (hbox);have _:=qm ((gs hg (below_size HB.out)));have _:=qm ((gs hg (below_size HB.out)));clear HB;rename_i HB BK360 GW360 GE360;clear hb hbox hg))
 (try simp only [Act.put,s1,s2,s3])
 go_cut [26] (fun v26 wc=>∃ (kq:Nat) (x26_1:Bool),v26 = .bool x26_1∧Aside0 (spec_l04HeaderOK.j0 kq x26_1 a0_0 a0_1 l0_2 l0_3 l0_4 a0_5 a0_6 a0_7=some r)∧Aside0 (kq≤k)∧Aside0 (wc.heap[gb360]? =some (.cells #[.int .i64 a0_0, .int .i64 a0_1,(.slice A0_2 l0_2.length c0_2),(.slice A0_3 l0_3.length c0_3),(.slice A0_4 l0_4.length c0_4), .int .i64 a0_5, .int .i64 a0_6, .int .i64 a0_7] 45 (0,0)))∧Aside0 (Below w.heap.size w wc))
 case first=>
  have H:=HC2.out
  clear HC2
  by_cases c4:a0_5<0
  ·rw [if_pos c4] at H
   have c4b0:decide (a0_5<0)=true:=decide_eq_true c4
   clear c4
   (first|rw [c4b0]|(simp only [i64_w,i32_w];rw [c4b0])|skip)
   have H' :=qm H
   clear H
   obtain ⟨_,_,_,_,_,_,_,_,_,_,_,_,_,_,_,_⟩:=fc8 BK360.out
   go_wp2
   go_meet
   case rel=>exact ⟨_,(true),rfl,H',⟨by first|omega|exact Nat.le_refl _⟩,⟨BK360.out⟩,⟨HB.out⟩⟩
  rw [if_neg c4] at H
  have c4b0:decide (a0_5<0)=false:=decide_eq_false c4
  clear c4
  (first|rw [c4b0]|(simp only [i64_w,i32_w];rw [c4b0])|skip)
  by_cases c6:a0_5>4611686018427387903
  ·rw [if_pos c6] at H
   have c6b0:decide (4611686018427387903<a0_5)=true:=decide_eq_true c6
   clear c6
   have H' :=qm H
   clear H
   obtain ⟨_,_,_,_,_,_,_,_,_,_,_,_,_,_,_,_⟩:=fc8 BK360.out
   go_wp2
   go_meet
   case rel=>exact ⟨_,(true),rfl,H',⟨by first|omega|exact Nat.le_refl _⟩,⟨BK360.out⟩,⟨HB.out⟩⟩
  rw [if_neg c6] at H
  have c6b0:decide (4611686018427387903<a0_5)=false:=decide_eq_false c6
  clear c6
  by_cases c8:a0_6<1
  ·rw [if_pos c8] at H
   have c8b0:decide (a0_6<1)=true:=decide_eq_true c8
   clear c8
   have H' :=qm H
   clear H
   obtain ⟨_,_,_,_,_,_,_,_,_,_,_,_,_,_,_,_⟩:=fc8 BK360.out
   go_wp2
   go_meet
   case rel=>exact ⟨_,(true),rfl,H',⟨by first|omega|exact Nat.le_refl _⟩,⟨BK360.out⟩,⟨HB.out⟩⟩
  rw [if_neg c8] at H
  have c8b0:decide (a0_6<1)=false:=decide_eq_false c8
  clear c8
  by_cases c10:a0_6>4
  ·rw [if_pos c10] at H
   have c10b0:decide (4<a0_6)=true:=decide_eq_true c10
   clear c10
   have H' :=qm H
   clear H
   obtain ⟨_,_,_,_,_,_,_,_,_,_,_,_,_,_,_,_⟩:=fc8 BK360.out
   go_wp2
   go_meet
   case rel=>exact ⟨_,(true),rfl,H',⟨by first|omega|exact Nat.le_refl _⟩,⟨BK360.out⟩,⟨HB.out⟩⟩
  rw [if_neg c10] at H
  have c10b0:decide (4<a0_6)=false:=decide_eq_false c10
  clear c10
  have H' :=qm H
  clear H
  obtain ⟨_,_,_,_,_,_,_,_,_,_,_,_,_,_,_,_⟩:=fc8 BK360.out
  go_wp2
  go_meet
  case rel=>exact ⟨_,(decide ((l0_2.length:Int)>8)),rfl,H',⟨by first|omega|exact Nat.le_refl _⟩,⟨BK360.out⟩,⟨HB.out⟩⟩
 clear HC2
 obtain ⟨kq,x26_1,rfl,HA,HJ1,BK360,HB⟩:=hcut
 cases kq with
 |zero=>exact absurd HA.out (by simp [spec_l04HeaderOK.j0])
 |succ kj1=>?_
 have H:=HA.out
 clear HA
 simp only [spec_l04HeaderOK.j0] at H
 by_cases c13:x26_1=true
 ·subst c13
  rw [if_pos rfl] at H
  obtain rfl:=Option.some.inj H
  go_wp2
  go_ret
  exact ⟨by first|rfl|(simp <;> rfl)|(simp [*] <;> rfl),HB.out⟩
 replace c13:=Bool.eq_false_iff.mpr c13
 subst c13
 rw [if_neg nt] at H
 by_cases c14:a0_0=1
 ·rw [if_pos c14] at H
  have c14b0:(a0_0 == 1)=true:=beq_iff_eq.mpr c14
  have c14b1:(a0_0 != 1)=false:=bne_eq_false_iff_eq.mpr c14
  clear c14
  replace H:=Option.bind_eq_some_iff.mp H
  obtain ⟨t361,A150,H⟩:=H
  try dsimp only at H
  have A15:=qm A150
  clear A150
  by_cases c16:t361=true
  ·subst c16
   rw [if_pos rfl] at H
   by_cases c17:(l0_3.length:Int)≤8
   ·rw [if_pos c17] at H
    have c17b0:decide ((l0_3.length:Int)≤8)=true:=decide_eq_true c17
    have c17b1:decide (l0_3.length≤8)=true:=decide_eq_true (by omega)
    clear c17
    by_cases c18:(l0_4.length:Int)≤64
    ·rw [if_pos c18] at H
     have c18b0:decide ((l0_4.length:Int)≤64)=true:=decide_eq_true c18
     have c18b1:decide (l0_4.length≤64)=true:=decide_eq_true (by omega)
     clear c18
     obtain rfl:=Option.some.inj H
     obtain ⟨_,_,_,_,_,_,_,_,_,_,_,_,_,_,_,_⟩:=fc8 BK360.out
     go_wp2_with (first|((with_reducible refine gate_callee (f:=57) rfl ?_);refine goesL_ (some 33) rfl rfl Try.func57 (by kernel_rfl) rfl #[.int .i64 a0_1] rfl (by (try simp only [m1,m2,m3]);first|done|rfl) ?_;(with_reducible refine (spec_l04VersionOK.calls a0_1 true _ A15.out).mono ?_);rintro e w' ⟨rfl,⟨nd,rfl⟩⟩;refine ⟨_,rfl,?_⟩))
     go_ret
     exact ⟨by first|rfl|(simp [errW_none,errW_some] <;> rfl)|(simp [*,errW_none,errW_some] <;> rfl),by repeat (first|(with_reducible first|exact HB.out|apply qh|apply qi|apply qj|refine qk ?_ GE360.out)|exact HB.out)⟩
    rw [if_neg c18] at H
    have c18b0:decide ((l0_4.length:Int)≤64)=false:=decide_eq_false c18
    have c18b1:decide (l0_4.length≤64)=false:=decide_eq_false (by omega)
    clear c18
    obtain rfl:=Option.some.inj H
    obtain ⟨_,_,_,_,_,_,_,_,_,_,_,_,_,_,_,_⟩:=fc8 BK360.out
    go_wp2_with (first|((with_reducible refine gate_callee (f:=57) rfl ?_);refine goesL_ (some 33) rfl rfl Try.func57 (by kernel_rfl) rfl #[.int .i64 a0_1] rfl (by (try simp only [m1,m2,m3]);first|done|rfl) ?_;(with_reducible refine (spec_l04VersionOK.calls a0_1 true _ A15.out).mono ?_);rintro e w' ⟨rfl,⟨nd,rfl⟩⟩;refine ⟨_,rfl,?_⟩))
    go_ret
    exact ⟨by first|rfl|(simp [errW_none,errW_some] <;> rfl)|(simp [*,errW_none,errW_some] <;> rfl),by repeat (first|(with_reducible first|exact HB.out|apply qh|apply qi|apply qj|refine qk ?_ GE360.out)|exact HB.out)⟩
   rw [if_neg c17] at H
   have c17b0:decide ((l0_3.length:Int)≤8)=false:=decide_eq_false c17
   have c17b1:decide (l0_3.length≤8)=false:=decide_eq_false (by omega)
   clear c17
   obtain rfl:=Option.some.inj H
   obtain ⟨_,_,_,_,_,_,_,_,_,_,_,_,_,_,_,_⟩:=fc8 BK360.out
   go_wp2_with (first|((with_reducible refine gate_callee (f:=57) rfl ?_);refine goesL_ (some 33) rfl rfl Try.func57 (by kernel_rfl) rfl #[.int .i64 a0_1] rfl (by (try simp only [m1,m2,m3]);first|done|rfl) ?_;(with_reducible refine (spec_l04VersionOK.calls a0_1 true _ A15.out).mono ?_);rintro e w' ⟨rfl,⟨nd,rfl⟩⟩;refine ⟨_,rfl,?_⟩))
   go_ret
   exact ⟨by first|rfl|(simp [errW_none,errW_some] <;> rfl)|(simp [*,errW_none,errW_some] <;> rfl),by repeat (first|(with_reducible first|exact HB.out|apply qh|apply qi|apply qj|refine qk ?_ GE360.out)|exact HB.out)⟩
  replace c16:=Bool.eq_false_iff.mpr c16
  subst c16
  rw [if_neg nt] at H
  obtain rfl:=Option.some.inj H
  obtain ⟨_,_,_,_,_,_,_,_,_,_,_,_,_,_,_,_⟩:=fc8 BK360.out
  go_wp2_with (first|((with_reducible refine gate_callee (f:=57) rfl ?_);refine goesL_ (some 33) rfl rfl Try.func57 (by kernel_rfl) rfl #[.int .i64 a0_1] rfl (by (try simp only [m1,m2,m3]);first|done|rfl) ?_;(with_reducible refine (spec_l04VersionOK.calls a0_1 false _ A15.out).mono ?_);rintro e w' ⟨rfl,⟨nd,rfl⟩⟩;refine ⟨_,rfl,?_⟩))
  go_ret
  exact ⟨by first|rfl|(simp [errW_none,errW_some] <;> rfl)|(simp [*,errW_none,errW_some] <;> rfl),by repeat (first|(with_reducible first|exact HB.out|apply qh|apply qi|apply qj|refine qk ?_ GE360.out)|exact HB.out)⟩
 rw [if_neg c14] at H
 have c14b0:(a0_0 == 1)=false:=beq_eq_false_iff_ne.mpr c14
 have c14b1:(a0_0 != 1)=true:=bne_iff_ne.mpr c14
 by_cases c23:a0_0=2
 ·rw [if_pos c23] at H
  have c23b0:(a0_0 == 2)=true:=beq_iff_eq.mpr c23
  have c23b1:(a0_0 != 2)=false:=bne_eq_false_iff_eq.mpr c23
  clear c23
  replace H:=Option.bind_eq_some_iff.mp H
  obtain ⟨t362,A240,H⟩:=H
  try dsimp only at H
  have A24:=qm A240
  clear A240
  by_cases c25:t362=true
  ·subst c25
   rw [if_pos rfl] at H
   by_cases c26:(l0_3.length:Int)≤8
   ·rw [if_pos c26] at H
    have c26b0:decide ((l0_3.length:Int)≤8)=true:=decide_eq_true c26
    have c26b1:decide (l0_3.length≤8)=true:=decide_eq_true (by omega)
    clear c26
    by_cases c27:(l0_4.length:Int)=0
    ·rw [if_pos c27] at H
     have c27b0:((l0_4.length:Int) == 0)=true:=beq_iff_eq.mpr c27
     have c27b1:((l0_4.length:Int) != 0)=false:=bne_eq_false_iff_eq.mpr c27
     clear c27
     obtain rfl:=Option.some.inj H
     obtain ⟨_,_,_,_,_,_,_,_,_,_,_,_,_,_,_,_⟩:=fc8 BK360.out
     go_wp2_with (first|((with_reducible refine gate_callee (f:=57) rfl ?_);refine goesL_ (some 55) rfl rfl Try.func57 (by kernel_rfl) rfl #[.int .i64 a0_1] rfl (by (try simp only [m1,m2,m3]);first|done|rfl) ?_;(with_reducible refine (spec_l04VersionOK.calls a0_1 true _ A24.out).mono ?_);rintro e w' ⟨rfl,⟨nd,rfl⟩⟩;refine ⟨_,rfl,?_⟩))
     go_ret
     exact ⟨by first|rfl|(simp [errW_none,errW_some] <;> rfl)|(simp [*,errW_none,errW_some] <;> rfl),by repeat (first|(with_reducible first|exact HB.out|apply qh|apply qi|apply qj|refine qk ?_ GE360.out)|exact HB.out)⟩
    rw [if_neg c27] at H
    have c27b0:((l0_4.length:Int) == 0)=false:=beq_eq_false_iff_ne.mpr c27
    have c27b1:((l0_4.length:Int) != 0)=true:=bne_iff_ne.mpr c27
    have c27b2: ¬ (l0_4 = []):=fun h_=>c27 (by rw [h_];rfl)
    obtain rfl:=Option.some.inj H
    obtain ⟨_,_,_,_,_,_,_,_,_,_,_,_,_,_,_,_⟩:=fc8 BK360.out
    go_wp2_with (first|((with_reducible refine gate_callee (f:=57) rfl ?_);refine goesL_ (some 55) rfl rfl Try.func57 (by kernel_rfl) rfl #[.int .i64 a0_1] rfl (by (try simp only [m1,m2,m3]);first|done|rfl) ?_;(with_reducible refine (spec_l04VersionOK.calls a0_1 true _ A24.out).mono ?_);rintro e w' ⟨rfl,⟨nd,rfl⟩⟩;refine ⟨_,rfl,?_⟩))
    go_ret
    exact ⟨by first|rfl|(simp [errW_none,errW_some] <;> rfl)|(simp [*,errW_none,errW_some] <;> rfl),by repeat (first|(with_reducible first|exact HB.out|apply qh|apply qi|apply qj|refine qk ?_ GE360.out)|exact HB.out)⟩
   rw [if_neg c26] at H
   have c26b0:decide ((l0_3.length:Int)≤8)=false:=decide_eq_false c26
   have c26b1:decide (l0_3.length≤8)=false:=decide_eq_false (by omega)
   clear c26
   obtain rfl:=Option.some.inj H
   obtain ⟨_,_,_,_,_,_,_,_,_,_,_,_,_,_,_,_⟩:=fc8 BK360.out
   go_wp2_with (first|((with_reducible refine gate_callee (f:=57) rfl ?_);refine goesL_ (some 55) rfl rfl Try.func57 (by kernel_rfl) rfl #[.int .i64 a0_1] rfl (by (try simp only [m1,m2,m3]);first|done|rfl) ?_;(with_reducible refine (spec_l04VersionOK.calls a0_1 true _ A24.out).mono ?_);rintro e w' ⟨rfl,⟨nd,rfl⟩⟩;refine ⟨_,rfl,?_⟩))
   go_ret
   exact ⟨by first|rfl|(simp [errW_none,errW_some] <;> rfl)|(simp [*,errW_none,errW_some] <;> rfl),by repeat (first|(with_reducible first|exact HB.out|apply qh|apply qi|apply qj|refine qk ?_ GE360.out)|exact HB.out)⟩
  replace c25:=Bool.eq_false_iff.mpr c25
  subst c25
  rw [if_neg nt] at H
  obtain rfl:=Option.some.inj H
  obtain ⟨_,_,_,_,_,_,_,_,_,_,_,_,_,_,_,_⟩:=fc8 BK360.out
  go_wp2_with (first|((with_reducible refine gate_callee (f:=57) rfl ?_);refine goesL_ (some 55) rfl rfl Try.func57 (by kernel_rfl) rfl #[.int .i64 a0_1] rfl (by (try simp only [m1,m2,m3]);first|done|rfl) ?_;(with_reducible refine (spec_l04VersionOK.calls a0_1 false _ A24.out).mono ?_);rintro e w' ⟨rfl,⟨nd,rfl⟩⟩;refine ⟨_,rfl,?_⟩))
  go_ret
  exact ⟨by first|rfl|(simp [errW_none,errW_some] <;> rfl)|(simp [*,errW_none,errW_some] <;> rfl),by repeat (first|(with_reducible first|exact HB.out|apply qh|apply qi|apply qj|refine qk ?_ GE360.out)|exact HB.out)⟩
 rw [if_neg c23] at H
 have c23b0:(a0_0 == 2)=false:=beq_eq_false_iff_ne.mpr c23
 have c23b1:(a0_0 != 2)=true:=bne_iff_ne.mpr c23
 by_cases c32:a0_0=4
 ·rw [if_pos c32] at H
  have c32b0:(a0_0 == 4)=true:=beq_iff_eq.mpr c32
  have c32b1:(a0_0 != 4)=false:=bne_eq_false_iff_eq.mpr c32
  clear c32
  by_cases c33:a0_1=0
  ·rw [if_pos c33] at H
   have c33b0:(a0_1 == 0)=true:=beq_iff_eq.mpr c33
   have c33b1:(a0_1 != 0)=false:=bne_eq_false_iff_eq.mpr c33
   clear c33
   by_cases c34:(l0_3.length:Int)=0
   ·rw [if_pos c34] at H
    have c34b0:((l0_3.length:Int) == 0)=true:=beq_iff_eq.mpr c34
    have c34b1:((l0_3.length:Int) != 0)=false:=bne_eq_false_iff_eq.mpr c34
    clear c34
    by_cases c35:(l0_4.length:Int)=0
    ·rw [if_pos c35] at H
     have c35b0:((l0_4.length:Int) == 0)=true:=beq_iff_eq.mpr c35
     have c35b1:((l0_4.length:Int) != 0)=false:=bne_eq_false_iff_eq.mpr c35
     clear c35
     by_cases c36:a0_7=0
     ·rw [if_pos c36] at H
      have c36b0:(a0_7 == 0)=true:=beq_iff_eq.mpr c36
      have c36b1:(a0_7 != 0)=false:=bne_eq_false_iff_eq.mpr c36
      clear c36
      obtain rfl:=Option.some.inj H
      obtain ⟨_,_,_,_,_,_,_,_,_,_,_,_,_,_,_,_⟩:=fc8 BK360.out
      go_wp2
      go_ret
      exact ⟨by first|rfl|(simp <;> rfl)|(simp [*] <;> rfl),HB.out⟩
     rw [if_neg c36] at H
     have c36b0:(a0_7 == 0)=false:=beq_eq_false_iff_ne.mpr c36
     have c36b1:(a0_7 != 0)=true:=bne_iff_ne.mpr c36
     obtain rfl:=Option.some.inj H
     obtain ⟨_,_,_,_,_,_,_,_,_,_,_,_,_,_,_,_⟩:=fc8 BK360.out
     go_wp2
     go_ret
     exact ⟨by first|rfl|(simp <;> rfl)|(simp [*] <;> rfl),HB.out⟩
    rw [if_neg c35] at H
    have c35b0:((l0_4.length:Int) == 0)=false:=beq_eq_false_iff_ne.mpr c35
    have c35b1:((l0_4.length:Int) != 0)=true:=bne_iff_ne.mpr c35
    have c35b2: ¬ (l0_4 = []):=fun h_=>c35 (by rw [h_];rfl)
    obtain rfl:=Option.some.inj H
    obtain ⟨_,_,_,_,_,_,_,_,_,_,_,_,_,_,_,_⟩:=fc8 BK360.out
    go_wp2
    go_ret
    exact ⟨by first|rfl|(simp <;> rfl)|(simp [*] <;> rfl),HB.out⟩
   rw [if_neg c34] at H
   have c34b0:((l0_3.length:Int) == 0)=false:=beq_eq_false_iff_ne.mpr c34
   have c34b1:((l0_3.length:Int) != 0)=true:=bne_iff_ne.mpr c34
   have c34b2: ¬ (l0_3 = []):=fun h_=>c34 (by rw [h_];rfl)
   obtain rfl:=Option.some.inj H
   obtain ⟨_,_,_,_,_,_,_,_,_,_,_,_,_,_,_,_⟩:=fc8 BK360.out
   go_wp2
   go_ret
   exact ⟨by first|rfl|(simp <;> rfl)|(simp [*] <;> rfl),HB.out⟩
  rw [if_neg c33] at H
  have c33b0:(a0_1 == 0)=false:=beq_eq_false_iff_ne.mpr c33
  have c33b1:(a0_1 != 0)=true:=bne_iff_ne.mpr c33
  obtain rfl:=Option.some.inj H
  obtain ⟨_,_,_,_,_,_,_,_,_,_,_,_,_,_,_,_⟩:=fc8 BK360.out
  go_wp2
  go_ret
  exact ⟨by first|rfl|(simp <;> rfl)|(simp [*] <;> rfl),HB.out⟩
 rw [if_neg c32] at H
 have c32b0:(a0_0 == 4)=false:=beq_eq_false_iff_ne.mpr c32
 have c32b1:(a0_0 != 4)=true:=bne_iff_ne.mpr c32
 obtain rfl:=Option.some.inj H
 obtain ⟨_,_,_,_,_,_,_,_,_,_,_,_,_,_,_,_⟩:=fc8 BK360.out
 go_wp2
 go_ret
 exact ⟨by first|rfl|(simp <;> rfl)|(simp [*] <;> rfl),HB.out⟩
def spec_VarLen.j0:Nat→Int→Bool→Option (Int)
 |0,_,_=>none
 |k+1,x0,x3=>if x3=true then (some 0) else (if x0≤63 then (some 1) else (if x0≤16383 then (some 2) else (if x0≤1073741823 then (some 4) else (some 8))))
def spec_VarLen.f (k:Nat) (a0:Int):Option (Int):=if a0<0 then (spec_VarLen.j0 k a0 true) else (spec_VarLen.j0 k a0 (decide (a0>4611686018427387903)))
set_option maxHeartbeats 8000000 in
set_option maxRecDepth 100000 in
theorem spec_VarLen.calls (k:Nat) (a0:Int) (r:Int) (w:World) (h:spec_VarLen.f k a0=some r) :
  Calls Try.prog 82 #[.int .i64 a0] w fun e w' =>e = .returned (.int .i64 r)∧Drawn0 w w' :=by
 have H:(if a0<0 then (spec_VarLen.j0 k a0 true) else (spec_VarLen.j0 k a0 (decide (a0>4611686018427387903))))=some r:=h
 clear h
 have HC2:=qm H
 clear H
 go_enter Try.func82,Try.ntmps82
 go_upto_region 1 with (fail)
 go_cut [3] (fun v3 wc=>∃ (kq:Nat) (x3_1:Bool),v3 = .bool x3_1∧Aside0 (spec_VarLen.j0 kq a0 x3_1=some r)∧Aside0 (kq≤k)∧Drawn0 w wc)
 case first=>
  have H:=HC2.out
  clear HC2
  by_cases c3:a0<0
  ·rw [if_pos c3] at H
   have c3b0:decide (a0<0)=true:=decide_eq_true c3
   clear c3
   (first|rw [c3b0]|(simp only [i64_w,i32_w];rw [c3b0])|skip)
   have H' :=qm H
   clear H
   go_wp2
   go_meet
   case rel=>exact ⟨_,(true),rfl,H',⟨by first|omega|exact Nat.le_refl _⟩,by repeat (first|exact Drawn0.refl _|apply Drawn0.step)⟩
  rw [if_neg c3] at H
  have c3b0:decide (a0<0)=false:=decide_eq_false c3
  clear c3
  (first|rw [c3b0]|(simp only [i64_w,i32_w];rw [c3b0])|skip)
  have H' :=qm H
  clear H
  go_wp2
  go_meet
  case rel=>exact ⟨_,(decide (a0>4611686018427387903)),rfl,H',⟨by first|omega|exact Nat.le_refl _⟩,by repeat (first|exact Drawn0.refl _|apply Drawn0.step)⟩
 clear HC2
 obtain ⟨kq,x3_1,rfl,HA,HJ1,⟨mc1,rfl⟩⟩:=hcut
 cases kq with
 |zero=>exact absurd HA.out (by simp [spec_VarLen.j0])
 |succ kj1=>?_
 have H:=HA.out
 clear HA
 simp only [spec_VarLen.j0] at H
 by_cases c4:x3_1=true
 ·subst c4
  rw [if_pos rfl] at H
  obtain rfl:=Option.some.inj H
  go_wp2
  go_ret
  exact ⟨by first|rfl|(simp;done)|(simp [*];done),by repeat (first|exact Drawn0.refl _|apply Drawn0.step)⟩
 replace c4:=Bool.eq_false_iff.mpr c4
 subst c4
 rw [if_neg nt] at H
 by_cases c5:a0≤63
 ·rw [if_pos c5] at H
  have c5b0:decide (a0≤63)=true:=decide_eq_true c5
  clear c5
  obtain rfl:=Option.some.inj H
  go_wp2
  go_ret
  exact ⟨by first|rfl|(simp;done)|(simp [*];done),by repeat (first|exact Drawn0.refl _|apply Drawn0.step)⟩
 rw [if_neg c5] at H
 have c5b0:decide (a0≤63)=false:=decide_eq_false c5
 clear c5
 by_cases c6:a0≤16383
 ·rw [if_pos c6] at H
  have c6b0:decide (a0≤16383)=true:=decide_eq_true c6
  clear c6
  obtain rfl:=Option.some.inj H
  go_wp2
  go_ret
  exact ⟨by first|rfl|(simp;done)|(simp [*];done),by repeat (first|exact Drawn0.refl _|apply Drawn0.step)⟩
 rw [if_neg c6] at H
 have c6b0:decide (a0≤16383)=false:=decide_eq_false c6
 clear c6
 by_cases c7:a0≤1073741823
 ·rw [if_pos c7] at H
  have c7b0:decide (a0≤1073741823)=true:=decide_eq_true c7
  clear c7
  obtain rfl:=Option.some.inj H
  go_wp2
  go_ret
  exact ⟨by first|rfl|(simp;done)|(simp [*];done),by repeat (first|exact Drawn0.refl _|apply Drawn0.step)⟩
 rw [if_neg c7] at H
 have c7b0:decide (a0≤1073741823)=false:=decide_eq_false c7
 clear c7
 obtain rfl:=Option.some.inj H
 go_wp2
 go_ret
 exact ⟨by first|rfl|(simp;done)|(simp [*];done),by repeat (first|exact Drawn0.refl _|apply Drawn0.step)⟩
end Go.Proofs.Ytcdkbdkanjifeaa.SFnExactProtectPacket
