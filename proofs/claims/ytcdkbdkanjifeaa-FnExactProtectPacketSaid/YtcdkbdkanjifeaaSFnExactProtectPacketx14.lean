/- The walk of functions that the law FnExactProtectPacket uses, written by program. -/
import Derived.Test.YtcdkbdkanjifeaaSFnExactProtectPacketx0
import Derived.Test.YtcdkbdkanjifeaaSFnExactProtectPacketx11
import Derived.Test.YtcdkbdkanjifeaaSFnExactProtectPacketx13
import Derived.Test.YtcdkbdkanjifeaaSteps2
import Derived.Test.YtcdkbdkanjifeaaSteps3
namespace Go.Proofs.Ytcdkbdkanjifeaa.SFnExactProtectPacket
open Go.Proofs.Ytcdkbdkanjifeaa.Steps3 Go.Proofs.Ytcdkbdkanjifeaa.Steps2 Go.RowKit Go.Proofs.YtcdkbdkanjifeaaW.PrintWords Go.Proofs.YtcdkbdkanjifeaaW.PrintLast Go.Proofs.YtcdkbdkanjifeaaW.PrintMore
open Go.Proofs.YtcdkbdkanjifeaaW.PrintWords renaming below_alloc → qh, pw_below_drewN → qi, below_drew1 → qj, below_set → qk, below_size → qs
open Go.Proofs.YtcdkbdkanjifeaaW.PrintWords.Aside0 renaming mk → qm
attribute [local go_sem] max2_int min2_int max_two min_two max_three min_three max_four min_four 
set_option linter.unusedVariables false
set_option linter.unusedSimpArgs false
def impl_headerOK.j0:Nat→Bool→Int→Int→List Int→List Int→List Int→Int→Int→Int→Option (Bool)
 |0,_,_,_,_,_,_,_,_,_=>none
 |k+1,x22,x586000,x586001,x586002,x586003,x586004,x586005,x586006,x586007=>if x22=true then (some false) else (if x586000=1 then ((impl_versionOK.f x586001).bind fun t587=>(if t587=true then (if (x586003.length:Int)≤8 then (if (x586004.length:Int)≤64 then (some (x586007 == 0)) else (some false)) else (some false)) else (some false))) else (if x586000=2 then ((impl_versionOK.f x586001).bind fun t588=>(if t588=true then (if (x586003.length:Int)≤8 then (if (x586004.length:Int)=0 then (some (x586007 == 0)) else (some false)) else (some false)) else (some false))) else (if x586000=4 then (if x586001=0 then (if (x586003.length:Int)=0 then (if (x586004.length:Int)=0 then (if x586007=0 then (some true) else (some (x586007 == 1))) else (some false)) else (some false)) else (some false)) else (some false))))
def impl_headerOK.f (k:Nat) (a0_0:Int) (a0_1:Int) (l0_2:List Int) (l0_3:List Int) (l0_4:List Int) (a0_5:Int) (a0_6:Int) (a0_7:Int):Option (Bool):=(impl_inVar.f a0_5).bind fun t586=>(if t586=true then (if a0_6<1 then (impl_headerOK.j0 k true a0_0 a0_1 l0_2 l0_3 l0_4 a0_5 a0_6 a0_7) else (if a0_6>4 then (impl_headerOK.j0 k true a0_0 a0_1 l0_2 l0_3 l0_4 a0_5 a0_6 a0_7) else (impl_headerOK.j0 k (decide ((l0_2.length:Int)>8)) a0_0 a0_1 l0_2 l0_3 l0_4 a0_5 a0_6 a0_7))) else (impl_headerOK.j0 k true a0_0 a0_1 l0_2 l0_3 l0_4 a0_5 a0_6 a0_7))
set_option maxHeartbeats 8000000 in
set_option maxRecDepth 100000 in
theorem impl_headerOK.calls (k:Nat) (a0_0:Int) (a0_1:Int) (A0_2:Option Addr) (c0_2:Nat) (l0_2:List Int) (A0_3:Option Addr) (c0_3:Nat) (l0_3:List Int) (A0_4:Option Addr) (c0_4:Nat) (l0_4:List Int) (a0_5:Int) (a0_6:Int) (a0_7:Int) (r:Bool) (w:World) (hr0_2:Kd.C (Kd.int .u8) w A0_2 l0_2.length l0_2) (hc0_2:l0_2.length≤c0_2) (hr0_3:Kd.C (Kd.int .u8) w A0_3 l0_3.length l0_3) (hc0_3:l0_3.length≤c0_3) (hr0_4:Kd.C (Kd.int .u8) w A0_4 l0_4.length l0_4) (hc0_4:l0_4.length≤c0_4) (h:impl_headerOK.f k a0_0 a0_1 l0_2 l0_3 l0_4 a0_5 a0_6 a0_7=some r) :
  Calls Try.prog 74 #[.agg #[.int .i64 a0_0, .int .i64 a0_1, .slice A0_2 l0_2.length c0_2, .slice A0_3 l0_3.length c0_3, .slice A0_4 l0_4.length c0_4, .int .i64 a0_5, .int .i64 a0_6, .int .i64 a0_7]] w fun e w' =>e = .returned (.bool r)∧Below w.heap.size w w' :=by
 have hu45:=Try.underlying45
 have HR0_2:=qm hr0_2
 have HC0_2:=qm hc0_2
 clear hr0_2 hc0_2
 have HR0_3:=qm hr0_3
 have HC0_3:=qm hc0_3
 clear hr0_3 hc0_3
 have HR0_4:=qm hr0_4
 have HC0_4:=qm hc0_4
 clear hr0_4 hc0_4
 have HB:=qm (Below.refl w.heap.size w)
 have H:((impl_inVar.f a0_5).bind fun t586=>(if t586=true then (if a0_6<1 then (impl_headerOK.j0 k true a0_0 a0_1 l0_2 l0_3 l0_4 a0_5 a0_6 a0_7) else (if a0_6>4 then (impl_headerOK.j0 k true a0_0 a0_1 l0_2 l0_3 l0_4 a0_5 a0_6 a0_7) else (impl_headerOK.j0 k (decide ((l0_2.length:Int)>8)) a0_0 a0_1 l0_2 l0_3 l0_4 a0_5 a0_6 a0_7))) else (impl_headerOK.j0 k true a0_0 a0_1 l0_2 l0_3 l0_4 a0_5 a0_6 a0_7)))=some r:=h
 clear h
 have HC2:=qm H
 clear H
 go_enter Try.func74,Try.ntmps74
 go_upto_region 1 with (first|((with_reducible refine gate_dst (N:=1) rfl ?_);(try (refine gate_guard (by rfl) ?_;dsimp only));refine box_event (by rfl) (N:=1) (by rfl) (cs:=#[.int .i64 a0_0, .int .i64 a0_1, .slice A0_2 l0_2.length c0_2, .slice A0_3 l0_3.length c0_3, .slice A0_4 l0_4.length c0_4, .int .i64 a0_5, .int .i64 a0_6, .int .i64 a0_7]) (t:=45) (by first|(go_simp;done)|(go_simp;rfl)) ?_;intro gb585 hg w3 hbox hb;have _:=qm (below_step HB.out hb);have _:=qm (hbox);have _:=qm ((gs hg (qs HB.out)));have _:=qm ((gs hg (qs HB.out)));clear HB;rename_i HB BK585 GW585 GE585;clear hb hbox hg))
 (try simp only [Act.put,s1,s2,s3])
 go_cut [22] (fun v22 wc=>∃ (kq:Nat) (x22_1:Bool),v22 = .bool x22_1∧Aside0 (impl_headerOK.j0 kq x22_1 a0_0 a0_1 l0_2 l0_3 l0_4 a0_5 a0_6 a0_7=some r)∧Aside0 (kq≤k)∧Aside0 (wc.heap[gb585]? =some (.cells #[.int .i64 a0_0, .int .i64 a0_1,(.slice A0_2 l0_2.length c0_2),(.slice A0_3 l0_3.length c0_3),(.slice A0_4 l0_4.length c0_4), .int .i64 a0_5, .int .i64 a0_6, .int .i64 a0_7] 45 (0,0)))∧Aside0 (Below w.heap.size w wc))
 case first=>
  have H:=HC2.out
  clear HC2
  replace H:=Option.bind_eq_some_iff.mp H
  obtain ⟨t586,A40,H⟩:=H
  try dsimp only at H
  have A4:=qm A40
  clear A40
  by_cases c5:t586=true
  ·subst c5
   rw [if_pos rfl] at H
   by_cases c6:a0_6<1
   ·rw [if_pos c6] at H
    have c6b0:decide (a0_6<1)=true:=decide_eq_true c6
    clear c6
    (first|rw [c6b0]|(simp only [i64_w,i32_w];rw [c6b0])|skip)
    have H' :=qm H
    clear H
    obtain ⟨_,_,_,_,_,_,_,_,_,_,_,_,_,_,_,_⟩:=fc8 BK585.out
    go_wp2_with (first|((with_reducible refine gate_callee (f:=67) rfl ?_);refine goesL_ (some 5) rfl rfl Try.func67 (by kernel_rfl) rfl #[.int .i64 a0_5] rfl (by (try simp only [m1,m2,m3]);first|done|rfl) ?_;(with_reducible refine (impl_inVar.calls a0_5 true _ A4.out).mono ?_);rintro e w' ⟨rfl,⟨nd,rfl⟩⟩;refine ⟨_,rfl,?_⟩))
    go_meet
    case rel=>exact ⟨_,(true),(by first|rfl|(simp;done)|(simp [*];done)),H',⟨by first|omega|exact Nat.le_refl _⟩,⟨BK585.out⟩,⟨by repeat (first|(with_reducible first|exact HB.out|apply qh|apply qi|apply qj|refine qk ?_ GE585.out)|exact HB.out)⟩⟩
   rw [if_neg c6] at H
   have c6b0:decide (a0_6<1)=false:=decide_eq_false c6
   clear c6
   (first|rw [c6b0]|(simp only [i64_w,i32_w];rw [c6b0])|skip)
   by_cases c8:a0_6>4
   ·rw [if_pos c8] at H
    have c8b0:decide (4<a0_6)=true:=decide_eq_true c8
    clear c8
    have H' :=qm H
    clear H
    obtain ⟨_,_,_,_,_,_,_,_,_,_,_,_,_,_,_,_⟩:=fc8 BK585.out
    go_wp2_with (first|((with_reducible refine gate_callee (f:=67) rfl ?_);refine goesL_ (some 5) rfl rfl Try.func67 (by kernel_rfl) rfl #[.int .i64 a0_5] rfl (by (try simp only [m1,m2,m3]);first|done|rfl) ?_;(with_reducible refine (impl_inVar.calls a0_5 true _ A4.out).mono ?_);rintro e w' ⟨rfl,⟨nd,rfl⟩⟩;refine ⟨_,rfl,?_⟩))
    go_meet
    case rel=>exact ⟨_,(true),(by first|rfl|(simp;done)|(simp [*];done)),H',⟨by first|omega|exact Nat.le_refl _⟩,⟨BK585.out⟩,⟨by repeat (first|(with_reducible first|exact HB.out|apply qh|apply qi|apply qj|refine qk ?_ GE585.out)|exact HB.out)⟩⟩
   rw [if_neg c8] at H
   have c8b0:decide (4<a0_6)=false:=decide_eq_false c8
   clear c8
   have H' :=qm H
   clear H
   obtain ⟨_,_,_,_,_,_,_,_,_,_,_,_,_,_,_,_⟩:=fc8 BK585.out
   go_wp2_with (first|((with_reducible refine gate_callee (f:=67) rfl ?_);refine goesL_ (some 5) rfl rfl Try.func67 (by kernel_rfl) rfl #[.int .i64 a0_5] rfl (by (try simp only [m1,m2,m3]);first|done|rfl) ?_;(with_reducible refine (impl_inVar.calls a0_5 true _ A4.out).mono ?_);rintro e w' ⟨rfl,⟨nd,rfl⟩⟩;refine ⟨_,rfl,?_⟩))
   go_meet
   case rel=>exact ⟨_,(decide ((l0_2.length:Int)>8)),(by first|rfl|(simp;done)|(simp [*];done)),H',⟨by first|omega|exact Nat.le_refl _⟩,⟨BK585.out⟩,⟨by repeat (first|(with_reducible first|exact HB.out|apply qh|apply qi|apply qj|refine qk ?_ GE585.out)|exact HB.out)⟩⟩
  replace c5:=Bool.eq_false_iff.mpr c5
  subst c5
  rw [if_neg nt] at H
  have H' :=qm H
  clear H
  obtain ⟨_,_,_,_,_,_,_,_,_,_,_,_,_,_,_,_⟩:=fc8 BK585.out
  go_wp2_with (first|((with_reducible refine gate_callee (f:=67) rfl ?_);refine goesL_ (some 5) rfl rfl Try.func67 (by kernel_rfl) rfl #[.int .i64 a0_5] rfl (by (try simp only [m1,m2,m3]);first|done|rfl) ?_;(with_reducible refine (impl_inVar.calls a0_5 false _ A4.out).mono ?_);rintro e w' ⟨rfl,⟨nd,rfl⟩⟩;refine ⟨_,rfl,?_⟩))
  go_meet
  case rel=>exact ⟨_,(true),(by first|rfl|(simp;done)|(simp [*];done)),H',⟨by first|omega|exact Nat.le_refl _⟩,⟨BK585.out⟩,⟨by repeat (first|(with_reducible first|exact HB.out|apply qh|apply qi|apply qj|refine qk ?_ GE585.out)|exact HB.out)⟩⟩
 clear HC2
 obtain ⟨kq,x22_1,rfl,HA,HJ1,BK585,HB⟩:=hcut
 cases kq with
 |zero=>exact absurd HA.out (by simp [impl_headerOK.j0])
 |succ kj1=>?_
 have H:=HA.out
 clear HA
 simp only [impl_headerOK.j0] at H
 by_cases c12:x22_1=true
 ·subst c12
  rw [if_pos rfl] at H
  obtain rfl:=Option.some.inj H
  go_wp2
  go_ret
  exact ⟨by first|rfl|(simp <;> rfl)|(simp [*] <;> rfl),HB.out⟩
 replace c12:=Bool.eq_false_iff.mpr c12
 subst c12
 rw [if_neg nt] at H
 by_cases c13:a0_0=1
 ·rw [if_pos c13] at H
  have c13b0:(a0_0 == 1)=true:=beq_iff_eq.mpr c13
  have c13b1:(a0_0 != 1)=false:=bne_eq_false_iff_eq.mpr c13
  clear c13
  replace H:=Option.bind_eq_some_iff.mp H
  obtain ⟨t587,A140,H⟩:=H
  try dsimp only at H
  have A14:=qm A140
  clear A140
  by_cases c15:t587=true
  ·subst c15
   rw [if_pos rfl] at H
   by_cases c16:(l0_3.length:Int)≤8
   ·rw [if_pos c16] at H
    have c16b0:decide ((l0_3.length:Int)≤8)=true:=decide_eq_true c16
    have c16b1:decide (l0_3.length≤8)=true:=decide_eq_true (by omega)
    clear c16
    by_cases c17:(l0_4.length:Int)≤64
    ·rw [if_pos c17] at H
     have c17b0:decide ((l0_4.length:Int)≤64)=true:=decide_eq_true c17
     have c17b1:decide (l0_4.length≤64)=true:=decide_eq_true (by omega)
     clear c17
     obtain rfl:=Option.some.inj H
     obtain ⟨_,_,_,_,_,_,_,_,_,_,_,_,_,_,_,_⟩:=fc8 BK585.out
     go_wp2_with (first|((with_reducible refine gate_callee (f:=60) rfl ?_);refine goesL_ (some 29) rfl rfl Try.func60 (by kernel_rfl) rfl #[.int .i64 a0_1] rfl (by (try simp only [m1,m2,m3]);first|done|rfl) ?_;(with_reducible refine (impl_versionOK.calls a0_1 true _ A14.out).mono ?_);rintro e w' ⟨rfl,⟨nd,rfl⟩⟩;refine ⟨_,rfl,?_⟩))
     go_ret
     exact ⟨by first|rfl|(simp [errW_none,errW_some] <;> rfl)|(simp [*,errW_none,errW_some] <;> rfl),by repeat (first|(with_reducible first|exact HB.out|apply qh|apply qi|apply qj|refine qk ?_ GE585.out)|exact HB.out)⟩
    rw [if_neg c17] at H
    have c17b0:decide ((l0_4.length:Int)≤64)=false:=decide_eq_false c17
    have c17b1:decide (l0_4.length≤64)=false:=decide_eq_false (by omega)
    clear c17
    obtain rfl:=Option.some.inj H
    obtain ⟨_,_,_,_,_,_,_,_,_,_,_,_,_,_,_,_⟩:=fc8 BK585.out
    go_wp2_with (first|((with_reducible refine gate_callee (f:=60) rfl ?_);refine goesL_ (some 29) rfl rfl Try.func60 (by kernel_rfl) rfl #[.int .i64 a0_1] rfl (by (try simp only [m1,m2,m3]);first|done|rfl) ?_;(with_reducible refine (impl_versionOK.calls a0_1 true _ A14.out).mono ?_);rintro e w' ⟨rfl,⟨nd,rfl⟩⟩;refine ⟨_,rfl,?_⟩))
    go_ret
    exact ⟨by first|rfl|(simp [errW_none,errW_some] <;> rfl)|(simp [*,errW_none,errW_some] <;> rfl),by repeat (first|(with_reducible first|exact HB.out|apply qh|apply qi|apply qj|refine qk ?_ GE585.out)|exact HB.out)⟩
   rw [if_neg c16] at H
   have c16b0:decide ((l0_3.length:Int)≤8)=false:=decide_eq_false c16
   have c16b1:decide (l0_3.length≤8)=false:=decide_eq_false (by omega)
   clear c16
   obtain rfl:=Option.some.inj H
   obtain ⟨_,_,_,_,_,_,_,_,_,_,_,_,_,_,_,_⟩:=fc8 BK585.out
   go_wp2_with (first|((with_reducible refine gate_callee (f:=60) rfl ?_);refine goesL_ (some 29) rfl rfl Try.func60 (by kernel_rfl) rfl #[.int .i64 a0_1] rfl (by (try simp only [m1,m2,m3]);first|done|rfl) ?_;(with_reducible refine (impl_versionOK.calls a0_1 true _ A14.out).mono ?_);rintro e w' ⟨rfl,⟨nd,rfl⟩⟩;refine ⟨_,rfl,?_⟩))
   go_ret
   exact ⟨by first|rfl|(simp [errW_none,errW_some] <;> rfl)|(simp [*,errW_none,errW_some] <;> rfl),by repeat (first|(with_reducible first|exact HB.out|apply qh|apply qi|apply qj|refine qk ?_ GE585.out)|exact HB.out)⟩
  replace c15:=Bool.eq_false_iff.mpr c15
  subst c15
  rw [if_neg nt] at H
  obtain rfl:=Option.some.inj H
  obtain ⟨_,_,_,_,_,_,_,_,_,_,_,_,_,_,_,_⟩:=fc8 BK585.out
  go_wp2_with (first|((with_reducible refine gate_callee (f:=60) rfl ?_);refine goesL_ (some 29) rfl rfl Try.func60 (by kernel_rfl) rfl #[.int .i64 a0_1] rfl (by (try simp only [m1,m2,m3]);first|done|rfl) ?_;(with_reducible refine (impl_versionOK.calls a0_1 false _ A14.out).mono ?_);rintro e w' ⟨rfl,⟨nd,rfl⟩⟩;refine ⟨_,rfl,?_⟩))
  go_ret
  exact ⟨by first|rfl|(simp [errW_none,errW_some] <;> rfl)|(simp [*,errW_none,errW_some] <;> rfl),by repeat (first|(with_reducible first|exact HB.out|apply qh|apply qi|apply qj|refine qk ?_ GE585.out)|exact HB.out)⟩
 rw [if_neg c13] at H
 have c13b0:(a0_0 == 1)=false:=beq_eq_false_iff_ne.mpr c13
 have c13b1:(a0_0 != 1)=true:=bne_iff_ne.mpr c13
 by_cases c22:a0_0=2
 ·rw [if_pos c22] at H
  have c22b0:(a0_0 == 2)=true:=beq_iff_eq.mpr c22
  have c22b1:(a0_0 != 2)=false:=bne_eq_false_iff_eq.mpr c22
  clear c22
  replace H:=Option.bind_eq_some_iff.mp H
  obtain ⟨t588,A230,H⟩:=H
  try dsimp only at H
  have A23:=qm A230
  clear A230
  by_cases c24:t588=true
  ·subst c24
   rw [if_pos rfl] at H
   by_cases c25:(l0_3.length:Int)≤8
   ·rw [if_pos c25] at H
    have c25b0:decide ((l0_3.length:Int)≤8)=true:=decide_eq_true c25
    have c25b1:decide (l0_3.length≤8)=true:=decide_eq_true (by omega)
    clear c25
    by_cases c26:(l0_4.length:Int)=0
    ·rw [if_pos c26] at H
     have c26b0:((l0_4.length:Int) == 0)=true:=beq_iff_eq.mpr c26
     have c26b1:((l0_4.length:Int) != 0)=false:=bne_eq_false_iff_eq.mpr c26
     clear c26
     obtain rfl:=Option.some.inj H
     obtain ⟨_,_,_,_,_,_,_,_,_,_,_,_,_,_,_,_⟩:=fc8 BK585.out
     go_wp2_with (first|((with_reducible refine gate_callee (f:=60) rfl ?_);refine goesL_ (some 51) rfl rfl Try.func60 (by kernel_rfl) rfl #[.int .i64 a0_1] rfl (by (try simp only [m1,m2,m3]);first|done|rfl) ?_;(with_reducible refine (impl_versionOK.calls a0_1 true _ A23.out).mono ?_);rintro e w' ⟨rfl,⟨nd,rfl⟩⟩;refine ⟨_,rfl,?_⟩))
     go_ret
     exact ⟨by first|rfl|(simp [errW_none,errW_some] <;> rfl)|(simp [*,errW_none,errW_some] <;> rfl),by repeat (first|(with_reducible first|exact HB.out|apply qh|apply qi|apply qj|refine qk ?_ GE585.out)|exact HB.out)⟩
    rw [if_neg c26] at H
    have c26b0:((l0_4.length:Int) == 0)=false:=beq_eq_false_iff_ne.mpr c26
    have c26b1:((l0_4.length:Int) != 0)=true:=bne_iff_ne.mpr c26
    have c26b2: ¬ (l0_4 = []):=fun h_=>c26 (by rw [h_];rfl)
    obtain rfl:=Option.some.inj H
    obtain ⟨_,_,_,_,_,_,_,_,_,_,_,_,_,_,_,_⟩:=fc8 BK585.out
    go_wp2_with (first|((with_reducible refine gate_callee (f:=60) rfl ?_);refine goesL_ (some 51) rfl rfl Try.func60 (by kernel_rfl) rfl #[.int .i64 a0_1] rfl (by (try simp only [m1,m2,m3]);first|done|rfl) ?_;(with_reducible refine (impl_versionOK.calls a0_1 true _ A23.out).mono ?_);rintro e w' ⟨rfl,⟨nd,rfl⟩⟩;refine ⟨_,rfl,?_⟩))
    go_ret
    exact ⟨by first|rfl|(simp [errW_none,errW_some] <;> rfl)|(simp [*,errW_none,errW_some] <;> rfl),by repeat (first|(with_reducible first|exact HB.out|apply qh|apply qi|apply qj|refine qk ?_ GE585.out)|exact HB.out)⟩
   rw [if_neg c25] at H
   have c25b0:decide ((l0_3.length:Int)≤8)=false:=decide_eq_false c25
   have c25b1:decide (l0_3.length≤8)=false:=decide_eq_false (by omega)
   clear c25
   obtain rfl:=Option.some.inj H
   obtain ⟨_,_,_,_,_,_,_,_,_,_,_,_,_,_,_,_⟩:=fc8 BK585.out
   go_wp2_with (first|((with_reducible refine gate_callee (f:=60) rfl ?_);refine goesL_ (some 51) rfl rfl Try.func60 (by kernel_rfl) rfl #[.int .i64 a0_1] rfl (by (try simp only [m1,m2,m3]);first|done|rfl) ?_;(with_reducible refine (impl_versionOK.calls a0_1 true _ A23.out).mono ?_);rintro e w' ⟨rfl,⟨nd,rfl⟩⟩;refine ⟨_,rfl,?_⟩))
   go_ret
   exact ⟨by first|rfl|(simp [errW_none,errW_some] <;> rfl)|(simp [*,errW_none,errW_some] <;> rfl),by repeat (first|(with_reducible first|exact HB.out|apply qh|apply qi|apply qj|refine qk ?_ GE585.out)|exact HB.out)⟩
  replace c24:=Bool.eq_false_iff.mpr c24
  subst c24
  rw [if_neg nt] at H
  obtain rfl:=Option.some.inj H
  obtain ⟨_,_,_,_,_,_,_,_,_,_,_,_,_,_,_,_⟩:=fc8 BK585.out
  go_wp2_with (first|((with_reducible refine gate_callee (f:=60) rfl ?_);refine goesL_ (some 51) rfl rfl Try.func60 (by kernel_rfl) rfl #[.int .i64 a0_1] rfl (by (try simp only [m1,m2,m3]);first|done|rfl) ?_;(with_reducible refine (impl_versionOK.calls a0_1 false _ A23.out).mono ?_);rintro e w' ⟨rfl,⟨nd,rfl⟩⟩;refine ⟨_,rfl,?_⟩))
  go_ret
  exact ⟨by first|rfl|(simp [errW_none,errW_some] <;> rfl)|(simp [*,errW_none,errW_some] <;> rfl),by repeat (first|(with_reducible first|exact HB.out|apply qh|apply qi|apply qj|refine qk ?_ GE585.out)|exact HB.out)⟩
 rw [if_neg c22] at H
 have c22b0:(a0_0 == 2)=false:=beq_eq_false_iff_ne.mpr c22
 have c22b1:(a0_0 != 2)=true:=bne_iff_ne.mpr c22
 by_cases c31:a0_0=4
 ·rw [if_pos c31] at H
  have c31b0:(a0_0 == 4)=true:=beq_iff_eq.mpr c31
  have c31b1:(a0_0 != 4)=false:=bne_eq_false_iff_eq.mpr c31
  clear c31
  by_cases c32:a0_1=0
  ·rw [if_pos c32] at H
   have c32b0:(a0_1 == 0)=true:=beq_iff_eq.mpr c32
   have c32b1:(a0_1 != 0)=false:=bne_eq_false_iff_eq.mpr c32
   clear c32
   by_cases c33:(l0_3.length:Int)=0
   ·rw [if_pos c33] at H
    have c33b0:((l0_3.length:Int) == 0)=true:=beq_iff_eq.mpr c33
    have c33b1:((l0_3.length:Int) != 0)=false:=bne_eq_false_iff_eq.mpr c33
    clear c33
    by_cases c34:(l0_4.length:Int)=0
    ·rw [if_pos c34] at H
     have c34b0:((l0_4.length:Int) == 0)=true:=beq_iff_eq.mpr c34
     have c34b1:((l0_4.length:Int) != 0)=false:=bne_eq_false_iff_eq.mpr c34
     clear c34
     by_cases c35:a0_7=0
     ·rw [if_pos c35] at H
      have c35b0:(a0_7 == 0)=true:=beq_iff_eq.mpr c35
      have c35b1:(a0_7 != 0)=false:=bne_eq_false_iff_eq.mpr c35
      clear c35
      obtain rfl:=Option.some.inj H
      obtain ⟨_,_,_,_,_,_,_,_,_,_,_,_,_,_,_,_⟩:=fc8 BK585.out
      go_wp2
      go_ret
      exact ⟨by first|rfl|(simp <;> rfl)|(simp [*] <;> rfl),HB.out⟩
     rw [if_neg c35] at H
     have c35b0:(a0_7 == 0)=false:=beq_eq_false_iff_ne.mpr c35
     have c35b1:(a0_7 != 0)=true:=bne_iff_ne.mpr c35
     obtain rfl:=Option.some.inj H
     obtain ⟨_,_,_,_,_,_,_,_,_,_,_,_,_,_,_,_⟩:=fc8 BK585.out
     go_wp2
     go_ret
     exact ⟨by first|rfl|(simp <;> rfl)|(simp [*] <;> rfl),HB.out⟩
    rw [if_neg c34] at H
    have c34b0:((l0_4.length:Int) == 0)=false:=beq_eq_false_iff_ne.mpr c34
    have c34b1:((l0_4.length:Int) != 0)=true:=bne_iff_ne.mpr c34
    have c34b2: ¬ (l0_4 = []):=fun h_=>c34 (by rw [h_];rfl)
    obtain rfl:=Option.some.inj H
    obtain ⟨_,_,_,_,_,_,_,_,_,_,_,_,_,_,_,_⟩:=fc8 BK585.out
    go_wp2
    go_ret
    exact ⟨by first|rfl|(simp <;> rfl)|(simp [*] <;> rfl),HB.out⟩
   rw [if_neg c33] at H
   have c33b0:((l0_3.length:Int) == 0)=false:=beq_eq_false_iff_ne.mpr c33
   have c33b1:((l0_3.length:Int) != 0)=true:=bne_iff_ne.mpr c33
   have c33b2: ¬ (l0_3 = []):=fun h_=>c33 (by rw [h_];rfl)
   obtain rfl:=Option.some.inj H
   obtain ⟨_,_,_,_,_,_,_,_,_,_,_,_,_,_,_,_⟩:=fc8 BK585.out
   go_wp2
   go_ret
   exact ⟨by first|rfl|(simp <;> rfl)|(simp [*] <;> rfl),HB.out⟩
  rw [if_neg c32] at H
  have c32b0:(a0_1 == 0)=false:=beq_eq_false_iff_ne.mpr c32
  have c32b1:(a0_1 != 0)=true:=bne_iff_ne.mpr c32
  obtain rfl:=Option.some.inj H
  obtain ⟨_,_,_,_,_,_,_,_,_,_,_,_,_,_,_,_⟩:=fc8 BK585.out
  go_wp2
  go_ret
  exact ⟨by first|rfl|(simp <;> rfl)|(simp [*] <;> rfl),HB.out⟩
 rw [if_neg c31] at H
 have c31b0:(a0_0 == 4)=false:=beq_eq_false_iff_ne.mpr c31
 have c31b1:(a0_0 != 4)=true:=bne_iff_ne.mpr c31
 obtain rfl:=Option.some.inj H
 obtain ⟨_,_,_,_,_,_,_,_,_,_,_,_,_,_,_,_⟩:=fc8 BK585.out
 go_wp2
 go_ret
 exact ⟨by first|rfl|(simp <;> rfl)|(simp [*] <;> rfl),HB.out⟩
def impl_longBegin.f (k:Nat) (a0:Int) (a1:Int) (l2:List Int) (l3:List Int):Option (List Int):=(impl_fixed.f k (([a0]:List Int)) a1 4).bind fun t592=>(if t592.length<140737488355328 then ((some (t592 ++ [((l2.length:Int))%256]:List Int)).bind fun y595=>(if y595.length+l2.length<140737488355328 then ((some (y595 ++ l2:List Int)).bind fun y598=>(if y598.length<140737488355328 then ((some (y598 ++ [((l3.length:Int))%256]:List Int)).bind fun y601=>(if y601.length+l3.length<140737488355328 then (some (y601 ++ l3)) else (none))) else (none))) else (none))) else (none))
set_option maxHeartbeats 8000000 in
set_option maxRecDepth 100000 in
theorem impl_longBegin.calls (k:Nat) (a0:Int) (a1:Int) (A2:Option Addr) (c2:Nat) (l2:List Int) (A3:Option Addr) (c3:Nat) (l3:List Int) (r:List Int) (w:World) (hr2:Kd.C (Kd.int .u8) w A2 l2.length l2) (hc2:l2.length≤c2) (hr3:Kd.C (Kd.int .u8) w A3 l3.length l3) (hc3:l3.length≤c3) (h:impl_longBegin.f k a0 a1 l2 l3=some r) :
  Calls Try.prog 61 #[.int .u8 a0, .int .i64 a1, .slice A2 l2.length c2, .slice A3 l3.length c3] w fun e w' =>∃ v0_:Value,e = .returned (v0_)∧Kd.R (Kd.int .u8) 5 w' w.heap.size (fun _=>True) v0_ r∧Below w.heap.size w w' :=by
 have HR2:=qm hr2
 have HC2:=qm hc2
 clear hr2 hc2
 have HR3:=qm hr3
 have HC3:=qm hc3
 clear hr3 hc3
 have HB:=qm (Below.refl w.heap.size w)
 have H:((impl_fixed.f k (([a0]:List Int)) a1 4).bind fun t592=>(if t592.length<140737488355328 then ((some (t592 ++ [((l2.length:Int))%256]:List Int)).bind fun y595=>(if y595.length+l2.length<140737488355328 then ((some (y595 ++ l2:List Int)).bind fun y598=>(if y598.length<140737488355328 then ((some (y598 ++ [((l3.length:Int))%256]:List Int)).bind fun y601=>(if y601.length+l3.length<140737488355328 then (some (y601 ++ l3)) else (none))) else (none))) else (none))) else (none)))=some r:=h
 clear h
 obtain ⟨y589,hy589⟩:∃ y_:List Int,y_=(([a0]:List Int)):=⟨_,rfl⟩
 replace H:((impl_fixed.f k y589 a1 4).bind fun t592=>(if t592.length<140737488355328 then ((some (t592 ++ [((l2.length:Int))%256]:List Int)).bind fun y595=>(if y595.length+l2.length<140737488355328 then ((some (y595 ++ l2:List Int)).bind fun y598=>(if y598.length<140737488355328 then ((some (y598 ++ [((l3.length:Int))%256]:List Int)).bind fun y601=>(if y601.length+l3.length<140737488355328 then (some (y601 ++ l3)) else (none))) else (none))) else (none))) else (none)))=some r:=by first|(rw [hy589];with_reducible exact H)|(have H2_:=(Option.bind_some _ _).symm.trans H;rw [hy589];with_reducible exact H2_)|(have H2_:=(Option.bind_some _ _).symm.trans H;with_reducible exact H2_)|with_reducible exact H|(rw [hy589];exact H)|exact H
 have Ny589:=qm hy589
 clear hy589
 replace H:=Option.bind_eq_some_iff.mp H
 obtain ⟨t592,A50,H⟩:=H
 try dsimp only at H
 have A5:=qm A50
 clear A50
 by_cases c6:t592.length<140737488355328
 ·rw [if_pos c6] at H
  have LMc6:=qm c6
  clear c6
  obtain ⟨y595,hy595⟩:∃ y_:List Int,y_=(t592 ++ [((l2.length:Int))%256]):=⟨_,rfl⟩
  replace H:(if y595.length+l2.length<140737488355328 then ((some (y595 ++ l2:List Int)).bind fun y598=>(if y598.length<140737488355328 then ((some (y598 ++ [((l3.length:Int))%256]:List Int)).bind fun y601=>(if y601.length+l3.length<140737488355328 then (some (y601 ++ l3)) else (none))) else (none))) else (none))=some r:=by first|(rw [hy595];with_reducible exact H)|(have H2_:=(Option.bind_some _ _).symm.trans H;rw [hy595];with_reducible exact H2_)|(have H2_:=(Option.bind_some _ _).symm.trans H;with_reducible exact H2_)|with_reducible exact H|(rw [hy595];exact H)|exact H
  have Ny595:=qm hy595
  clear hy595
  by_cases c7:y595.length+l2.length<140737488355328
  ·rw [if_pos c7] at H
   have LMc7:=qm c7
   clear c7
   obtain ⟨y598,hy598⟩:∃ y_:List Int,y_=(y595 ++ l2):=⟨_,rfl⟩
   replace H:(if y598.length<140737488355328 then ((some (y598 ++ [((l3.length:Int))%256]:List Int)).bind fun y601=>(if y601.length+l3.length<140737488355328 then (some (y601 ++ l3)) else (none))) else (none))=some r:=by first|(rw [hy598];with_reducible exact H)|(have H2_:=(Option.bind_some _ _).symm.trans H;rw [hy598];with_reducible exact H2_)|(have H2_:=(Option.bind_some _ _).symm.trans H;with_reducible exact H2_)|with_reducible exact H|(rw [hy598];exact H)|exact H
   have Ny598:=qm hy598
   clear hy598
   by_cases c8:y598.length<140737488355328
   ·rw [if_pos c8] at H
    have LMc8:=qm c8
    clear c8
    obtain ⟨y601,hy601⟩:∃ y_:List Int,y_=(y598 ++ [((l3.length:Int))%256]):=⟨_,rfl⟩
    replace H:(if y601.length+l3.length<140737488355328 then (some (y601 ++ l3)) else (none))=some r:=by first|(rw [hy601];with_reducible exact H)|(have H2_:=(Option.bind_some _ _).symm.trans H;rw [hy601];with_reducible exact H2_)|(have H2_:=(Option.bind_some _ _).symm.trans H;with_reducible exact H2_)|with_reducible exact H|(rw [hy601];exact H)|exact H
    have Ny601:=qm hy601
    clear hy601
    by_cases c9:y601.length+l3.length<140737488355328
    ·rw [if_pos c9] at H
     have LMc9:=qm c9
     clear c9
     obtain ⟨y604,hy604⟩:∃ y_:List Int,y_=(y601 ++ l3):=⟨_,rfl⟩
     replace H:(some y604)=some r:=by first|(rw [hy604];with_reducible exact H)|(have H2_:=(Option.bind_some _ _).symm.trans H;rw [hy604];with_reducible exact H2_)|(have H2_:=(Option.bind_some _ _).symm.trans H;with_reducible exact H2_)|with_reducible exact H|(rw [hy604];exact H)|exact H
     have Ny604:=qm hy604
     clear hy604
     obtain rfl:=Option.some.inj H
     go_enter Try.func61,Try.ntmps61
     go_wp2_with (first|((with_reducible refine gate_dst (N:=11) rfl ?_);refine Kd.R_lit (Kd.int .u8) _ 5 ?hg (N:=11) ?hd (xs:=([a0]:List Int)) (inner:=[.int .u8 a0]) (ok:=fun _=>True) (okp:=fun _=>True) ?hr ?hp (fun _ hk=>hk) trivial (Below.refl _ _) (Nat.le_refl _) (by simp) ?_;(case hd=>rfl);(case hg=>rfl);(case hr=>first|(go_simp;done)|(go_simp;rfl));(case hp=>exact (Reps.one (show Kd.M (Kd.int .u8) _ _ _ a0 [.int .u8 a0] from rfl) (Reps.none _ _)));intro v590 w10 ho11 hb hg_ hnew_;clear hg_ hnew_;(first|rw [←Ny589.out] at ho11|(simp only [Int.reduceToNat] at ho11;rw [←Ny589.out] at ho11));have _:=qm (Kd.R_lower ho11 (qs HB.out));have _:=qm (below_step HB.out hb);clear HB;rename_i HO591 HB;clear hb ho11;obtain ⟨Ao12,co12,eo12⟩:=Kd.R_slice HO591.out;subst eo12)|((with_reducible refine gate_callee (f:=80) rfl ?_);refine goesL_ (some 13) rfl rfl Try.func80 (by kernel_rfl) rfl #[.slice Ao12 y589.length co12, .int .i64 a1, .int .i64 4] rfl (by (try simp only [m1,m2,m3]);first|done|rfl) ?_;(with_reducible refine (impl_fixed.calls k (fun k_=>some k_=(.slice Ao12 y589.length co12:Value).ownBlock) (.slice Ao12 y589.length co12) y589 a1 4 t592 w _ ?side1 ?side2 A5.out).mono ?_);(case side1=>repeat (first|(with_reducible first|exact HB.out|apply qh|apply qi|apply qj)|exact HB.out));(case side2=>exact Kd.R_tight rfl HO591.out);rintro e w13 ⟨v593,rfl,ho0,hb,hkp⟩;refine ⟨_,rfl,?_⟩;have _:=qm (Kd.R_mono (ok' :=fun k_=>True) ho0 (fun k_ hk_=>trivial));have _:=qm (hb);clear HB HO591;rename_i HO594 HB)|((with_reducible refine gate_builtin (b:= .append) (xs:=#[.tmp 14, .tmp 18]) rfl ?_);at_builtin;refine Kd.R_append (Kd.int .u8) (w0:=w) w.heap.size rfl (.tmp 14) (.tmp 18) 22 5 (.int .u8 0) 1 rfl Try.underlying22 info5 rfl (by decide) (by omega) v593 t592 (((l2.length:Int))%256) [.int .u8 (((l2.length:Int))%256)] (fun _=>True) (fun _=>False) rfl rfl ?aP (fun _ hk=>hk.elim) ?aF ?aO ?aB ?aS ?aL ?_;(case aP=>exact rfl);(case aB=>exact HB.out);(case aF=>exact (fun _ _=>trivial));(case aO=>exact HO594.out);(case aS=>exact (qs HB.out));(case aL=>have:=LMc6.out;omega);intro v596 w14 ho hb hg hat;rw [←Ny595.out] at ho;have _:=qm (hb);have _:=qm (ho);clear HB HO594;rename_i HB HO597;clear ho hb hg hat)|((with_reducible refine gate_builtin (b:= .append) (xs:=#[.tmp 19, .tmp 20]) rfl ?_);at_builtin;refine Kd.R_append_rows (Kd.int .u8) (w0:=w) w.heap.size rfl (.tmp 19) (.tmp 20) 22 5 (.int .u8 0) 1 rfl Try.underlying22 info5 rfl (by decide) (by omega) v596 y595 l2 _ _ _ (fun _=>True) (fun _=>False) rfl rfl ?aO ?aR (fun _ _ h=>h) (fun _ h=>h.elim) ?aF ?aB ?aS ?aL ?_;(case aR=>exact cb (Kd.C_below HR2.out HB.out));(case aB=>exact HB.out);(case aF=>exact (fun _ _=>trivial));(case aO=>exact HO597.out);(case aS=>exact (qs HB.out));(case aL=>have:=LMc7.out;omega);intro v599 w15 ho hb hg hat;rw [←Ny598.out] at ho;have _:=qm (hb);have _:=qm (ho);clear HB HO597;rename_i HB HO600;clear ho hb hg hat)|((with_reducible refine gate_builtin (b:= .append) (xs:=#[.tmp 22, .tmp 26]) rfl ?_);at_builtin;refine Kd.R_append (Kd.int .u8) (w0:=w) w.heap.size rfl (.tmp 22) (.tmp 26) 22 5 (.int .u8 0) 1 rfl Try.underlying22 info5 rfl (by decide) (by omega) v599 y598 (((l3.length:Int))%256) [.int .u8 (((l3.length:Int))%256)] (fun _=>True) (fun _=>False) rfl rfl ?aP (fun _ hk=>hk.elim) ?aF ?aO ?aB ?aS ?aL ?_;(case aP=>exact rfl);(case aB=>exact HB.out);(case aF=>exact (fun _ _=>trivial));(case aO=>exact HO600.out);(case aS=>exact (qs HB.out));(case aL=>have:=LMc8.out;omega);intro v602 w16 ho hb hg hat;rw [←Ny601.out] at ho;have _:=qm (hb);have _:=qm (ho);clear HB HO600;rename_i HB HO603;clear ho hb hg hat)|((with_reducible refine gate_builtin (b:= .append) (xs:=#[.tmp 27, .tmp 28]) rfl ?_);at_builtin;refine Kd.R_append_rows (Kd.int .u8) (w0:=w) w.heap.size rfl (.tmp 27) (.tmp 28) 22 5 (.int .u8 0) 1 rfl Try.underlying22 info5 rfl (by decide) (by omega) v602 y601 l3 _ _ _ (fun _=>True) (fun _=>False) rfl rfl ?aO ?aR (fun _ _ h=>h) (fun _ h=>h.elim) ?aF ?aB ?aS ?aL ?_;(case aR=>exact cb (Kd.C_below HR3.out HB.out));(case aB=>exact HB.out);(case aF=>exact (fun _ _=>trivial));(case aO=>exact HO603.out);(case aS=>exact (qs HB.out));(case aL=>have:=LMc9.out;omega);intro v605 w17 ho hb hg hat;rw [←Ny604.out] at ho;have _:=qm (hb);have _:=qm (ho);clear HB HO603;rename_i HB HO606;clear ho hb hg hat))
     go_ret
     exact ⟨_,by first|rfl|(simp <;> rfl)|(simp [*] <;> rfl),HO606.out,HB.out⟩
    rw [if_neg c9] at H
    exact absurd H (by simp)
   rw [if_neg c8] at H
   exact absurd H (by simp)
  rw [if_neg c7] at H
  exact absurd H (by simp)
 rw [if_neg c6] at H
 exact absurd H (by simp)
def impl_VarLen.f (a0:Int):Option (Int):=(impl_inVar.f a0).bind fun t607=>(if t607=true then (if a0<64 then (some 1) else (if a0<16384 then (some 2) else (if a0<1073741824 then (some 4) else (some 8)))) else (some 0))
set_option maxHeartbeats 8000000 in
set_option maxRecDepth 100000 in
theorem impl_VarLen.calls (a0:Int) (r:Int) (w:World) (h:impl_VarLen.f a0=some r) :
  Calls Try.prog 89 #[.int .i64 a0] w fun e w' =>e = .returned (.int .i64 r)∧Drawn0 w w' :=by
 have H:((impl_inVar.f a0).bind fun t607=>(if t607=true then (if a0<64 then (some 1) else (if a0<16384 then (some 2) else (if a0<1073741824 then (some 4) else (some 8)))) else (some 0)))=some r:=h
 clear h
 replace H:=Option.bind_eq_some_iff.mp H
 obtain ⟨t607,A20,H⟩:=H
 try dsimp only at H
 have A2:=qm A20
 clear A20
 by_cases c3:t607=true
 ·subst c3
  rw [if_pos rfl] at H
  by_cases c4:a0<64
  ·rw [if_pos c4] at H
   have c4b0:decide (a0<64)=true:=decide_eq_true c4
   clear c4
   obtain rfl:=Option.some.inj H
   go_enter Try.func89,Try.ntmps89
   go_wp2_with (first|((with_reducible refine gate_callee (f:=67) rfl ?_);refine goesL_ (some 5) rfl rfl Try.func67 (by kernel_rfl) rfl #[.int .i64 a0] rfl (by (try simp only [m1,m2,m3]);first|done|rfl) ?_;(with_reducible refine (impl_inVar.calls a0 true _ A2.out).mono ?_);rintro e w' ⟨rfl,⟨nd,rfl⟩⟩;refine ⟨_,rfl,?_⟩))
   go_ret
   exact ⟨by first|rfl|(simp;done)|(simp [*];done),by repeat (first|exact Drawn0.refl _|apply Drawn0.step)⟩
  rw [if_neg c4] at H
  have c4b0:decide (a0<64)=false:=decide_eq_false c4
  clear c4
  by_cases c5:a0<16384
  ·rw [if_pos c5] at H
   have c5b0:decide (a0<16384)=true:=decide_eq_true c5
   clear c5
   obtain rfl:=Option.some.inj H
   go_enter Try.func89,Try.ntmps89
   go_wp2_with (first|((with_reducible refine gate_callee (f:=67) rfl ?_);refine goesL_ (some 5) rfl rfl Try.func67 (by kernel_rfl) rfl #[.int .i64 a0] rfl (by (try simp only [m1,m2,m3]);first|done|rfl) ?_;(with_reducible refine (impl_inVar.calls a0 true _ A2.out).mono ?_);rintro e w' ⟨rfl,⟨nd,rfl⟩⟩;refine ⟨_,rfl,?_⟩))
   go_ret
   exact ⟨by first|rfl|(simp;done)|(simp [*];done),by repeat (first|exact Drawn0.refl _|apply Drawn0.step)⟩
  rw [if_neg c5] at H
  have c5b0:decide (a0<16384)=false:=decide_eq_false c5
  clear c5
  by_cases c6:a0<1073741824
  ·rw [if_pos c6] at H
   have c6b0:decide (a0<1073741824)=true:=decide_eq_true c6
   clear c6
   obtain rfl:=Option.some.inj H
   go_enter Try.func89,Try.ntmps89
   go_wp2_with (first|((with_reducible refine gate_callee (f:=67) rfl ?_);refine goesL_ (some 5) rfl rfl Try.func67 (by kernel_rfl) rfl #[.int .i64 a0] rfl (by (try simp only [m1,m2,m3]);first|done|rfl) ?_;(with_reducible refine (impl_inVar.calls a0 true _ A2.out).mono ?_);rintro e w' ⟨rfl,⟨nd,rfl⟩⟩;refine ⟨_,rfl,?_⟩))
   go_ret
   exact ⟨by first|rfl|(simp;done)|(simp [*];done),by repeat (first|exact Drawn0.refl _|apply Drawn0.step)⟩
  rw [if_neg c6] at H
  have c6b0:decide (a0<1073741824)=false:=decide_eq_false c6
  clear c6
  obtain rfl:=Option.some.inj H
  go_enter Try.func89,Try.ntmps89
  go_wp2_with (first|((with_reducible refine gate_callee (f:=67) rfl ?_);refine goesL_ (some 5) rfl rfl Try.func67 (by kernel_rfl) rfl #[.int .i64 a0] rfl (by (try simp only [m1,m2,m3]);first|done|rfl) ?_;(with_reducible refine (impl_inVar.calls a0 true _ A2.out).mono ?_);rintro e w' ⟨rfl,⟨nd,rfl⟩⟩;refine ⟨_,rfl,?_⟩))
  go_ret
  exact ⟨by first|rfl|(simp;done)|(simp [*];done),by repeat (first|exact Drawn0.refl _|apply Drawn0.step)⟩
 replace c3:=Bool.eq_false_iff.mpr c3
 subst c3
 rw [if_neg nt] at H
 obtain rfl:=Option.some.inj H
 go_enter Try.func89,Try.ntmps89
 go_wp2_with (first|((with_reducible refine gate_callee (f:=67) rfl ?_);refine goesL_ (some 5) rfl rfl Try.func67 (by kernel_rfl) rfl #[.int .i64 a0] rfl (by (try simp only [m1,m2,m3]);first|done|rfl) ?_;(with_reducible refine (impl_inVar.calls a0 false _ A2.out).mono ?_);rintro e w' ⟨rfl,⟨nd,rfl⟩⟩;refine ⟨_,rfl,?_⟩))
 go_ret
 exact ⟨by first|rfl|(simp;done)|(simp [*];done),by repeat (first|exact Drawn0.refl _|apply Drawn0.step)⟩
end Go.Proofs.Ytcdkbdkanjifeaa.SFnExactProtectPacket
