/- The walk of functions that the law FnExactProtectPacket uses, written by program. -/
import Derived.Test.YtcdkbdkanjifeaaSFnExactProtectPacketx0
import Derived.Test.YtcdkbdkanjifeaaSFnExactProtectPacketx1
import Derived.Test.YtcdkbdkanjifeaaSteps2
import Derived.Test.YtcdkbdkanjifeaaSteps3
namespace Go.Proofs.Ytcdkbdkanjifeaa.SFnExactProtectPacket
open Go.Proofs.Ytcdkbdkanjifeaa.Steps3 Go.Proofs.Ytcdkbdkanjifeaa.Steps2 Go.RowKit Go.Proofs.YtcdkbdkanjifeaaW.PrintWords Go.Proofs.YtcdkbdkanjifeaaW.PrintLast Go.Proofs.YtcdkbdkanjifeaaW.PrintMore
open Go.Proofs.YtcdkbdkanjifeaaW.PrintWords renaming below_alloc → qh, pw_below_drewN → qi, below_drew1 → qj, below_set → qk, blk_drewN → ql, blk_drew → qn, blk_alloc → qo, blk_put → qp, blk_far → qr, below_size → qs, below_step → qt, blk_below → qv
open Go.Proofs.YtcdkbdkanjifeaaW.PrintWords.Kd renaming R_far → qa, R_alloc → qb, R_drewN → qc, R_drew → qd, R_below → qf, R_mono → qg
open Go.Proofs.YtcdkbdkanjifeaaW.PrintWords.Aside0 renaming mk → qm
attribute [local go_sem] max2_int min2_int max_two min_two max_three min_three max_four min_four 
set_option linter.unusedVariables false
set_option linter.unusedSimpArgs false
def laws_szHeader.f (a0_0:Int) (a0_1:Int) (l0_2:List Int) (l0_3:List Int) (l0_4:List Int) (a0_5:Int) (a0_6:Int) (a0_7:Int) (a1:Int):Option (Int):=(laws_szByteS.f l0_2 a1).bind fun t146=>(if t146<0 then (some (-1)) else ((laws_szByteS.f l0_3 t146).bind fun t147=>(if t147<0 then (some (-1)) else ((laws_szByteS.f l0_4 t147).bind fun t148=>(if t148<0 then (some (-1)) else (some t148))))))
set_option maxHeartbeats 8000000 in
set_option maxRecDepth 100000 in
theorem laws_szHeader.calls (a0_0:Int) (a0_1:Int) (A0_2:Option Addr) (c0_2:Nat) (l0_2:List Int) (A0_3:Option Addr) (c0_3:Nat) (l0_3:List Int) (A0_4:Option Addr) (c0_4:Nat) (l0_4:List Int) (a0_5:Int) (a0_6:Int) (a0_7:Int) (a1:Int) (r:Int) (w:World) (hr0_2:Kd.C (Kd.int .u8) w A0_2 l0_2.length l0_2) (hc0_2:l0_2.length≤c0_2) (hr0_3:Kd.C (Kd.int .u8) w A0_3 l0_3.length l0_3) (hc0_3:l0_3.length≤c0_3) (hr0_4:Kd.C (Kd.int .u8) w A0_4 l0_4.length l0_4) (hc0_4:l0_4.length≤c0_4) (h:laws_szHeader.f a0_0 a0_1 l0_2 l0_3 l0_4 a0_5 a0_6 a0_7 a1=some r) :
  Calls Try.prog 33 #[.agg #[.int .i64 a0_0, .int .i64 a0_1, .slice A0_2 l0_2.length c0_2, .slice A0_3 l0_3.length c0_3, .slice A0_4 l0_4.length c0_4, .int .i64 a0_5, .int .i64 a0_6, .int .i64 a0_7], .int .i64 a1] w fun e w' =>e = .returned (.int .i64 r)∧Below w.heap.size w w' :=by
 have hu41:=Try.underlying41
 have HR0_2:=qm hr0_2
 have HC0_2:=qm hc0_2
 clear hr0_2 hc0_2
 have HR0_3:=qm hr0_3
 have HC0_3:=qm hc0_3
 clear hr0_3 hc0_3
 have HR0_4:=qm hr0_4
 have HC0_4:=qm hc0_4
 clear hr0_4 hc0_4
 have HB:=qm (Below.refl w.heap.size w)
 have H:((laws_szByteS.f l0_2 a1).bind fun t146=>(if t146<0 then (some (-1)) else ((laws_szByteS.f l0_3 t146).bind fun t147=>(if t147<0 then (some (-1)) else ((laws_szByteS.f l0_4 t147).bind fun t148=>(if t148<0 then (some (-1)) else (some t148)))))))=some r:=h
 clear h
 replace H:=Option.bind_eq_some_iff.mp H
 obtain ⟨t146,A30,H⟩:=H
 try dsimp only at H
 have A3:=qm A30
 clear A30
 by_cases c4:t146<0
 ·rw [if_pos c4] at H
  have c4b0:decide (t146<0)=true:=decide_eq_true c4
  clear c4
  obtain rfl:=Option.some.inj H
  go_enter Try.func33,Try.ntmps33
  go_wp2_with (first|((with_reducible refine gate_dst (N:=2) rfl ?_);refine box_event (by rfl) (N:=2) (by rfl) (cs:=#[.int .i64 a0_0, .int .i64 a0_1, .slice A0_2 l0_2.length c0_2, .slice A0_3 l0_3.length c0_3, .slice A0_4 l0_4.length c0_4, .int .i64 a0_5, .int .i64 a0_6, .int .i64 a0_7]) (t:=41) (by first|(go_simp;done)|(go_simp;rfl)) ?_;intro gb145 hg w5 hbox hb;have _:=qm (qt HB.out hb);have _:=qm (hbox);have _:=qm ((gs hg (qs HB.out)));have _:=qm ((gs hg (qs HB.out)));clear HB;rename_i HB BK145 GW145 GE145;clear hb hbox hg;obtain ⟨_,_,_,_,_,_,_,_,_,_,_,_,_,_,_,_⟩:=fc8 BK145.out)|((with_reducible refine gate_callee (f:=54) rfl ?_);refine goesL_ (some 8) rfl rfl Try.func54 (by kernel_rfl) rfl #[.slice A0_2 l0_2.length c0_2, .int .i64 a1] rfl (by (try simp only [m1,m2,m3]);first|done|rfl) ?_;(with_reducible refine (laws_szByteS.calls _ _ l0_2 a1 t146 _ ?side1 ?side2 A3.out).mono ?_);(case side1=>exact cb (Kd.C_below HR0_2.out HB.out));(case side2=>exact HC0_2.out);rintro e w' ⟨rfl,⟨nd,rfl⟩⟩;refine ⟨_,rfl,?_⟩))
  go_ret
  exact ⟨by first|rfl|(simp <;> rfl)|(simp [*] <;> rfl),by repeat (first|(with_reducible first|exact HB.out|apply qh|apply qi|apply qj|refine qk ?_ GE145.out)|exact HB.out)⟩
 rw [if_neg c4] at H
 have c4b0:decide (t146<0)=false:=decide_eq_false c4
 clear c4
 replace H:=Option.bind_eq_some_iff.mp H
 obtain ⟨t147,A70,H⟩:=H
 try dsimp only at H
 have A7:=qm A70
 clear A70
 by_cases c8:t147<0
 ·rw [if_pos c8] at H
  have c8b0:decide (t147<0)=true:=decide_eq_true c8
  clear c8
  obtain rfl:=Option.some.inj H
  go_enter Try.func33,Try.ntmps33
  go_wp2_with (first|((with_reducible refine gate_dst (N:=2) rfl ?_);refine box_event (by rfl) (N:=2) (by rfl) (cs:=#[.int .i64 a0_0, .int .i64 a0_1, .slice A0_2 l0_2.length c0_2, .slice A0_3 l0_3.length c0_3, .slice A0_4 l0_4.length c0_4, .int .i64 a0_5, .int .i64 a0_6, .int .i64 a0_7]) (t:=41) (by first|(go_simp;done)|(go_simp;rfl)) ?_;intro gb145 hg w9 hbox hb;have _:=qm (qt HB.out hb);have _:=qm (hbox);have _:=qm ((gs hg (qs HB.out)));have _:=qm ((gs hg (qs HB.out)));clear HB;rename_i HB BK145 GW145 GE145;clear hb hbox hg;obtain ⟨_,_,_,_,_,_,_,_,_,_,_,_,_,_,_,_⟩:=fc8 BK145.out)|((with_reducible refine gate_callee (f:=54) rfl ?_);refine goesL_ (some 8) rfl rfl Try.func54 (by kernel_rfl) rfl #[.slice A0_2 l0_2.length c0_2, .int .i64 a1] rfl (by (try simp only [m1,m2,m3]);first|done|rfl) ?_;(with_reducible refine (laws_szByteS.calls _ _ l0_2 a1 t146 _ ?side1 ?side2 A3.out).mono ?_);(case side1=>exact cb (Kd.C_below HR0_2.out HB.out));(case side2=>exact HC0_2.out);rintro e w' ⟨rfl,⟨nd,rfl⟩⟩;refine ⟨_,rfl,?_⟩)|((with_reducible refine gate_callee (f:=54) rfl ?_);refine goesL_ (some 14) rfl rfl Try.func54 (by kernel_rfl) rfl #[.slice A0_3 l0_3.length c0_3, .int .i64 t146] rfl (by (try simp only [m1,m2,m3]);first|done|rfl) ?_;(with_reducible refine (laws_szByteS.calls _ _ l0_3 t146 t147 _ ?side1 ?side2 A7.out).mono ?_);(case side1=>exact cb (Kd.C_below HR0_3.out (by repeat first|exact HB.out|apply qh|apply qi|apply qj|refine bk ?_)));(case side2=>exact HC0_3.out);rintro e w' ⟨rfl,⟨nd,rfl⟩⟩;refine ⟨_,rfl,?_⟩))
  go_ret
  exact ⟨by first|rfl|(simp <;> rfl)|(simp [*] <;> rfl),by repeat (first|(with_reducible first|exact HB.out|apply qh|apply qi|apply qj|refine qk ?_ GE145.out)|exact HB.out)⟩
 rw [if_neg c8] at H
 have c8b0:decide (t147<0)=false:=decide_eq_false c8
 clear c8
 replace H:=Option.bind_eq_some_iff.mp H
 obtain ⟨t148,A110,H⟩:=H
 try dsimp only at H
 have A11:=qm A110
 clear A110
 by_cases c12:t148<0
 ·rw [if_pos c12] at H
  have c12b0:decide (t148<0)=true:=decide_eq_true c12
  clear c12
  obtain rfl:=Option.some.inj H
  go_enter Try.func33,Try.ntmps33
  go_wp2_with (first|((with_reducible refine gate_dst (N:=2) rfl ?_);refine box_event (by rfl) (N:=2) (by rfl) (cs:=#[.int .i64 a0_0, .int .i64 a0_1, .slice A0_2 l0_2.length c0_2, .slice A0_3 l0_3.length c0_3, .slice A0_4 l0_4.length c0_4, .int .i64 a0_5, .int .i64 a0_6, .int .i64 a0_7]) (t:=41) (by first|(go_simp;done)|(go_simp;rfl)) ?_;intro gb145 hg w13 hbox hb;have _:=qm (qt HB.out hb);have _:=qm (hbox);have _:=qm ((gs hg (qs HB.out)));have _:=qm ((gs hg (qs HB.out)));clear HB;rename_i HB BK145 GW145 GE145;clear hb hbox hg;obtain ⟨_,_,_,_,_,_,_,_,_,_,_,_,_,_,_,_⟩:=fc8 BK145.out)|((with_reducible refine gate_callee (f:=54) rfl ?_);refine goesL_ (some 8) rfl rfl Try.func54 (by kernel_rfl) rfl #[.slice A0_2 l0_2.length c0_2, .int .i64 a1] rfl (by (try simp only [m1,m2,m3]);first|done|rfl) ?_;(with_reducible refine (laws_szByteS.calls _ _ l0_2 a1 t146 _ ?side1 ?side2 A3.out).mono ?_);(case side1=>exact cb (Kd.C_below HR0_2.out HB.out));(case side2=>exact HC0_2.out);rintro e w' ⟨rfl,⟨nd,rfl⟩⟩;refine ⟨_,rfl,?_⟩)|((with_reducible refine gate_callee (f:=54) rfl ?_);refine goesL_ (some 14) rfl rfl Try.func54 (by kernel_rfl) rfl #[.slice A0_3 l0_3.length c0_3, .int .i64 t146] rfl (by (try simp only [m1,m2,m3]);first|done|rfl) ?_;(with_reducible refine (laws_szByteS.calls _ _ l0_3 t146 t147 _ ?side1 ?side2 A7.out).mono ?_);(case side1=>exact cb (Kd.C_below HR0_3.out (by repeat first|exact HB.out|apply qh|apply qi|apply qj|refine bk ?_)));(case side2=>exact HC0_3.out);rintro e w' ⟨rfl,⟨nd,rfl⟩⟩;refine ⟨_,rfl,?_⟩)|((with_reducible refine gate_callee (f:=54) rfl ?_);refine goesL_ (some 20) rfl rfl Try.func54 (by kernel_rfl) rfl #[.slice A0_4 l0_4.length c0_4, .int .i64 t147] rfl (by (try simp only [m1,m2,m3]);first|done|rfl) ?_;(with_reducible refine (laws_szByteS.calls _ _ l0_4 t147 t148 _ ?side1 ?side2 A11.out).mono ?_);(case side1=>exact cb (Kd.C_below HR0_4.out (by repeat first|exact HB.out|apply qh|apply qi|apply qj|refine bk ?_)));(case side2=>exact HC0_4.out);rintro e w' ⟨rfl,⟨nd,rfl⟩⟩;refine ⟨_,rfl,?_⟩))
  go_ret
  exact ⟨by first|rfl|(simp <;> rfl)|(simp [*] <;> rfl),by repeat (first|(with_reducible first|exact HB.out|apply qh|apply qi|apply qj|refine qk ?_ GE145.out)|exact HB.out)⟩
 rw [if_neg c12] at H
 have c12b0:decide (t148<0)=false:=decide_eq_false c12
 clear c12
 obtain rfl:=Option.some.inj H
 go_enter Try.func33,Try.ntmps33
 go_wp2_with (first|((with_reducible refine gate_dst (N:=2) rfl ?_);refine box_event (by rfl) (N:=2) (by rfl) (cs:=#[.int .i64 a0_0, .int .i64 a0_1, .slice A0_2 l0_2.length c0_2, .slice A0_3 l0_3.length c0_3, .slice A0_4 l0_4.length c0_4, .int .i64 a0_5, .int .i64 a0_6, .int .i64 a0_7]) (t:=41) (by first|(go_simp;done)|(go_simp;rfl)) ?_;intro gb145 hg w15 hbox hb;have _:=qm (qt HB.out hb);have _:=qm (hbox);have _:=qm ((gs hg (qs HB.out)));have _:=qm ((gs hg (qs HB.out)));clear HB;rename_i HB BK145 GW145 GE145;clear hb hbox hg;obtain ⟨_,_,_,_,_,_,_,_,_,_,_,_,_,_,_,_⟩:=fc8 BK145.out)|((with_reducible refine gate_callee (f:=54) rfl ?_);refine goesL_ (some 8) rfl rfl Try.func54 (by kernel_rfl) rfl #[.slice A0_2 l0_2.length c0_2, .int .i64 a1] rfl (by (try simp only [m1,m2,m3]);first|done|rfl) ?_;(with_reducible refine (laws_szByteS.calls _ _ l0_2 a1 t146 _ ?side1 ?side2 A3.out).mono ?_);(case side1=>exact cb (Kd.C_below HR0_2.out HB.out));(case side2=>exact HC0_2.out);rintro e w' ⟨rfl,⟨nd,rfl⟩⟩;refine ⟨_,rfl,?_⟩)|((with_reducible refine gate_callee (f:=54) rfl ?_);refine goesL_ (some 14) rfl rfl Try.func54 (by kernel_rfl) rfl #[.slice A0_3 l0_3.length c0_3, .int .i64 t146] rfl (by (try simp only [m1,m2,m3]);first|done|rfl) ?_;(with_reducible refine (laws_szByteS.calls _ _ l0_3 t146 t147 _ ?side1 ?side2 A7.out).mono ?_);(case side1=>exact cb (Kd.C_below HR0_3.out (by repeat first|exact HB.out|apply qh|apply qi|apply qj|refine bk ?_)));(case side2=>exact HC0_3.out);rintro e w' ⟨rfl,⟨nd,rfl⟩⟩;refine ⟨_,rfl,?_⟩)|((with_reducible refine gate_callee (f:=54) rfl ?_);refine goesL_ (some 20) rfl rfl Try.func54 (by kernel_rfl) rfl #[.slice A0_4 l0_4.length c0_4, .int .i64 t147] rfl (by (try simp only [m1,m2,m3]);first|done|rfl) ?_;(with_reducible refine (laws_szByteS.calls _ _ l0_4 t147 t148 _ ?side1 ?side2 A11.out).mono ?_);(case side1=>exact cb (Kd.C_below HR0_4.out (by repeat first|exact HB.out|apply qh|apply qi|apply qj|refine bk ?_)));(case side2=>exact HC0_4.out);rintro e w' ⟨rfl,⟨nd,rfl⟩⟩;refine ⟨_,rfl,?_⟩))
 go_ret
 exact ⟨by first|rfl|(simp <;> rfl)|(simp [*] <;> rfl),by repeat (first|(with_reducible first|exact HB.out|apply qh|apply qi|apply qj|refine qk ?_ GE145.out)|exact HB.out)⟩
def laws_toHeader.f (k:Nat) (a0_0:Int) (a0_1:Int) (l0_2:List Int) (l0_3:List Int) (l0_4:List Int) (a0_5:Int) (a0_6:Int) (a0_7:Int):Option (Int×Int×List Int×List Int×List Int×Int×Int×Int):=(laws_toByteS.f k l0_2).bind fun t152=>((laws_toByteS.f k l0_3).bind fun t155=>((laws_toByteS.f k l0_4).bind fun t158=>(some (a0_0,a0_1,t152,t155,t158,a0_5,a0_6,a0_7))))
set_option maxHeartbeats 8000000 in
set_option maxRecDepth 100000 in
theorem laws_toHeader.calls (k:Nat) (a0_0:Int) (a0_1:Int) (A0_2:Option Addr) (c0_2:Nat) (l0_2:List Int) (A0_3:Option Addr) (c0_3:Nat) (l0_3:List Int) (A0_4:Option Addr) (c0_4:Nat) (l0_4:List Int) (a0_5:Int) (a0_6:Int) (a0_7:Int) (r1:Int) (r2:Int) (r3:List Int) (r4:List Int) (r5:List Int) (r6:Int) (r7:Int) (r8:Int) (w:World) (hr0_2:Kd.C (Kd.int .u8) w A0_2 l0_2.length l0_2) (hc0_2:l0_2.length≤c0_2) (hr0_3:Kd.C (Kd.int .u8) w A0_3 l0_3.length l0_3) (hc0_3:l0_3.length≤c0_3) (hr0_4:Kd.C (Kd.int .u8) w A0_4 l0_4.length l0_4) (hc0_4:l0_4.length≤c0_4) (h:laws_toHeader.f k a0_0 a0_1 l0_2 l0_3 l0_4 a0_5 a0_6 a0_7=some (r1,r2,r3,r4,r5,r6,r7,r8)) :
  Calls Try.prog 35 #[.agg #[.int .i64 a0_0, .int .i64 a0_1, .slice A0_2 l0_2.length c0_2, .slice A0_3 l0_3.length c0_3, .slice A0_4 l0_4.length c0_4, .int .i64 a0_5, .int .i64 a0_6, .int .i64 a0_7]] w fun e w' =>∃ v2_ v3_ v4_:Value,e = .returned (.agg #[.int .i64 r1, .int .i64 r2,v2_,v3_,v4_, .int .i64 r6, .int .i64 r7, .int .i64 r8])∧Kd.R (Kd.int .u8) 5 w' w.heap.size (fun k_=>ob k_ v3_∧ob k_ v4_) v2_ r3∧Kd.R (Kd.int .u8) 5 w' w.heap.size (fun k_=>ob k_ v2_∧ob k_ v4_) v3_ r4∧Kd.R (Kd.int .u8) 5 w' w.heap.size (fun k_=>ob k_ v2_∧ob k_ v3_) v4_ r5∧Below w.heap.size w w' :=by
 have hu41:=Try.underlying41
 have hu45:=Try.underlying45
 have HR0_2:=qm hr0_2
 have HC0_2:=qm hc0_2
 clear hr0_2 hc0_2
 have HR0_3:=qm hr0_3
 have HC0_3:=qm hc0_3
 clear hr0_3 hc0_3
 have HR0_4:=qm hr0_4
 have HC0_4:=qm hc0_4
 clear hr0_4 hc0_4
 have HB:=qm (Below.refl w.heap.size w)
 have H:((laws_toByteS.f k l0_2).bind fun t152=>((laws_toByteS.f k l0_3).bind fun t155=>((laws_toByteS.f k l0_4).bind fun t158=>(some (a0_0,a0_1,t152,t155,t158,a0_5,a0_6,a0_7)))))=some (r1,r2,r3,r4,r5,r6,r7,r8):=h
 clear h
 replace H:=Option.bind_eq_some_iff.mp H
 obtain ⟨t152,A20,H⟩:=H
 try dsimp only at H
 have A2:=qm A20
 clear A20
 replace H:=Option.bind_eq_some_iff.mp H
 obtain ⟨t155,A30,H⟩:=H
 try dsimp only at H
 have A3:=qm A30
 clear A30
 replace H:=Option.bind_eq_some_iff.mp H
 obtain ⟨t158,A40,H⟩:=H
 try dsimp only at H
 have A4:=qm A40
 clear A40
 simp only [Option.some.injEq,Prod.mk.injEq] at H
 obtain ⟨rfl,rfl,rfl,rfl,rfl,rfl,rfl,rfl⟩:=H
 go_enter Try.func35,Try.ntmps35
 go_wp2_with (first|((with_reducible refine gate_dst (N:=1) rfl ?_);refine box_event (by rfl) (N:=1) (by rfl) (cs:=#[.int .i64 a0_0, .int .i64 a0_1, .slice A0_2 l0_2.length c0_2, .slice A0_3 l0_3.length c0_3, .slice A0_4 l0_4.length c0_4, .int .i64 a0_5, .int .i64 a0_6, .int .i64 a0_7]) (t:=41) (by first|(go_simp;done)|(go_simp;rfl)) ?_;intro gb149 hg w5 hbox hb;have _:=qm (qt HB.out hb);have _:=qm (hbox);have _:=qm ((gs hg (qs HB.out)));have _:=qm ((gs hg (qs HB.out)));clear HB;rename_i HB BK149 GW149 GE149;clear hb hbox hg)|((with_reducible refine gate_dst (N:=2) rfl ?_);refine box_event (by rfl) (N:=2) (by rfl) (cs:=#[.int .i64 0, .int .i64 0, .slice none 0 0, .slice none 0 0, .slice none 0 0, .int .i64 0, .int .i64 0, .int .i64 0]) (t:=45) (by first|(go_simp;done)|(go_simp;rfl)) ?_;intro gb150 hg w6 hbox hb;have _:=qm (qv (g:=gb149) BK149.out hb);have _:=qm (qt (by repeat first|exact HB.out|apply qh|apply qi|apply qj|refine bk ?_) hb);have _:=qm (hbox);have _:=qm ((gs hg (qs (by repeat first|exact HB.out|apply qh|apply qi|apply qj|refine bk ?_))));have _:=qm ((gs hg (qs (by repeat first|exact HB.out|apply qh|apply qi|apply qj|refine bk ?_))));have _:=qm ((na hg BK149.out));have _:=qm ((nb hg BK149.out));clear BK149 HB;rename_i BK149 HB BK150 GW150 GE150 NB149_150 NB150_149;clear hb hbox hg)|((with_reducible refine gate_dst (N:=3) rfl ?_);refine box_event (by rfl) (N:=3) (by rfl) (cs:=#[.int .i64 0, .int .i64 0, .slice none 0 0, .slice none 0 0, .slice none 0 0, .int .i64 0, .int .i64 0, .int .i64 0]) (t:=45) (by first|(go_simp;done)|(go_simp;rfl)) ?_;intro gb151 hg w7 hbox hb;have _:=qm (qv (g:=gb149) BK149.out hb);have _:=qm (qv (g:=gb150) BK150.out hb);have _:=qm (qt (by repeat first|exact HB.out|apply qh|apply qi|apply qj|refine bk ?_) hb);have _:=qm (hbox);have _:=qm ((gs hg (qs (by repeat first|exact HB.out|apply qh|apply qi|apply qj|refine bk ?_))));have _:=qm ((gs hg (qs (by repeat first|exact HB.out|apply qh|apply qi|apply qj|refine bk ?_))));have _:=qm ((na hg BK149.out));have _:=qm ((nb hg BK149.out));have _:=qm ((na hg BK150.out));have _:=qm ((nb hg BK150.out));clear BK149 BK150 HB;rename_i BK149 BK150 HB BK151 GW151 GE151 NB149_151 NB151_149 NB150_151 NB151_150;clear hb hbox hg;have hnb8:=NB149_150.out;have hnc8:=NB150_149.out;have hnb9:=NB149_151.out;have hnc9:=NB151_149.out;obtain ⟨_,_,_,_,_,_,_,_,_,_,_,_,_,_,_,_⟩:=fc8 BK149.out;have hnb11:=NB151_150.out;have hnc11:=NB150_151.out;obtain ⟨_,_,_,_,_,_,_,_,_,_,_,_,_,_,_,_⟩:=fc8 BK151.out)|((with_reducible refine gate_callee (f:=15) rfl ?_);refine goesL_ (some 12) rfl rfl Try.func15 (by kernel_rfl) rfl #[.slice A0_2 l0_2.length c0_2] rfl (by (try simp only [m1,m2,m3]);first|done|rfl) ?_;(with_reducible refine (laws_toByteS.calls k _ _ l0_2 t152 _ ?side1 ?side2 A2.out).mono ?_);(case side1=>exact Kd.C_below HR0_2.out (by repeat first|exact HB.out|apply qh|apply qi|apply qj|refine bk ?_));(case side2=>exact HC0_2.out);rintro e w13 ⟨v153,rfl,ho0,hb⟩;refine ⟨_,rfl,?_⟩;have _:=qm (Kd.R_lower ho0 (qs (by repeat first|exact HB.out|apply qh|apply qi|apply qj|refine bk ?_)));have _:=qm (qv (g:=gb149) (o:= .cells #[.int .i64 a0_0, .int .i64 a0_1, .slice A0_2 l0_2.length c0_2, .slice A0_3 l0_3.length c0_3, .slice A0_4 l0_4.length c0_4, .int .i64 a0_5, .int .i64 a0_6, .int .i64 a0_7] 41 (0,0)) (by (with_reducible repeat first|apply ql|apply qn|apply qo);refine qr ?_ NB149_151.out _;refine qr ?_ NB149_151.out _;exact kb BK149.out) hb);have _:=qm (qv (g:=gb150) (o:= .cells #[.int .i64 0, .int .i64 0, .slice none 0 0, .slice none 0 0, .slice none 0 0, .int .i64 0, .int .i64 0, .int .i64 0] 45 (0,0)) (by (with_reducible repeat first|apply ql|apply qn|apply qo);refine qr ?_ NB150_151.out _;refine qr ?_ NB150_151.out _;exact kb BK150.out) hb);have _:=qm (qv (g:=gb151) (o:= .cells #[.int .i64 a0_0, .int .i64 a0_1, .slice none 0 0, .slice none 0 0, .slice none 0 0, .int .i64 0, .int .i64 0, .int .i64 0] 45 (0,0)) (by (with_reducible repeat first|apply ql|apply qn|apply qo);refine qp (cs:=#[.int .i64 a0_0, .int .i64 0, .slice none 0 0, .slice none 0 0, .slice none 0 0, .int .i64 0, .int .i64 0, .int .i64 0]) ?_ 1 _ rfl;refine qp (cs:=#[.int .i64 0, .int .i64 0, .slice none 0 0, .slice none 0 0, .slice none 0 0, .int .i64 0, .int .i64 0, .int .i64 0]) ?_ 0 _ rfl;exact kb BK151.out) hb);have _:=qm (qt (by repeat first|exact HB.out|apply qh|apply qi|apply qj|refine bk ?_) hb);clear BK149 BK150 BK151 HB;rename_i HO154 BK149 BK150 BK151 HB;obtain ⟨Ao14,co14,eo14⟩:=Kd.R_slice HO154.out;subst eo14;obtain ⟨_,_,_,_,_,_,_,_,_,_,_,_,_,_,_,_⟩:=fc8 BK151.out;obtain ⟨_,_,_,_,_,_,_,_,_,_,_,_,_,_,_,_⟩:=fc8 BK149.out)|((with_reducible refine gate_callee (f:=15) rfl ?_);refine goesL_ (some 16) rfl rfl Try.func15 (by kernel_rfl) rfl #[.slice A0_3 l0_3.length c0_3] rfl (by (try simp only [m1,m2,m3]);first|done|rfl) ?_;(with_reducible refine (laws_toByteS.calls k _ _ l0_3 t155 _ ?side1 ?side2 A3.out).mono ?_);(case side1=>exact Kd.C_below HR0_3.out (by repeat first|exact HB.out|apply qh|apply qi|apply qj|refine bk ?_));(case side2=>exact HC0_3.out);rintro e w17 ⟨v156,rfl,ho0,hb⟩;refine ⟨_,rfl,?_⟩;have _:=qm (Kd.R_elder' (rb (qg (qa (p:=⟨gb151,2,none⟩) (Kd.R_types HO154.out BK151.out (by decide)) (fun _ hk=>hk.2) (.slice Ao14 t152.length co14)) (fun _ h_=>h_.1))) (Kd.R_base ho0) hb);have _:=qm (Kd.R_lower (nw ho0 (rb (qg (qa (p:=⟨gb151,2,none⟩) (Kd.R_types HO154.out BK151.out (by decide)) (fun _ hk=>hk.2) (.slice Ao14 t152.length co14)) (fun _ h_=>h_.1)))) (qs (by repeat first|exact HB.out|apply qh|apply qi|apply qj|refine bk ?_)));have _:=qm (qv (g:=gb149) (o:= .cells #[.int .i64 a0_0, .int .i64 a0_1, .slice A0_2 l0_2.length c0_2, .slice A0_3 l0_3.length c0_3, .slice A0_4 l0_4.length c0_4, .int .i64 a0_5, .int .i64 a0_6, .int .i64 a0_7] 41 (0,0)) (by (with_reducible repeat first|apply ql|apply qn|apply qo);refine qr ?_ NB149_151.out _;exact kb BK149.out) hb);have _:=qm (qv (g:=gb150) (o:= .cells #[.int .i64 0, .int .i64 0, .slice none 0 0, .slice none 0 0, .slice none 0 0, .int .i64 0, .int .i64 0, .int .i64 0] 45 (0,0)) (by (with_reducible repeat first|apply ql|apply qn|apply qo);refine qr ?_ NB150_151.out _;exact kb BK150.out) hb);have _:=qm (qv (g:=gb151) (o:= .cells #[.int .i64 a0_0, .int .i64 a0_1, .slice Ao14 t152.length co14, .slice none 0 0, .slice none 0 0, .int .i64 0, .int .i64 0, .int .i64 0] 45 (0,0)) (by (with_reducible repeat first|apply ql|apply qn|apply qo);refine qp (cs:=#[.int .i64 a0_0, .int .i64 a0_1, .slice none 0 0, .slice none 0 0, .slice none 0 0, .int .i64 0, .int .i64 0, .int .i64 0]) ?_ 2 _ rfl;exact kb BK151.out) hb);have _:=qm (qt (by repeat first|exact HB.out|apply qh|apply qi|apply qj|refine bk ?_) hb);clear HO154 BK149 BK150 BK151 HB;rename_i HO154 HO157 BK149 BK150 BK151 HB;obtain ⟨Ao18,co18,eo18⟩:=Kd.R_slice HO157.out;subst eo18;obtain ⟨_,_,_,_,_,_,_,_,_,_,_,_,_,_,_,_⟩:=fc8 BK151.out;obtain ⟨_,_,_,_,_,_,_,_,_,_,_,_,_,_,_,_⟩:=fc8 BK149.out)|((with_reducible refine gate_callee (f:=15) rfl ?_);refine goesL_ (some 20) rfl rfl Try.func15 (by kernel_rfl) rfl #[.slice A0_4 l0_4.length c0_4] rfl (by (try simp only [m1,m2,m3]);first|done|rfl) ?_;(with_reducible refine (laws_toByteS.calls k _ _ l0_4 t158 _ ?side1 ?side2 A4.out).mono ?_);(case side1=>exact Kd.C_below HR0_4.out (by repeat first|exact HB.out|apply qh|apply qi|apply qj|refine bk ?_));(case side2=>exact HC0_4.out);rintro e w21 ⟨v159,rfl,ho0,hb⟩;refine ⟨_,rfl,?_⟩;have _:=qm (Kd.R_elder' (rb (qg (qa (p:=⟨gb151,3,none⟩) (Kd.R_types HO154.out BK151.out (by decide)) (fun _ hk=>hk.2) (.slice Ao18 t155.length co18)) (fun _ h_=>h_.1))) (Kd.R_base ho0) hb);have _:=qm (Kd.R_elder' (rb (qg (qa (p:=⟨gb151,3,none⟩) (Kd.R_types HO157.out BK151.out (by decide)) (fun _ hk=>hk.2) (.slice Ao18 t155.length co18)) (fun _ h_=>h_.1))) (Kd.R_base ho0) hb);have _:=qm (Kd.R_lower (nw (nw ho0 (rb (qg (qa (p:=⟨gb151,3,none⟩) (Kd.R_types HO154.out BK151.out (by decide)) (fun _ hk=>hk.2) (.slice Ao18 t155.length co18)) (fun _ h_=>h_.1)))) (rb (qg (qa (p:=⟨gb151,3,none⟩) (Kd.R_types HO157.out BK151.out (by decide)) (fun _ hk=>hk.2) (.slice Ao18 t155.length co18)) (fun _ h_=>h_.1)))) (qs (by repeat first|exact HB.out|apply qh|apply qi|apply qj|refine bk ?_)));have _:=qm (qv (g:=gb149) (o:= .cells #[.int .i64 a0_0, .int .i64 a0_1, .slice A0_2 l0_2.length c0_2, .slice A0_3 l0_3.length c0_3, .slice A0_4 l0_4.length c0_4, .int .i64 a0_5, .int .i64 a0_6, .int .i64 a0_7] 41 (0,0)) (by (with_reducible repeat first|apply ql|apply qn|apply qo);refine qr ?_ NB149_151.out _;exact kb BK149.out) hb);have _:=qm (qv (g:=gb150) (o:= .cells #[.int .i64 0, .int .i64 0, .slice none 0 0, .slice none 0 0, .slice none 0 0, .int .i64 0, .int .i64 0, .int .i64 0] 45 (0,0)) (by (with_reducible repeat first|apply ql|apply qn|apply qo);refine qr ?_ NB150_151.out _;exact kb BK150.out) hb);have _:=qm (qv (g:=gb151) (o:= .cells #[.int .i64 a0_0, .int .i64 a0_1, .slice Ao14 t152.length co14, .slice Ao18 t155.length co18, .slice none 0 0, .int .i64 0, .int .i64 0, .int .i64 0] 45 (0,0)) (by (with_reducible repeat first|apply ql|apply qn|apply qo);refine qp (cs:=#[.int .i64 a0_0, .int .i64 a0_1, .slice Ao14 t152.length co14, .slice none 0 0, .slice none 0 0, .int .i64 0, .int .i64 0, .int .i64 0]) ?_ 3 _ rfl;exact kb BK151.out) hb);have _:=qm (qt (by repeat first|exact HB.out|apply qh|apply qi|apply qj|refine bk ?_) hb);clear HO154 HO157 BK149 BK150 BK151 HB;rename_i HO154 HO157 HO160 BK149 BK150 BK151 HB;obtain ⟨Ao22,co22,eo22⟩:=Kd.R_slice HO160.out;subst eo22;obtain ⟨_,_,_,_,_,_,_,_,_,_,_,_,_,_,_,_⟩:=fc8 BK151.out;obtain ⟨_,_,_,_,_,_,_,_,_,_,_,_,_,_,_,_⟩:=fc8 BK149.out;obtain ⟨_,_,_,_,_,_,_,_,_,_,_,_,_,_,_,_⟩:=fc8 BK150.out))
 refine bodyPost_ret (results_cell_row rfl _ _ gb150 45 #[.int .i64 a0_0, .int .i64 a0_1, .slice Ao14 t152.length co14, .slice Ao18 t155.length co18, .slice Ao22 t158.length co22, .int .i64 a0_5, .int .i64 a0_6, .int .i64 a0_7] (0,0) _ rfl (by (with_reducible repeat first|apply ql|apply qn|apply qo);refine qp (cs:=#[.int .i64 a0_0, .int .i64 a0_1, .slice Ao14 t152.length co14, .slice Ao18 t155.length co18, .slice Ao22 t158.length co22, .int .i64 a0_5, .int .i64 a0_6, .int .i64 0]) ?_ 7 _ rfl;refine qp (cs:=#[.int .i64 a0_0, .int .i64 a0_1, .slice Ao14 t152.length co14, .slice Ao18 t155.length co18, .slice Ao22 t158.length co22, .int .i64 a0_5, .int .i64 0, .int .i64 0]) ?_ 6 _ rfl;refine qp (cs:=#[.int .i64 a0_0, .int .i64 a0_1, .slice Ao14 t152.length co14, .slice Ao18 t155.length co18, .slice Ao22 t158.length co22, .int .i64 0, .int .i64 0, .int .i64 0]) ?_ 5 _ rfl;refine qp (cs:=#[.int .i64 a0_0, .int .i64 a0_1, .slice Ao14 t152.length co14, .slice Ao18 t155.length co18, .slice none 0 0, .int .i64 0, .int .i64 0, .int .i64 0]) ?_ 4 _ rfl;refine qp (cs:=#[.int .i64 a0_0, .int .i64 a0_1, .slice Ao14 t152.length co14, .slice none 0 0, .slice none 0 0, .int .i64 0, .int .i64 0, .int .i64 0]) ?_ 3 _ rfl;refine qp (cs:=#[.int .i64 a0_0, .int .i64 a0_1, .slice none 0 0, .slice none 0 0, .slice none 0 0, .int .i64 0, .int .i64 0, .int .i64 0]) ?_ 2 _ rfl;refine qp (cs:=#[.int .i64 a0_0, .int .i64 0, .slice none 0 0, .slice none 0 0, .slice none 0 0, .int .i64 0, .int .i64 0, .int .i64 0]) ?_ 1 _ rfl;refine qp (cs:=#[.int .i64 0, .int .i64 0, .slice none 0 0, .slice none 0 0, .slice none 0 0, .int .i64 0, .int .i64 0, .int .i64 0]) ?_ 0 _ rfl;refine qr ?_ NB150_151.out _;refine qr ?_ NB150_151.out _;refine qr ?_ NB150_151.out _;refine qr ?_ NB150_151.out _;exact kb BK150.out) Try.underlying45 rfl (by kernel_rfl)) rfl ?_
 exact ⟨_,_,_,by first|rfl|(simp <;> rfl)|(simp [*] <;> rfl),by (with_reducible repeat (first|apply qb|apply qc|apply qd));exact qg (qa (p:=⟨gb150,7,none⟩) (qa (p:=⟨gb150,6,none⟩) (qa (p:=⟨gb150,5,none⟩) (qa (p:=⟨gb150,4,none⟩) (qa (p:=⟨gb150,3,none⟩) (qa (p:=⟨gb150,2,none⟩) (qa (p:=⟨gb150,1,none⟩) (qa (p:=⟨gb150,0,none⟩) (qa (p:=⟨gb151,7,none⟩) (qa (p:=⟨gb151,6,none⟩) (qa (p:=⟨gb151,5,none⟩) (qa (p:=⟨gb151,4,none⟩) (Kd.R_types (Kd.R_types HO154.out BK151.out (by decide)) BK150.out (by decide)) (fun _ hk=>hk.1.2) (.slice Ao22 t158.length co22)) (fun _ hk=>hk.1.2) (.int .i64 a0_5)) (fun _ hk=>hk.1.2) (.int .i64 a0_6)) (fun _ hk=>hk.1.2) (.int .i64 a0_7)) (fun _ hk=>hk.2) (.int .i64 a0_0)) (fun _ hk=>hk.2) (.int .i64 a0_1)) (fun _ hk=>hk.2) (.slice Ao14 t152.length co14)) (fun _ hk=>hk.2) (.slice Ao18 t155.length co18)) (fun _ hk=>hk.2) (.slice Ao22 t158.length co22)) (fun _ hk=>hk.2) (.int .i64 a0_5)) (fun _ hk=>hk.2) (.int .i64 a0_6)) (fun _ hk=>hk.2) (.int .i64 a0_7)) (fun _ hk=>⟨hk.1.1.1.2,hk.1.1.2⟩),by (with_reducible repeat (first|apply qb|apply qc|apply qd));exact qg (qa (p:=⟨gb150,7,none⟩) (qa (p:=⟨gb150,6,none⟩) (qa (p:=⟨gb150,5,none⟩) (qa (p:=⟨gb150,4,none⟩) (qa (p:=⟨gb150,3,none⟩) (qa (p:=⟨gb150,2,none⟩) (qa (p:=⟨gb150,1,none⟩) (qa (p:=⟨gb150,0,none⟩) (qa (p:=⟨gb151,7,none⟩) (qa (p:=⟨gb151,6,none⟩) (qa (p:=⟨gb151,5,none⟩) (qa (p:=⟨gb151,4,none⟩) (Kd.R_types (Kd.R_types HO157.out BK151.out (by decide)) BK150.out (by decide)) (fun _ hk=>hk.1.2) (.slice Ao22 t158.length co22)) (fun _ hk=>hk.1.2) (.int .i64 a0_5)) (fun _ hk=>hk.1.2) (.int .i64 a0_6)) (fun _ hk=>hk.1.2) (.int .i64 a0_7)) (fun _ hk=>hk.2) (.int .i64 a0_0)) (fun _ hk=>hk.2) (.int .i64 a0_1)) (fun _ hk=>hk.2) (.slice Ao14 t152.length co14)) (fun _ hk=>hk.2) (.slice Ao18 t155.length co18)) (fun _ hk=>hk.2) (.slice Ao22 t158.length co22)) (fun _ hk=>hk.2) (.int .i64 a0_5)) (fun _ hk=>hk.2) (.int .i64 a0_6)) (fun _ hk=>hk.2) (.int .i64 a0_7)) (fun _ hk=>⟨hk.1.1.1.2,hk.1.1.2⟩),by (with_reducible repeat (first|apply qb|apply qc|apply qd));exact qg (qa (p:=⟨gb150,7,none⟩) (qa (p:=⟨gb150,6,none⟩) (qa (p:=⟨gb150,5,none⟩) (qa (p:=⟨gb150,4,none⟩) (qa (p:=⟨gb150,3,none⟩) (qa (p:=⟨gb150,2,none⟩) (qa (p:=⟨gb150,1,none⟩) (qa (p:=⟨gb150,0,none⟩) (qa (p:=⟨gb151,7,none⟩) (qa (p:=⟨gb151,6,none⟩) (qa (p:=⟨gb151,5,none⟩) (qa (p:=⟨gb151,4,none⟩) (Kd.R_types (Kd.R_types HO160.out BK151.out (by decide)) BK150.out (by decide)) (fun _ hk=>hk.1.2) (.slice Ao22 t158.length co22)) (fun _ hk=>hk.1.2) (.int .i64 a0_5)) (fun _ hk=>hk.1.2) (.int .i64 a0_6)) (fun _ hk=>hk.1.2) (.int .i64 a0_7)) (fun _ hk=>hk.2) (.int .i64 a0_0)) (fun _ hk=>hk.2) (.int .i64 a0_1)) (fun _ hk=>hk.2) (.slice Ao14 t152.length co14)) (fun _ hk=>hk.2) (.slice Ao18 t155.length co18)) (fun _ hk=>hk.2) (.slice Ao22 t158.length co22)) (fun _ hk=>hk.2) (.int .i64 a0_5)) (fun _ hk=>hk.2) (.int .i64 a0_6)) (fun _ hk=>hk.2) (.int .i64 a0_7)) (fun _ hk=>⟨hk.1.1.1.2,hk.1.1.2⟩),by repeat (first|(with_reducible first|exact HB.out|apply qh|apply qi|apply qj|refine qk ?_ GE149.out|refine qk ?_ GE150.out|refine qk ?_ GE151.out)|exact HB.out)⟩
def laws_eqHeader.f (k:Nat) (a0_0:Int) (a0_1:Int) (l0_2:List Int) (l0_3:List Int) (l0_4:List Int) (a0_5:Int) (a0_6:Int) (a0_7:Int) (a1_0:Int) (a1_1:Int) (l1_2:List Int) (l1_3:List Int) (l1_4:List Int) (a1_5:Int) (a1_6:Int) (a1_7:Int):Option (Bool):=if a0_0=a1_0 then (if a0_1=a1_1 then ((laws_eqByteS.f k l0_2 l1_2).bind fun t163=>(if t163=true then ((laws_eqByteS.f k l0_3 l1_3).bind fun t164=>(if t164=true then ((laws_eqByteS.f k l0_4 l1_4).bind fun t165=>(if t165=true then (if a0_5=a1_5 then (if a0_6=a1_6 then (if a0_7=a1_7 then (some true) else (some false)) else (some false)) else (some false)) else (some false))) else (some false))) else (some false))) else (some false)) else (some false)
set_option maxHeartbeats 8000000 in
set_option maxRecDepth 100000 in
theorem laws_eqHeader.calls (k:Nat) (a0_0:Int) (a0_1:Int) (A0_2:Option Addr) (c0_2:Nat) (l0_2:List Int) (A0_3:Option Addr) (c0_3:Nat) (l0_3:List Int) (A0_4:Option Addr) (c0_4:Nat) (l0_4:List Int) (a0_5:Int) (a0_6:Int) (a0_7:Int) (a1_0:Int) (a1_1:Int) (A1_2:Option Addr) (c1_2:Nat) (l1_2:List Int) (A1_3:Option Addr) (c1_3:Nat) (l1_3:List Int) (A1_4:Option Addr) (c1_4:Nat) (l1_4:List Int) (a1_5:Int) (a1_6:Int) (a1_7:Int) (r:Bool) (w:World) (hr0_2:Kd.C (Kd.int .u8) w A0_2 l0_2.length l0_2) (hc0_2:l0_2.length≤c0_2) (hr0_3:Kd.C (Kd.int .u8) w A0_3 l0_3.length l0_3) (hc0_3:l0_3.length≤c0_3) (hr0_4:Kd.C (Kd.int .u8) w A0_4 l0_4.length l0_4) (hc0_4:l0_4.length≤c0_4) (hr1_2:Kd.C (Kd.int .u8) w A1_2 l1_2.length l1_2) (hc1_2:l1_2.length≤c1_2) (hr1_3:Kd.C (Kd.int .u8) w A1_3 l1_3.length l1_3) (hc1_3:l1_3.length≤c1_3) (hr1_4:Kd.C (Kd.int .u8) w A1_4 l1_4.length l1_4) (hc1_4:l1_4.length≤c1_4) (h:laws_eqHeader.f k a0_0 a0_1 l0_2 l0_3 l0_4 a0_5 a0_6 a0_7 a1_0 a1_1 l1_2 l1_3 l1_4 a1_5 a1_6 a1_7=some r) :
  Calls Try.prog 37 #[.agg #[.int .i64 a0_0, .int .i64 a0_1, .slice A0_2 l0_2.length c0_2, .slice A0_3 l0_3.length c0_3, .slice A0_4 l0_4.length c0_4, .int .i64 a0_5, .int .i64 a0_6, .int .i64 a0_7], .agg #[.int .i64 a1_0, .int .i64 a1_1, .slice A1_2 l1_2.length c1_2, .slice A1_3 l1_3.length c1_3, .slice A1_4 l1_4.length c1_4, .int .i64 a1_5, .int .i64 a1_6, .int .i64 a1_7]] w fun e w' =>e = .returned (.bool r)∧Below w.heap.size w w' :=by
 have hu45:=Try.underlying45
 have HR0_2:=qm hr0_2
 have HC0_2:=qm hc0_2
 clear hr0_2 hc0_2
 have HR0_3:=qm hr0_3
 have HC0_3:=qm hc0_3
 clear hr0_3 hc0_3
 have HR0_4:=qm hr0_4
 have HC0_4:=qm hc0_4
 clear hr0_4 hc0_4
 have HR1_2:=qm hr1_2
 have HC1_2:=qm hc1_2
 clear hr1_2 hc1_2
 have HR1_3:=qm hr1_3
 have HC1_3:=qm hc1_3
 clear hr1_3 hc1_3
 have HR1_4:=qm hr1_4
 have HC1_4:=qm hc1_4
 clear hr1_4 hc1_4
 have HB:=qm (Below.refl w.heap.size w)
 have H:(if a0_0=a1_0 then (if a0_1=a1_1 then ((laws_eqByteS.f k l0_2 l1_2).bind fun t163=>(if t163=true then ((laws_eqByteS.f k l0_3 l1_3).bind fun t164=>(if t164=true then ((laws_eqByteS.f k l0_4 l1_4).bind fun t165=>(if t165=true then (if a0_5=a1_5 then (if a0_6=a1_6 then (if a0_7=a1_7 then (some true) else (some false)) else (some false)) else (some false)) else (some false))) else (some false))) else (some false))) else (some false)) else (some false))=some r:=h
 clear h
 by_cases c3:a0_0=a1_0
 ·rw [if_pos c3] at H
  have c3b0:(a0_0 == a1_0)=true:=beq_iff_eq.mpr c3
  have c3b1:(a0_0 != a1_0)=false:=bne_eq_false_iff_eq.mpr c3
  clear c3
  by_cases c4:a0_1=a1_1
  ·rw [if_pos c4] at H
   have c4b0:(a0_1 == a1_1)=true:=beq_iff_eq.mpr c4
   have c4b1:(a0_1 != a1_1)=false:=bne_eq_false_iff_eq.mpr c4
   clear c4
   replace H:=Option.bind_eq_some_iff.mp H
   obtain ⟨t163,A50,H⟩:=H
   try dsimp only at H
   have A5:=qm A50
   clear A50
   by_cases c6:t163=true
   ·subst c6
    rw [if_pos rfl] at H
    replace H:=Option.bind_eq_some_iff.mp H
    obtain ⟨t164,A70,H⟩:=H
    try dsimp only at H
    have A7:=qm A70
    clear A70
    by_cases c8:t164=true
    ·subst c8
     rw [if_pos rfl] at H
     replace H:=Option.bind_eq_some_iff.mp H
     obtain ⟨t165,A90,H⟩:=H
     try dsimp only at H
     have A9:=qm A90
     clear A90
     by_cases c10:t165=true
     ·subst c10
      rw [if_pos rfl] at H
      by_cases c11:a0_5=a1_5
      ·rw [if_pos c11] at H
       have c11b0:(a0_5 == a1_5)=true:=beq_iff_eq.mpr c11
       have c11b1:(a0_5 != a1_5)=false:=bne_eq_false_iff_eq.mpr c11
       clear c11
       by_cases c12:a0_6=a1_6
       ·rw [if_pos c12] at H
        have c12b0:(a0_6 == a1_6)=true:=beq_iff_eq.mpr c12
        have c12b1:(a0_6 != a1_6)=false:=bne_eq_false_iff_eq.mpr c12
        clear c12
        by_cases c13:a0_7=a1_7
        ·rw [if_pos c13] at H
         have c13b0:(a0_7 == a1_7)=true:=beq_iff_eq.mpr c13
         have c13b1:(a0_7 != a1_7)=false:=bne_eq_false_iff_eq.mpr c13
         clear c13
         obtain rfl:=Option.some.inj H
         go_enter Try.func37,Try.ntmps37
         go_wp2_with (first|((with_reducible refine gate_dst (N:=2) rfl ?_);refine box_event (by rfl) (N:=2) (by rfl) (cs:=#[.int .i64 a0_0, .int .i64 a0_1, .slice A0_2 l0_2.length c0_2, .slice A0_3 l0_3.length c0_3, .slice A0_4 l0_4.length c0_4, .int .i64 a0_5, .int .i64 a0_6, .int .i64 a0_7]) (t:=45) (by first|(go_simp;done)|(go_simp;rfl)) ?_;intro gb161 hg w14 hbox hb;have _:=qm (qt HB.out hb);have _:=qm (hbox);have _:=qm ((gs hg (qs HB.out)));have _:=qm ((gs hg (qs HB.out)));clear HB;rename_i HB BK161 GW161 GE161;clear hb hbox hg)|((with_reducible refine gate_dst (N:=3) rfl ?_);refine box_event (by rfl) (N:=3) (by rfl) (cs:=#[.int .i64 a1_0, .int .i64 a1_1, .slice A1_2 l1_2.length c1_2, .slice A1_3 l1_3.length c1_3, .slice A1_4 l1_4.length c1_4, .int .i64 a1_5, .int .i64 a1_6, .int .i64 a1_7]) (t:=45) (by first|(go_simp;done)|(go_simp;rfl)) ?_;intro gb162 hg w15 hbox hb;have _:=qm (qv (g:=gb161) BK161.out hb);have _:=qm (qt (by repeat first|exact HB.out|apply qh|apply qi|apply qj|refine bk ?_) hb);have _:=qm (hbox);have _:=qm ((gs hg (qs (by repeat first|exact HB.out|apply qh|apply qi|apply qj|refine bk ?_))));have _:=qm ((gs hg (qs (by repeat first|exact HB.out|apply qh|apply qi|apply qj|refine bk ?_))));have _:=qm ((na hg BK161.out));have _:=qm ((nb hg BK161.out));clear BK161 HB;rename_i BK161 HB BK162 GW162 GE162 NB161_162 NB162_161;clear hb hbox hg;have hnb16:=NB161_162.out;have hnc16:=NB162_161.out;obtain ⟨_,_,_,_,_,_,_,_,_,_,_,_,_,_,_,_⟩:=fc8 BK161.out;obtain ⟨_,_,_,_,_,_,_,_,_,_,_,_,_,_,_,_⟩:=fc8 BK162.out)|((with_reducible refine gate_callee (f:=17) rfl ?_);refine goesL_ (some 19) rfl rfl Try.func17 (by kernel_rfl) rfl #[.slice A0_2 l0_2.length c0_2, .slice A1_2 l1_2.length c1_2] rfl (by (try simp only [m1,m2,m3]);first|done|rfl) ?_;(with_reducible refine (laws_eqByteS.calls k _ _ l0_2 _ _ l1_2 true _ ?side1 ?side2 ?side3 ?side4 A5.out).mono ?_);(case side1=>exact cb (Kd.C_below HR0_2.out HB.out));(case side2=>exact HC0_2.out);(case side3=>exact cb (Kd.C_below HR1_2.out HB.out));(case side4=>exact HC1_2.out);rintro e w' ⟨rfl,⟨nd,rfl⟩⟩;refine ⟨_,rfl,?_⟩)|((with_reducible refine gate_callee (f:=17) rfl ?_);refine goesL_ (some 25) rfl rfl Try.func17 (by kernel_rfl) rfl #[.slice A0_3 l0_3.length c0_3, .slice A1_3 l1_3.length c1_3] rfl (by (try simp only [m1,m2,m3]);first|done|rfl) ?_;(with_reducible refine (laws_eqByteS.calls k _ _ l0_3 _ _ l1_3 true _ ?side1 ?side2 ?side3 ?side4 A7.out).mono ?_);(case side1=>exact cb (Kd.C_below HR0_3.out (by repeat first|exact HB.out|apply qh|apply qi|apply qj|refine bk ?_)));(case side2=>exact HC0_3.out);(case side3=>exact cb (Kd.C_below HR1_3.out (by repeat first|exact HB.out|apply qh|apply qi|apply qj|refine bk ?_)));(case side4=>exact HC1_3.out);rintro e w' ⟨rfl,⟨nd,rfl⟩⟩;refine ⟨_,rfl,?_⟩)|((with_reducible refine gate_callee (f:=17) rfl ?_);refine goesL_ (some 31) rfl rfl Try.func17 (by kernel_rfl) rfl #[.slice A0_4 l0_4.length c0_4, .slice A1_4 l1_4.length c1_4] rfl (by (try simp only [m1,m2,m3]);first|done|rfl) ?_;(with_reducible refine (laws_eqByteS.calls k _ _ l0_4 _ _ l1_4 true _ ?side1 ?side2 ?side3 ?side4 A9.out).mono ?_);(case side1=>exact cb (Kd.C_below HR0_4.out (by repeat first|exact HB.out|apply qh|apply qi|apply qj|refine bk ?_)));(case side2=>exact HC0_4.out);(case side3=>exact cb (Kd.C_below HR1_4.out (by repeat first|exact HB.out|apply qh|apply qi|apply qj|refine bk ?_)));(case side4=>exact HC1_4.out);rintro e w' ⟨rfl,⟨nd,rfl⟩⟩;refine ⟨_,rfl,?_⟩))
         go_ret
         exact ⟨by first|rfl|(simp <;> rfl)|(simp [*] <;> rfl),by repeat (first|(with_reducible first|exact HB.out|apply qh|apply qi|apply qj|refine qk ?_ GE161.out|refine qk ?_ GE162.out)|exact HB.out)⟩
        rw [if_neg c13] at H
        have c13b0:(a0_7 == a1_7)=false:=beq_eq_false_iff_ne.mpr c13
        have c13b1:(a0_7 != a1_7)=true:=bne_iff_ne.mpr c13
        obtain rfl:=Option.some.inj H
        go_enter Try.func37,Try.ntmps37
        go_wp2_with (first|((with_reducible refine gate_dst (N:=2) rfl ?_);refine box_event (by rfl) (N:=2) (by rfl) (cs:=#[.int .i64 a0_0, .int .i64 a0_1, .slice A0_2 l0_2.length c0_2, .slice A0_3 l0_3.length c0_3, .slice A0_4 l0_4.length c0_4, .int .i64 a0_5, .int .i64 a0_6, .int .i64 a0_7]) (t:=45) (by first|(go_simp;done)|(go_simp;rfl)) ?_;intro gb161 hg w19 hbox hb;have _:=qm (qt HB.out hb);have _:=qm (hbox);have _:=qm ((gs hg (qs HB.out)));have _:=qm ((gs hg (qs HB.out)));clear HB;rename_i HB BK161 GW161 GE161;clear hb hbox hg)|((with_reducible refine gate_dst (N:=3) rfl ?_);refine box_event (by rfl) (N:=3) (by rfl) (cs:=#[.int .i64 a1_0, .int .i64 a1_1, .slice A1_2 l1_2.length c1_2, .slice A1_3 l1_3.length c1_3, .slice A1_4 l1_4.length c1_4, .int .i64 a1_5, .int .i64 a1_6, .int .i64 a1_7]) (t:=45) (by first|(go_simp;done)|(go_simp;rfl)) ?_;intro gb162 hg w20 hbox hb;have _:=qm (qv (g:=gb161) BK161.out hb);have _:=qm (qt (by repeat first|exact HB.out|apply qh|apply qi|apply qj|refine bk ?_) hb);have _:=qm (hbox);have _:=qm ((gs hg (qs (by repeat first|exact HB.out|apply qh|apply qi|apply qj|refine bk ?_))));have _:=qm ((gs hg (qs (by repeat first|exact HB.out|apply qh|apply qi|apply qj|refine bk ?_))));have _:=qm ((na hg BK161.out));have _:=qm ((nb hg BK161.out));clear BK161 HB;rename_i BK161 HB BK162 GW162 GE162 NB161_162 NB162_161;clear hb hbox hg;have hnb21:=NB161_162.out;have hnc21:=NB162_161.out;obtain ⟨_,_,_,_,_,_,_,_,_,_,_,_,_,_,_,_⟩:=fc8 BK161.out;obtain ⟨_,_,_,_,_,_,_,_,_,_,_,_,_,_,_,_⟩:=fc8 BK162.out)|((with_reducible refine gate_callee (f:=17) rfl ?_);refine goesL_ (some 19) rfl rfl Try.func17 (by kernel_rfl) rfl #[.slice A0_2 l0_2.length c0_2, .slice A1_2 l1_2.length c1_2] rfl (by (try simp only [m1,m2,m3]);first|done|rfl) ?_;(with_reducible refine (laws_eqByteS.calls k _ _ l0_2 _ _ l1_2 true _ ?side1 ?side2 ?side3 ?side4 A5.out).mono ?_);(case side1=>exact cb (Kd.C_below HR0_2.out HB.out));(case side2=>exact HC0_2.out);(case side3=>exact cb (Kd.C_below HR1_2.out HB.out));(case side4=>exact HC1_2.out);rintro e w' ⟨rfl,⟨nd,rfl⟩⟩;refine ⟨_,rfl,?_⟩)|((with_reducible refine gate_callee (f:=17) rfl ?_);refine goesL_ (some 25) rfl rfl Try.func17 (by kernel_rfl) rfl #[.slice A0_3 l0_3.length c0_3, .slice A1_3 l1_3.length c1_3] rfl (by (try simp only [m1,m2,m3]);first|done|rfl) ?_;(with_reducible refine (laws_eqByteS.calls k _ _ l0_3 _ _ l1_3 true _ ?side1 ?side2 ?side3 ?side4 A7.out).mono ?_);(case side1=>exact cb (Kd.C_below HR0_3.out (by repeat first|exact HB.out|apply qh|apply qi|apply qj|refine bk ?_)));(case side2=>exact HC0_3.out);(case side3=>exact cb (Kd.C_below HR1_3.out (by repeat first|exact HB.out|apply qh|apply qi|apply qj|refine bk ?_)));(case side4=>exact HC1_3.out);rintro e w' ⟨rfl,⟨nd,rfl⟩⟩;refine ⟨_,rfl,?_⟩)|((with_reducible refine gate_callee (f:=17) rfl ?_);refine goesL_ (some 31) rfl rfl Try.func17 (by kernel_rfl) rfl #[.slice A0_4 l0_4.length c0_4, .slice A1_4 l1_4.length c1_4] rfl (by (try simp only [m1,m2,m3]);first|done|rfl) ?_;(with_reducible refine (laws_eqByteS.calls k _ _ l0_4 _ _ l1_4 true _ ?side1 ?side2 ?side3 ?side4 A9.out).mono ?_);(case side1=>exact cb (Kd.C_below HR0_4.out (by repeat first|exact HB.out|apply qh|apply qi|apply qj|refine bk ?_)));(case side2=>exact HC0_4.out);(case side3=>exact cb (Kd.C_below HR1_4.out (by repeat first|exact HB.out|apply qh|apply qi|apply qj|refine bk ?_)));(case side4=>exact HC1_4.out);rintro e w' ⟨rfl,⟨nd,rfl⟩⟩;refine ⟨_,rfl,?_⟩))
        go_ret
        exact ⟨by first|rfl|(simp <;> rfl)|(simp [*] <;> rfl),by repeat (first|(with_reducible first|exact HB.out|apply qh|apply qi|apply qj|refine qk ?_ GE161.out|refine qk ?_ GE162.out)|exact HB.out)⟩
       rw [if_neg c12] at H
       have c12b0:(a0_6 == a1_6)=false:=beq_eq_false_iff_ne.mpr c12
       have c12b1:(a0_6 != a1_6)=true:=bne_iff_ne.mpr c12
       obtain rfl:=Option.some.inj H
       go_enter Try.func37,Try.ntmps37
       go_wp2_with (first|((with_reducible refine gate_dst (N:=2) rfl ?_);refine box_event (by rfl) (N:=2) (by rfl) (cs:=#[.int .i64 a0_0, .int .i64 a0_1, .slice A0_2 l0_2.length c0_2, .slice A0_3 l0_3.length c0_3, .slice A0_4 l0_4.length c0_4, .int .i64 a0_5, .int .i64 a0_6, .int .i64 a0_7]) (t:=45) (by first|(go_simp;done)|(go_simp;rfl)) ?_;intro gb161 hg w24 hbox hb;have _:=qm (qt HB.out hb);have _:=qm (hbox);have _:=qm ((gs hg (qs HB.out)));have _:=qm ((gs hg (qs HB.out)));clear HB;rename_i HB BK161 GW161 GE161;clear hb hbox hg)|((with_reducible refine gate_dst (N:=3) rfl ?_);refine box_event (by rfl) (N:=3) (by rfl) (cs:=#[.int .i64 a1_0, .int .i64 a1_1, .slice A1_2 l1_2.length c1_2, .slice A1_3 l1_3.length c1_3, .slice A1_4 l1_4.length c1_4, .int .i64 a1_5, .int .i64 a1_6, .int .i64 a1_7]) (t:=45) (by first|(go_simp;done)|(go_simp;rfl)) ?_;intro gb162 hg w25 hbox hb;have _:=qm (qv (g:=gb161) BK161.out hb);have _:=qm (qt (by repeat first|exact HB.out|apply qh|apply qi|apply qj|refine bk ?_) hb);have _:=qm (hbox);have _:=qm ((gs hg (qs (by repeat first|exact HB.out|apply qh|apply qi|apply qj|refine bk ?_))));have _:=qm ((gs hg (qs (by repeat first|exact HB.out|apply qh|apply qi|apply qj|refine bk ?_))));have _:=qm ((na hg BK161.out));have _:=qm ((nb hg BK161.out));clear BK161 HB;rename_i BK161 HB BK162 GW162 GE162 NB161_162 NB162_161;clear hb hbox hg;have hnb26:=NB161_162.out;have hnc26:=NB162_161.out;obtain ⟨_,_,_,_,_,_,_,_,_,_,_,_,_,_,_,_⟩:=fc8 BK161.out;obtain ⟨_,_,_,_,_,_,_,_,_,_,_,_,_,_,_,_⟩:=fc8 BK162.out)|((with_reducible refine gate_callee (f:=17) rfl ?_);refine goesL_ (some 19) rfl rfl Try.func17 (by kernel_rfl) rfl #[.slice A0_2 l0_2.length c0_2, .slice A1_2 l1_2.length c1_2] rfl (by (try simp only [m1,m2,m3]);first|done|rfl) ?_;(with_reducible refine (laws_eqByteS.calls k _ _ l0_2 _ _ l1_2 true _ ?side1 ?side2 ?side3 ?side4 A5.out).mono ?_);(case side1=>exact cb (Kd.C_below HR0_2.out HB.out));(case side2=>exact HC0_2.out);(case side3=>exact cb (Kd.C_below HR1_2.out HB.out));(case side4=>exact HC1_2.out);rintro e w' ⟨rfl,⟨nd,rfl⟩⟩;refine ⟨_,rfl,?_⟩)|((with_reducible refine gate_callee (f:=17) rfl ?_);refine goesL_ (some 25) rfl rfl Try.func17 (by kernel_rfl) rfl #[.slice A0_3 l0_3.length c0_3, .slice A1_3 l1_3.length c1_3] rfl (by (try simp only [m1,m2,m3]);first|done|rfl) ?_;(with_reducible refine (laws_eqByteS.calls k _ _ l0_3 _ _ l1_3 true _ ?side1 ?side2 ?side3 ?side4 A7.out).mono ?_);(case side1=>exact cb (Kd.C_below HR0_3.out (by repeat first|exact HB.out|apply qh|apply qi|apply qj|refine bk ?_)));(case side2=>exact HC0_3.out);(case side3=>exact cb (Kd.C_below HR1_3.out (by repeat first|exact HB.out|apply qh|apply qi|apply qj|refine bk ?_)));(case side4=>exact HC1_3.out);rintro e w' ⟨rfl,⟨nd,rfl⟩⟩;refine ⟨_,rfl,?_⟩)|((with_reducible refine gate_callee (f:=17) rfl ?_);refine goesL_ (some 31) rfl rfl Try.func17 (by kernel_rfl) rfl #[.slice A0_4 l0_4.length c0_4, .slice A1_4 l1_4.length c1_4] rfl (by (try simp only [m1,m2,m3]);first|done|rfl) ?_;(with_reducible refine (laws_eqByteS.calls k _ _ l0_4 _ _ l1_4 true _ ?side1 ?side2 ?side3 ?side4 A9.out).mono ?_);(case side1=>exact cb (Kd.C_below HR0_4.out (by repeat first|exact HB.out|apply qh|apply qi|apply qj|refine bk ?_)));(case side2=>exact HC0_4.out);(case side3=>exact cb (Kd.C_below HR1_4.out (by repeat first|exact HB.out|apply qh|apply qi|apply qj|refine bk ?_)));(case side4=>exact HC1_4.out);rintro e w' ⟨rfl,⟨nd,rfl⟩⟩;refine ⟨_,rfl,?_⟩))
       go_ret
       exact ⟨by first|rfl|(simp <;> rfl)|(simp [*] <;> rfl),by repeat (first|(with_reducible first|exact HB.out|apply qh|apply qi|apply qj|refine qk ?_ GE161.out|refine qk ?_ GE162.out)|exact HB.out)⟩
      rw [if_neg c11] at H
      have c11b0:(a0_5 == a1_5)=false:=beq_eq_false_iff_ne.mpr c11
      have c11b1:(a0_5 != a1_5)=true:=bne_iff_ne.mpr c11
      obtain rfl:=Option.some.inj H
      go_enter Try.func37,Try.ntmps37
      go_wp2_with (first|((with_reducible refine gate_dst (N:=2) rfl ?_);refine box_event (by rfl) (N:=2) (by rfl) (cs:=#[.int .i64 a0_0, .int .i64 a0_1, .slice A0_2 l0_2.length c0_2, .slice A0_3 l0_3.length c0_3, .slice A0_4 l0_4.length c0_4, .int .i64 a0_5, .int .i64 a0_6, .int .i64 a0_7]) (t:=45) (by first|(go_simp;done)|(go_simp;rfl)) ?_;intro gb161 hg w29 hbox hb;have _:=qm (qt HB.out hb);have _:=qm (hbox);have _:=qm ((gs hg (qs HB.out)));have _:=qm ((gs hg (qs HB.out)));clear HB;rename_i HB BK161 GW161 GE161;clear hb hbox hg)|((with_reducible refine gate_dst (N:=3) rfl ?_);refine box_event (by rfl) (N:=3) (by rfl) (cs:=#[.int .i64 a1_0, .int .i64 a1_1, .slice A1_2 l1_2.length c1_2, .slice A1_3 l1_3.length c1_3, .slice A1_4 l1_4.length c1_4, .int .i64 a1_5, .int .i64 a1_6, .int .i64 a1_7]) (t:=45) (by first|(go_simp;done)|(go_simp;rfl)) ?_;intro gb162 hg w30 hbox hb;have _:=qm (qv (g:=gb161) BK161.out hb);have _:=qm (qt (by repeat first|exact HB.out|apply qh|apply qi|apply qj|refine bk ?_) hb);have _:=qm (hbox);have _:=qm ((gs hg (qs (by repeat first|exact HB.out|apply qh|apply qi|apply qj|refine bk ?_))));have _:=qm ((gs hg (qs (by repeat first|exact HB.out|apply qh|apply qi|apply qj|refine bk ?_))));have _:=qm ((na hg BK161.out));have _:=qm ((nb hg BK161.out));clear BK161 HB;rename_i BK161 HB BK162 GW162 GE162 NB161_162 NB162_161;clear hb hbox hg;have hnb31:=NB161_162.out;have hnc31:=NB162_161.out;obtain ⟨_,_,_,_,_,_,_,_,_,_,_,_,_,_,_,_⟩:=fc8 BK161.out;obtain ⟨_,_,_,_,_,_,_,_,_,_,_,_,_,_,_,_⟩:=fc8 BK162.out)|((with_reducible refine gate_callee (f:=17) rfl ?_);refine goesL_ (some 19) rfl rfl Try.func17 (by kernel_rfl) rfl #[.slice A0_2 l0_2.length c0_2, .slice A1_2 l1_2.length c1_2] rfl (by (try simp only [m1,m2,m3]);first|done|rfl) ?_;(with_reducible refine (laws_eqByteS.calls k _ _ l0_2 _ _ l1_2 true _ ?side1 ?side2 ?side3 ?side4 A5.out).mono ?_);(case side1=>exact cb (Kd.C_below HR0_2.out HB.out));(case side2=>exact HC0_2.out);(case side3=>exact cb (Kd.C_below HR1_2.out HB.out));(case side4=>exact HC1_2.out);rintro e w' ⟨rfl,⟨nd,rfl⟩⟩;refine ⟨_,rfl,?_⟩)|((with_reducible refine gate_callee (f:=17) rfl ?_);refine goesL_ (some 25) rfl rfl Try.func17 (by kernel_rfl) rfl #[.slice A0_3 l0_3.length c0_3, .slice A1_3 l1_3.length c1_3] rfl (by (try simp only [m1,m2,m3]);first|done|rfl) ?_;(with_reducible refine (laws_eqByteS.calls k _ _ l0_3 _ _ l1_3 true _ ?side1 ?side2 ?side3 ?side4 A7.out).mono ?_);(case side1=>exact cb (Kd.C_below HR0_3.out (by repeat first|exact HB.out|apply qh|apply qi|apply qj|refine bk ?_)));(case side2=>exact HC0_3.out);(case side3=>exact cb (Kd.C_below HR1_3.out (by repeat first|exact HB.out|apply qh|apply qi|apply qj|refine bk ?_)));(case side4=>exact HC1_3.out);rintro e w' ⟨rfl,⟨nd,rfl⟩⟩;refine ⟨_,rfl,?_⟩)|((with_reducible refine gate_callee (f:=17) rfl ?_);refine goesL_ (some 31) rfl rfl Try.func17 (by kernel_rfl) rfl #[.slice A0_4 l0_4.length c0_4, .slice A1_4 l1_4.length c1_4] rfl (by (try simp only [m1,m2,m3]);first|done|rfl) ?_;(with_reducible refine (laws_eqByteS.calls k _ _ l0_4 _ _ l1_4 true _ ?side1 ?side2 ?side3 ?side4 A9.out).mono ?_);(case side1=>exact cb (Kd.C_below HR0_4.out (by repeat first|exact HB.out|apply qh|apply qi|apply qj|refine bk ?_)));(case side2=>exact HC0_4.out);(case side3=>exact cb (Kd.C_below HR1_4.out (by repeat first|exact HB.out|apply qh|apply qi|apply qj|refine bk ?_)));(case side4=>exact HC1_4.out);rintro e w' ⟨rfl,⟨nd,rfl⟩⟩;refine ⟨_,rfl,?_⟩))
      go_ret
      exact ⟨by first|rfl|(simp <;> rfl)|(simp [*] <;> rfl),by repeat (first|(with_reducible first|exact HB.out|apply qh|apply qi|apply qj|refine qk ?_ GE161.out|refine qk ?_ GE162.out)|exact HB.out)⟩
     replace c10:=Bool.eq_false_iff.mpr c10
     subst c10
     rw [if_neg nt] at H
     obtain rfl:=Option.some.inj H
     go_enter Try.func37,Try.ntmps37
     go_wp2_with (first|((with_reducible refine gate_dst (N:=2) rfl ?_);refine box_event (by rfl) (N:=2) (by rfl) (cs:=#[.int .i64 a0_0, .int .i64 a0_1, .slice A0_2 l0_2.length c0_2, .slice A0_3 l0_3.length c0_3, .slice A0_4 l0_4.length c0_4, .int .i64 a0_5, .int .i64 a0_6, .int .i64 a0_7]) (t:=45) (by first|(go_simp;done)|(go_simp;rfl)) ?_;intro gb161 hg w34 hbox hb;have _:=qm (qt HB.out hb);have _:=qm (hbox);have _:=qm ((gs hg (qs HB.out)));have _:=qm ((gs hg (qs HB.out)));clear HB;rename_i HB BK161 GW161 GE161;clear hb hbox hg)|((with_reducible refine gate_dst (N:=3) rfl ?_);refine box_event (by rfl) (N:=3) (by rfl) (cs:=#[.int .i64 a1_0, .int .i64 a1_1, .slice A1_2 l1_2.length c1_2, .slice A1_3 l1_3.length c1_3, .slice A1_4 l1_4.length c1_4, .int .i64 a1_5, .int .i64 a1_6, .int .i64 a1_7]) (t:=45) (by first|(go_simp;done)|(go_simp;rfl)) ?_;intro gb162 hg w35 hbox hb;have _:=qm (qv (g:=gb161) BK161.out hb);have _:=qm (qt (by repeat first|exact HB.out|apply qh|apply qi|apply qj|refine bk ?_) hb);have _:=qm (hbox);have _:=qm ((gs hg (qs (by repeat first|exact HB.out|apply qh|apply qi|apply qj|refine bk ?_))));have _:=qm ((gs hg (qs (by repeat first|exact HB.out|apply qh|apply qi|apply qj|refine bk ?_))));have _:=qm ((na hg BK161.out));have _:=qm ((nb hg BK161.out));clear BK161 HB;rename_i BK161 HB BK162 GW162 GE162 NB161_162 NB162_161;clear hb hbox hg;have hnb36:=NB161_162.out;have hnc36:=NB162_161.out;obtain ⟨_,_,_,_,_,_,_,_,_,_,_,_,_,_,_,_⟩:=fc8 BK161.out;obtain ⟨_,_,_,_,_,_,_,_,_,_,_,_,_,_,_,_⟩:=fc8 BK162.out)|((with_reducible refine gate_callee (f:=17) rfl ?_);refine goesL_ (some 19) rfl rfl Try.func17 (by kernel_rfl) rfl #[.slice A0_2 l0_2.length c0_2, .slice A1_2 l1_2.length c1_2] rfl (by (try simp only [m1,m2,m3]);first|done|rfl) ?_;(with_reducible refine (laws_eqByteS.calls k _ _ l0_2 _ _ l1_2 true _ ?side1 ?side2 ?side3 ?side4 A5.out).mono ?_);(case side1=>exact cb (Kd.C_below HR0_2.out HB.out));(case side2=>exact HC0_2.out);(case side3=>exact cb (Kd.C_below HR1_2.out HB.out));(case side4=>exact HC1_2.out);rintro e w' ⟨rfl,⟨nd,rfl⟩⟩;refine ⟨_,rfl,?_⟩)|((with_reducible refine gate_callee (f:=17) rfl ?_);refine goesL_ (some 25) rfl rfl Try.func17 (by kernel_rfl) rfl #[.slice A0_3 l0_3.length c0_3, .slice A1_3 l1_3.length c1_3] rfl (by (try simp only [m1,m2,m3]);first|done|rfl) ?_;(with_reducible refine (laws_eqByteS.calls k _ _ l0_3 _ _ l1_3 true _ ?side1 ?side2 ?side3 ?side4 A7.out).mono ?_);(case side1=>exact cb (Kd.C_below HR0_3.out (by repeat first|exact HB.out|apply qh|apply qi|apply qj|refine bk ?_)));(case side2=>exact HC0_3.out);(case side3=>exact cb (Kd.C_below HR1_3.out (by repeat first|exact HB.out|apply qh|apply qi|apply qj|refine bk ?_)));(case side4=>exact HC1_3.out);rintro e w' ⟨rfl,⟨nd,rfl⟩⟩;refine ⟨_,rfl,?_⟩)|((with_reducible refine gate_callee (f:=17) rfl ?_);refine goesL_ (some 31) rfl rfl Try.func17 (by kernel_rfl) rfl #[.slice A0_4 l0_4.length c0_4, .slice A1_4 l1_4.length c1_4] rfl (by (try simp only [m1,m2,m3]);first|done|rfl) ?_;(with_reducible refine (laws_eqByteS.calls k _ _ l0_4 _ _ l1_4 false _ ?side1 ?side2 ?side3 ?side4 A9.out).mono ?_);(case side1=>exact cb (Kd.C_below HR0_4.out (by repeat first|exact HB.out|apply qh|apply qi|apply qj|refine bk ?_)));(case side2=>exact HC0_4.out);(case side3=>exact cb (Kd.C_below HR1_4.out (by repeat first|exact HB.out|apply qh|apply qi|apply qj|refine bk ?_)));(case side4=>exact HC1_4.out);rintro e w' ⟨rfl,⟨nd,rfl⟩⟩;refine ⟨_,rfl,?_⟩))
     go_ret
     exact ⟨by first|rfl|(simp <;> rfl)|(simp [*] <;> rfl),by repeat (first|(with_reducible first|exact HB.out|apply qh|apply qi|apply qj|refine qk ?_ GE161.out|refine qk ?_ GE162.out)|exact HB.out)⟩
    replace c8:=Bool.eq_false_iff.mpr c8
    subst c8
    rw [if_neg nt] at H
    obtain rfl:=Option.some.inj H
    go_enter Try.func37,Try.ntmps37
    go_wp2_with (first|((with_reducible refine gate_dst (N:=2) rfl ?_);refine box_event (by rfl) (N:=2) (by rfl) (cs:=#[.int .i64 a0_0, .int .i64 a0_1, .slice A0_2 l0_2.length c0_2, .slice A0_3 l0_3.length c0_3, .slice A0_4 l0_4.length c0_4, .int .i64 a0_5, .int .i64 a0_6, .int .i64 a0_7]) (t:=45) (by first|(go_simp;done)|(go_simp;rfl)) ?_;intro gb161 hg w39 hbox hb;have _:=qm (qt HB.out hb);have _:=qm (hbox);have _:=qm ((gs hg (qs HB.out)));have _:=qm ((gs hg (qs HB.out)));clear HB;rename_i HB BK161 GW161 GE161;clear hb hbox hg)|((with_reducible refine gate_dst (N:=3) rfl ?_);refine box_event (by rfl) (N:=3) (by rfl) (cs:=#[.int .i64 a1_0, .int .i64 a1_1, .slice A1_2 l1_2.length c1_2, .slice A1_3 l1_3.length c1_3, .slice A1_4 l1_4.length c1_4, .int .i64 a1_5, .int .i64 a1_6, .int .i64 a1_7]) (t:=45) (by first|(go_simp;done)|(go_simp;rfl)) ?_;intro gb162 hg w40 hbox hb;have _:=qm (qv (g:=gb161) BK161.out hb);have _:=qm (qt (by repeat first|exact HB.out|apply qh|apply qi|apply qj|refine bk ?_) hb);have _:=qm (hbox);have _:=qm ((gs hg (qs (by repeat first|exact HB.out|apply qh|apply qi|apply qj|refine bk ?_))));have _:=qm ((gs hg (qs (by repeat first|exact HB.out|apply qh|apply qi|apply qj|refine bk ?_))));have _:=qm ((na hg BK161.out));have _:=qm ((nb hg BK161.out));clear BK161 HB;rename_i BK161 HB BK162 GW162 GE162 NB161_162 NB162_161;clear hb hbox hg;have hnb41:=NB161_162.out;have hnc41:=NB162_161.out;obtain ⟨_,_,_,_,_,_,_,_,_,_,_,_,_,_,_,_⟩:=fc8 BK161.out;obtain ⟨_,_,_,_,_,_,_,_,_,_,_,_,_,_,_,_⟩:=fc8 BK162.out)|((with_reducible refine gate_callee (f:=17) rfl ?_);refine goesL_ (some 19) rfl rfl Try.func17 (by kernel_rfl) rfl #[.slice A0_2 l0_2.length c0_2, .slice A1_2 l1_2.length c1_2] rfl (by (try simp only [m1,m2,m3]);first|done|rfl) ?_;(with_reducible refine (laws_eqByteS.calls k _ _ l0_2 _ _ l1_2 true _ ?side1 ?side2 ?side3 ?side4 A5.out).mono ?_);(case side1=>exact cb (Kd.C_below HR0_2.out HB.out));(case side2=>exact HC0_2.out);(case side3=>exact cb (Kd.C_below HR1_2.out HB.out));(case side4=>exact HC1_2.out);rintro e w' ⟨rfl,⟨nd,rfl⟩⟩;refine ⟨_,rfl,?_⟩)|((with_reducible refine gate_callee (f:=17) rfl ?_);refine goesL_ (some 25) rfl rfl Try.func17 (by kernel_rfl) rfl #[.slice A0_3 l0_3.length c0_3, .slice A1_3 l1_3.length c1_3] rfl (by (try simp only [m1,m2,m3]);first|done|rfl) ?_;(with_reducible refine (laws_eqByteS.calls k _ _ l0_3 _ _ l1_3 false _ ?side1 ?side2 ?side3 ?side4 A7.out).mono ?_);(case side1=>exact cb (Kd.C_below HR0_3.out (by repeat first|exact HB.out|apply qh|apply qi|apply qj|refine bk ?_)));(case side2=>exact HC0_3.out);(case side3=>exact cb (Kd.C_below HR1_3.out (by repeat first|exact HB.out|apply qh|apply qi|apply qj|refine bk ?_)));(case side4=>exact HC1_3.out);rintro e w' ⟨rfl,⟨nd,rfl⟩⟩;refine ⟨_,rfl,?_⟩))
    go_ret
    exact ⟨by first|rfl|(simp <;> rfl)|(simp [*] <;> rfl),by repeat (first|(with_reducible first|exact HB.out|apply qh|apply qi|apply qj|refine qk ?_ GE161.out|refine qk ?_ GE162.out)|exact HB.out)⟩
   replace c6:=Bool.eq_false_iff.mpr c6
   subst c6
   rw [if_neg nt] at H
   obtain rfl:=Option.some.inj H
   go_enter Try.func37,Try.ntmps37
   go_wp2_with (first|((with_reducible refine gate_dst (N:=2) rfl ?_);refine box_event (by rfl) (N:=2) (by rfl) (cs:=#[.int .i64 a0_0, .int .i64 a0_1, .slice A0_2 l0_2.length c0_2, .slice A0_3 l0_3.length c0_3, .slice A0_4 l0_4.length c0_4, .int .i64 a0_5, .int .i64 a0_6, .int .i64 a0_7]) (t:=45) (by first|(go_simp;done)|(go_simp;rfl)) ?_;intro gb161 hg w44 hbox hb;have _:=qm (qt HB.out hb);have _:=qm (hbox);have _:=qm ((gs hg (qs HB.out)));have _:=qm ((gs hg (qs HB.out)));clear HB;rename_i HB BK161 GW161 GE161;clear hb hbox hg)|((with_reducible refine gate_dst (N:=3) rfl ?_);refine box_event (by rfl) (N:=3) (by rfl) (cs:=#[.int .i64 a1_0, .int .i64 a1_1, .slice A1_2 l1_2.length c1_2, .slice A1_3 l1_3.length c1_3, .slice A1_4 l1_4.length c1_4, .int .i64 a1_5, .int .i64 a1_6, .int .i64 a1_7]) (t:=45) (by first|(go_simp;done)|(go_simp;rfl)) ?_;intro gb162 hg w45 hbox hb;have _:=qm (qv (g:=gb161) BK161.out hb);have _:=qm (qt (by repeat first|exact HB.out|apply qh|apply qi|apply qj|refine bk ?_) hb);have _:=qm (hbox);have _:=qm ((gs hg (qs (by repeat first|exact HB.out|apply qh|apply qi|apply qj|refine bk ?_))));have _:=qm ((gs hg (qs (by repeat first|exact HB.out|apply qh|apply qi|apply qj|refine bk ?_))));have _:=qm ((na hg BK161.out));have _:=qm ((nb hg BK161.out));clear BK161 HB;rename_i BK161 HB BK162 GW162 GE162 NB161_162 NB162_161;clear hb hbox hg;have hnb46:=NB161_162.out;have hnc46:=NB162_161.out;obtain ⟨_,_,_,_,_,_,_,_,_,_,_,_,_,_,_,_⟩:=fc8 BK161.out;obtain ⟨_,_,_,_,_,_,_,_,_,_,_,_,_,_,_,_⟩:=fc8 BK162.out)|((with_reducible refine gate_callee (f:=17) rfl ?_);refine goesL_ (some 19) rfl rfl Try.func17 (by kernel_rfl) rfl #[.slice A0_2 l0_2.length c0_2, .slice A1_2 l1_2.length c1_2] rfl (by (try simp only [m1,m2,m3]);first|done|rfl) ?_;(with_reducible refine (laws_eqByteS.calls k _ _ l0_2 _ _ l1_2 false _ ?side1 ?side2 ?side3 ?side4 A5.out).mono ?_);(case side1=>exact cb (Kd.C_below HR0_2.out HB.out));(case side2=>exact HC0_2.out);(case side3=>exact cb (Kd.C_below HR1_2.out HB.out));(case side4=>exact HC1_2.out);rintro e w' ⟨rfl,⟨nd,rfl⟩⟩;refine ⟨_,rfl,?_⟩))
   go_ret
   exact ⟨by first|rfl|(simp <;> rfl)|(simp [*] <;> rfl),by repeat (first|(with_reducible first|exact HB.out|apply qh|apply qi|apply qj|refine qk ?_ GE161.out|refine qk ?_ GE162.out)|exact HB.out)⟩
  rw [if_neg c4] at H
  have c4b0:(a0_1 == a1_1)=false:=beq_eq_false_iff_ne.mpr c4
  have c4b1:(a0_1 != a1_1)=true:=bne_iff_ne.mpr c4
  obtain rfl:=Option.some.inj H
  go_enter Try.func37,Try.ntmps37
  go_wp2_with (first|((with_reducible refine gate_dst (N:=2) rfl ?_);refine box_event (by rfl) (N:=2) (by rfl) (cs:=#[.int .i64 a0_0, .int .i64 a0_1, .slice A0_2 l0_2.length c0_2, .slice A0_3 l0_3.length c0_3, .slice A0_4 l0_4.length c0_4, .int .i64 a0_5, .int .i64 a0_6, .int .i64 a0_7]) (t:=45) (by first|(go_simp;done)|(go_simp;rfl)) ?_;intro gb161 hg w49 hbox hb;have _:=qm (qt HB.out hb);have _:=qm (hbox);have _:=qm ((gs hg (qs HB.out)));have _:=qm ((gs hg (qs HB.out)));clear HB;rename_i HB BK161 GW161 GE161;clear hb hbox hg)|((with_reducible refine gate_dst (N:=3) rfl ?_);refine box_event (by rfl) (N:=3) (by rfl) (cs:=#[.int .i64 a1_0, .int .i64 a1_1, .slice A1_2 l1_2.length c1_2, .slice A1_3 l1_3.length c1_3, .slice A1_4 l1_4.length c1_4, .int .i64 a1_5, .int .i64 a1_6, .int .i64 a1_7]) (t:=45) (by first|(go_simp;done)|(go_simp;rfl)) ?_;intro gb162 hg w50 hbox hb;have _:=qm (qv (g:=gb161) BK161.out hb);have _:=qm (qt (by repeat first|exact HB.out|apply qh|apply qi|apply qj|refine bk ?_) hb);have _:=qm (hbox);have _:=qm ((gs hg (qs (by repeat first|exact HB.out|apply qh|apply qi|apply qj|refine bk ?_))));have _:=qm ((gs hg (qs (by repeat first|exact HB.out|apply qh|apply qi|apply qj|refine bk ?_))));have _:=qm ((na hg BK161.out));have _:=qm ((nb hg BK161.out));clear BK161 HB;rename_i BK161 HB BK162 GW162 GE162 NB161_162 NB162_161;clear hb hbox hg;have hnb51:=NB161_162.out;have hnc51:=NB162_161.out;obtain ⟨_,_,_,_,_,_,_,_,_,_,_,_,_,_,_,_⟩:=fc8 BK161.out;obtain ⟨_,_,_,_,_,_,_,_,_,_,_,_,_,_,_,_⟩:=fc8 BK162.out))
  go_ret
  exact ⟨by first|rfl|(simp <;> rfl)|(simp [*] <;> rfl),by repeat (first|(with_reducible first|exact HB.out|apply qh|apply qi|apply qj|refine qk ?_ GE161.out|refine qk ?_ GE162.out)|exact HB.out)⟩
 rw [if_neg c3] at H
 have c3b0:(a0_0 == a1_0)=false:=beq_eq_false_iff_ne.mpr c3
 have c3b1:(a0_0 != a1_0)=true:=bne_iff_ne.mpr c3
 obtain rfl:=Option.some.inj H
 go_enter Try.func37,Try.ntmps37
 go_wp2_with (first|((with_reducible refine gate_dst (N:=2) rfl ?_);refine box_event (by rfl) (N:=2) (by rfl) (cs:=#[.int .i64 a0_0, .int .i64 a0_1, .slice A0_2 l0_2.length c0_2, .slice A0_3 l0_3.length c0_3, .slice A0_4 l0_4.length c0_4, .int .i64 a0_5, .int .i64 a0_6, .int .i64 a0_7]) (t:=45) (by first|(go_simp;done)|(go_simp;rfl)) ?_;intro gb161 hg w54 hbox hb;have _:=qm (qt HB.out hb);have _:=qm (hbox);have _:=qm ((gs hg (qs HB.out)));have _:=qm ((gs hg (qs HB.out)));clear HB;rename_i HB BK161 GW161 GE161;clear hb hbox hg)|((with_reducible refine gate_dst (N:=3) rfl ?_);refine box_event (by rfl) (N:=3) (by rfl) (cs:=#[.int .i64 a1_0, .int .i64 a1_1, .slice A1_2 l1_2.length c1_2, .slice A1_3 l1_3.length c1_3, .slice A1_4 l1_4.length c1_4, .int .i64 a1_5, .int .i64 a1_6, .int .i64 a1_7]) (t:=45) (by first|(go_simp;done)|(go_simp;rfl)) ?_;intro gb162 hg w55 hbox hb;have _:=qm (qv (g:=gb161) BK161.out hb);have _:=qm (qt (by repeat first|exact HB.out|apply qh|apply qi|apply qj|refine bk ?_) hb);have _:=qm (hbox);have _:=qm ((gs hg (qs (by repeat first|exact HB.out|apply qh|apply qi|apply qj|refine bk ?_))));have _:=qm ((gs hg (qs (by repeat first|exact HB.out|apply qh|apply qi|apply qj|refine bk ?_))));have _:=qm ((na hg BK161.out));have _:=qm ((nb hg BK161.out));clear BK161 HB;rename_i BK161 HB BK162 GW162 GE162 NB161_162 NB162_161;clear hb hbox hg;have hnb56:=NB161_162.out;have hnc56:=NB162_161.out;obtain ⟨_,_,_,_,_,_,_,_,_,_,_,_,_,_,_,_⟩:=fc8 BK161.out;obtain ⟨_,_,_,_,_,_,_,_,_,_,_,_,_,_,_,_⟩:=fc8 BK162.out))
 go_ret
 exact ⟨by first|rfl|(simp <;> rfl)|(simp [*] <;> rfl),by repeat (first|(with_reducible first|exact HB.out|apply qh|apply qi|apply qj|refine qk ?_ GE161.out|refine qk ?_ GE162.out)|exact HB.out)⟩
def laws_markHeader.f (k:Nat) (a0_0:Int) (a0_1:Int) (l0_2:List Int) (l0_3:List Int) (l0_4:List Int) (a0_5:Int) (a0_6:Int) (a0_7:Int) (a1:Int):Option (Int×List Int×List Int×List Int):=(laws_markByteS.f k l0_2 a1).bind fun bt167=>((laws_markByteS.f k l0_3 bt167.1).bind fun bt169=>((laws_markByteS.f k l0_4 bt169.1).bind fun bt171=>(some (bt171.1,bt167.2,bt169.2,bt171.2))))
set_option maxHeartbeats 8000000 in
set_option maxRecDepth 100000 in
theorem laws_markHeader.calls (k:Nat) (a0_0:Int) (a0_1:Int) (P0_2_:Nat→Prop) (u9000_:Value) (l0_2:List Int) (P0_3_:Nat→Prop) (u9001_:Value) (l0_3:List Int) (P0_4_:Nat→Prop) (u9002_:Value) (l0_4:List Int) (a0_5:Int) (a0_6:Int) (a0_7:Int) (a1:Int) (r1:Int) (r2:List Int) (r3:List Int) (r4:List Int) (w0 w:World) (hB:Below w0.heap.size w0 w) (ho0_2:Kd.R (Kd.int .u8) 5 w w0.heap.size P0_2_ u9000_ l0_2) (hp0_2_0_3:∀ k_,P0_2_ k_→¬ P0_3_ k_) (hp0_2_0_4:∀ k_,P0_2_ k_→¬ P0_4_ k_) (ho0_3:Kd.R (Kd.int .u8) 5 w w0.heap.size P0_3_ u9001_ l0_3) (hp0_3_0_2:∀ k_,P0_3_ k_→¬ P0_2_ k_) (hp0_3_0_4:∀ k_,P0_3_ k_→¬ P0_4_ k_) (ho0_4:Kd.R (Kd.int .u8) 5 w w0.heap.size P0_4_ u9002_ l0_4) (hp0_4_0_2:∀ k_,P0_4_ k_→¬ P0_2_ k_) (hp0_4_0_3:∀ k_,P0_4_ k_→¬ P0_3_ k_) (h:laws_markHeader.f k a0_0 a0_1 l0_2 l0_3 l0_4 a0_5 a0_6 a0_7 a1=some (r1,r2,r3,r4)) :
  Calls Try.prog 38 #[.agg #[.int .i64 a0_0, .int .i64 a0_1,u9000_,u9001_,u9002_, .int .i64 a0_5, .int .i64 a0_6, .int .i64 a0_7], .int .i64 a1] w fun e w' =>e = .returned (.int .i64 r1)∧Kd.R (Kd.int .u8) 5 w' w0.heap.size (fun k_=>((P0_2_ k_∨P0_3_ k_∨P0_4_ k_)∨w.heap.size≤k_)) u9000_ r2∧Kd.R (Kd.int .u8) 5 w' w0.heap.size (fun k_=>((P0_2_ k_∨P0_3_ k_∨P0_4_ k_)∨w.heap.size≤k_)) u9001_ r3∧Kd.R (Kd.int .u8) 5 w' w0.heap.size (fun k_=>((P0_2_ k_∨P0_3_ k_∨P0_4_ k_)∨w.heap.size≤k_)) u9002_ r4∧Below w0.heap.size w0 w' ∧Kept w w' (fun k_=>P0_2_ k_∨P0_3_ k_∨P0_4_ k_):=by
 have hu45:=Try.underlying45
 have HO0_2:=qm (show Kd.R (Kd.int .u8) 5 w w0.heap.size (fun k_=>((P0_2_ k_∨P0_3_ k_∨P0_4_ k_)∨w.heap.size≤k_)∧ob k_ u9001_∧ob k_ u9002_) u9000_ l0_2 from qg ho0_2 (fun k_ hk=>⟨(.inl (.inl hk)),fun e_=>hp0_2_0_3 k_ hk (ho0_3.1 k_ e_.symm),fun e_=>hp0_2_0_4 k_ hk (ho0_4.1 k_ e_.symm)⟩))
 have HO0_3:=qm (show Kd.R (Kd.int .u8) 5 w w0.heap.size (fun k_=>((P0_2_ k_∨P0_3_ k_∨P0_4_ k_)∨w.heap.size≤k_)∧ob k_ u9000_∧ob k_ u9002_) u9001_ l0_3 from qg ho0_3 (fun k_ hk=>⟨(.inl (.inr (.inl hk))),fun e_=>hp0_3_0_2 k_ hk (ho0_2.1 k_ e_.symm),fun e_=>hp0_3_0_4 k_ hk (ho0_4.1 k_ e_.symm)⟩))
 have HO0_4:=qm (show Kd.R (Kd.int .u8) 5 w w0.heap.size (fun k_=>((P0_2_ k_∨P0_3_ k_∨P0_4_ k_)∨w.heap.size≤k_)∧ob k_ u9000_∧ob k_ u9001_) u9002_ l0_4 from qg ho0_4 (fun k_ hk=>⟨(.inl (.inr (.inr hk))),fun e_=>hp0_4_0_2 k_ hk (ho0_2.1 k_ e_.symm),fun e_=>hp0_4_0_3 k_ hk (ho0_3.1 k_ e_.symm)⟩))
 have HK:=qm (Kept.refl w (fun k_=>P0_2_ k_∨P0_3_ k_∨P0_4_ k_))
 have HW0:=qm hB.size
 have HB:=qm hB
 clear hB
 have H:((laws_markByteS.f k l0_2 a1).bind fun bt167=>((laws_markByteS.f k l0_3 bt167.1).bind fun bt169=>((laws_markByteS.f k l0_4 bt169.1).bind fun bt171=>(some (bt171.1,bt167.2,bt169.2,bt171.2)))))=some (r1,r2,r3,r4):=h
 clear h
 replace H:=Option.bind_eq_some_iff.mp H
 obtain ⟨⟨t167,t168⟩,A30,H⟩:=H
 try dsimp only at H
 have A3:=qm A30
 clear A30
 replace H:=Option.bind_eq_some_iff.mp H
 obtain ⟨⟨t169,t170⟩,A40,H⟩:=H
 try dsimp only at H
 have A4:=qm A40
 clear A40
 replace H:=Option.bind_eq_some_iff.mp H
 obtain ⟨⟨t171,t172⟩,A50,H⟩:=H
 try dsimp only at H
 have A5:=qm A50
 clear A50
 simp only [Option.some.injEq,Prod.mk.injEq] at H
 obtain ⟨rfl,rfl,rfl,rfl⟩:=H
 obtain ⟨Ao6,co6,eo6⟩:=Kd.R_slice HO0_2.out
 subst eo6
 obtain ⟨Ao7,co7,eo7⟩:=Kd.R_slice HO0_3.out
 subst eo7
 obtain ⟨Ao8,co8,eo8⟩:=Kd.R_slice HO0_4.out
 subst eo8
 go_enter Try.func38,Try.ntmps38
 go_wp2_with (first|((with_reducible refine gate_dst (N:=2) rfl ?_);refine box_event (by rfl) (N:=2) (by rfl) (cs:=#[.int .i64 a0_0, .int .i64 a0_1, .slice Ao6 l0_2.length co6, .slice Ao7 l0_3.length co7, .slice Ao8 l0_4.length co8, .int .i64 a0_5, .int .i64 a0_6, .int .i64 a0_7]) (t:=45) (by first|(go_simp;done)|(go_simp;rfl)) ?_;intro gb166 hg w9 hbox hb;have _:=qm (qf HO0_2.out hb);have _:=qm (qf HO0_3.out hb);have _:=qm (qf HO0_4.out hb);have _:=qm (Kept.below (S:=(fun k_=>P0_2_ k_∨P0_3_ k_∨P0_4_ k_)) (by repeat (first|(with_reducible first|exact HK.out|apply Kept.alloc|apply Kept.drewN|apply Kept.drew)|exact HK.out)) hb);have _:=qm (qt HB.out hb);have _:=qm (hbox);have _:=qm ((gs hg (by first|exact HK.out.1|exact (show Kept w _ (fun k_=>P0_2_ k_∨P0_3_ k_∨P0_4_ k_) from by repeat (first|(with_reducible first|exact HK.out|apply Kept.alloc|apply Kept.drewN|apply Kept.drew)|exact HK.out)).1)));have _:=qm ((by rw [hg];exact (qs HB.out):w0.heap.size≤gb166));clear HO0_2 HO0_3 HO0_4 HK HB;rename_i HO0_2 HO0_3 HO0_4 HK HB BK166 GW166 GE166;clear hb hbox hg;obtain ⟨_,_,_,_,_,_,_,_,_,_,_,_,_,_,_,_⟩:=fc8 BK166.out)|((with_reducible refine gate_callee (f:=18) rfl ?_);refine goesL_ (some 8) rfl rfl Try.func18 (by kernel_rfl) rfl #[.slice Ao6 l0_2.length co6, .int .i64 a1] rfl (by (try simp only [m1,m2,m3]);first|done|rfl) ?_;(with_reducible refine (laws_markByteS.calls k (fun k_=>some k_=(.slice Ao6 l0_2.length co6:Value).ownBlock) (.slice Ao6 l0_2.length co6) l0_2 a1 t167 t168 w0 _ ?side1 ?side2 A3.out).mono ?_);(case side1=>repeat (first|(with_reducible first|exact HB.out|apply qh|apply qi|apply qj|refine qk ?_ GE166.out)|exact HB.out));(case side2=>exact Kd.R_tight rfl HO0_2.out);rintro e w11 ⟨rfl,hy0,hb,hkp⟩;refine ⟨_,rfl,?_⟩;have _:=qm (Kd.R_reok rfl hy0 (fun k_ e_=>HO0_2.out.1 k_ e_));have _:=qm (qg (ok' :=fun k_=>((P0_2_ k_∨P0_3_ k_∨P0_4_ k_)∨w.heap.size≤k_)∧ob k_ (.slice Ao6 l0_2.length co6)∧ob k_ (.slice Ao8 l0_4.length co8)) (Kd.R_keptB (HO0_3.out) hkp (fun k_ hk_ hs_=>(hk_.2.1) hs_)) (fun k_ hk_=>⟨hk_.1.1,hk_.1.2.1,hk_.1.2.2⟩));have _:=qm (qg (ok' :=fun k_=>((P0_2_ k_∨P0_3_ k_∨P0_4_ k_)∨w.heap.size≤k_)∧ob k_ (.slice Ao6 l0_2.length co6)∧ob k_ (.slice Ao7 l0_3.length co7)) (Kd.R_keptB (HO0_4.out) hkp (fun k_ hk_ hs_=>(hk_.2.1) hs_)) (fun k_ hk_=>⟨hk_.1.1,hk_.1.2.1,hk_.1.2.2⟩));have _:=qm (blk_kept BK166.out hkp (fun hs_=>(fun e_=>(Kd.R_ne HO0_2.out BK166.out (by decide)) e_) hs_));have _:=qm (Kept.then_ (S:=(fun k_=>P0_2_ k_∨P0_3_ k_∨P0_4_ k_)) (by repeat (first|(with_reducible first|exact HK.out|apply Kept.alloc|apply Kept.drewN|apply Kept.drew|refine Kept.setCell ?_ (.inr GW166.out) _)|exact HK.out)) hkp (fun k_ hs_=>(fun e_=>(HO0_2.out.1 k_ e_.symm).1) hs_));have _:=qm (hb);clear HO0_2 HO0_3 HO0_4 BK166 HK HB;rename_i HO0_2 HO0_3 HO0_4 BK166 HK HB;(try clear hy0);obtain ⟨_,_,_,_,_,_,_,_,_,_,_,_,_,_,_,_⟩:=fc8 BK166.out)|((with_reducible refine gate_callee (f:=18) rfl ?_);refine goesL_ (some 12) rfl rfl Try.func18 (by kernel_rfl) rfl #[.slice Ao7 l0_3.length co7, .int .i64 t167] rfl (by (try simp only [m1,m2,m3]);first|done|rfl) ?_;(with_reducible refine (laws_markByteS.calls k (fun k_=>some k_=(.slice Ao7 l0_3.length co7:Value).ownBlock) (.slice Ao7 l0_3.length co7) l0_3 t167 t169 t170 w0 _ ?side1 ?side2 A4.out).mono ?_);(case side1=>repeat (first|(with_reducible first|exact HB.out|apply qh|apply qi|apply qj|refine qk ?_ GE166.out)|exact HB.out));(case side2=>exact Kd.R_tight rfl HO0_3.out);rintro e w13 ⟨rfl,hy0,hb,hkp⟩;refine ⟨_,rfl,?_⟩;have _:=qm (qg (ok' :=fun k_=>((P0_2_ k_∨P0_3_ k_∨P0_4_ k_)∨w.heap.size≤k_)∧ob k_ (.slice Ao7 l0_3.length co7)∧ob k_ (.slice Ao8 l0_4.length co8)) (Kd.R_keptB (HO0_2.out) hkp (fun k_ hk_ hs_=>(hk_.2.1) hs_)) (fun k_ hk_=>⟨hk_.1.1,hk_.1.2.1,hk_.1.2.2⟩));have _:=qm (Kd.R_reok rfl hy0 (fun k_ e_=>HO0_3.out.1 k_ e_));have _:=qm (qg (ok' :=fun k_=>((P0_2_ k_∨P0_3_ k_∨P0_4_ k_)∨w.heap.size≤k_)∧ob k_ (.slice Ao6 l0_2.length co6)∧ob k_ (.slice Ao7 l0_3.length co7)) (Kd.R_keptB (HO0_4.out) hkp (fun k_ hk_ hs_=>(hk_.2.2) hs_)) (fun k_ hk_=>⟨hk_.1.1,hk_.1.2.1,hk_.1.2.2⟩));have _:=qm (blk_kept BK166.out hkp (fun hs_=>(fun e_=>(Kd.R_ne HO0_3.out BK166.out (by decide)) e_) hs_));have _:=qm (Kept.then_ (S:=(fun k_=>P0_2_ k_∨P0_3_ k_∨P0_4_ k_)) (by repeat (first|(with_reducible first|exact HK.out|apply Kept.alloc|apply Kept.drewN|apply Kept.drew|refine Kept.setCell ?_ (.inr GW166.out) _)|exact HK.out)) hkp (fun k_ hs_=>(fun e_=>(HO0_3.out.1 k_ e_.symm).1) hs_));have _:=qm (hb);clear HO0_2 HO0_3 HO0_4 BK166 HK HB;rename_i HO0_2 HO0_3 HO0_4 BK166 HK HB;(try clear hy0);obtain ⟨_,_,_,_,_,_,_,_,_,_,_,_,_,_,_,_⟩:=fc8 BK166.out)|((with_reducible refine gate_callee (f:=18) rfl ?_);refine goesL_ (some 16) rfl rfl Try.func18 (by kernel_rfl) rfl #[.slice Ao8 l0_4.length co8, .int .i64 t169] rfl (by (try simp only [m1,m2,m3]);first|done|rfl) ?_;(with_reducible refine (laws_markByteS.calls k (fun k_=>some k_=(.slice Ao8 l0_4.length co8:Value).ownBlock) (.slice Ao8 l0_4.length co8) l0_4 t169 t171 t172 w0 _ ?side1 ?side2 A5.out).mono ?_);(case side1=>repeat (first|(with_reducible first|exact HB.out|apply qh|apply qi|apply qj|refine qk ?_ GE166.out)|exact HB.out));(case side2=>exact Kd.R_tight rfl HO0_4.out);rintro e w15 ⟨rfl,hy0,hb,hkp⟩;refine ⟨_,rfl,?_⟩;have _:=qm (qg (ok' :=fun k_=>((P0_2_ k_∨P0_3_ k_∨P0_4_ k_)∨w.heap.size≤k_)∧ob k_ (.slice Ao7 l0_3.length co7)∧ob k_ (.slice Ao8 l0_4.length co8)) (Kd.R_keptB (HO0_2.out) hkp (fun k_ hk_ hs_=>(hk_.2.2) hs_)) (fun k_ hk_=>⟨hk_.1.1,hk_.1.2.1,hk_.1.2.2⟩));have _:=qm (qg (ok' :=fun k_=>((P0_2_ k_∨P0_3_ k_∨P0_4_ k_)∨w.heap.size≤k_)∧ob k_ (.slice Ao6 l0_2.length co6)∧ob k_ (.slice Ao8 l0_4.length co8)) (Kd.R_keptB (HO0_3.out) hkp (fun k_ hk_ hs_=>(hk_.2.2) hs_)) (fun k_ hk_=>⟨hk_.1.1,hk_.1.2.1,hk_.1.2.2⟩));have _:=qm (Kd.R_reok rfl hy0 (fun k_ e_=>HO0_4.out.1 k_ e_));have _:=qm (blk_kept BK166.out hkp (fun hs_=>(fun e_=>(Kd.R_ne HO0_4.out BK166.out (by decide)) e_) hs_));have _:=qm (Kept.then_ (S:=(fun k_=>P0_2_ k_∨P0_3_ k_∨P0_4_ k_)) (by repeat (first|(with_reducible first|exact HK.out|apply Kept.alloc|apply Kept.drewN|apply Kept.drew|refine Kept.setCell ?_ (.inr GW166.out) _)|exact HK.out)) hkp (fun k_ hs_=>(fun e_=>(HO0_4.out.1 k_ e_.symm).1) hs_));have _:=qm (hb);clear HO0_2 HO0_3 HO0_4 BK166 HK HB;rename_i HO0_2 HO0_3 HO0_4 BK166 HK HB;(try clear hy0)))
 go_ret
 exact ⟨by first|rfl|(simp <;> rfl)|(simp [*] <;> rfl),by (with_reducible repeat (first|apply qb|apply qc|apply qd));exact qg HO0_2.out (fun _ hk=>hk.1),by (with_reducible repeat (first|apply qb|apply qc|apply qd));exact qg HO0_3.out (fun _ hk=>hk.1),by (with_reducible repeat (first|apply qb|apply qc|apply qd));exact qg HO0_4.out (fun _ hk=>hk.1),by repeat (first|(with_reducible first|exact HB.out|apply qh|apply qi|apply qj|refine qk ?_ GE166.out)|exact HB.out),by repeat (first|(with_reducible first|exact HK.out|apply Kept.alloc|apply Kept.drewN|apply Kept.drew|refine Kept.setCell ?_ (.inr GW166.out) _)|exact HK.out)⟩
def spec_l01Digits.f:Nat→Int→Int→Option (List Int)
 |0,_,_=>none
 |k+1,a0,a1=>if a1=0 then (some (([]:List Int))) else ((spec_l01Digits.f k (wrap64 (Int.tdiv a0 256)) (wrap64 (a1 - 1))).bind fun t176=>(if t176.length<140737488355328 then (some (t176 ++ [(Int.tmod a0 256)%256])) else (none)))
set_option maxHeartbeats 8000000 in
set_option maxRecDepth 100000 in
theorem spec_l01Digits.calls (k:Nat):∀ (a0:Int) (a1:Int) (r:List Int) (w:World) (h:spec_l01Digits.f k a0 a1=some r),
  Calls Try.prog 64 #[.int .i64 a0, .int .i64 a1] w fun e w' =>∃ v0_:Value,e = .returned (v0_)∧Kd.R (Kd.int .u8) 5 w' w.heap.size (fun _=>True) v0_ r∧Below w.heap.size w w' :=by
 induction k using Nat.strongRecOn with
 |_ k ih=>
 intro a0 a1 r w h
 cases k with
 |zero=>exact absurd h (by simp [spec_l01Digits.f])
 |succ k=>
 simp only [spec_l01Digits.f] at h
 have HB:=qm (Below.refl w.heap.size w)
 have H:(if a1=0 then (some (([]:List Int))) else ((spec_l01Digits.f k (wrap64 (Int.tdiv a0 256)) (wrap64 (a1 - 1))).bind fun t176=>(if t176.length<140737488355328 then (some (t176 ++ [(Int.tmod a0 256)%256])) else (none))))=some r:=h
 clear h
 by_cases c3:a1=0
 ·rw [if_pos c3] at H
  have c3b0:(a1 == 0)=true:=beq_iff_eq.mpr c3
  have c3b1:(a1 != 0)=false:=bne_eq_false_iff_eq.mpr c3
  clear c3
  obtain ⟨y173,hy173⟩:∃ y_:List Int,y_=(([]:List Int)):=⟨_,rfl⟩
  replace H:(some y173)=some r:=by first|(rw [hy173];with_reducible exact H)|(have H2_:=(Option.bind_some _ _).symm.trans H;rw [hy173];with_reducible exact H2_)|(have H2_:=(Option.bind_some _ _).symm.trans H;with_reducible exact H2_)|with_reducible exact H|(rw [hy173];exact H)|exact H
  have Ny173:=qm hy173
  clear hy173
  obtain rfl:=Option.some.inj H
  go_enter Try.func64,Try.ntmps64
  go_wp2_with (first|((with_reducible refine gate_dst (N:=7) rfl ?_);refine Kd.R_lit (Kd.int .u8) _ 5 ?hg (N:=7) ?hd (xs:=([]:List Int)) (inner:=[]) (ok:=fun _=>True) (okp:=fun _=>True) ?hr ?hp (fun _ hk=>hk) trivial (Below.refl _ _) (Nat.le_refl _) (by simp) ?_;(case hd=>rfl);(case hg=>rfl);(case hr=>first|(go_simp;done)|(go_simp;rfl));(case hp=>exact (Reps.none _ _));intro v174 w4 ho5 hb hg_ hnew_;clear hg_ hnew_;(first|rw [←Ny173.out] at ho5|(simp only [Int.reduceToNat] at ho5;rw [←Ny173.out] at ho5));have _:=qm (Kd.R_lower ho5 (qs HB.out));have _:=qm (qt HB.out hb);clear HB;rename_i HO175 HB;clear hb ho5))
  go_ret
  exact ⟨_,by first|rfl|(simp <;> rfl)|(simp [*] <;> rfl),HO175.out,HB.out⟩
 rw [if_neg c3] at H
 have c3b0:(a1 == 0)=false:=beq_eq_false_iff_ne.mpr c3
 have c3b1:(a1 != 0)=true:=bne_iff_ne.mpr c3
 replace H:=Option.bind_eq_some_iff.mp H
 obtain ⟨t176,A60,H⟩:=H
 try dsimp only at H
 have A6:=qm A60
 clear A60
 by_cases c7:t176.length<140737488355328
 ·rw [if_pos c7] at H
  have LMc7:=qm c7
  clear c7
  obtain ⟨y179,hy179⟩:∃ y_:List Int,y_=(t176 ++ [(Int.tmod a0 256)%256]):=⟨_,rfl⟩
  replace H:(some y179)=some r:=by first|(rw [hy179];with_reducible exact H)|(have H2_:=(Option.bind_some _ _).symm.trans H;rw [hy179];with_reducible exact H2_)|(have H2_:=(Option.bind_some _ _).symm.trans H;with_reducible exact H2_)|with_reducible exact H|(rw [hy179];exact H)|exact H
  have Ny179:=qm hy179
  clear hy179
  obtain rfl:=Option.some.inj H
  go_enter Try.func64,Try.ntmps64
  go_wp2_with (first|((with_reducible refine gate_callee (f:=64) rfl ?_);refine goesL_ (some 12) rfl rfl Try.func64 (by kernel_rfl) rfl #[.int .i64 (wrap64 (Int.tdiv a0 256)), .int .i64 (wrap64 (a1 - 1))] rfl (by (try simp only [m1,m2,m3]);first|done|rfl) ?_;(with_reducible refine (ih k (by omega) (wrap64 (Int.tdiv a0 256)) (wrap64 (a1 - 1)) t176 _ A6.out).mono ?_);rintro e w8 ⟨v177,rfl,ho0,hb⟩;refine ⟨_,rfl,?_⟩;have _:=qm (Kd.R_lower ho0 (qs HB.out));have _:=qm (qt HB.out hb);clear HB;rename_i HO178 HB)|((with_reducible refine gate_builtin (b:= .append) (xs:=#[.tmp 12, .tmp 16]) rfl ?_);at_builtin;refine Kd.R_append (Kd.int .u8) (w0:=w) w.heap.size rfl (.tmp 12) (.tmp 16) 22 5 (.int .u8 0) 1 rfl Try.underlying22 info5 rfl (by decide) (by omega) v177 t176 ((Int.tmod a0 256)%256) [.int .u8 ((Int.tmod a0 256)%256)] (fun _=>True) (fun _=>False) rfl rfl ?aP (fun _ hk=>hk.elim) ?aF ?aO ?aB ?aS ?aL ?_;(case aP=>exact rfl);(case aB=>exact HB.out);(case aF=>exact (fun _ _=>trivial));(case aO=>exact HO178.out);(case aS=>exact (qs HB.out));(case aL=>have:=LMc7.out;omega);intro v180 w9 ho hb hg hat;rw [←Ny179.out] at ho;have _:=qm (hb);have _:=qm (ho);clear HB HO178;rename_i HB HO181;clear ho hb hg hat))
  go_ret
  exact ⟨_,by first|rfl|(simp <;> rfl)|(simp [*] <;> rfl),HO181.out,HB.out⟩
 rw [if_neg c7] at H
 exact absurd H (by simp)
def spec_l03Rot.f (a0:Int) (a1:Int):Option (Int):=if 0≤(IntKind.u64.wrap (a1)) then (if 0≤(IntKind.u64.wrap (wrap64 (32 - a1))) then (some (Go.bits .or .u32 (shl .u32 a0 (IntKind.u64.wrap (a1))) (shr .u32 a0 (IntKind.u64.wrap (wrap64 (32 - a1)))))) else (none)) else (none)
set_option maxHeartbeats 8000000 in
set_option maxRecDepth 100000 in
theorem spec_l03Rot.calls (a0:Int) (a1:Int) (r:Int) (w:World) (h:spec_l03Rot.f a0 a1=some r) :
  Calls Try.prog 86 #[.int .u32 a0, .int .i64 a1] w fun e w' =>e = .returned (.int .u32 r)∧Drawn0 w w' :=by
 have H:(if 0≤(IntKind.u64.wrap (a1)) then (if 0≤(IntKind.u64.wrap (wrap64 (32 - a1))) then (some (Go.bits .or .u32 (shl .u32 a0 (IntKind.u64.wrap (a1))) (shr .u32 a0 (IntKind.u64.wrap (wrap64 (32 - a1)))))) else (none)) else (none))=some r:=h
 clear h
 obtain ⟨ji3,hji3⟩:∃ j_:Int,(IntKind.u64.wrap (a1))=j_:=⟨_,rfl⟩
 replace H:(if 0≤(ji3) then (if 0≤(IntKind.u64.wrap (wrap64 (32 - a1))) then (some (Go.bits .or .u32 (shl .u32 a0 (ji3)) (shr .u32 a0 (IntKind.u64.wrap (wrap64 (32 - a1)))))) else (none)) else (none))=some r:=by first|(rw [hji3] at H;exact H)|(simp only [hji3] at H ⊢;exact H)
 by_cases c4:0≤(ji3)
 ·rw [if_pos c4] at H
  have c4b0:=eq_true c4
  have c4b1:decide (0≤(ji3))=true:=decide_eq_true c4
  clear c4
  obtain ⟨ji5,hji5⟩:∃ j_:Int,(shl .u32 a0 (ji3))=j_:=⟨_,rfl⟩
  replace H:(if 0≤(IntKind.u64.wrap (wrap64 (32 - a1))) then (some (Go.bits .or .u32 (ji5) (shr .u32 a0 (IntKind.u64.wrap (wrap64 (32 - a1)))))) else (none))=some r:=by first|(rw [hji5] at H;exact H)|(simp only [hji5] at H ⊢;exact H)
  have hji5_:(IntKind.u32.wrap (a0*2 ^ min (ji3).toNat 32))=ji5:=hji5
  have hji5z:(ji3)≤32→(IntKind.u32.wrap (a0*2 ^ (ji3).toNat))=ji5:=shl_small hji5
  obtain ⟨ji6,hji6⟩:∃ j_:Int,(IntKind.u64.wrap (wrap64 (32 - a1)))=j_:=⟨_,rfl⟩
  replace H:(if 0≤(ji6) then (some (Go.bits .or .u32 (ji5) (shr .u32 a0 (ji6)))) else (none))=some r:=by first|(rw [hji6] at H;exact H)|(simp only [hji6] at H ⊢;exact H)
  by_cases c7:0≤(ji6)
  ·rw [if_pos c7] at H
   have c7b0:=eq_true c7
   have c7b1:decide (0≤(ji6))=true:=decide_eq_true c7
   clear c7
   obtain ⟨ji8,hji8⟩:∃ j_:Int,(shr .u32 a0 (ji6))=j_:=⟨_,rfl⟩
   replace H:(some (Go.bits .or .u32 (ji5) (ji8)))=some r:=by first|(rw [hji8] at H;exact H)|(simp only [hji8] at H ⊢;exact H)
   have hji8_:(a0 / 2 ^ min (ji6).toNat 32)=ji8:=hji8
   have hji8z:(ji6)≤32→(a0 / 2 ^ (ji6).toNat)=ji8:=shr_small hji8
   obtain rfl:=Option.some.inj H
   go_enter Try.func86,Try.ntmps86
   go_wp2
   go_ret
   exact ⟨by first|rfl|(simp;done)|(simp only [←hji3,←hji5,←hji6,←hji8] <;> (first|rfl|simp))|(simp [*];done),by repeat (first|exact Drawn0.refl _|apply Drawn0.step)⟩
  rw [if_neg c7] at H
  exact absurd H (by simp)
 rw [if_neg c4] at H
 exact absurd H (by simp)
def spec_l03Stir.l0:Nat→List Int→Int→Int→Int→Int→Int→Option (Int×Int×Int×Int)
 |0,_,_,_,_,_,_=>none
 |k+1,x1,x5,x183000,x183001,x183002,x183003=>if x5<(x1.length:Int) then (if 0≤x5 then ((spec_l03Rot.f ((x183001+(((Go.bits .xor .u32 x183000 ((rd x1 x5)%4294967296))*16777619)%4294967296))%4294967296) 7).bind fun t185=>((spec_l03Rot.f (Go.bits .xor .u32 x183002 t185) 13).bind fun t186=>((spec_l03Rot.f ((x183003+t186)%4294967296) 17).bind fun t187=>(spec_l03Stir.l0 k x1 (wrap64 (x5+1)) (Go.bits .xor .u32 (((Go.bits .xor .u32 x183000 ((rd x1 x5)%4294967296))*16777619)%4294967296) t187) t185 t186 t187)))) else (none)) else (some (x183000,x183001,x183002,x183003))
def spec_l03Stir.f (k:Nat) (a0_0:Int) (a0_1:Int) (a0_2:Int) (a0_3:Int) (l1:List Int):Option (Int×Int×Int×Int):=spec_l03Stir.l0 k l1 0 a0_0 a0_1 a0_2 a0_3
def spec_l03Stir.T4:Bool×List (List Nat×List Nat):=(true,[([],[]),([0],[0]),([],[]),([],[]),([2,3],[2,3]),([4],[4]),([5],[5]),([1,6],[1,6]),([7],[7]),([0,1,2,3,4,5,6,7,8],[]),([9,8,0,1,2,3,4,5,6,7,8],[8,9])])
def spec_l03Stir.B4:List Nat:=[0,1,0,0,12,28,60,127,255,511,1023]
theorem spec_l03Stir.tab4:rtab .any (opsOf Try.f78 4)=spec_l03Stir.T4:=by kernel_rfl
theorem spec_l03Stir.bits4:waitsOk spec_l03Stir.T4.2 spec_l03Stir.B4=true:=by kernel_rfl
set_option maxHeartbeats 8000000 in
set_option maxRecDepth 100000 in
theorem spec_l03Stir.calls (k:Nat) (a0_0:Int) (a0_1:Int) (a0_2:Int) (a0_3:Int) (A1:Option Addr) (c1:Nat) (l1:List Int) (r1:Int) (r2:Int) (r3:Int) (r4:Int) (w:World) (hr1:Kd.C (Kd.int .u8) w A1 l1.length l1) (hc1:l1.length≤c1) (h:spec_l03Stir.f k a0_0 a0_1 a0_2 a0_3 l1=some (r1,r2,r3,r4)) :
  Calls Try.prog 78 #[.agg #[.int .u32 a0_0, .int .u32 a0_1, .int .u32 a0_2, .int .u32 a0_3], .slice A1 l1.length c1] w fun e w' =>e = .returned (.agg #[.int .u32 r1, .int .u32 r2, .int .u32 r3, .int .u32 r4])∧Below w.heap.size w w' :=by
 have hu75:=Try.underlying75
 have HR1:=qm hr1
 have HC1:=qm hc1
 clear hr1 hc1
 have HB:=qm (Below.refl w.heap.size w)
 have H:(spec_l03Stir.l0 k l1 0 a0_0 a0_1 a0_2 a0_3)=some (r1,r2,r3,r4):=h
 clear h
 have H' :=qm H
 clear H
 go_enter Try.func78,Try.ntmps78
 go_wp2_with (first|((with_reducible refine gate_dst (N:=2) rfl ?_);refine box_event (by rfl) (N:=2) (by rfl) (cs:=#[.int .u32 a0_0, .int .u32 a0_1, .int .u32 a0_2, .int .u32 a0_3]) (t:=75) (by first|(go_simp;done)|(go_simp;rfl)) ?_;intro gb182 hg w3 hbox hb;have _:=qm (qt HB.out hb);have _:=qm (hbox);have _:=qm ((gs hg (qs HB.out)));have _:=qm ((gs hg (qs HB.out)));clear HB;rename_i HB BK182 GW182 GE182;clear hb hbox hg)|((with_reducible refine gate_dst (N:=4) rfl ?_);refine box_event (by rfl) (N:=4) (by rfl) (cs:=#[.int .u32 0, .int .u32 0, .int .u32 0, .int .u32 0]) (t:=75) (by first|(go_simp;done)|(go_simp;rfl)) ?_;intro gb183 hg w4 hbox hb;have _:=qm (qv (g:=gb182) BK182.out hb);have _:=qm (qt (by repeat first|exact HB.out|apply qh|apply qi|apply qj|refine bk ?_) hb);have _:=qm (hbox);have _:=qm ((gs hg (qs (by repeat first|exact HB.out|apply qh|apply qi|apply qj|refine bk ?_))));have _:=qm ((gs hg (qs (by repeat first|exact HB.out|apply qh|apply qi|apply qj|refine bk ?_))));have _:=qm ((na hg BK182.out));have _:=qm ((nb hg BK182.out));clear BK182 HB;rename_i BK182 HB BK183 GW183 GE183 NB182_183 NB183_182;clear hb hbox hg))
 go_loopg [5] k (fun kq v5 w' =>∃ (x5_1:Int) (x183000_1:Int) (x183001_1:Int) (x183002_1:Int) (x183003_1:Int),v5 = .int .i64 x5_1∧Aside0 (spec_l03Stir.l0 kq l1 x5_1 x183000_1 x183001_1 x183002_1 x183003_1=some (r1,r2,r3,r4))∧Aside0 (kq≤k)∧Aside0 (w'.heap[gb182]? =some (.cells #[.int .u32 x183000_1, .int .u32 x183001_1, .int .u32 x183002_1, .int .u32 x183003_1] 75 (0,0)))∧Aside0 (w'.heap[gb183]? =some (.cells #[.int .u32 0, .int .u32 0, .int .u32 0, .int .u32 0] 75 (0,0)))∧Aside0 (Below w.heap.size w w'))
 case atStart=>exact ⟨(0),(a0_0),(a0_1),(a0_2),(a0_3),(by first|rfl|(simp;done)|(simp [*];done)),H',⟨Nat.le_refl _⟩,⟨BK182.out⟩,⟨BK183.out⟩,⟨by repeat (first|(with_reducible first|exact HB.out|apply qh|apply qi|apply qj|refine qk ?_ GE182.out|refine qk ?_ GE183.out)|exact HB.out)⟩⟩
 case round=>
  clear H'
  try clear c1
  obtain ⟨x5_1,x183000_1,x183001_1,x183002_1,x183003_1,rfl,HA,HK1,BK182,BK183,HB⟩:=hrel
  cases gk with
  |zero=>exact absurd HA.out (by simp [spec_l03Stir.l0])
  |succ k1=>?_
  have H:=HA.out
  clear HA
  simp only [spec_l03Stir.l0] at H
  by_cases c5:x5_1<(l1.length:Int)
  ·rw [if_pos c5] at H
   have c5b0:decide (x5_1<(l1.length:Int))=true:=decide_eq_true c5
   clear c5
   by_cases c6:0≤x5_1
   ·rw [if_pos c6] at H
    have c6b0:decide (0≤x5_1)=true:=decide_eq_true c6
    clear c6
    replace H:=Option.bind_eq_some_iff.mp H
    obtain ⟨t185,A70,H⟩:=H
    try dsimp only at H
    have A7:=qm A70
    clear A70
    replace H:=Option.bind_eq_some_iff.mp H
    obtain ⟨t186,A80,H⟩:=H
    try dsimp only at H
    have A8:=qm A80
    clear A80
    replace H:=Option.bind_eq_some_iff.mp H
    obtain ⟨t187,A90,H⟩:=H
    try dsimp only at H
    have A9:=qm A90
    clear A90
    have H' :=qm H
    clear H
    try go_wp2
    have _:=qm (qn BK182.out)
    have _:=qm (qn BK183.out)
    have _:=qm (qj HB.out)
    clear BK182 BK183 HB
    rename_i BK182 BK183 HB
    have p184:0≤(x5_1:Int):=of_decide_eq_true (by assumption)
    have q184:x5_1<(l1.length:Int):=of_decide_eq_true (by assumption)
    obtain ⟨ad184,e184,hx184_0⟩:=Kd.at_int HR1.out x5_1 p184 q184
    have hw184_0:=hx184_0
    cases e184
    replace hx184_0:=(HB.out.cell (World.block_lt_of_cell? w _ hx184_0)).trans hx184_0
    replace p184:=eq_true p184
    replace q184:=eq_true q184
    refine start_ (n:=11) (S:=fun w' =>w'.cell? ⟨gb182,0,none⟩=some (.int .u32 x183000_1)∧w'.cell? ⟨gb182,1,none⟩=some (.int .u32 x183001_1)∧w'.cell? ⟨gb182,2,none⟩=some (.int .u32 x183002_1)∧w'.cell? ⟨gb182,3,none⟩=some (.int .u32 x183003_1)∧w'.cell? (ad184.add (x5_1).toNat)=some (.int .u8 (rd l1 x5_1))) (ds:=[10]) (bm 0 11) (by kernel_rfl) rfl rfl ⟨(blk_cell BK182.out 0).trans rfl,(blk_cell BK182.out 1).trans rfl,(blk_cell BK182.out 2).trans rfl,(blk_cell BK182.out 3).trans rfl,((HB.out.cell (World.block_lt_of_cell? w _ hw184_0)).trans hw184_0)⟩ (fun hHeld=>?_);refine with_tabW spec_l03Stir.tab4 spec_l03Stir.bits4 (fun HT_ HW_=>?_)
    generalize wr.drew=w10 at BK182 BK183 HB hx184_0 hHeld ⊢
    refine pu 0 12 (bm 1 11) HT_ (h:=⟨_,by intro w';go_simp;with_reducible rfl,_,by simp only [Act.put,s1,s2,s3,i64_w,i32_w];rfl,?_⟩)
    refine pu 2 14 (bb 5 11) HT_ (h:=⟨_,by intro w';go_simp;with_reducible rfl,_,by simp only [Act.put,s1,s2,s3,i64_w,i32_w];rfl,?_⟩)
    refine pu 3 15 (bb 13 11) HT_ (h:=⟨_,by intro w';go_simp;with_reducible rfl,_,by simp only [Act.put,s1,s2,s3,i64_w,i32_w];rfl,?_⟩)
    refine pu 4 16 (bb 29 11) HT_ (h:=⟨_,by intro w';go_simp;with_reducible rfl,_,by simp only [Act.put,s1,s2,s3,i64_w,i32_w];rfl,?_⟩)
    refine tk 1 13 (bm 5 11) HT_ HW_ (hS:=hHeld) (h:=⟨_,by rintro w' ⟨s0,s1,s2,s3,s4⟩;go_simp;with_reducible rfl,_,by simp only [Act.put,s1,s2,s3,i64_w,i32_w];rfl,?_⟩)
    refine tk 5 17 (bm 6 11) HT_ HW_ (hS:=hHeld) (h:=⟨_,by rintro w' ⟨s0,s1,s2,s3,s4⟩;go_simp;with_reducible rfl,_,by simp only [Act.put,s1,s2,s3,i64_w,i32_w];rfl,?_⟩)
    refine pu 6 18 (bm 7 11) HT_ (h:=⟨_,by intro w';go_simp;with_reducible rfl,_,by simp only [Act.put,s1,s2,s3,i64_w,i32_w];rfl,?_⟩)
    refine pu 7 19 (bm 8 11) HT_ (h:=⟨_,by intro w';go_simp;with_reducible rfl,_,by simp only [Act.put,s1,s2,s3,i64_w,i32_w];rfl,?_⟩)
    refine pu 8 20 (bm 9 11) HT_ (h:=⟨_,by intro w';go_simp;with_reducible rfl,_,by simp only [Act.put,s1,s2,s3,i64_w,i32_w];rfl,?_⟩)
    refine pu 9 21 (bm 10 11) HT_ (h:=⟨_,by intro w';go_simp;with_reducible rfl,_,by simp only [Act.put,s1,s2,s3,i64_w,i32_w];rfl,?_⟩)
    refine last_ (i:=10) (N:=none) (bm 11 11) rfl rfl (one_of HT_.out (by kernel_rfl)) (by decide) (fun K hK=>?_)
    have hs11:w10.cell? ⟨gb182,0,none⟩=some (.int .u32 x183000_1):=(blk_cell BK182.out 0).trans rfl
    have hfs11:=blk_frozen BK182.out 0
    have hns11_1:=NB183_182.out
    have hms11_1:=NB182_183.out
    refine skip_ (w1:=?_) (by rfl) rfl ?_ ?_
    rotate_left
    ·go_simp
     rfl
    refine hK.out _ _ ?_
    clear hK K
    refine done_ (done_of HT_.out (by kernel_rfl)) ?_
    have hnb12:=NB182_183.out
    have hnc12:=NB183_182.out
    obtain ⟨_,_,_,_,_,_,_,_⟩:=fc4 BK182.out
    try go_wp2_with (first|((with_reducible refine gate_callee (f:=86) rfl ?_);refine goesL_ (some 27) rfl rfl Try.func86 (by kernel_rfl) rfl #[.int .u32 ((x183001_1+(((Go.bits .xor .u32 x183000_1 ((rd l1 x5_1)%4294967296))*16777619)%4294967296))%4294967296), .int .i64 7] rfl (by (try simp only [m1,m2,m3]);first|done|rfl) ?_;(with_reducible refine (spec_l03Rot.calls ((x183001_1+(((Go.bits .xor .u32 x183000_1 ((rd l1 x5_1)%4294967296))*16777619)%4294967296))%4294967296) 7 t185 _ A7.out).mono ?_);rintro e w' ⟨rfl,⟨nd,rfl⟩⟩;refine ⟨_,rfl,?_⟩)|((with_reducible refine gate_callee (f:=86) rfl ?_);refine goesL_ (some 34) rfl rfl Try.func86 (by kernel_rfl) rfl #[.int .u32 (Go.bits .xor .u32 x183002_1 t185), .int .i64 13] rfl (by (try simp only [m1,m2,m3]);first|done|rfl) ?_;(with_reducible refine (spec_l03Rot.calls (Go.bits .xor .u32 x183002_1 t185) 13 t186 _ A8.out).mono ?_);rintro e w' ⟨rfl,⟨nd,rfl⟩⟩;refine ⟨_,rfl,?_⟩)|((with_reducible refine gate_callee (f:=86) rfl ?_);refine goesL_ (some 41) rfl rfl Try.func86 (by kernel_rfl) rfl #[.int .u32 ((x183003_1+t186)%4294967296), .int .i64 17] rfl (by (try simp only [m1,m2,m3]);first|done|rfl) ?_;(with_reducible refine (spec_l03Rot.calls ((x183003_1+t186)%4294967296) 17 t187 _ A9.out).mono ?_);rintro e w' ⟨rfl,⟨nd,rfl⟩⟩;refine ⟨_,rfl,?_⟩))
    go_roundg k1
    case measure=>have:=HK1.out;omega
    case rel=>exact ⟨(wrap64 (x5_1+1)),(Go.bits .xor .u32 (((Go.bits .xor .u32 x183000_1 ((rd l1 x5_1)%4294967296))*16777619)%4294967296) t187),(t185),(t186),(t187),rfl,H',⟨by have:=HK1.out;omega⟩,⟨by (with_reducible repeat first|apply ql|apply qn|apply qo);refine qp (cs:=#[.int .u32 (((Go.bits .xor .u32 x183000_1 ((rd l1 x5_1)%4294967296))*16777619)%4294967296), .int .u32 t185, .int .u32 t186, .int .u32 t187]) ?_ 0 _ rfl;refine qp (cs:=#[.int .u32 (((Go.bits .xor .u32 x183000_1 ((rd l1 x5_1)%4294967296))*16777619)%4294967296), .int .u32 t185, .int .u32 t186, .int .u32 x183003_1]) ?_ 3 _ rfl;refine qp (cs:=#[.int .u32 (((Go.bits .xor .u32 x183000_1 ((rd l1 x5_1)%4294967296))*16777619)%4294967296), .int .u32 t185, .int .u32 x183002_1, .int .u32 x183003_1]) ?_ 2 _ rfl;refine qp (cs:=#[.int .u32 (((Go.bits .xor .u32 x183000_1 ((rd l1 x5_1)%4294967296))*16777619)%4294967296), .int .u32 x183001_1, .int .u32 x183002_1, .int .u32 x183003_1]) ?_ 1 _ rfl;refine qp (cs:=#[.int .u32 x183000_1, .int .u32 x183001_1, .int .u32 x183002_1, .int .u32 x183003_1]) ?_ 0 _ rfl;(with_reducible repeat first|apply ql|apply qn|apply qo);exact BK182.out⟩,⟨by (with_reducible repeat first|apply ql|apply qn|apply qo);refine qr ?_ NB183_182.out _;refine qr ?_ NB183_182.out _;refine qr ?_ NB183_182.out _;refine qr ?_ NB183_182.out _;refine qr ?_ NB183_182.out _;(with_reducible repeat first|apply ql|apply qn|apply qo);exact BK183.out⟩,⟨by repeat (first|(with_reducible first|exact HB.out|apply qh|apply qi|apply qj|refine qk ?_ GE182.out|refine qk ?_ GE183.out)|exact HB.out)⟩⟩
   rw [if_neg c6] at H
   exact absurd H (by simp)
  rw [if_neg c5] at H
  have c5b0:decide (x5_1<(l1.length:Int))=false:=decide_eq_false c5
  clear c5
  simp only [Option.some.injEq,Prod.mk.injEq] at H
  obtain ⟨rfl,rfl,rfl,rfl⟩:=H
  have hnb14:=NB182_183.out
  have hnc14:=NB183_182.out
  obtain ⟨_,_,_,_,_,_,_,_⟩:=fc4 BK182.out
  obtain ⟨_,_,_,_,_,_,_,_⟩:=fc4 BK183.out
  go_wp2
  refine bodyPost_ret (results_cell_row rfl _ _ gb183 75 #[.int .u32 x183000_1, .int .u32 x183001_1, .int .u32 x183002_1, .int .u32 x183003_1] (0,0) _ rfl (by (with_reducible repeat first|apply ql|apply qn|apply qo);refine qp (cs:=#[.int .u32 x183000_1, .int .u32 x183001_1, .int .u32 x183002_1, .int .u32 0]) ?_ 3 _ rfl;refine qp (cs:=#[.int .u32 x183000_1, .int .u32 x183001_1, .int .u32 0, .int .u32 0]) ?_ 2 _ rfl;refine qp (cs:=#[.int .u32 x183000_1, .int .u32 0, .int .u32 0, .int .u32 0]) ?_ 1 _ rfl;refine qp (cs:=#[.int .u32 0, .int .u32 0, .int .u32 0, .int .u32 0]) ?_ 0 _ rfl;exact kb BK183.out) Try.underlying75 rfl (by kernel_rfl)) rfl ?_
  exact ⟨by first|rfl|(simp <;> rfl)|(simp [*] <;> rfl),by repeat (first|(with_reducible first|exact HB.out|apply qh|apply qi|apply qj|refine qk ?_ GE182.out|refine qk ?_ GE183.out)|exact HB.out)⟩
end Go.Proofs.Ytcdkbdkanjifeaa.SFnExactProtectPacket
