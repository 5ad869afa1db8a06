/- The walk of functions that the law FnExactProtectPacket uses, written by program. -/
import Derived.Test.YtcdkbdkanjifeaaSFnExactProtectPacketx0
import Derived.Test.YtcdkbdkanjifeaaSFnExactProtectPacketx11
import Derived.Test.YtcdkbdkanjifeaaSFnExactProtectPacketx13
import Derived.Test.YtcdkbdkanjifeaaSFnExactProtectPacketx14
import Derived.Test.YtcdkbdkanjifeaaSFnExactProtectPacketx16
import Derived.Test.YtcdkbdkanjifeaaSFnExactProtectPacketx17
import Derived.Test.YtcdkbdkanjifeaaSteps2
import Derived.Test.YtcdkbdkanjifeaaSteps3
namespace Go.Proofs.Ytcdkbdkanjifeaa.SFnExactProtectPacket
open Go.Proofs.Ytcdkbdkanjifeaa.Steps3 Go.Proofs.Ytcdkbdkanjifeaa.Steps2 Go.RowKit Go.Proofs.YtcdkbdkanjifeaaW.PrintWords Go.Proofs.YtcdkbdkanjifeaaW.PrintLast Go.Proofs.YtcdkbdkanjifeaaW.PrintMore
open Go.Proofs.YtcdkbdkanjifeaaW.PrintWords renaming below_alloc → qh, pw_below_drewN → qi, below_drew1 → qj, below_set → qk, below_size → qs, below_step → qt, blk_cell → qu, blk_below → qv
open Go.Proofs.YtcdkbdkanjifeaaW.PrintWords.Kd renaming R_alloc → qb, R_drewN → qc, R_drew → qd, R_reads' → qe, R_mono → qg
open Go.Proofs.YtcdkbdkanjifeaaW.PrintWords.Aside0 renaming mk → qm
attribute [local go_sem] max2_int min2_int max_two min_two max_three min_three max_four min_four 
set_option linter.unusedVariables false
set_option linter.unusedSimpArgs false
def impl_ProtectPacket.j0:Nat→List Int→Bool→List Int→List Int→List Int→List Int→Int→Int→List Int→List Int→List Int→Int→Int→Int→Option (List Int×Int)
 |0,_,_,_,_,_,_,_,_,_,_,_,_,_,_=>none
 |k+1,x2,x19,x668000,x668001,x668002,x668003,x669000,x669001,x669002,x669003,x669004,x669005,x669006,x669007=>if x19=true then (some (([]:List Int),1)) else (if (wrap64 (x669006+(x2.length:Int)))<4 then (some (([]:List Int),2)) else (if (x2.length:Int)>1500 then (some (([]:List Int),4)) else ((impl_headBytes.f k x669000 x669001 x669002 x669003 x669004 x669005 x669006 x669007 (wrap64 ((x2.length:Int)+8))).bind fun t671=>((impl_Seal.f k x668000 x668001 x668002 x668003 x669005 t671 x2).bind fun bt674=>(if bt674.2=0 then (if 0≤(wrap64 (4 - x669006)) then (if (wrap64 (4 - x669006))≤(wrap64 ((wrap64 (4 - x669006))+8)) then (if (wrap64 ((wrap64 (4 - x669006))+8))≤(bt674.1.length:Int) then ((impl_HeadMask.f k x668000 x668001 x668002 x668003 ((bt674.1.take ((wrap64 ((wrap64 (4 - x669006))+8)):Int).toNat).drop ((wrap64 (4 - x669006)):Int).toNat)).bind fun t682=>((impl_masked.f k t671 (x669000 == 4) x669006 t682).bind fun t685=>(if t685.length+bt674.1.length<140737488355328 then (some ((t685 ++ bt674.1),0)) else (none)))) else (none)) else (none)) else (none)) else (some (([]:List Int),bt674.2)))))))
def impl_ProtectPacket.f (k:Nat) (l0_0:List Int) (l0_1:List Int) (l0_2:List Int) (l0_3:List Int) (a1_0:Int) (a1_1:Int) (l1_2:List Int) (l1_3:List Int) (l1_4:List Int) (a1_5:Int) (a1_6:Int) (a1_7:Int) (l2:List Int):Option (List Int×Int):=(impl_keysOK.f l0_0 l0_1 l0_2 l0_3).bind fun t669=>(if t669=true then ((impl_headerOK.f k a1_0 a1_1 l1_2 l1_3 l1_4 a1_5 a1_6 a1_7).bind fun t670=>(impl_ProtectPacket.j0 k l2 (!t670) l0_0 l0_1 l0_2 l0_3 a1_0 a1_1 l1_2 l1_3 l1_4 a1_5 a1_6 a1_7)) else (impl_ProtectPacket.j0 k l2 true l0_0 l0_1 l0_2 l0_3 a1_0 a1_1 l1_2 l1_3 l1_4 a1_5 a1_6 a1_7))
def impl_ProtectPacket.T12:Bool×List (List Nat×List Nat):=(true,[([],[]),([],[]),([1],[1]),([2],[2]),([],[]),([4],[4]),([],[]),([],[]),([],[]),([],[]),([9],[9]),([7,8,10],[7,8,10]),([6,11],[6,11]),([0,3,5,12,12],[0,3,5,12])])
def impl_ProtectPacket.B12:List Nat:=[0,0,2,6,0,16,0,0,0,0,512,1920,4032,8191]
theorem impl_ProtectPacket.tab12:rtab .any (opsOf Try.f48 12)=impl_ProtectPacket.T12:=by kernel_rfl
theorem impl_ProtectPacket.bits12:waitsOk impl_ProtectPacket.T12.2 impl_ProtectPacket.B12=true:=by kernel_rfl
set_option maxHeartbeats 8000000 in
set_option maxRecDepth 100000 in
theorem impl_ProtectPacket.calls (k:Nat) (A0_0:Option Addr) (c0_0:Nat) (l0_0:List Int) (A0_1:Option Addr) (c0_1:Nat) (l0_1:List Int) (A0_2:Option Addr) (c0_2:Nat) (l0_2:List Int) (A0_3:Option Addr) (c0_3:Nat) (l0_3:List Int) (a1_0:Int) (a1_1:Int) (A1_2:Option Addr) (c1_2:Nat) (l1_2:List Int) (A1_3:Option Addr) (c1_3:Nat) (l1_3:List Int) (A1_4:Option Addr) (c1_4:Nat) (l1_4:List Int) (a1_5:Int) (a1_6:Int) (a1_7:Int) (A2:Option Addr) (c2:Nat) (l2:List Int) (r1:List Int) (r2:Int) (w:World) (hr0_0:Kd.C (Kd.int .u8) w A0_0 l0_0.length l0_0) (hc0_0:l0_0.length≤c0_0) (hr0_1:Kd.C (Kd.int .u8) w A0_1 l0_1.length l0_1) (hc0_1:l0_1.length≤c0_1) (hr0_2:Kd.C (Kd.int .u8) w A0_2 l0_2.length l0_2) (hc0_2:l0_2.length≤c0_2) (hr0_3:Kd.C (Kd.int .u8) w A0_3 l0_3.length l0_3) (hc0_3:l0_3.length≤c0_3) (hr1_2:Kd.C (Kd.int .u8) w A1_2 l1_2.length l1_2) (hc1_2:l1_2.length≤c1_2) (hr1_3:Kd.C (Kd.int .u8) w A1_3 l1_3.length l1_3) (hc1_3:l1_3.length≤c1_3) (hr1_4:Kd.C (Kd.int .u8) w A1_4 l1_4.length l1_4) (hc1_4:l1_4.length≤c1_4) (hr2:Kd.C (Kd.int .u8) w A2 l2.length l2) (hc2:l2.length≤c2) (h:impl_ProtectPacket.f k l0_0 l0_1 l0_2 l0_3 a1_0 a1_1 l1_2 l1_3 l1_4 a1_5 a1_6 a1_7 l2=some (r1,r2)) :
  Calls Try.prog 48 #[.agg #[.slice A0_0 l0_0.length c0_0, .slice A0_1 l0_1.length c0_1, .slice A0_2 l0_2.length c0_2, .slice A0_3 l0_3.length c0_3], .agg #[.int .i64 a1_0, .int .i64 a1_1, .slice A1_2 l1_2.length c1_2, .slice A1_3 l1_3.length c1_3, .slice A1_4 l1_4.length c1_4, .int .i64 a1_5, .int .i64 a1_6, .int .i64 a1_7], .slice A2 l2.length c2] w fun e w' =>∃ v0_:Value,e = .returned (.tuple #[v0_, .int .i64 r2])∧Kd.R (Kd.int .u8) 5 w' w.heap.size (fun _=>True) v0_ r1∧Below w.heap.size w w' :=by
 have hu33:=Try.underlying33
 have hu45:=Try.underlying45
 have HR0_0:=qm hr0_0
 have HC0_0:=qm hc0_0
 clear hr0_0 hc0_0
 have HR0_1:=qm hr0_1
 have HC0_1:=qm hc0_1
 clear hr0_1 hc0_1
 have HR0_2:=qm hr0_2
 have HC0_2:=qm hc0_2
 clear hr0_2 hc0_2
 have HR0_3:=qm hr0_3
 have HC0_3:=qm hc0_3
 clear hr0_3 hc0_3
 have HR1_2:=qm hr1_2
 have HC1_2:=qm hc1_2
 clear hr1_2 hc1_2
 have HR1_3:=qm hr1_3
 have HC1_3:=qm hc1_3
 clear hr1_3 hc1_3
 have HR1_4:=qm hr1_4
 have HC1_4:=qm hc1_4
 clear hr1_4 hc1_4
 have HR2:=qm hr2
 have HC2:=qm hc2
 clear hr2 hc2
 have HB:=qm (Below.refl w.heap.size w)
 have H:((impl_keysOK.f l0_0 l0_1 l0_2 l0_3).bind fun t669=>(if t669=true then ((impl_headerOK.f k a1_0 a1_1 l1_2 l1_3 l1_4 a1_5 a1_6 a1_7).bind fun t670=>(impl_ProtectPacket.j0 k l2 (!t670) l0_0 l0_1 l0_2 l0_3 a1_0 a1_1 l1_2 l1_3 l1_4 a1_5 a1_6 a1_7)) else (impl_ProtectPacket.j0 k l2 true l0_0 l0_1 l0_2 l0_3 a1_0 a1_1 l1_2 l1_3 l1_4 a1_5 a1_6 a1_7)))=some (r1,r2):=h
 clear h
 have HC4:=qm H
 clear H
 go_enter Try.func48,Try.ntmps48
 go_upto_region 1 with (first|((with_reducible refine gate_dst (N:=3) rfl ?_);refine box_event (by rfl) (N:=3) (by rfl) (cs:=#[.slice A0_0 l0_0.length c0_0, .slice A0_1 l0_1.length c0_1, .slice A0_2 l0_2.length c0_2, .slice A0_3 l0_3.length c0_3]) (t:=33) (by first|(go_simp;done)|(go_simp;rfl)) ?_;intro gb667 hg w5 hbox hb;have _:=qm (qt HB.out hb);have _:=qm (hbox);have _:=qm ((gs hg (qs HB.out)));have _:=qm ((gs hg (qs HB.out)));clear HB;rename_i HB BK667 GW667 GE667;clear hb hbox hg)|((with_reducible refine gate_dst (N:=4) rfl ?_);refine box_event (by rfl) (N:=4) (by rfl) (cs:=#[.int .i64 a1_0, .int .i64 a1_1, .slice A1_2 l1_2.length c1_2, .slice A1_3 l1_3.length c1_3, .slice A1_4 l1_4.length c1_4, .int .i64 a1_5, .int .i64 a1_6, .int .i64 a1_7]) (t:=45) (by first|(go_simp;done)|(go_simp;rfl)) ?_;intro gb668 hg w6 hbox hb;have _:=qm (qv (g:=gb667) BK667.out hb);have _:=qm (qt HB.out hb);have _:=qm (hbox);have _:=qm ((gs hg (qs HB.out)));have _:=qm ((gs hg (qs HB.out)));have _:=qm ((na hg BK667.out));have _:=qm ((nb hg BK667.out));clear BK667 HB;rename_i BK667 HB BK668 GW668 GE668 NB667_668 NB668_667;clear hb hbox hg))
 (try simp only [Act.put,s1,s2,s3])
 go_cut [19] (fun v19 wc=>∃ (kq:Nat) (x19_3:Bool),v19 = .bool x19_3∧Aside0 (impl_ProtectPacket.j0 kq l2 x19_3 l0_0 l0_1 l0_2 l0_3 a1_0 a1_1 l1_2 l1_3 l1_4 a1_5 a1_6 a1_7=some (r1,r2))∧Aside0 (kq≤k)∧Aside0 (wc.heap[gb667]? =some (.cells #[(.slice A0_0 l0_0.length c0_0),(.slice A0_1 l0_1.length c0_1),(.slice A0_2 l0_2.length c0_2),(.slice A0_3 l0_3.length c0_3)] 33 (0,0)))∧Aside0 (wc.heap[gb668]? =some (.cells #[.int .i64 a1_0, .int .i64 a1_1,(.slice A1_2 l1_2.length c1_2),(.slice A1_3 l1_3.length c1_3),(.slice A1_4 l1_4.length c1_4), .int .i64 a1_5, .int .i64 a1_6, .int .i64 a1_7] 45 (0,0)))∧Aside0 (Below w.heap.size w wc))
 case first=>
  have H:=HC4.out
  clear HC4
  replace H:=Option.bind_eq_some_iff.mp H
  obtain ⟨t669,A70,H⟩:=H
  try dsimp only at H
  have A7:=qm A70
  clear A70
  by_cases c8:t669=true
  ·subst c8
   rw [if_pos rfl] at H
   replace H:=Option.bind_eq_some_iff.mp H
   obtain ⟨t670,A90,H⟩:=H
   try dsimp only at H
   have A9:=qm A90
   clear A90
   have H' :=qm H
   clear H
   have hnb10:=NB667_668.out
   have hnc10:=NB668_667.out
   obtain ⟨_,_,_,_,_,_,_,_⟩:=fc4 BK667.out
   go_wp2_with (first|((with_reducible refine gate_callee (f:=56) rfl ?_);refine goesL_ (some 13) rfl rfl Try.func56 (by kernel_rfl) rfl #[.agg #[.slice A0_0 l0_0.length c0_0, .slice A0_1 l0_1.length c0_1, .slice A0_2 l0_2.length c0_2, .slice A0_3 l0_3.length c0_3]] rfl (by (try simp only [m1,m2,m3]);first|done|rfl) ?_;(with_reducible refine (impl_keysOK.calls _ _ l0_0 _ _ l0_1 _ _ l0_2 _ _ l0_3 true _ ?side1 ?side2 ?side3 ?side4 ?side5 ?side6 ?side7 ?side8 A7.out).mono ?_);(case side1=>exact cb (Kd.C_below HR0_0.out HB.out));(case side2=>exact HC0_0.out);(case side3=>exact cb (Kd.C_below HR0_1.out HB.out));(case side4=>exact HC0_1.out);(case side5=>exact cb (Kd.C_below HR0_2.out HB.out));(case side6=>exact HC0_2.out);(case side7=>exact cb (Kd.C_below HR0_3.out HB.out));(case side8=>exact HC0_3.out);rintro e w12 ⟨rfl,hb⟩;refine ⟨_,rfl,?_⟩;have _:=qm (qv (g:=gb667) BK667.out hb);have _:=qm (qv (g:=gb668) BK668.out hb);have _:=qm (qt (by repeat first|exact HB.out|apply qh|apply qi|apply qj|refine bk ?_) hb);clear BK667 BK668 HB;rename_i BK667 BK668 HB;obtain ⟨_,_,_,_,_,_,_,_,_,_,_,_,_,_,_,_⟩:=fc8 BK668.out)|(go_at_call 74;(with_reducible refine (impl_headerOK.calls k a1_0 a1_1 _ _ l1_2 _ _ l1_3 _ _ l1_4 a1_5 a1_6 a1_7 t670 _ ?side1 ?side2 ?side3 ?side4 ?side5 ?side6 A9.out).mono ?_);(case side1=>exact cb (Kd.C_below HR1_2.out HB.out));(case side2=>exact HC1_2.out);(case side3=>exact cb (Kd.C_below HR1_3.out HB.out));(case side4=>exact HC1_3.out);(case side5=>exact cb (Kd.C_below HR1_4.out HB.out));(case side6=>exact HC1_4.out);rintro e w14 ⟨rfl,hb⟩;have _:=qm (qv (g:=gb667) BK667.out hb);have _:=qm (qv (g:=gb668) BK668.out hb);have _:=qm (qt (by repeat first|exact HB.out|apply qh|apply qi|apply qj|refine bk ?_) hb);clear BK667 BK668 HB;rename_i BK667 BK668 HB))
   go_meet
   case rel=>exact ⟨_,(!t670),rfl,H',⟨by first|omega|exact Nat.le_refl _⟩,⟨BK667.out⟩,⟨BK668.out⟩,⟨by repeat (first|(with_reducible first|exact HB.out|apply qh|apply qi|apply qj|refine qk ?_ GE667.out|refine qk ?_ GE668.out)|exact HB.out)⟩⟩
  replace c8:=Bool.eq_false_iff.mpr c8
  subst c8
  rw [if_neg nt] at H
  have H' :=qm H
  clear H
  have hnb15:=NB667_668.out
  have hnc15:=NB668_667.out
  obtain ⟨_,_,_,_,_,_,_,_⟩:=fc4 BK667.out
  go_wp2_with (first|((with_reducible refine gate_callee (f:=56) rfl ?_);refine goesL_ (some 13) rfl rfl Try.func56 (by kernel_rfl) rfl #[.agg #[.slice A0_0 l0_0.length c0_0, .slice A0_1 l0_1.length c0_1, .slice A0_2 l0_2.length c0_2, .slice A0_3 l0_3.length c0_3]] rfl (by (try simp only [m1,m2,m3]);first|done|rfl) ?_;(with_reducible refine (impl_keysOK.calls _ _ l0_0 _ _ l0_1 _ _ l0_2 _ _ l0_3 false _ ?side1 ?side2 ?side3 ?side4 ?side5 ?side6 ?side7 ?side8 A7.out).mono ?_);(case side1=>exact cb (Kd.C_below HR0_0.out HB.out));(case side2=>exact HC0_0.out);(case side3=>exact cb (Kd.C_below HR0_1.out HB.out));(case side4=>exact HC0_1.out);(case side5=>exact cb (Kd.C_below HR0_2.out HB.out));(case side6=>exact HC0_2.out);(case side7=>exact cb (Kd.C_below HR0_3.out HB.out));(case side8=>exact HC0_3.out);rintro e w17 ⟨rfl,hb⟩;refine ⟨_,rfl,?_⟩;have _:=qm (qv (g:=gb667) BK667.out hb);have _:=qm (qv (g:=gb668) BK668.out hb);have _:=qm (qt (by repeat first|exact HB.out|apply qh|apply qi|apply qj|refine bk ?_) hb);clear BK667 BK668 HB;rename_i BK667 BK668 HB))
  go_meet
  case rel=>exact ⟨_,(true),rfl,H',⟨by first|omega|exact Nat.le_refl _⟩,⟨BK667.out⟩,⟨BK668.out⟩,⟨by repeat (first|(with_reducible first|exact HB.out|apply qh|apply qi|apply qj|refine qk ?_ GE667.out|refine qk ?_ GE668.out)|exact HB.out)⟩⟩
 clear HC4
 try clear c2
 obtain ⟨kq,x19_3,rfl,HA,HJ3,BK667,BK668,HB⟩:=hcut
 cases kq with
 |zero=>exact absurd HA.out (by simp [impl_ProtectPacket.j0])
 |succ kj3=>?_
 have H:=HA.out
 clear HA
 simp only [impl_ProtectPacket.j0] at H
 by_cases c18:x19_3=true
 ·subst c18
  rw [if_pos rfl] at H
  simp only [Option.some.injEq,Prod.mk.injEq] at H
  obtain ⟨rfl,rfl⟩:=H
  go_wp2
  go_ret2
  exact ⟨_,by first|rfl|(simp <;> rfl)|(simp [*] <;> rfl),by first|exact Kd.R_nil _ _ _ _ _|exact Kd.N_nil _ _ _ _ _|exact Kd.V_nil _ _ _ _ _|exact Kd.Q_nil _ _ _ _ _|exact Kd.S_nil _ _ _ _ _,by repeat (first|(with_reducible first|exact HB.out|apply qh|apply qi|apply qj|refine qk ?_ GE667.out|refine qk ?_ GE668.out)|exact HB.out)⟩
 replace c18:=Bool.eq_false_iff.mpr c18
 subst c18
 rw [if_neg nt] at H
 by_cases c19:(wrap64 (a1_6+(l2.length:Int)))<4
 ·rw [if_pos c19] at H
  have c19b0:decide ((wrap64 (a1_6+(l2.length:Int)))<4)=true:=decide_eq_true c19
  clear c19
  simp only [Option.some.injEq,Prod.mk.injEq] at H
  obtain ⟨rfl,rfl⟩:=H
  have hnb20:=NB668_667.out
  have hnc20:=NB667_668.out
  obtain ⟨_,_,_,_,_,_,_,_,_,_,_,_,_,_,_,_⟩:=fc8 BK668.out
  go_wp2
  go_ret2
  exact ⟨_,by first|rfl|(simp <;> rfl)|(simp [*] <;> rfl),by first|exact Kd.R_nil _ _ _ _ _|exact Kd.N_nil _ _ _ _ _|exact Kd.V_nil _ _ _ _ _|exact Kd.Q_nil _ _ _ _ _|exact Kd.S_nil _ _ _ _ _,by repeat (first|(with_reducible first|exact HB.out|apply qh|apply qi|apply qj|refine qk ?_ GE667.out|refine qk ?_ GE668.out)|exact HB.out)⟩
 rw [if_neg c19] at H
 have c19b0:decide ((wrap64 (a1_6+(l2.length:Int)))<4)=false:=decide_eq_false c19
 clear c19
 by_cases c22:(l2.length:Int)>1500
 ·rw [if_pos c22] at H
  have c22b0:decide (1500<(l2.length:Int))=true:=decide_eq_true c22
  have c22b1:decide (1500<l2.length)=true:=decide_eq_true (by omega)
  clear c22
  simp only [Option.some.injEq,Prod.mk.injEq] at H
  obtain ⟨rfl,rfl⟩:=H
  have hnb23:=NB668_667.out
  have hnc23:=NB667_668.out
  obtain ⟨_,_,_,_,_,_,_,_,_,_,_,_,_,_,_,_⟩:=fc8 BK668.out
  go_wp2
  go_ret2
  exact ⟨_,by first|rfl|(simp <;> rfl)|(simp [*] <;> rfl),by first|exact Kd.R_nil _ _ _ _ _|exact Kd.N_nil _ _ _ _ _|exact Kd.V_nil _ _ _ _ _|exact Kd.Q_nil _ _ _ _ _|exact Kd.S_nil _ _ _ _ _,by repeat (first|(with_reducible first|exact HB.out|apply qh|apply qi|apply qj|refine qk ?_ GE667.out|refine qk ?_ GE668.out)|exact HB.out)⟩
 rw [if_neg c22] at H
 have c22b0:decide (1500<(l2.length:Int))=false:=decide_eq_false c22
 have c22b1:decide (1500<l2.length)=false:=decide_eq_false (by omega)
 clear c22
 replace H:=Option.bind_eq_some_iff.mp H
 obtain ⟨t671,A250,H⟩:=H
 try dsimp only at H
 have A25:=qm A250
 clear A250
 replace H:=Option.bind_eq_some_iff.mp H
 obtain ⟨⟨t674,t677⟩,A260,H⟩:=H
 try dsimp only at H
 have A26:=qm A260
 clear A260
 by_cases c27:t677=0
 ·rw [if_pos c27] at H
  have c27b0:(t677 == 0)=true:=beq_iff_eq.mpr c27
  have c27b1:(t677 != 0)=false:=bne_eq_false_iff_eq.mpr c27
  clear c27
  obtain ⟨ji28,hji28⟩:∃ j_:Int,(wrap64 (4 - a1_6))=j_:=⟨_,rfl⟩
  replace H:(if 0≤(ji28) then (if (ji28)≤(wrap64 ((ji28)+8)) then (if (wrap64 ((ji28)+8))≤(t674.length:Int) then ((impl_HeadMask.f kj3 l0_0 l0_1 l0_2 l0_3 ((t674.take ((wrap64 ((ji28)+8)):Int).toNat).drop ((ji28):Int).toNat)).bind fun t682=>((impl_masked.f kj3 t671 (a1_0 == 4) a1_6 t682).bind fun t685=>(if t685.length+t674.length<140737488355328 then (some ((t685 ++ t674),0)) else (none)))) else (none)) else (none)) else (none))=some (r1,r2):=by first|(rw [hji28] at H;exact H)|(simp only [hji28] at H ⊢;exact H)
  (try rw [hji28] at A25)
  (try rw [hji28] at A26)
  have hji28w:(IntKind.i64.wrap (4 - a1_6))=ji28:=(i64_w _).trans hji28
  by_cases c29:0≤(ji28)
  ·rw [if_pos c29] at H
   have c29b0:=eq_true c29
   have c29b1:decide (0≤(ji28))=true:=decide_eq_true c29
   clear c29
   by_cases c30:(ji28)≤(wrap64 ((ji28)+8))
   ·rw [if_pos c30] at H
    have c30b0:=eq_true c30
    have c30b1:decide ((ji28)≤(wrap64 ((ji28)+8)))=true:=decide_eq_true c30
    by_cases c31:(wrap64 ((ji28)+8))≤(t674.length:Int)
    ·rw [if_pos c31] at H
     have c31b0:=eq_true c31
     have c31b1:decide ((wrap64 ((ji28)+8))≤(t674.length:Int))=true:=decide_eq_true c31
     obtain ⟨y678,hy678⟩:∃ y_:List Int,y_=((t674.take ((wrap64 ((ji28)+8)):Int).toNat).drop ((ji28):Int).toNat):=⟨_,rfl⟩
     replace H:((impl_HeadMask.f kj3 l0_0 l0_1 l0_2 l0_3 y678).bind fun t682=>((impl_masked.f kj3 t671 (a1_0 == 4) a1_6 t682).bind fun t685=>(if t685.length+t674.length<140737488355328 then (some ((t685 ++ t674),0)) else (none))))=some (r1,r2):=by first|(rw [hy678];with_reducible exact H)|(have H2_:=(Option.bind_some _ _).symm.trans H;rw [hy678];with_reducible exact H2_)|(have H2_:=(Option.bind_some _ _).symm.trans H;with_reducible exact H2_)|with_reducible exact H|(rw [hy678];exact H)|exact H
     have Ny678:=qm hy678
     clear hy678
     replace H:=Option.bind_eq_some_iff.mp H
     obtain ⟨t682,A320,H⟩:=H
     try dsimp only at H
     have A32:=qm A320
     clear A320
     replace H:=Option.bind_eq_some_iff.mp H
     obtain ⟨t685,A330,H⟩:=H
     try dsimp only at H
     have A33:=qm A330
     clear A330
     by_cases c34:t685.length+t674.length<140737488355328
     ·rw [if_pos c34] at H
      have LMc34:=qm c34
      clear c34
      obtain ⟨y686,hy686⟩:∃ y_:List Int,y_=(t685 ++ t674):=⟨_,rfl⟩
      replace H:(some (y686,0))=some (r1,r2):=by first|(rw [hy686];with_reducible exact H)|(have H2_:=(Option.bind_some _ _).symm.trans H;rw [hy686];with_reducible exact H2_)|(have H2_:=(Option.bind_some _ _).symm.trans H;with_reducible exact H2_)|with_reducible exact H|(rw [hy686];exact H)|exact H
      have Ny686:=qm hy686
      clear hy686
      simp only [Option.some.injEq,Prod.mk.injEq] at H
      obtain ⟨rfl,rfl⟩:=H
      have hnb35:=NB668_667.out
      have hnc35:=NB667_668.out
      obtain ⟨_,_,_,_,_,_,_,_,_,_,_,_,_,_,_,_⟩:=fc8 BK668.out
      try go_wp2_with (first|((with_reducible refine gate_callee (f:=75) rfl ?_);refine goesL_ (some 33) rfl rfl Try.func75 (by kernel_rfl) rfl #[.agg #[.int .i64 a1_0, .int .i64 a1_1, .slice A1_2 l1_2.length c1_2, .slice A1_3 l1_3.length c1_3, .slice A1_4 l1_4.length c1_4, .int .i64 a1_5, .int .i64 a1_6, .int .i64 a1_7], .int .i64 (wrap64 ((l2.length:Int)+8))] rfl (by (try simp only [m1,m2,m3]);first|done|rfl) ?_;(with_reducible refine (impl_headBytes.calls kj3 a1_0 a1_1 _ _ l1_2 _ _ l1_3 _ _ l1_4 a1_5 a1_6 a1_7 (wrap64 ((l2.length:Int)+8)) t671 _ ?side1 ?side2 ?side3 ?side4 ?side5 ?side6 A25.out).mono ?_);(case side1=>exact cb (Kd.C_below HR1_2.out HB.out));(case side2=>exact HC1_2.out);(case side3=>exact cb (Kd.C_below HR1_3.out HB.out));(case side4=>exact HC1_3.out);(case side5=>exact cb (Kd.C_below HR1_4.out HB.out));(case side6=>exact HC1_4.out);rintro e w37 ⟨v672,rfl,ho0,hb⟩;refine ⟨_,rfl,?_⟩;have _:=qm (Kd.R_lower ho0 (qs (by repeat first|exact HB.out|apply qh|apply qi|apply qj|refine bk ?_)));have _:=qm (qv (g:=gb667) BK667.out hb);have _:=qm (qv (g:=gb668) BK668.out hb);have _:=qm (qt (by repeat first|exact HB.out|apply qh|apply qi|apply qj|refine bk ?_) hb);clear BK667 BK668 HB;rename_i HO673 BK667 BK668 HB;obtain ⟨_,_,_,_,_,_,_,_⟩:=fc4 BK667.out;obtain ⟨_,_,_,_,_,_,_,_,_,_,_,_,_,_,_,_⟩:=fc8 BK668.out;obtain ⟨Ao40,co40,eo40⟩:=Kd.R_slice HO673.out;subst eo40)|((with_reducible refine gate_callee (f:=40) rfl ?_);refine goesL_ (some 40) rfl rfl Try.func40 (by kernel_rfl) rfl #[.agg #[.slice A0_0 l0_0.length c0_0, .slice A0_1 l0_1.length c0_1, .slice A0_2 l0_2.length c0_2, .slice A0_3 l0_3.length c0_3], .int .i64 a1_5, .slice Ao40 t671.length co40, .slice A2 l2.length c2] rfl (by (try simp only [m1,m2,m3]);first|done|rfl) ?_;(with_reducible refine (impl_Seal.calls kj3 _ _ l0_0 _ _ l0_1 _ _ l0_2 _ _ l0_3 a1_5 _ _ t671 _ _ l2 t674 t677 _ ?side1 ?side2 ?side3 ?side4 ?side5 ?side6 ?side7 ?side8 ?side9 ?side10 ?side11 ?side12 A26.out).mono ?_);(case side1=>exact cb (Kd.C_below HR0_0.out HB.out));(case side2=>exact HC0_0.out);(case side3=>exact cb (Kd.C_below HR0_1.out HB.out));(case side4=>exact HC0_1.out);(case side5=>exact cb (Kd.C_below HR0_2.out HB.out));(case side6=>exact HC0_2.out);(case side7=>exact cb (Kd.C_below HR0_3.out HB.out));(case side8=>exact HC0_3.out);(case side9=>exact cb ((qe HO673.out).2.2));(case side10=>exact (qe HO673.out).2.1);(case side11=>exact cb (Kd.C_below HR2.out HB.out));(case side12=>exact HC2.out);rintro e w41 ⟨v675,rfl,ho0,hb⟩;refine ⟨_,rfl,?_⟩;have _:=qm (Kd.R_elder' HO673.out (Kd.R_base ho0) hb);have _:=qm (Kd.R_lower (nw ho0 HO673.out) (qs (by repeat first|exact HB.out|apply qh|apply qi|apply qj|refine bk ?_)));have _:=qm (qv (g:=gb667) BK667.out hb);have _:=qm (qv (g:=gb668) BK668.out hb);have _:=qm (qt (by repeat first|exact HB.out|apply qh|apply qi|apply qj|refine bk ?_) hb);clear HO673 BK667 BK668 HB;rename_i HO673 HO676 BK667 BK668 HB;obtain ⟨_,_,_,_,_,_,_,_,_,_,_,_,_,_,_,_⟩:=fc8 BK668.out))
      have _:=qm (qd HO673.out)
      have _:=qm (qd HO676.out)
      have _:=qm (blk_drew BK667.out)
      have _:=qm (blk_drew BK668.out)
      have _:=qm (qj HB.out)
      clear HO673 HO676 BK667 BK668 HB
      rename_i HO673 HO676 BK667 BK668 HB
      obtain ⟨Ao45,co45,eo45⟩:=Kd.R_slice HO676.out
      (first|subst eo45|(injection eo45 with f1_ f2_ f3_;have f4_:=f1_.symm;have f5_:=f3_.symm;clear f1_ f2_ f3_;subst f4_;subst f5_))
      have q44:((wrap64 ((ji28)+8)):Int)≤((t674.length:Int):Int):=of_decide_eq_true (by assumption)
      obtain ⟨i044,hi044,_,hsz44,_⟩:=info_parts info5
      have hroom44:t674.length≤co45:=(qe HO676.out).2.1
      have hC44:Kd.C (Kd.int .u8) _ Ao45 t674.length t674:=(qe HO676.out).2.2
      have ql44:((ji28):Int)≤((wrap64 ((ji28)+8)):Int):=of_decide_eq_true (by assumption)
      have q044:(0:Int)≤((ji28):Int):=of_decide_eq_true (by assumption)
      have hcut44:=cut_mid (P:=Try.prog) 22 5 .i64 .i64 Try.underlying22 hi044 1 hsz44 Ao45 t674.length co45 (ji28) (wrap64 ((ji28)+8)) q044 ql44 q44 hroom44
      have hr44:=Kd.C_mid (lo:=((ji28):Int).toNat) (hi:=((wrap64 ((ji28)+8)):Int).toNat) (c:=co45) hC44 (by omega) (by omega) hroom44
      obtain ⟨A44,hA44⟩:∃ A1,A1=(if co45=((ji28):Int).toNat then Ao45 else (Ao45:Option Addr).map (·.add (((ji28):Int).toNat*1))):=⟨_,rfl⟩
      obtain ⟨c44,hc44⟩:∃ c1,c1=co45 - ((ji28):Int).toNat:=⟨_,rfl⟩
      have hy44:y678.length=((wrap64 ((ji28)+8)):Int).toNat - ((ji28):Int).toNat:=(by rw [Ny678.out,List.length_drop,List.length_take] <;> omega)
      rw [show ((t674).take ((wrap64 ((ji28)+8)):Int).toNat).drop ((ji28):Int).toNat=y678 from Ny678.out.symm] at hr44
      replace hr44:Kd.C (Kd.int .u8) _ A44 y678.length y678:=(by rw [hA44];exact hr44)
      rw [←hy44,←hA44,←hc44] at hcut44
      have HR681:=qm hr44
      have HC681:=qm (show y678.length≤c44 from by rw [hy44,hc44];exact Nat.sub_le_sub_right (Nat.le_trans (by omega) hroom44) _)
      clear hr44 hC44 hroom44 hi044 hsz44 hc44
      have KY44:=qm hy44
      have KA44:=qm hA44
      clear hy44 hA44
      have KL44:=qm (show ((wrap64 ((ji28)+8)):Int).toNat≤t674.length from by omega)
      have KM44:=qm (show ((ji28):Int).toNat≤((wrap64 ((ji28)+8)):Int).toNat from by omega)
      replace q44:=eq_true q44
      refine start_ (n:=14) (S:=fun w' =>w'.cell? ⟨gb668,0,none⟩=some (.int .i64 a1_0)∧w'.cell? ⟨gb668,1,none⟩=some (.int .i64 a1_1)∧w'.cell? ⟨gb668,2,none⟩=some (.slice A1_2 l1_2.length c1_2)∧w'.cell? ⟨gb668,3,none⟩=some (.slice A1_3 l1_3.length c1_3)∧w'.cell? ⟨gb668,4,none⟩=some (.slice A1_4 l1_4.length c1_4)∧w'.cell? ⟨gb668,5,none⟩=some (.int .i64 a1_5)∧w'.cell? ⟨gb668,6,none⟩=some (.int .i64 a1_6)∧w'.cell? ⟨gb668,7,none⟩=some (.int .i64 a1_7)∧w'.cell? ⟨gb667,0,none⟩=some (.slice A0_0 l0_0.length c0_0)∧w'.cell? ⟨gb667,1,none⟩=some (.slice A0_1 l0_1.length c0_1)∧w'.cell? ⟨gb667,2,none⟩=some (.slice A0_2 l0_2.length c0_2)∧w'.cell? ⟨gb667,3,none⟩=some (.slice A0_3 l0_3.length c0_3)) (ds:=[]) (bm 0 14) (by kernel_rfl) rfl rfl ⟨(qu BK668.out 0).trans rfl,(qu BK668.out 1).trans rfl,(qu BK668.out 2).trans rfl,(qu BK668.out 3).trans rfl,(qu BK668.out 4).trans rfl,(qu BK668.out 5).trans rfl,(qu BK668.out 6).trans rfl,(qu BK668.out 7).trans rfl,(qu BK667.out 0).trans rfl,(qu BK667.out 1).trans rfl,(qu BK667.out 2).trans rfl,(qu BK667.out 3).trans rfl⟩ (fun hHeld=>?_);refine with_tabW impl_ProtectPacket.tab12 impl_ProtectPacket.bits12 (fun HT_ HW_=>?_)
      generalize w41.drew=w43 at HO673 HO676 BK667 BK668 HB HR681 hHeld ⊢
      refine pu 0 49 (bm 1 14) HT_ (h:=⟨_,by intro w';go_simp;with_reducible rfl,_,by simp only [Act.put,s1,s2,s3,i64_w,i32_w];rfl,?_⟩)
      refine pu 1 50 (bm 2 14) HT_ (h:=⟨_,by intro w';go_simp;with_reducible rfl,_,by simp only [Act.put,s1,s2,s3,i64_w,i32_w];rfl,?_⟩)
      refine pu 4 53 (bb 19 14) HT_ (h:=⟨_,by intro w';go_simp;with_reducible rfl,_,by simp only [Act.put,s1,s2,s3,i64_w,i32_w];rfl,?_⟩)
      refine pu 7 56 (bb 147 14) HT_ (h:=⟨_,by intro w';go_simp;with_reducible rfl,_,by simp only [Act.put,s1,s2,s3,i64_w,i32_w];rfl,?_⟩)
      refine pu 8 57 (bb 403 14) HT_ (h:=⟨_,by intro w';go_simp;with_reducible rfl,_,by simp only [Act.put,s1,s2,s3,i64_w,i32_w];rfl,?_⟩)
      refine pu 9 58 (bb 915 14) HT_ (h:=⟨_,by intro w';go_simp;with_reducible rfl,_,by simp only [Act.put,s1,s2,s3,i64_w,i32_w];rfl,?_⟩)
      refine pu 10 59 (bb 1939 14) HT_ (h:=⟨_,by intro w';go_simp;with_reducible rfl,_,by simp only [Act.put,s1,s2,s3,i64_w,i32_w];rfl,?_⟩)
      refine pu 11 60 (bb 3987 14) HT_ (h:=⟨_,by intro w';go_simp;with_reducible rfl,_,by simp only [Act.put,s1,s2,s3,i64_w,i32_w];rfl,?_⟩)
      refine tk 2 51 (bb 3991 14) HT_ HW_ (hS:=hHeld) (h:=⟨_,by rintro w' ⟨s0,s1,s2,s3,s4,s5,s6,s7,s8,s9,s10,s11⟩;go_simp;with_reducible rfl,_,by simp only [Act.put,s1,s2,s3,i64_w,i32_w];rfl,?_⟩)
      refine pu 3 52 (bb 3999 14) HT_ (h:=⟨_,by intro w';go_simp;with_reducible rfl,_,by simp only [Act.put,s1,s2,s3,i64_w,i32_w];rfl,?_⟩)
      refine tk 5 54 (bb 4031 14) HT_ HW_ (hS:=hHeld) (h:=⟨_,by rintro w' ⟨s0,s1,s2,s3,s4,s5,s6,s7,s8,s9,s10,s11⟩;go_simp;with_reducible rfl,_,by simp only [Act.put,s1,s2,s3,i64_w,i32_w];rfl,?_⟩)
      refine tk 6 55 (bm 12 14) HT_ HW_ (hS:=hHeld) (h:=⟨_,by rintro w' ⟨s0,s1,s2,s3,s4,s5,s6,s7,s8,s9,s10,s11⟩;go_simp;with_reducible rfl,_,by simp only [Act.put,s1,s2,s3,i64_w,i32_w];rfl,?_⟩)
      refine one_ (i:=12) (N:=some 61) (bm 13 14) rfl rfl (one_of HT_.out (by kernel_rfl)) (by decide) (fun K hK=>?_)
      refine goes_ Try.func27 (by kernel_rfl) rfl #[.agg #[.slice A0_0 l0_0.length c0_0, .slice A0_1 l0_1.length c0_1, .slice A0_2 l0_2.length c0_2, .slice A0_3 l0_3.length c0_3], .slice A44 y678.length c44] (by rfl) rfl rfl (by (try simp only [m1,m2,m3]);first|done|rfl) ?_
      with_reducible refine (impl_HeadMask.calls kj3 _ _ l0_0 _ _ l0_1 _ _ l0_2 _ _ l0_3 _ _ y678 t682 _ ?side1 ?side2 ?side3 ?side4 ?side5 ?side6 ?side7 ?side8 ?side9 ?side10 A32.out).mono ?_
      (case side1=>exact cb (Kd.C_below HR0_0.out HB.out))
      (case side2=>exact HC0_0.out)
      (case side3=>exact cb (Kd.C_below HR0_1.out HB.out))
      (case side4=>exact HC0_1.out)
      (case side5=>exact cb (Kd.C_below HR0_2.out HB.out))
      (case side6=>exact HC0_2.out)
      (case side7=>exact cb (Kd.C_below HR0_3.out HB.out))
      (case side8=>exact HC0_3.out)
      (case side9=>exact cb (by repeat (first|(with_reducible exact HR681.out)|(with_reducible refine Kd.C_alloc ?_ _)|(with_reducible refine Kd.C_drewN ?_ _)|(with_reducible refine Kd.C_drew ?_)|exact HR681.out)))
      (case side10=>exact HC681.out)
      rintro e w46 ⟨v683,rfl,ho0,hb⟩
      refine ⟨_,rfl,?_⟩
      have _:=qm (Kd.R_elder' HO673.out (Kd.R_base ho0) hb)
      have _:=qm (Kd.R_elder' HO676.out (Kd.R_base ho0) hb)
      have _:=qm (Kd.R_lower (nw (nw ho0 HO673.out) HO676.out) (qs (by repeat first|exact HB.out|apply qh|apply qi|apply qj|refine bk ?_)))
      have _:=qm (qv (g:=gb667) BK667.out hb)
      have _:=qm (qv (g:=gb668) BK668.out hb)
      have _:=qm (Kd.C_below (by repeat (first|(with_reducible exact HR681.out)|(with_reducible refine Kd.C_alloc ?_ _)|(with_reducible refine Kd.C_drewN ?_ _)|(with_reducible refine Kd.C_drew ?_)|exact HR681.out)) hb)
      have _:=qm (qt (by repeat first|exact HB.out|apply qh|apply qi|apply qj|refine bk ?_) hb)
      clear HO673 HO676 BK667 BK668 HR681 HB
      rename_i HO673 HO676 HO684 BK667 BK668 HR681 HB
      (try clear hb)
      (try clear hb2)
      (try clear hk)
      (try clear hi)
      (try clear ho0)
      obtain ⟨Ao47,co47,eo47⟩:=Kd.R_slice HO684.out
      (first|subst eo47|(injection eo47 with f1_ f2_ f3_;have f4_:=f1_.symm;have f5_:=f3_.symm;clear f1_ f2_ f3_;subst f4_;subst f5_))
      refine hK.out _ _ ⟨(qu BK668.out 0).trans rfl,(qu BK668.out 1).trans rfl,(qu BK668.out 2).trans rfl,(qu BK668.out 3).trans rfl,(qu BK668.out 4).trans rfl,(qu BK668.out 5).trans rfl,(qu BK668.out 6).trans rfl,(qu BK668.out 7).trans rfl,(qu BK667.out 0).trans rfl,(qu BK667.out 1).trans rfl,(qu BK667.out 2).trans rfl,(qu BK667.out 3).trans rfl⟩ (fun hHeld=>?_)
      clear hK K
      refine norm_ (a' :=?_) ?_ ?_
      rotate_left
      ·show Act.put _ (some 61) _=_
       simp only [Act.put,s1,s2,s3,i64_w,i32_w]
       rfl
      refine one_ (i:=13) (N:=some 62) (bm 14 14) rfl rfl (one_of HT_.out (by kernel_rfl)) (by decide) (fun K hK=>?_)
      refine goes_ Try.func77 (by kernel_rfl) rfl #[.slice Ao40 t671.length co40, .bool (a1_0 == 4), .int .i64 a1_6, .slice Ao47 t682.length co47] (by rfl) rfl rfl (by (try simp only [m1,m2,m3]);first|done|rfl) ?_
      with_reducible refine (impl_masked.calls kj3 (fun k_=>some k_=(.slice Ao40 t671.length co40:Value).ownBlock) (.slice Ao40 t671.length co40) t671 (a1_0 == 4) a1_6 _ _ t682 t685 w _ ?side1 ?side2 ?side3 ?side4 A33.out).mono ?_
      (case side1=>repeat (first|(with_reducible first|exact HB.out|apply qh|apply qi|apply qj|refine qk ?_ GE667.out|refine qk ?_ GE668.out)|exact HB.out))
      (case side2=>exact Kd.R_tight rfl HO673.out)
      (case side3=>exact Kd.C_kept_own (HO684.out) (fun k_ hk_ hs_=>(hk_.1.2) hs_))
      (case side4=>exact (qe HO684.out).2.1)
      rintro e w48 ⟨rfl,hy0,hb,hkp⟩
      refine ⟨_,rfl,?_⟩
      have _:=qm (blk_kept BK667.out hkp (fun hs_=>(fun e_=>(Kd.R_ne HO673.out BK667.out (by decide)) e_) hs_))
      have _:=qm (blk_kept BK668.out hkp (fun hs_=>(fun e_=>(Kd.R_ne HO673.out BK668.out (by decide)) e_) hs_))
      have _:=qm (Kd.R_reok rfl hy0 (fun k_ e_=>HO673.out.1 k_ e_))
      have _:=qm (qg (ok' :=fun k_=>ob k_ (.slice Ao40 t671.length co40)∧ob k_ (.slice Ao47 t682.length co47)) (Kd.R_keptB (HO676.out) hkp (fun k_ hk_ hs_=>(hk_.1.2) hs_)) (fun k_ hk_=>⟨hk_.1.1.2,hk_.1.2⟩))
      have _:=qm (qg (ok' :=fun k_=>ob k_ (.slice Ao40 t671.length co40)∧ob k_ (.slice Ao45 t674.length co45)) (Kd.R_keptB (HO684.out) hkp (fun k_ hk_ hs_=>(hk_.1.2) hs_)) (fun k_ hk_=>⟨hk_.1.1.2,hk_.1.2⟩))
      have _:=qm (hb)
      clear BK667 BK668 HO673 HO676 HO684 HB
      rename_i BK667 BK668 HO673 HO676 HO684 HB
      (try clear hb)
      (try clear hkp)
      (try clear hy0)
      refine hK.out _ _ ⟨(qu BK668.out 0).trans rfl,(qu BK668.out 1).trans rfl,(qu BK668.out 2).trans rfl,(qu BK668.out 3).trans rfl,(qu BK668.out 4).trans rfl,(qu BK668.out 5).trans rfl,(qu BK668.out 6).trans rfl,(qu BK668.out 7).trans rfl,(qu BK667.out 0).trans rfl,(qu BK667.out 1).trans rfl,(qu BK667.out 2).trans rfl,(qu BK667.out 3).trans rfl⟩ (fun hHeld=>?_)
      clear hK K
      refine norm_ (a' :=?_) ?_ ?_
      rotate_left
      ·show Act.put _ (some 62) _=_
       simp only [Act.put,s1,s2,s3,i64_w,i32_w]
       rfl
      refine done_ (done_of HT_.out (by kernel_rfl)) ?_
      try go_wp2_with (first|((with_reducible refine gate_builtin (b:= .append) (xs:=#[.tmp 63, .tmp 64]) rfl ?_);at_builtin;refine Kd.R_append_rows (Kd.int .u8) (w0:=w) w.heap.size rfl (.tmp 63) (.tmp 64) 22 5 (.int .u8 0) 1 rfl Try.underlying22 info5 rfl (by decide) (by omega) (.slice Ao40 t671.length co40) t685 t674 _ _ _ (fun k_=>ob k_ (.slice Ao45 t674.length co45)∧ob k_ (.slice Ao47 t682.length co47)) (fun _=>False) rfl rfl ?aO ?aR (fun _ _ h=>h) (fun _ h=>h.elim) ?aF ?aB ?aS ?aL ?_;(case aR=>exact cb ((qe HO676.out).2.2));(case aB=>exact (by repeat first|exact HB.out|apply qh|apply qi|apply qj|refine bk ?_));(case aF=>exact (fun k_ hk=>⟨Kd.fresh' (Kd.R_lt HO676.out) k_ hk,Kd.fresh' (Kd.R_lt HO684.out) k_ hk⟩));(case aO=>exact (rb (qg HO673.out (fun _ hk=>⟨hk.1.2,hk.2⟩))));(case aS=>exact (qs (by repeat first|exact HB.out|apply qh|apply qi|apply qj|refine bk ?_)));(case aL=>have:=LMc34.out;omega);intro v687 w49 ho hb hg hat;rw [←Ny686.out] at ho;have _:=qm (blk_grown (g:=gb667) BK667.out hg (Kd.R_ne HO673.out BK667.out (by decide)));have _:=qm (blk_grown (g:=gb668) BK668.out hg (Kd.R_ne HO673.out BK668.out (by decide)));have _:=qm (Kd.R_after (ok:=(fun k_=>ob k_ (.slice Ao47 t682.length co47))) (rb (qg HO676.out (fun _ hk=>⟨hk.2,hk.1⟩))) hg hat);have _:=qm (Kd.R_after (ok:=(fun k_=>ob k_ (.slice Ao45 t674.length co45))) (rb (qg HO684.out (fun _ hk=>⟨hk.2,hk.1⟩))) hg hat);have _:=qm (hb);have _:=qm (ho);clear BK667 BK668 HO676 HO684 HB HO673;rename_i BK667 BK668 HO676 HO684 HB HO688;clear ho hb hg hat))
      go_ret2
      exact ⟨_,by first|rfl|(simp [errW_none,errW_some] <;> rfl)|(simp only [←hji28];first|rfl|(simp [errW_none,errW_some] <;> rfl))|(simp [*,errW_none,errW_some] <;> rfl),by (with_reducible repeat (first|apply qb|apply qc|apply qd));exact qg HO688.out (fun _ hk=>trivial),by repeat (first|(with_reducible first|exact HB.out|apply qh|apply qi|apply qj|refine qk ?_ GE667.out|refine qk ?_ GE668.out)|exact HB.out)⟩
     rw [if_neg c34] at H
     exact absurd H (by simp)
    rw [if_neg c31] at H
    exact absurd H (by simp)
   rw [if_neg c30] at H
   exact absurd H (by simp)
  rw [if_neg c29] at H
  exact absurd H (by simp)
 rw [if_neg c27] at H
 have c27b0:(t677 == 0)=false:=beq_eq_false_iff_ne.mpr c27
 have c27b1:(t677 != 0)=true:=bne_iff_ne.mpr c27
 simp only [Option.some.injEq,Prod.mk.injEq] at H
 obtain ⟨rfl,rfl⟩:=H
 have hnb50:=NB668_667.out
 have hnc50:=NB667_668.out
 obtain ⟨_,_,_,_,_,_,_,_,_,_,_,_,_,_,_,_⟩:=fc8 BK668.out
 go_wp2_with (first|((with_reducible refine gate_callee (f:=75) rfl ?_);refine goesL_ (some 33) rfl rfl Try.func75 (by kernel_rfl) rfl #[.agg #[.int .i64 a1_0, .int .i64 a1_1, .slice A1_2 l1_2.length c1_2, .slice A1_3 l1_3.length c1_3, .slice A1_4 l1_4.length c1_4, .int .i64 a1_5, .int .i64 a1_6, .int .i64 a1_7], .int .i64 (wrap64 ((l2.length:Int)+8))] rfl (by (try simp only [m1,m2,m3]);first|done|rfl) ?_;(with_reducible refine (impl_headBytes.calls kj3 a1_0 a1_1 _ _ l1_2 _ _ l1_3 _ _ l1_4 a1_5 a1_6 a1_7 (wrap64 ((l2.length:Int)+8)) t671 _ ?side1 ?side2 ?side3 ?side4 ?side5 ?side6 A25.out).mono ?_);(case side1=>exact cb (Kd.C_below HR1_2.out HB.out));(case side2=>exact HC1_2.out);(case side3=>exact cb (Kd.C_below HR1_3.out HB.out));(case side4=>exact HC1_3.out);(case side5=>exact cb (Kd.C_below HR1_4.out HB.out));(case side6=>exact HC1_4.out);rintro e w52 ⟨v672,rfl,ho0,hb⟩;refine ⟨_,rfl,?_⟩;have _:=qm (Kd.R_lower ho0 (qs (by repeat first|exact HB.out|apply qh|apply qi|apply qj|refine bk ?_)));have _:=qm (qv (g:=gb667) BK667.out hb);have _:=qm (qv (g:=gb668) BK668.out hb);have _:=qm (qt (by repeat first|exact HB.out|apply qh|apply qi|apply qj|refine bk ?_) hb);clear BK667 BK668 HB;rename_i HO673 BK667 BK668 HB;obtain ⟨_,_,_,_,_,_,_,_⟩:=fc4 BK667.out;obtain ⟨_,_,_,_,_,_,_,_,_,_,_,_,_,_,_,_⟩:=fc8 BK668.out;obtain ⟨Ao55,co55,eo55⟩:=Kd.R_slice HO673.out;subst eo55)|((with_reducible refine gate_callee (f:=40) rfl ?_);refine goesL_ (some 40) rfl rfl Try.func40 (by kernel_rfl) rfl #[.agg #[.slice A0_0 l0_0.length c0_0, .slice A0_1 l0_1.length c0_1, .slice A0_2 l0_2.length c0_2, .slice A0_3 l0_3.length c0_3], .int .i64 a1_5, .slice Ao55 t671.length co55, .slice A2 l2.length c2] rfl (by (try simp only [m1,m2,m3]);first|done|rfl) ?_;(with_reducible refine (impl_Seal.calls kj3 _ _ l0_0 _ _ l0_1 _ _ l0_2 _ _ l0_3 a1_5 _ _ t671 _ _ l2 t674 t677 _ ?side1 ?side2 ?side3 ?side4 ?side5 ?side6 ?side7 ?side8 ?side9 ?side10 ?side11 ?side12 A26.out).mono ?_);(case side1=>exact cb (Kd.C_below HR0_0.out HB.out));(case side2=>exact HC0_0.out);(case side3=>exact cb (Kd.C_below HR0_1.out HB.out));(case side4=>exact HC0_1.out);(case side5=>exact cb (Kd.C_below HR0_2.out HB.out));(case side6=>exact HC0_2.out);(case side7=>exact cb (Kd.C_below HR0_3.out HB.out));(case side8=>exact HC0_3.out);(case side9=>exact cb ((qe HO673.out).2.2));(case side10=>exact (qe HO673.out).2.1);(case side11=>exact cb (Kd.C_below HR2.out HB.out));(case side12=>exact HC2.out);rintro e w56 ⟨v675,rfl,ho0,hb⟩;refine ⟨_,rfl,?_⟩;have _:=qm (Kd.R_elder' HO673.out (Kd.R_base ho0) hb);have _:=qm (Kd.R_lower (nw ho0 HO673.out) (qs (by repeat first|exact HB.out|apply qh|apply qi|apply qj|refine bk ?_)));have _:=qm (qv (g:=gb667) BK667.out hb);have _:=qm (qv (g:=gb668) BK668.out hb);have _:=qm (qt (by repeat first|exact HB.out|apply qh|apply qi|apply qj|refine bk ?_) hb);clear HO673 BK667 BK668 HB;rename_i HO673 HO676 BK667 BK668 HB))
 go_ret2
 exact ⟨_,by first|rfl|(simp <;> rfl)|(simp [*] <;> rfl),by first|exact Kd.R_nil _ _ _ _ _|exact Kd.N_nil _ _ _ _ _|exact Kd.V_nil _ _ _ _ _|exact Kd.Q_nil _ _ _ _ _|exact Kd.S_nil _ _ _ _ _,by repeat (first|(with_reducible first|exact HB.out|apply qh|apply qi|apply qj|refine qk ?_ GE667.out|refine qk ?_ GE668.out)|exact HB.out)⟩
end Go.Proofs.Ytcdkbdkanjifeaa.SFnExactProtectPacket
