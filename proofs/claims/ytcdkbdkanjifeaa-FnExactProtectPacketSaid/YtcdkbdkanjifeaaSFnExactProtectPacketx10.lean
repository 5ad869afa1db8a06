/- The walk of functions that the law FnExactProtectPacket uses, written by program. -/
import Derived.Test.YtcdkbdkanjifeaaSFnExactProtectPacketx0
import Derived.Test.YtcdkbdkanjifeaaSFnExactProtectPacketx3
import Derived.Test.YtcdkbdkanjifeaaSFnExactProtectPacketx5
import Derived.Test.YtcdkbdkanjifeaaSFnExactProtectPacketx6
import Derived.Test.YtcdkbdkanjifeaaSFnExactProtectPacketx8
import Derived.Test.YtcdkbdkanjifeaaSFnExactProtectPacketx9
import Derived.Test.YtcdkbdkanjifeaaSteps2
import Derived.Test.YtcdkbdkanjifeaaSteps3
namespace Go.Proofs.Ytcdkbdkanjifeaa.SFnExactProtectPacket
open Go.Proofs.Ytcdkbdkanjifeaa.Steps3 Go.Proofs.Ytcdkbdkanjifeaa.Steps2 Go.RowKit Go.Proofs.YtcdkbdkanjifeaaW.PrintWords Go.Proofs.YtcdkbdkanjifeaaW.PrintLast Go.Proofs.YtcdkbdkanjifeaaW.PrintMore
open Go.Proofs.YtcdkbdkanjifeaaW.PrintWords renaming below_alloc → qh, pw_below_drewN → qi, below_drew1 → qj, below_set → qk, blk_drewN → ql, blk_drew → qn, blk_alloc → qo, below_size → qs, below_step → qt, blk_cell → qu, blk_below → qv
open Go.Proofs.YtcdkbdkanjifeaaW.PrintWords.Kd renaming R_alloc → qb, R_drewN → qc, R_drew → qd, R_reads' → qe, R_mono → qg
open Go.Proofs.YtcdkbdkanjifeaaW.PrintWords.Aside0 renaming mk → qm
attribute [local go_sem] max2_int min2_int max_two min_two max_three min_three max_four min_four 
set_option linter.unusedVariables false
set_option linter.unusedSimpArgs false
mutual
def spec_ProtectPacket.j0:Nat→List Int→Bool→List Int→List Int→List Int→List Int→Int→Int→List Int→List Int→List Int→Int→Int→Int→Option (List Int×Int)
 |0,_,_,_,_,_,_,_,_,_,_,_,_,_,_=>none
 |k+1,x2,x23,x440000,x440001,x440002,x440003,x441000,x441001,x441002,x441003,x441004,x441005,x441006,x441007=>if x23=true then (some ((([]:List Int)),1)) else (if (wrap64 (x441006+(x2.length:Int)))<4 then (some ((([]:List Int)),2)) else ((spec_HeadBytes.f k x441000 x441001 x441002 x441003 x441004 x441005 x441006 x441007 ((mn (x2.length:Int) 1500)+8)).bind fun bt449=>(if bt449.2=0 then (spec_ProtectPacket.j1 k x2 bt449.1 (decide ((wrap64 ((bt449.1.length:Int)+(x2.length:Int)))>1500)) x440000 x440001 x440002 x440003 x441000 x441001 x441002 x441003 x441004 x441005 x441006 x441007) else (spec_ProtectPacket.j1 k x2 bt449.1 true x440000 x440001 x440002 x440003 x441000 x441001 x441002 x441003 x441004 x441005 x441006 x441007))))
def spec_ProtectPacket.j1:Nat→List Int→List Int→Bool→List Int→List Int→List Int→List Int→Int→Int→List Int→List Int→List Int→Int→Int→Int→Option (List Int×Int)
 |0,_,_,_,_,_,_,_,_,_,_,_,_,_,_,_=>none
 |k+1,x2,x8,x50,x440000,x440001,x440002,x440003,x441000,x441001,x441002,x441003,x441004,x441005,x441006,x441007=>if x50=true then (some ((([]:List Int)),4)) else ((spec_Seal.f k x440000 x440001 x440002 x440003 x441005 x8 x2).bind fun bt456=>(if 0≤(wrap64 (4 - x441006)) then (if (wrap64 (4 - x441006))≤(wrap64 (12 - x441006)) then (if (wrap64 (12 - x441006))≤(bt456.1.length:Int) then ((spec_HeadMask.f k x440000 x440001 x440002 x440003 ((bt456.1.take ((wrap64 (12 - x441006)):Int).toNat).drop ((wrap64 (4 - x441006)):Int).toNat)).bind fun t464=>((spec_l03Copy.f x8).bind fun t467=>(if t467.length+bt456.1.length<140737488355328 then ((some (t467 ++ bt456.1:List Int)).bind fun y470=>(if 0<(y470.length:Int) then (if 0<(t464.length:Int) then (if 0<(x8.length:Int) then ((spec_l04Bits.f (rd x8 0)).bind fun t476=>(spec_ProtectPacket.l0 k t464 (wrap64 ((x8.length:Int) - x441006)) (y470.set (0:Int).toNat (Go.bits .xor .u8 (rd y470 0) (Go.bits .and .u8 (rd t464 0) t476))) 0 x441000 x441001 x441002 x441003 x441004 x441005 x441006 x441007)) else (none)) else (none)) else (none))) else (none)))) else (none)) else (none)) else (none)))
def spec_ProtectPacket.l0:Nat→List Int→Int→List Int→Int→Int→Int→List Int→List Int→List Int→Int→Int→Int→Option (List Int×Int)
 |0,_,_,_,_,_,_,_,_,_,_,_,_=>none
 |k+1,x12,x13,x14,x15,x441000,x441001,x441002,x441003,x441004,x441005,x441006,x441007=>if x15<x441006 then (if 0≤(wrap64 (x13+x15)) then (if (wrap64 (x13+x15))<(x14.length:Int) then (if 0≤(wrap64 (1+x15)) then (if (wrap64 (1+x15))<(x12.length:Int) then (spec_ProtectPacket.l0 k x12 x13 (x14.set ((wrap64 (x13+x15)):Int).toNat (Go.bits .xor .u8 (rd x14 (wrap64 (x13+x15))) (rd x12 (wrap64 (1+x15))))) (wrap64 (x15+1)) x441000 x441001 x441002 x441003 x441004 x441005 x441006 x441007) else (none)) else (none)) else (none)) else (none)) else (some (x14,0))
end
def spec_ProtectPacket.f (k:Nat) (l0_0:List Int) (l0_1:List Int) (l0_2:List Int) (l0_3:List Int) (a1_0:Int) (a1_1:Int) (l1_2:List Int) (l1_3:List Int) (l1_4:List Int) (a1_5:Int) (a1_6:Int) (a1_7:Int) (l2:List Int):Option (List Int×Int):=(spec_l03KeysOK.f l0_0 l0_1 l0_2 l0_3).bind fun t441=>(if t441=true then ((spec_l04HeaderOK.f k a1_0 a1_1 l1_2 l1_3 l1_4 a1_5 a1_6 a1_7).bind fun t442=>(spec_ProtectPacket.j0 k l2 (!t442) l0_0 l0_1 l0_2 l0_3 a1_0 a1_1 l1_2 l1_3 l1_4 a1_5 a1_6 a1_7)) else (spec_ProtectPacket.j0 k l2 true l0_0 l0_1 l0_2 l0_3 a1_0 a1_1 l1_2 l1_3 l1_4 a1_5 a1_6 a1_7))
def spec_ProtectPacket.T9:Bool×List (List Nat×List Nat):=(true,[([],[]),([],[]),([],[]),([2],[2]),([3],[3]),([],[]),([5],[5]),([6],[6]),([1,4,7],[1,4,7]),([0,8],[0,8]),([9,9,0,1,2,3,4,5,6,7,8,9],[9])])
def spec_ProtectPacket.B9:List Nat:=[0,0,0,4,12,0,32,96,254,511,1023]
theorem spec_ProtectPacket.tab9:rtab .any (opsOf Try.f47 9)=spec_ProtectPacket.T9:=by kernel_rfl
theorem spec_ProtectPacket.bits9:waitsOk spec_ProtectPacket.T9.2 spec_ProtectPacket.B9=true:=by kernel_rfl
def spec_ProtectPacket.T12:Bool×List (List Nat×List Nat):=(true,[([],[]),([],[]),([1],[1]),([2],[2]),([],[]),([4],[4]),([5],[5]),([],[]),([7],[7]),([8],[8]),([9],[9]),([6,10],[6,10]),([3,11],[3,11]),([0,0,1,2,3,4,5,6,7,8,9,10,11,12],[0]),([13,12,10,0,1,2,3,4,5,6,7,8,9,10,11,12],[12,13])])
def spec_ProtectPacket.B12:List Nat:=[0,0,2,6,0,16,48,0,128,384,896,2032,4094,8191,16383]
theorem spec_ProtectPacket.tab12:rtab .any (opsOf Try.f47 12)=spec_ProtectPacket.T12:=by kernel_rfl
theorem spec_ProtectPacket.bits12:waitsOk spec_ProtectPacket.T12.2 spec_ProtectPacket.B12=true:=by kernel_rfl
def spec_ProtectPacket.T16:Bool×List (List Nat×List Nat):=(true,[([],[]),([],[]),([],[]),([1,2],[1,2]),([],[]),([],[]),([],[]),([5,6],[5,6]),([4,7],[4,7]),([8],[8]),([],[]),([],[]),([11],[11]),([10,12],[10,12]),([13],[13]),([9,14],[9,14]),([0,3,0,1,2,3,4,5,6,7,8,9,10,11,12,13,14,15],[0,3]),([16,15,0,1,2,3,4,5,6,7,8,9,10,11,12,13,14,15],[15,16])])
def spec_ProtectPacket.B16:List Nat:=[0,0,0,6,0,0,0,96,240,496,0,0,2048,7168,15360,32752,65535,131071]
theorem spec_ProtectPacket.tab16:rtab .any (opsOf Try.f47 16)=spec_ProtectPacket.T16:=by kernel_rfl
theorem spec_ProtectPacket.bits16:waitsOk spec_ProtectPacket.T16.2 spec_ProtectPacket.B16=true:=by kernel_rfl
set_option maxHeartbeats 8000000 in
set_option maxRecDepth 100000 in
theorem spec_ProtectPacket.calls (k:Nat) (A0_0:Option Addr) (c0_0:Nat) (l0_0:List Int) (A0_1:Option Addr) (c0_1:Nat) (l0_1:List Int) (A0_2:Option Addr) (c0_2:Nat) (l0_2:List Int) (A0_3:Option Addr) (c0_3:Nat) (l0_3:List Int) (a1_0:Int) (a1_1:Int) (A1_2:Option Addr) (c1_2:Nat) (l1_2:List Int) (A1_3:Option Addr) (c1_3:Nat) (l1_3:List Int) (A1_4:Option Addr) (c1_4:Nat) (l1_4:List Int) (a1_5:Int) (a1_6:Int) (a1_7:Int) (A2:Option Addr) (c2:Nat) (l2:List Int) (r1:List Int) (r2:Int) (w:World) (hr0_0:Kd.C (Kd.int .u8) w A0_0 l0_0.length l0_0) (hc0_0:l0_0.length≤c0_0) (hr0_1:Kd.C (Kd.int .u8) w A0_1 l0_1.length l0_1) (hc0_1:l0_1.length≤c0_1) (hr0_2:Kd.C (Kd.int .u8) w A0_2 l0_2.length l0_2) (hc0_2:l0_2.length≤c0_2) (hr0_3:Kd.C (Kd.int .u8) w A0_3 l0_3.length l0_3) (hc0_3:l0_3.length≤c0_3) (hr1_2:Kd.C (Kd.int .u8) w A1_2 l1_2.length l1_2) (hc1_2:l1_2.length≤c1_2) (hr1_3:Kd.C (Kd.int .u8) w A1_3 l1_3.length l1_3) (hc1_3:l1_3.length≤c1_3) (hr1_4:Kd.C (Kd.int .u8) w A1_4 l1_4.length l1_4) (hc1_4:l1_4.length≤c1_4) (hr2:Kd.C (Kd.int .u8) w A2 l2.length l2) (hc2:l2.length≤c2) (h:spec_ProtectPacket.f k l0_0 l0_1 l0_2 l0_3 a1_0 a1_1 l1_2 l1_3 l1_4 a1_5 a1_6 a1_7 l2=some (r1,r2)) :
  Calls Try.prog 47 #[.agg #[.slice A0_0 l0_0.length c0_0, .slice A0_1 l0_1.length c0_1, .slice A0_2 l0_2.length c0_2, .slice A0_3 l0_3.length c0_3], .agg #[.int .i64 a1_0, .int .i64 a1_1, .slice A1_2 l1_2.length c1_2, .slice A1_3 l1_3.length c1_3, .slice A1_4 l1_4.length c1_4, .int .i64 a1_5, .int .i64 a1_6, .int .i64 a1_7], .slice A2 l2.length c2] w fun e w' =>∃ v0_:Value,e = .returned (.tuple #[v0_, .int .i64 r2])∧Kd.R (Kd.int .u8) 5 w' w.heap.size (fun _=>True) v0_ r1∧Below w.heap.size w w' :=by
 have hu33:=Try.underlying33
 have hu45:=Try.underlying45
 have HR0_0:=qm hr0_0
 have HC0_0:=qm hc0_0
 clear hr0_0 hc0_0
 have HR0_1:=qm hr0_1
 have HC0_1:=qm hc0_1
 clear hr0_1 hc0_1
 have HR0_2:=qm hr0_2
 have HC0_2:=qm hc0_2
 clear hr0_2 hc0_2
 have HR0_3:=qm hr0_3
 have HC0_3:=qm hc0_3
 clear hr0_3 hc0_3
 have HR1_2:=qm hr1_2
 have HC1_2:=qm hc1_2
 clear hr1_2 hc1_2
 have HR1_3:=qm hr1_3
 have HC1_3:=qm hc1_3
 clear hr1_3 hc1_3
 have HR1_4:=qm hr1_4
 have HC1_4:=qm hc1_4
 clear hr1_4 hc1_4
 have HR2:=qm hr2
 have HC2:=qm hc2
 clear hr2 hc2
 have HB:=qm (Below.refl w.heap.size w)
 have H:((spec_l03KeysOK.f l0_0 l0_1 l0_2 l0_3).bind fun t441=>(if t441=true then ((spec_l04HeaderOK.f k a1_0 a1_1 l1_2 l1_3 l1_4 a1_5 a1_6 a1_7).bind fun t442=>(spec_ProtectPacket.j0 k l2 (!t442) l0_0 l0_1 l0_2 l0_3 a1_0 a1_1 l1_2 l1_3 l1_4 a1_5 a1_6 a1_7)) else (spec_ProtectPacket.j0 k l2 true l0_0 l0_1 l0_2 l0_3 a1_0 a1_1 l1_2 l1_3 l1_4 a1_5 a1_6 a1_7)))=some (r1,r2):=h
 clear h
 have HC4:=qm H
 clear H
 go_enter Try.func47,Try.ntmps47
 go_upto_region 1 with (first|((with_reducible refine gate_dst (N:=3) rfl ?_);(try (refine gate_guard (by rfl) ?_;dsimp only));refine box_event (by rfl) (N:=3) (by rfl) (cs:=#[.slice A0_0 l0_0.length c0_0, .slice A0_1 l0_1.length c0_1, .slice A0_2 l0_2.length c0_2, .slice A0_3 l0_3.length c0_3]) (t:=33) (by first|(go_simp;done)|(go_simp;rfl)) ?_;intro gb439 hg w5 hbox hb;have _:=qm (qt (by repeat first|exact HB.out|apply qh|apply qi|apply qj) hb);have _:=qm (hbox);have _:=qm ((gs hg (qs (by repeat first|exact HB.out|apply qh|apply qi|apply qj))));have _:=qm ((gs hg (qs (by repeat first|exact HB.out|apply qh|apply qi|apply qj))));clear HB;rename_i HB BK439 GW439 GE439;clear hb hbox hg)|((with_reducible refine gate_dst (N:=4) rfl ?_);(try (refine gate_guard (by rfl) ?_;dsimp only));refine box_event (by rfl) (N:=4) (by rfl) (cs:=#[.int .i64 a1_0, .int .i64 a1_1, .slice A1_2 l1_2.length c1_2, .slice A1_3 l1_3.length c1_3, .slice A1_4 l1_4.length c1_4, .int .i64 a1_5, .int .i64 a1_6, .int .i64 a1_7]) (t:=45) (by first|(go_simp;done)|(go_simp;rfl)) ?_;intro gb440 hg w6 hbox hb;have _:=qm (qv (g:=gb439) (o:= .cells #[.slice A0_0 l0_0.length c0_0, .slice A0_1 l0_1.length c0_1, .slice A0_2 l0_2.length c0_2, .slice A0_3 l0_3.length c0_3] 33 (0,0)) (kb BK439.out) hb);have _:=qm (qt (by repeat first|exact HB.out|apply qh|apply qi|apply qj|refine bk ?_) hb);have _:=qm (hbox);have _:=qm ((gs hg (qs (by repeat first|exact HB.out|apply qh|apply qi|apply qj|refine bk ?_))));have _:=qm ((gs hg (qs (by repeat first|exact HB.out|apply qh|apply qi|apply qj|refine bk ?_))));have _:=qm ((na hg (kb BK439.out)));have _:=qm ((nb hg (kb BK439.out)));clear BK439 HB;rename_i BK439 HB BK440 GW440 GE440 NB439_440 NB440_439;clear hb hbox hg))
 (try simp only [Act.put,s1,s2,s3])
 go_cut [23] (fun v23 wc=>∃ (kq:Nat) (x23_3:Bool),v23 = .bool x23_3∧Aside0 (spec_ProtectPacket.j0 kq l2 x23_3 l0_0 l0_1 l0_2 l0_3 a1_0 a1_1 l1_2 l1_3 l1_4 a1_5 a1_6 a1_7=some (r1,r2))∧Aside0 (kq≤k)∧Aside0 (wc.heap[gb439]? =some (.cells #[(.slice A0_0 l0_0.length c0_0),(.slice A0_1 l0_1.length c0_1),(.slice A0_2 l0_2.length c0_2),(.slice A0_3 l0_3.length c0_3)] 33 (0,0)))∧Aside0 (wc.heap[gb440]? =some (.cells #[.int .i64 a1_0, .int .i64 a1_1,(.slice A1_2 l1_2.length c1_2),(.slice A1_3 l1_3.length c1_3),(.slice A1_4 l1_4.length c1_4), .int .i64 a1_5, .int .i64 a1_6, .int .i64 a1_7] 45 (0,0)))∧Aside0 (Below w.heap.size w wc))
 case first=>
  have H:=HC4.out
  clear HC4
  replace H:=Option.bind_eq_some_iff.mp H
  obtain ⟨t441,A70,H⟩:=H
  try dsimp only at H
  have A7:=qm A70
  clear A70
  by_cases c8:t441=true
  ·subst c8
   rw [if_pos rfl] at H
   replace H:=Option.bind_eq_some_iff.mp H
   obtain ⟨t442,A90,H⟩:=H
   try dsimp only at H
   have A9:=qm A90
   clear A90
   have H' :=qm H
   clear H
   have hnb10:=NB439_440.out
   have hnc10:=NB440_439.out
   obtain ⟨_,_,_,_,_,_,_,_⟩:=fc4 BK439.out
   go_wp2_with (first|((with_reducible refine gate_callee (f:=55) rfl ?_);refine goesL_ (some 17) rfl rfl Try.func55 (by kernel_rfl) rfl #[.agg #[.slice A0_0 l0_0.length c0_0, .slice A0_1 l0_1.length c0_1, .slice A0_2 l0_2.length c0_2, .slice A0_3 l0_3.length c0_3]] rfl (by (try simp only [m1,m2,m3]);first|done|rfl) ?_;(with_reducible refine (spec_l03KeysOK.calls _ _ l0_0 _ _ l0_1 _ _ l0_2 _ _ l0_3 true _ ?side1 ?side2 ?side3 ?side4 ?side5 ?side6 ?side7 ?side8 A7.out).mono ?_);(case side1=>exact cb (Kd.C_below HR0_0.out HB.out));(case side2=>exact HC0_0.out);(case side3=>exact cb (Kd.C_below HR0_1.out HB.out));(case side4=>exact HC0_1.out);(case side5=>exact cb (Kd.C_below HR0_2.out HB.out));(case side6=>exact HC0_2.out);(case side7=>exact cb (Kd.C_below HR0_3.out HB.out));(case side8=>exact HC0_3.out);rintro e w12 ⟨rfl,hb⟩;refine ⟨_,rfl,?_⟩;have _:=qm (qv (g:=gb439) (o:= .cells #[.slice A0_0 l0_0.length c0_0, .slice A0_1 l0_1.length c0_1, .slice A0_2 l0_2.length c0_2, .slice A0_3 l0_3.length c0_3] 33 (0,0)) (kb BK439.out) hb);have _:=qm (qv (g:=gb440) (o:= .cells #[.int .i64 a1_0, .int .i64 a1_1, .slice A1_2 l1_2.length c1_2, .slice A1_3 l1_3.length c1_3, .slice A1_4 l1_4.length c1_4, .int .i64 a1_5, .int .i64 a1_6, .int .i64 a1_7] 45 (0,0)) (kb BK440.out) hb);have _:=qm (qt (by repeat first|exact HB.out|apply qh|apply qi|apply qj|refine bk ?_) hb);clear BK439 BK440 HB;rename_i BK439 BK440 HB;obtain ⟨_,_,_,_,_,_,_,_,_,_,_,_,_,_,_,_⟩:=fc8 BK440.out)|(go_at_call 71;(with_reducible refine (spec_l04HeaderOK.calls k a1_0 a1_1 _ _ l1_2 _ _ l1_3 _ _ l1_4 a1_5 a1_6 a1_7 t442 _ ?side1 ?side2 ?side3 ?side4 ?side5 ?side6 A9.out).mono ?_);(case side1=>exact cb (Kd.C_below HR1_2.out HB.out));(case side2=>exact HC1_2.out);(case side3=>exact cb (Kd.C_below HR1_3.out HB.out));(case side4=>exact HC1_3.out);(case side5=>exact cb (Kd.C_below HR1_4.out HB.out));(case side6=>exact HC1_4.out);rintro e w14 ⟨rfl,hb⟩;have _:=qm (qv (g:=gb439) (o:= .cells #[.slice A0_0 l0_0.length c0_0, .slice A0_1 l0_1.length c0_1, .slice A0_2 l0_2.length c0_2, .slice A0_3 l0_3.length c0_3] 33 (0,0)) (kb BK439.out) hb);have _:=qm (qv (g:=gb440) (o:= .cells #[.int .i64 a1_0, .int .i64 a1_1, .slice A1_2 l1_2.length c1_2, .slice A1_3 l1_3.length c1_3, .slice A1_4 l1_4.length c1_4, .int .i64 a1_5, .int .i64 a1_6, .int .i64 a1_7] 45 (0,0)) (kb BK440.out) hb);have _:=qm (qt (by repeat first|exact HB.out|apply qh|apply qi|apply qj|refine bk ?_) hb);clear BK439 BK440 HB;rename_i BK439 BK440 HB))
   go_meet
   case rel=>exact ⟨_,(!t442),rfl,H',⟨by first|omega|exact Nat.le_refl _⟩,⟨BK439.out⟩,⟨BK440.out⟩,⟨by repeat (first|(with_reducible first|exact HB.out|apply qh|apply qi|apply qj|refine qk ?_ GE439.out|refine qk ?_ GE440.out)|exact HB.out)⟩⟩
  replace c8:=Bool.eq_false_iff.mpr c8
  subst c8
  rw [if_neg nt] at H
  have H' :=qm H
  clear H
  have hnb15:=NB439_440.out
  have hnc15:=NB440_439.out
  obtain ⟨_,_,_,_,_,_,_,_⟩:=fc4 BK439.out
  go_wp2_with (first|((with_reducible refine gate_callee (f:=55) rfl ?_);refine goesL_ (some 17) rfl rfl Try.func55 (by kernel_rfl) rfl #[.agg #[.slice A0_0 l0_0.length c0_0, .slice A0_1 l0_1.length c0_1, .slice A0_2 l0_2.length c0_2, .slice A0_3 l0_3.length c0_3]] rfl (by (try simp only [m1,m2,m3]);first|done|rfl) ?_;(with_reducible refine (spec_l03KeysOK.calls _ _ l0_0 _ _ l0_1 _ _ l0_2 _ _ l0_3 false _ ?side1 ?side2 ?side3 ?side4 ?side5 ?side6 ?side7 ?side8 A7.out).mono ?_);(case side1=>exact cb (Kd.C_below HR0_0.out HB.out));(case side2=>exact HC0_0.out);(case side3=>exact cb (Kd.C_below HR0_1.out HB.out));(case side4=>exact HC0_1.out);(case side5=>exact cb (Kd.C_below HR0_2.out HB.out));(case side6=>exact HC0_2.out);(case side7=>exact cb (Kd.C_below HR0_3.out HB.out));(case side8=>exact HC0_3.out);rintro e w17 ⟨rfl,hb⟩;refine ⟨_,rfl,?_⟩;have _:=qm (qv (g:=gb439) (o:= .cells #[.slice A0_0 l0_0.length c0_0, .slice A0_1 l0_1.length c0_1, .slice A0_2 l0_2.length c0_2, .slice A0_3 l0_3.length c0_3] 33 (0,0)) (kb BK439.out) hb);have _:=qm (qv (g:=gb440) (o:= .cells #[.int .i64 a1_0, .int .i64 a1_1, .slice A1_2 l1_2.length c1_2, .slice A1_3 l1_3.length c1_3, .slice A1_4 l1_4.length c1_4, .int .i64 a1_5, .int .i64 a1_6, .int .i64 a1_7] 45 (0,0)) (kb BK440.out) hb);have _:=qm (qt (by repeat first|exact HB.out|apply qh|apply qi|apply qj|refine bk ?_) hb);clear BK439 BK440 HB;rename_i BK439 BK440 HB))
  go_meet
  case rel=>exact ⟨_,(true),rfl,H',⟨by first|omega|exact Nat.le_refl _⟩,⟨BK439.out⟩,⟨BK440.out⟩,⟨by repeat (first|(with_reducible first|exact HB.out|apply qh|apply qi|apply qj|refine qk ?_ GE439.out|refine qk ?_ GE440.out)|exact HB.out)⟩⟩
 clear HC4
 try clear c2
 obtain ⟨kq,x23_3,rfl,HA,HJ3,BK439,BK440,HB⟩:=hcut
 cases kq with
 |zero=>exact absurd HA.out (by simp [spec_ProtectPacket.j0])
 |succ kj3=>?_
 have H:=HA.out
 clear HA
 simp only [spec_ProtectPacket.j0] at H
 by_cases c18:x23_3=true
 ·subst c18
  rw [if_pos rfl] at H
  obtain ⟨y443,hy443⟩:∃ y_:List Int,y_=(([]:List Int)):=⟨_,rfl⟩
  replace H:(some (y443,1))=some (r1,r2):=by first|(rw [hy443];with_reducible exact H)|(have H2_:=(Option.bind_some _ _).symm.trans H;rw [hy443];with_reducible exact H2_)|(have H2_:=(Option.bind_some _ _).symm.trans H;with_reducible exact H2_)|with_reducible exact H|(rw [hy443];exact H)|exact H
  have Ny443:=qm hy443
  clear hy443
  simp only [Option.some.injEq,Prod.mk.injEq] at H
  obtain ⟨rfl,rfl⟩:=H
  go_wp2_with (first|((with_reducible refine gate_dst (N:=24) rfl ?_);(try (refine gate_guard (by rfl) ?_;dsimp only));refine Kd.R_lit (Kd.int .u8) _ 5 ?hg (N:=24) ?hd (xs:=([]:List Int)) (inner:=[]) (ok:=fun _=>True) (okp:=fun _=>True) ?hr ?hp (fun _ hk=>hk) trivial (Below.refl _ _) (Nat.le_refl _) (by simp) ?_;(case hd=>rfl);(case hg=>rfl);(case hr=>first|(go_simp;done)|(go_simp;rfl));(case hp=>exact (Reps.none _ _));intro v444 w19 ho20 hb hg_ hnew_;clear hg_ hnew_;(first|rw [←Ny443.out] at ho20|(simp only [Int.reduceToNat] at ho20;rw [←Ny443.out] at ho20));have _:=qm (Kd.R_lower ho20 (qs (by repeat first|exact HB.out|apply qh|apply qi|apply qj|refine bk ?_)));have _:=qm (qv (g:=gb439) (o:= .cells #[.slice A0_0 l0_0.length c0_0, .slice A0_1 l0_1.length c0_1, .slice A0_2 l0_2.length c0_2, .slice A0_3 l0_3.length c0_3] 33 (0,0)) (kb BK439.out) hb);have _:=qm (qv (g:=gb440) (o:= .cells #[.int .i64 a1_0, .int .i64 a1_1, .slice A1_2 l1_2.length c1_2, .slice A1_3 l1_3.length c1_3, .slice A1_4 l1_4.length c1_4, .int .i64 a1_5, .int .i64 a1_6, .int .i64 a1_7] 45 (0,0)) (kb BK440.out) hb);have _:=qm (qt (by repeat first|exact HB.out|apply qh|apply qi|apply qj|refine bk ?_) hb);clear BK439 BK440 HB;rename_i HO445 BK439 BK440 HB;clear hb ho20))
  go_ret2
  exact ⟨_,by first|rfl|(simp <;> rfl)|(simp [*] <;> rfl),by (with_reducible repeat (first|apply qb|apply qc|apply qd));exact HO445.out,by repeat (first|(with_reducible first|exact HB.out|apply qh|apply qi|apply qj|refine qk ?_ GE439.out|refine qk ?_ GE440.out)|exact HB.out)⟩
 replace c18:=Bool.eq_false_iff.mpr c18
 subst c18
 rw [if_neg nt] at H
 by_cases c21:(wrap64 (a1_6+(l2.length:Int)))<4
 ·rw [if_pos c21] at H
  have c21b0:decide ((wrap64 (a1_6+(l2.length:Int)))<4)=true:=decide_eq_true c21
  clear c21
  obtain ⟨y446,hy446⟩:∃ y_:List Int,y_=(([]:List Int)):=⟨_,rfl⟩
  replace H:(some (y446,2))=some (r1,r2):=by first|(rw [hy446];with_reducible exact H)|(have H2_:=(Option.bind_some _ _).symm.trans H;rw [hy446];with_reducible exact H2_)|(have H2_:=(Option.bind_some _ _).symm.trans H;with_reducible exact H2_)|with_reducible exact H|(rw [hy446];exact H)|exact H
  have Ny446:=qm hy446
  clear hy446
  simp only [Option.some.injEq,Prod.mk.injEq] at H
  obtain ⟨rfl,rfl⟩:=H
  have hnb22:=NB440_439.out
  have hnc22:=NB439_440.out
  obtain ⟨_,_,_,_,_,_,_,_,_,_,_,_,_,_,_,_⟩:=fc8 BK440.out
  go_wp2_with (first|((with_reducible refine gate_dst (N:=31) rfl ?_);(try (refine gate_guard (by rfl) ?_;dsimp only));refine Kd.R_lit (Kd.int .u8) _ 5 ?hg (N:=31) ?hd (xs:=([]:List Int)) (inner:=[]) (ok:=fun _=>True) (okp:=fun _=>True) ?hr ?hp (fun _ hk=>hk) trivial (Below.refl _ _) (Nat.le_refl _) (by simp) ?_;(case hd=>rfl);(case hg=>rfl);(case hr=>first|(go_simp;done)|(go_simp;rfl));(case hp=>exact (Reps.none _ _));intro v447 w24 ho25 hb hg_ hnew_;clear hg_ hnew_;(first|rw [←Ny446.out] at ho25|(simp only [Int.reduceToNat] at ho25;rw [←Ny446.out] at ho25));have _:=qm (Kd.R_lower ho25 (qs (by repeat first|exact HB.out|apply qh|apply qi|apply qj|refine bk ?_)));have _:=qm (qv (g:=gb439) (o:= .cells #[.slice A0_0 l0_0.length c0_0, .slice A0_1 l0_1.length c0_1, .slice A0_2 l0_2.length c0_2, .slice A0_3 l0_3.length c0_3] 33 (0,0)) (kb BK439.out) hb);have _:=qm (qv (g:=gb440) (o:= .cells #[.int .i64 a1_0, .int .i64 a1_1, .slice A1_2 l1_2.length c1_2, .slice A1_3 l1_3.length c1_3, .slice A1_4 l1_4.length c1_4, .int .i64 a1_5, .int .i64 a1_6, .int .i64 a1_7] 45 (0,0)) (kb BK440.out) hb);have _:=qm (qt (by repeat first|exact HB.out|apply qh|apply qi|apply qj|refine bk ?_) hb);clear BK439 BK440 HB;rename_i HO448 BK439 BK440 HB;clear hb ho25))
  go_ret2
  exact ⟨_,by first|rfl|(simp <;> rfl)|(simp [*] <;> rfl),by (with_reducible repeat (first|apply qb|apply qc|apply qd));exact HO448.out,by repeat (first|(with_reducible first|exact HB.out|apply qh|apply qi|apply qj|refine qk ?_ GE439.out|refine qk ?_ GE440.out)|exact HB.out)⟩
 rw [if_neg c21] at H
 have c21b0:decide ((wrap64 (a1_6+(l2.length:Int)))<4)=false:=decide_eq_false c21
 clear c21
 obtain ⟨ji26,hji26⟩:∃ j_:Int,(mn (l2.length:Int) 1500)=j_:=⟨_,rfl⟩
 replace H:((spec_HeadBytes.f kj3 a1_0 a1_1 l1_2 l1_3 l1_4 a1_5 a1_6 a1_7 ((ji26)+8)).bind fun bt449=>(if bt449.2=0 then (spec_ProtectPacket.j1 kj3 l2 bt449.1 (decide ((wrap64 ((bt449.1.length:Int)+(l2.length:Int)))>1500)) l0_0 l0_1 l0_2 l0_3 a1_0 a1_1 l1_2 l1_3 l1_4 a1_5 a1_6 a1_7) else (spec_ProtectPacket.j1 kj3 l2 bt449.1 true l0_0 l0_1 l0_2 l0_3 a1_0 a1_1 l1_2 l1_3 l1_4 a1_5 a1_6 a1_7)))=some (r1,r2):=by first|(rw [hji26] at H;exact H)|(simp only [hji26] at H ⊢;exact H)
 have hji26_:(if 1500<(l2.length:Int) then 1500 else (l2.length:Int))=ji26:=hji26
 replace H:=Option.bind_eq_some_iff.mp H
 obtain ⟨⟨t449,t452⟩,A270,H⟩:=H
 try dsimp only at H
 have A27:=qm A270
 clear A270
 have HC28:=qm H
 clear H
 have hnb29:=NB440_439.out
 have hnc29:=NB439_440.out
 obtain ⟨_,_,_,_,_,_,_,_,_,_,_,_,_,_,_,_⟩:=fc8 BK440.out
 go_upto_region 6 with (first|((with_reducible refine gate_callee (f:=45) rfl ?_);refine goesL_ (some 38) rfl rfl Try.func45 (by kernel_rfl) rfl #[.agg #[.int .i64 a1_0, .int .i64 a1_1, .slice A1_2 l1_2.length c1_2, .slice A1_3 l1_3.length c1_3, .slice A1_4 l1_4.length c1_4, .int .i64 a1_5, .int .i64 a1_6, .int .i64 a1_7], .int .i64 ((ji26)+8)] rfl (by (try simp only [List.map_toArray,List.map_cons,List.map_nil]);first|done|(simp only [hji26];rfl)|rfl|(simp only [List.length_drop,List.length_take];rfl)) ?_;(with_reducible refine (spec_HeadBytes.calls kj3 a1_0 a1_1 _ _ l1_2 _ _ l1_3 _ _ l1_4 a1_5 a1_6 a1_7 ((ji26)+8) t449 t452 _ ?side1 ?side2 ?side3 ?side4 ?side5 ?side6 A27.out).mono ?_);(case side1=>exact cb (Kd.C_below HR1_2.out HB.out));(case side2=>exact HC1_2.out);(case side3=>exact cb (Kd.C_below HR1_3.out HB.out));(case side4=>exact HC1_3.out);(case side5=>exact cb (Kd.C_below HR1_4.out HB.out));(case side6=>exact HC1_4.out);rintro e w31 ⟨v450,rfl,ho0,hb⟩;refine ⟨_,rfl,?_⟩;have _:=qm (Kd.R_lower ho0 (qs (by repeat first|exact HB.out|apply qh|apply qi|apply qj|refine bk ?_)));have _:=qm (qv (g:=gb439) (o:= .cells #[.slice A0_0 l0_0.length c0_0, .slice A0_1 l0_1.length c0_1, .slice A0_2 l0_2.length c0_2, .slice A0_3 l0_3.length c0_3] 33 (0,0)) (kb BK439.out) hb);have _:=qm (qv (g:=gb440) (o:= .cells #[.int .i64 a1_0, .int .i64 a1_1, .slice A1_2 l1_2.length c1_2, .slice A1_3 l1_3.length c1_3, .slice A1_4 l1_4.length c1_4, .int .i64 a1_5, .int .i64 a1_6, .int .i64 a1_7] 45 (0,0)) (kb BK440.out) hb);have _:=qm (qt (by repeat first|exact HB.out|apply qh|apply qi|apply qj|refine bk ?_) hb);clear BK439 BK440 HB;rename_i HO451 BK439 BK440 HB))
 (try simp only [Act.put,s1,s2,s3])
 go_cut [50] (fun v50 wc=>∃ (kq:Nat) (x50_27:Bool),v50 = .bool x50_27∧Aside0 (spec_ProtectPacket.j1 kq l2 t449 x50_27 l0_0 l0_1 l0_2 l0_3 a1_0 a1_1 l1_2 l1_3 l1_4 a1_5 a1_6 a1_7=some (r1,r2))∧Aside0 (kq≤kj3)∧Aside0 (Kd.R (Kd.int .u8) 5 wc w.heap.size (fun _=>True) v450 t449)∧Aside0 (wc.heap[gb439]? =some (.cells #[(.slice A0_0 l0_0.length c0_0),(.slice A0_1 l0_1.length c0_1),(.slice A0_2 l0_2.length c0_2),(.slice A0_3 l0_3.length c0_3)] 33 (0,0)))∧Aside0 (wc.heap[gb440]? =some (.cells #[.int .i64 a1_0, .int .i64 a1_1,(.slice A1_2 l1_2.length c1_2),(.slice A1_3 l1_3.length c1_3),(.slice A1_4 l1_4.length c1_4), .int .i64 a1_5, .int .i64 a1_6, .int .i64 a1_7] 45 (0,0)))∧Aside0 (Below w.heap.size w wc))
 case first=>
  have H:=HC28.out
  clear HC28
  by_cases c32:t452=0
  ·rw [if_pos c32] at H
   have c32b0:(t452 == 0)=true:=beq_iff_eq.mpr c32
   have c32b1:(t452 != 0)=false:=bne_eq_false_iff_eq.mpr c32
   clear c32
   (first|rw [c32b0]|(simp only [i64_w,i32_w];rw [c32b0])|skip)
   have H' :=qm H
   clear H
   obtain ⟨Ao33,co33,eo33⟩:=Kd.R_slice HO451.out
   subst eo33
   go_wp2
   go_meet
   case rel=>exact ⟨_,(decide ((wrap64 ((t449.length:Int)+(l2.length:Int)))>1500)),rfl,H',⟨by have:=HJ3.out;omega⟩,⟨by first|exact rb HO451.out|exact HO451.out⟩,⟨BK439.out⟩,⟨BK440.out⟩,⟨by repeat (first|(with_reducible first|exact HB.out|apply qh|apply qi|apply qj|refine qk ?_ GE439.out|refine qk ?_ GE440.out)|exact HB.out)⟩⟩
  rw [if_neg c32] at H
  have c32b0:(t452 == 0)=false:=beq_eq_false_iff_ne.mpr c32
  have c32b1:(t452 != 0)=true:=bne_iff_ne.mpr c32
  (first|rw [c32b0]|(simp only [i64_w,i32_w];rw [c32b0])|skip)
  have H' :=qm H
  clear H
  go_wp2
  go_meet
  case rel=>exact ⟨_,(true),rfl,H',⟨by have:=HJ3.out;omega⟩,⟨by first|exact rb HO451.out|exact HO451.out⟩,⟨BK439.out⟩,⟨BK440.out⟩,⟨by repeat (first|(with_reducible first|exact HB.out|apply qh|apply qi|apply qj|refine qk ?_ GE439.out|refine qk ?_ GE440.out)|exact HB.out)⟩⟩
 clear HC28
 try clear c2
 try clear c18
 try clear c21
 try clear c21b0
 obtain ⟨kq,x50_27,rfl,HA,HJ27,HO_8,BK439,BK440,HB⟩:=hcut
 cases kq with
 |zero=>exact absurd HA.out (by simp [spec_ProtectPacket.j1])
 |succ kj27=>?_
 have H:=HA.out
 clear HA
 simp only [spec_ProtectPacket.j1] at H
 by_cases c34:x50_27=true
 ·subst c34
  rw [if_pos rfl] at H
  obtain ⟨y453,hy453⟩:∃ y_:List Int,y_=(([]:List Int)):=⟨_,rfl⟩
  replace H:(some (y453,4))=some (r1,r2):=by first|(rw [hy453];with_reducible exact H)|(have H2_:=(Option.bind_some _ _).symm.trans H;rw [hy453];with_reducible exact H2_)|(have H2_:=(Option.bind_some _ _).symm.trans H;with_reducible exact H2_)|with_reducible exact H|(rw [hy453];exact H)|exact H
  have Ny453:=qm hy453
  clear hy453
  simp only [Option.some.injEq,Prod.mk.injEq] at H
  obtain ⟨rfl,rfl⟩:=H
  go_wp2_with (first|((with_reducible refine gate_dst (N:=51) rfl ?_);(try (refine gate_guard (by rfl) ?_;dsimp only));refine Kd.R_lit (Kd.int .u8) _ 5 ?hg (N:=51) ?hd (xs:=([]:List Int)) (inner:=[]) (ok:=fun _=>True) (okp:=fun _=>True) ?hr ?hp (fun _ hk=>hk) trivial (Below.refl _ _) (Nat.le_refl _) (by simp) ?_;(case hd=>rfl);(case hg=>rfl);(case hr=>first|(go_simp;done)|(go_simp;rfl));(case hp=>exact (Reps.none _ _));intro v454 w35 ho36 hb hg_ hnew_;clear hg_ hnew_;(first|rw [←Ny453.out] at ho36|(simp only [Int.reduceToNat] at ho36;rw [←Ny453.out] at ho36));have _:=qm (Kd.R_elder' (by first|exact rb HO_8.out|exact HO_8.out) (Kd.R_base ho36) hb);have _:=qm (Kd.R_lower (nw ho36 (by first|exact rb HO_8.out|exact HO_8.out)) (qs (by repeat first|exact HB.out|apply qh|apply qi|apply qj|refine bk ?_)));have _:=qm (qv (g:=gb439) (o:= .cells #[.slice A0_0 l0_0.length c0_0, .slice A0_1 l0_1.length c0_1, .slice A0_2 l0_2.length c0_2, .slice A0_3 l0_3.length c0_3] 33 (0,0)) (kb BK439.out) hb);have _:=qm (qv (g:=gb440) (o:= .cells #[.int .i64 a1_0, .int .i64 a1_1, .slice A1_2 l1_2.length c1_2, .slice A1_3 l1_3.length c1_3, .slice A1_4 l1_4.length c1_4, .int .i64 a1_5, .int .i64 a1_6, .int .i64 a1_7] 45 (0,0)) (kb BK440.out) hb);have _:=qm (qt (by repeat first|exact HB.out|apply qh|apply qi|apply qj|refine bk ?_) hb);clear HO_8 BK439 BK440 HB;rename_i HO_8 HO455 BK439 BK440 HB;clear hb ho36))
  go_ret2
  exact ⟨_,by first|rfl|(simp [errW_none,errW_some] <;> rfl)|(simp only [←hji26];first|rfl|(simp [errW_none,errW_some] <;> rfl))|(simp [*,errW_none,errW_some] <;> rfl),by (with_reducible repeat (first|apply qb|apply qc|apply qd));exact qg HO455.out (fun _ hk=>trivial),by repeat (first|(with_reducible first|exact HB.out|apply qh|apply qi|apply qj|refine qk ?_ GE439.out|refine qk ?_ GE440.out)|exact HB.out)⟩
 replace c34:=Bool.eq_false_iff.mpr c34
 subst c34
 rw [if_neg nt] at H
 replace H:=Option.bind_eq_some_iff.mp H
 obtain ⟨⟨t456,t459⟩,A370,H⟩:=H
 try dsimp only at H
 have A37:=qm A370
 clear A370
 obtain ⟨ji38,hji38⟩:∃ j_:Int,(wrap64 (4 - a1_6))=j_:=⟨_,rfl⟩
 replace H:(if 0≤(ji38) then (if (ji38)≤(wrap64 (12 - a1_6)) then (if (wrap64 (12 - a1_6))≤(t456.length:Int) then ((spec_HeadMask.f kj27 l0_0 l0_1 l0_2 l0_3 ((t456.take ((wrap64 (12 - a1_6)):Int).toNat).drop ((ji38):Int).toNat)).bind fun t464=>((spec_l03Copy.f t449).bind fun t467=>(if t467.length+t456.length<140737488355328 then ((some (t467 ++ t456:List Int)).bind fun y470=>(if 0<(y470.length:Int) then (if 0<(t464.length:Int) then (if 0<(t449.length:Int) then ((spec_l04Bits.f (rd t449 0)).bind fun t476=>(spec_ProtectPacket.l0 kj27 t464 (wrap64 ((t449.length:Int) - a1_6)) (y470.set (0:Int).toNat (Go.bits .xor .u8 (rd y470 0) (Go.bits .and .u8 (rd t464 0) t476))) 0 a1_0 a1_1 l1_2 l1_3 l1_4 a1_5 a1_6 a1_7)) else (none)) else (none)) else (none))) else (none)))) else (none)) else (none)) else (none))=some (r1,r2):=by first|(rw [hji38] at H;exact H)|(simp only [hji38] at H ⊢;exact H)
 (try rw [hji38] at A37)
 have hji38w:(IntKind.i64.wrap (4 - a1_6))=ji38:=(i64_w _).trans hji38
 by_cases c39:0≤(ji38)
 ·rw [if_pos c39] at H
  have c39b0:=eq_true c39
  have c39b1:decide (0≤(ji38))=true:=decide_eq_true c39
  clear c39
  by_cases c40:(ji38)≤(wrap64 (12 - a1_6))
  ·rw [if_pos c40] at H
   have c40b0:=eq_true c40
   have c40b1:decide ((ji38)≤(wrap64 (12 - a1_6)))=true:=decide_eq_true c40
   clear c40
   by_cases c41:(wrap64 (12 - a1_6))≤(t456.length:Int)
   ·rw [if_pos c41] at H
    have c41b0:=eq_true c41
    have c41b1:decide ((wrap64 (12 - a1_6))≤(t456.length:Int))=true:=decide_eq_true c41
    clear c41
    obtain ⟨y460,hy460⟩:∃ y_:List Int,y_=((t456.take ((wrap64 (12 - a1_6)):Int).toNat).drop ((ji38):Int).toNat):=⟨_,rfl⟩
    replace H:((spec_HeadMask.f kj27 l0_0 l0_1 l0_2 l0_3 y460).bind fun t464=>((spec_l03Copy.f t449).bind fun t467=>(if t467.length+t456.length<140737488355328 then ((some (t467 ++ t456:List Int)).bind fun y470=>(if 0<(y470.length:Int) then (if 0<(t464.length:Int) then (if 0<(t449.length:Int) then ((spec_l04Bits.f (rd t449 0)).bind fun t476=>(spec_ProtectPacket.l0 kj27 t464 (wrap64 ((t449.length:Int) - a1_6)) (y470.set (0:Int).toNat (Go.bits .xor .u8 (rd y470 0) (Go.bits .and .u8 (rd t464 0) t476))) 0 a1_0 a1_1 l1_2 l1_3 l1_4 a1_5 a1_6 a1_7)) else (none)) else (none)) else (none))) else (none))))=some (r1,r2):=by first|(rw [hy460];with_reducible exact H)|(have H2_:=(Option.bind_some _ _).symm.trans H;rw [hy460];with_reducible exact H2_)|(have H2_:=(Option.bind_some _ _).symm.trans H;with_reducible exact H2_)|with_reducible exact H|(rw [hy460];exact H)|exact H
    have Ny460:=qm hy460
    clear hy460
    replace H:=Option.bind_eq_some_iff.mp H
    obtain ⟨t464,A420,H⟩:=H
    try dsimp only at H
    have A42:=qm A420
    clear A420
    replace H:=Option.bind_eq_some_iff.mp H
    obtain ⟨t467,A430,H⟩:=H
    try dsimp only at H
    have A43:=qm A430
    clear A430
    by_cases c44:t467.length+t456.length<140737488355328
    ·rw [if_pos c44] at H
     have LMc44:=qm c44
     clear c44
     obtain ⟨y470,hy470⟩:∃ y_:List Int,y_=(t467 ++ t456):=⟨_,rfl⟩
     replace H:(if 0<(y470.length:Int) then (if 0<(t464.length:Int) then (if 0<(t449.length:Int) then ((spec_l04Bits.f (rd t449 0)).bind fun t476=>(spec_ProtectPacket.l0 kj27 t464 (wrap64 ((t449.length:Int) - a1_6)) (y470.set (0:Int).toNat (Go.bits .xor .u8 (rd y470 0) (Go.bits .and .u8 (rd t464 0) t476))) 0 a1_0 a1_1 l1_2 l1_3 l1_4 a1_5 a1_6 a1_7)) else (none)) else (none)) else (none))=some (r1,r2):=by first|(rw [hy470];with_reducible exact H)|(have H2_:=(Option.bind_some _ _).symm.trans H;rw [hy470];with_reducible exact H2_)|(have H2_:=(Option.bind_some _ _).symm.trans H;with_reducible exact H2_)|with_reducible exact H|(rw [hy470];exact H)|exact H
     have Ny470:=qm hy470
     clear hy470
     by_cases c45:0<(y470.length:Int)
     ·rw [if_pos c45] at H
      have c45b0:decide (0<(y470.length:Int))=true:=decide_eq_true c45
      have c45b1:decide (0<y470.length)=true:=decide_eq_true (by omega)
      clear c45
      by_cases c46:0<(t464.length:Int)
      ·rw [if_pos c46] at H
       have c46b0:decide (0<(t464.length:Int))=true:=decide_eq_true c46
       have c46b1:decide (0<t464.length)=true:=decide_eq_true (by omega)
       clear c46
       by_cases c47:0<(t449.length:Int)
       ·rw [if_pos c47] at H
        have c47b0:decide (0<(t449.length:Int))=true:=decide_eq_true c47
        have c47b1:decide (0<t449.length)=true:=decide_eq_true (by omega)
        clear c47
        replace H:=Option.bind_eq_some_iff.mp H
        obtain ⟨t476,A480,H⟩:=H
        try dsimp only at H
        have A48:=qm A480
        clear A480
        obtain ⟨y477,hy477⟩:∃ y_:List Int,y_=(y470.set (0:Int).toNat (Go.bits .xor .u8 (rd y470 0) (Go.bits .and .u8 (rd t464 0) t476))):=⟨_,rfl⟩
        replace H:(spec_ProtectPacket.l0 kj27 t464 (wrap64 ((t449.length:Int) - a1_6)) y477 0 a1_0 a1_1 l1_2 l1_3 l1_4 a1_5 a1_6 a1_7)=some (r1,r2):=by first|(rw [hy477];with_reducible exact H)|(have H2_:=(Option.bind_some _ _).symm.trans H;rw [hy477];with_reducible exact H2_)|(have H2_:=(Option.bind_some _ _).symm.trans H;with_reducible exact H2_)|with_reducible exact H|(rw [hy477];exact H)|exact H
        have Ny477:=qm hy477
        clear hy477
        have H' :=qm H
        clear H
        have hnb50:=NB439_440.out
        have hnc50:=NB440_439.out
        obtain ⟨_,_,_,_,_,_,_,_⟩:=fc4 BK439.out
        obtain ⟨_,_,_,_,_,_,_,_,_,_,_,_,_,_,_,_⟩:=fc8 BK440.out
        obtain ⟨Ao53,co53,eo53⟩:=Kd.R_slice HO_8.out
        subst eo53
        try go_wp2_with (first|((with_reducible refine gate_callee (f:=39) rfl ?_);refine goesL_ (some 58) rfl rfl Try.func39 (by kernel_rfl) rfl #[.agg #[.slice A0_0 l0_0.length c0_0, .slice A0_1 l0_1.length c0_1, .slice A0_2 l0_2.length c0_2, .slice A0_3 l0_3.length c0_3], .int .i64 a1_5, .slice Ao53 t449.length co53, .slice A2 l2.length c2] rfl (by (try simp only [m1,m2,m3]);first|done|rfl) ?_;(with_reducible refine (spec_Seal.calls kj27 _ _ l0_0 _ _ l0_1 _ _ l0_2 _ _ l0_3 a1_5 _ _ t449 _ _ l2 t456 t459 _ ?side1 ?side2 ?side3 ?side4 ?side5 ?side6 ?side7 ?side8 ?side9 ?side10 ?side11 ?side12 A37.out).mono ?_);(case side1=>exact cb (Kd.C_below HR0_0.out HB.out));(case side2=>exact HC0_0.out);(case side3=>exact cb (Kd.C_below HR0_1.out HB.out));(case side4=>exact HC0_1.out);(case side5=>exact cb (Kd.C_below HR0_2.out HB.out));(case side6=>exact HC0_2.out);(case side7=>exact cb (Kd.C_below HR0_3.out HB.out));(case side8=>exact HC0_3.out);(case side9=>exact cb ((qe HO_8.out).2.2));(case side10=>exact (qe HO_8.out).2.1);(case side11=>exact cb (Kd.C_below HR2.out HB.out));(case side12=>exact HC2.out);rintro e w54 ⟨v457,rfl,ho0,hb⟩;refine ⟨_,rfl,?_⟩;have _:=qm (Kd.R_elder' (by first|exact rb HO_8.out|exact HO_8.out) (Kd.R_base ho0) hb);have _:=qm (Kd.R_lower (nw ho0 (by first|exact rb HO_8.out|exact HO_8.out)) (qs (by repeat first|exact HB.out|apply qh|apply qi|apply qj|refine bk ?_)));have _:=qm (qv (g:=gb439) (o:= .cells #[.slice A0_0 l0_0.length c0_0, .slice A0_1 l0_1.length c0_1, .slice A0_2 l0_2.length c0_2, .slice A0_3 l0_3.length c0_3] 33 (0,0)) (kb BK439.out) hb);have _:=qm (qv (g:=gb440) (o:= .cells #[.int .i64 a1_0, .int .i64 a1_1, .slice A1_2 l1_2.length c1_2, .slice A1_3 l1_3.length c1_3, .slice A1_4 l1_4.length c1_4, .int .i64 a1_5, .int .i64 a1_6, .int .i64 a1_7] 45 (0,0)) (kb BK440.out) hb);have _:=qm (qt (by repeat first|exact HB.out|apply qh|apply qi|apply qj|refine bk ?_) hb);clear HO_8 BK439 BK440 HB;rename_i HO_8 HO458 BK439 BK440 HB))
        have _:=qm (qd HO_8.out)
        have _:=qm (qd HO458.out)
        have _:=qm (qn BK439.out)
        have _:=qm (qn BK440.out)
        have _:=qm (qj HB.out)
        clear HO_8 HO458 BK439 BK440 HB
        rename_i HO_8 HO458 BK439 BK440 HB
        obtain ⟨Ao57,co57,eo57⟩:=Kd.R_slice HO458.out
        (first|subst eo57|(injection eo57 with f1_ f2_ f3_;have f4_:=f1_.symm;have f5_:=f3_.symm;clear f1_ f2_ f3_;subst f4_;subst f5_))
        have q56:((wrap64 (12 - a1_6)):Int)≤((t456.length:Int):Int):=of_decide_eq_true (by assumption)
        obtain ⟨i056,hi056,_,hsz56,_⟩:=info_parts info5
        have hroom56:t456.length≤co57:=(qe HO458.out).2.1
        have hC56:Kd.C (Kd.int .u8) _ Ao57 t456.length t456:=(qe HO458.out).2.2
        have ql56:((ji38):Int)≤((wrap64 (12 - a1_6)):Int):=of_decide_eq_true (by assumption)
        have q056:(0:Int)≤((ji38):Int):=of_decide_eq_true (by assumption)
        have hcut56:=cut_mid (P:=Try.prog) 22 5 .i64 .i64 Try.underlying22 hi056 1 hsz56 Ao57 t456.length co57 (ji38) (wrap64 (12 - a1_6)) q056 ql56 q56 hroom56
        have hr56:=Kd.C_mid (lo:=((ji38):Int).toNat) (hi:=((wrap64 (12 - a1_6)):Int).toNat) (c:=co57) hC56 (by omega) (by omega) hroom56
        obtain ⟨A56,hA56⟩:∃ A1,A1=(if co57=((ji38):Int).toNat then Ao57 else (Ao57:Option Addr).map (·.add (((ji38):Int).toNat*1))):=⟨_,rfl⟩
        obtain ⟨c56,hc56⟩:∃ c1,c1=co57 - ((ji38):Int).toNat:=⟨_,rfl⟩
        have hy56:y460.length=((wrap64 (12 - a1_6)):Int).toNat - ((ji38):Int).toNat:=(by rw [Ny460.out,List.length_drop,List.length_take] <;> omega)
        rw [show ((t456).take ((wrap64 (12 - a1_6)):Int).toNat).drop ((ji38):Int).toNat=y460 from Ny460.out.symm] at hr56
        replace hr56:Kd.C (Kd.int .u8) _ A56 y460.length y460:=(by rw [hA56];exact hr56)
        rw [←hy56,←hA56,←hc56] at hcut56
        have HR463:=qm hr56
        have HC463:=qm (show y460.length≤c56 from by rw [hy56,hc56];exact Nat.sub_le_sub_right (Nat.le_trans (by omega) hroom56) _)
        clear hr56 hC56 hroom56 hi056 hsz56 hc56
        have KY56:=qm hy56
        have KA56:=qm hA56
        clear hy56 hA56
        have KL56:=qm (show ((wrap64 (12 - a1_6)):Int).toNat≤t456.length from by omega)
        have KM56:=qm (show ((ji38):Int).toNat≤((wrap64 (12 - a1_6)):Int).toNat from by omega)
        replace q56:=eq_true q56
        refine start_ (n:=11) (S:=fun w' =>w'.cell? ⟨gb439,0,none⟩=some (.slice A0_0 l0_0.length c0_0)∧w'.cell? ⟨gb439,1,none⟩=some (.slice A0_1 l0_1.length c0_1)∧w'.cell? ⟨gb439,2,none⟩=some (.slice A0_2 l0_2.length c0_2)∧w'.cell? ⟨gb439,3,none⟩=some (.slice A0_3 l0_3.length c0_3)∧w'.cell? ⟨gb440,0,none⟩=some (.int .i64 a1_0)∧w'.cell? ⟨gb440,1,none⟩=some (.int .i64 a1_1)∧w'.cell? ⟨gb440,2,none⟩=some (.slice A1_2 l1_2.length c1_2)∧w'.cell? ⟨gb440,3,none⟩=some (.slice A1_3 l1_3.length c1_3)∧w'.cell? ⟨gb440,4,none⟩=some (.slice A1_4 l1_4.length c1_4)∧w'.cell? ⟨gb440,5,none⟩=some (.int .i64 a1_5)∧w'.cell? ⟨gb440,6,none⟩=some (.int .i64 a1_6)∧w'.cell? ⟨gb440,7,none⟩=some (.int .i64 a1_7)) (ds:=[]) (bm 0 11) (by kernel_rfl) rfl rfl ⟨(qu BK439.out 0).trans rfl,(qu BK439.out 1).trans rfl,(qu BK439.out 2).trans rfl,(qu BK439.out 3).trans rfl,(qu BK440.out 0).trans rfl,(qu BK440.out 1).trans rfl,(qu BK440.out 2).trans rfl,(qu BK440.out 3).trans rfl,(qu BK440.out 4).trans rfl,(qu BK440.out 5).trans rfl,(qu BK440.out 6).trans rfl,(qu BK440.out 7).trans rfl⟩ (fun hHeld=>?_);refine with_tabW spec_ProtectPacket.tab9 spec_ProtectPacket.bits9 (fun HT_ HW_=>?_)
        generalize w54.drew=w55 at HO_8 HO458 BK439 BK440 HB HR463 hHeld ⊢
        refine pu 1 62 (bb 2 11) HT_ (h:=⟨_,by intro w';go_simp;with_reducible rfl,_,by simp only [Act.put,s1,s2,s3,i64_w,i32_w];rfl,?_⟩)
        refine pu 2 63 (bb 6 11) HT_ (h:=⟨_,by intro w';go_simp;with_reducible rfl,_,by simp only [Act.put,s1,s2,s3,i64_w,i32_w];rfl,?_⟩)
        refine pu 5 66 (bb 38 11) HT_ (h:=⟨_,by intro w';go_simp;with_reducible rfl,_,by simp only [Act.put,s1,s2,s3,i64_w,i32_w];rfl,?_⟩)
        refine tk 0 61 (bb 39 11) HT_ HW_ (hS:=hHeld) (h:=⟨_,by rintro w' ⟨s0,s1,s2,s3,s4,s5,s6,s7,s8,s9,s10,s11⟩;go_simp;with_reducible rfl,_,by simp only [Act.put,s1,s2,s3,i64_w,i32_w];rfl,?_⟩)
        refine tk 3 64 (bb 47 11) HT_ HW_ (hS:=hHeld) (h:=⟨_,by rintro w' ⟨s0,s1,s2,s3,s4,s5,s6,s7,s8,s9,s10,s11⟩;go_simp;with_reducible rfl,_,by simp only [Act.put,s1,s2,s3,i64_w,i32_w];rfl,?_⟩)
        refine pu 4 65 (bm 6 11) HT_ (h:=⟨_,by intro w';go_simp;with_reducible rfl,_,by simp only [Act.put,s1,s2,s3,i64_w,i32_w];rfl,?_⟩)
        refine tk 6 67 (bm 7 11) HT_ HW_ (hS:=hHeld) (h:=⟨_,by rintro w' ⟨s0,s1,s2,s3,s4,s5,s6,s7,s8,s9,s10,s11⟩;go_simp;with_reducible rfl,_,by simp only [Act.put,s1,s2,s3,i64_w,i32_w];rfl,?_⟩)
        refine pu 7 68 (bm 8 11) HT_ (h:=⟨_,by intro w';go_simp;with_reducible rfl,_,by simp only [Act.put,s1,s2,s3,i64_w,i32_w];rfl,?_⟩)
        refine pu 8 69 (bm 9 11) HT_ (h:=⟨_,by intro w';go_simp;with_reducible rfl,_,by simp only [Act.put,s1,s2,s3,i64_w,i32_w];rfl,?_⟩)
        refine one_ (i:=9) (N:=some 70) (bm 10 11) rfl rfl (one_of HT_.out (by kernel_rfl)) (by decide) (fun K hK=>?_)
        refine goes_ Try.func25 (by kernel_rfl) rfl #[.agg #[.slice A0_0 l0_0.length c0_0, .slice A0_1 l0_1.length c0_1, .slice A0_2 l0_2.length c0_2, .slice A0_3 l0_3.length c0_3], .slice A56 y460.length c56] (by rfl) rfl rfl (by (try simp only [m1,m2,m3]);first|done|rfl) ?_
        with_reducible refine (spec_HeadMask.calls kj27 _ _ l0_0 _ _ l0_1 _ _ l0_2 _ _ l0_3 _ _ y460 t464 _ ?side1 ?side2 ?side3 ?side4 ?side5 ?side6 ?side7 ?side8 ?side9 ?side10 A42.out).mono ?_
        (case side1=>exact cb (Kd.C_below HR0_0.out HB.out))
        (case side2=>exact HC0_0.out)
        (case side3=>exact cb (Kd.C_below HR0_1.out HB.out))
        (case side4=>exact HC0_1.out)
        (case side5=>exact cb (Kd.C_below HR0_2.out HB.out))
        (case side6=>exact HC0_2.out)
        (case side7=>exact cb (Kd.C_below HR0_3.out HB.out))
        (case side8=>exact HC0_3.out)
        (case side9=>exact cb (by repeat (first|(with_reducible exact HR463.out)|(with_reducible refine Kd.C_alloc ?_ _)|(with_reducible refine Kd.C_drewN ?_ _)|(with_reducible refine Kd.C_drew ?_)|exact HR463.out)))
        (case side10=>exact HC463.out)
        rintro e w58 ⟨v465,rfl,ho0,hb⟩
        refine ⟨_,rfl,?_⟩
        have _:=qm (Kd.R_elder' (by first|exact rb HO_8.out|exact HO_8.out) (Kd.R_base ho0) hb)
        have _:=qm (Kd.R_elder' (by first|exact rb HO458.out|exact HO458.out) (Kd.R_base ho0) hb)
        have _:=qm (Kd.R_lower (nw (nw ho0 (by first|exact rb HO_8.out|exact HO_8.out)) (by first|exact rb HO458.out|exact HO458.out)) (qs (by repeat first|exact HB.out|apply qh|apply qi|apply qj|refine bk ?_)))
        have _:=qm (qv (g:=gb439) (o:= .cells #[.slice A0_0 l0_0.length c0_0, .slice A0_1 l0_1.length c0_1, .slice A0_2 l0_2.length c0_2, .slice A0_3 l0_3.length c0_3] 33 (0,0)) (kb BK439.out) hb)
        have _:=qm (qv (g:=gb440) (o:= .cells #[.int .i64 a1_0, .int .i64 a1_1, .slice A1_2 l1_2.length c1_2, .slice A1_3 l1_3.length c1_3, .slice A1_4 l1_4.length c1_4, .int .i64 a1_5, .int .i64 a1_6, .int .i64 a1_7] 45 (0,0)) (kb BK440.out) hb)
        have _:=qm (Kd.C_below (by repeat (first|(with_reducible exact HR463.out)|(with_reducible refine Kd.C_alloc ?_ _)|(with_reducible refine Kd.C_drewN ?_ _)|(with_reducible refine Kd.C_drew ?_)|exact HR463.out)) hb)
        have _:=qm (qt (by repeat first|exact HB.out|apply qh|apply qi|apply qj|refine bk ?_) hb)
        clear HO_8 HO458 BK439 BK440 HR463 HB
        rename_i HO_8 HO458 HO466 BK439 BK440 HR463 HB
        (try clear hb)
        (try clear hb2)
        (try clear hk)
        (try clear hi)
        (try clear ho0)
        refine hK.out _ _ ⟨(qu BK439.out 0).trans rfl,(qu BK439.out 1).trans rfl,(qu BK439.out 2).trans rfl,(qu BK439.out 3).trans rfl,(qu BK440.out 0).trans rfl,(qu BK440.out 1).trans rfl,(qu BK440.out 2).trans rfl,(qu BK440.out 3).trans rfl,(qu BK440.out 4).trans rfl,(qu BK440.out 5).trans rfl,(qu BK440.out 6).trans rfl,(qu BK440.out 7).trans rfl⟩ (fun hHeld=>?_)
        clear hK K
        refine norm_ (a' :=?_) ?_ ?_
        rotate_left
        ·show Act.put _ (some 70) _=_
         simp only [Act.put,s1,s2,s3,i64_w,i32_w]
         rfl
        refine pu 10 12 (bm 11 11) HT_ (h:=⟨_,by intro w';go_simp;with_reducible rfl,_,by simp only [Act.put,s1,s2,s3,i64_w,i32_w];rfl,?_⟩)
        refine done_ (done_of HT_.out (by kernel_rfl)) ?_
        obtain ⟨_,_,_,_,_,_,_,_,_,_,_,_,_,_,_,_⟩:=fc8 BK440.out
        try go_wp2_with (first|((with_reducible refine gate_callee (f:=52) rfl ?_);refine goesL_ (some 77) rfl rfl Try.func52 (by kernel_rfl) rfl #[.slice Ao53 t449.length co53] rfl (by (try simp only [m1,m2,m3]);first|done|rfl) ?_;(with_reducible refine (spec_l03Copy.calls _ _ t449 t467 _ ?side1 ?side2 A43.out).mono ?_);(case side1=>exact cb ((qe HO_8.out).2.2));(case side2=>exact (qe HO_8.out).2.1);rintro e w60 ⟨v468,rfl,ho0,hb⟩;refine ⟨_,rfl,?_⟩;have _:=qm (Kd.R_elder' (by first|exact rb HO_8.out|exact HO_8.out) (Kd.R_base ho0) hb);have _:=qm (Kd.R_elder' (by first|exact rb HO458.out|exact HO458.out) (Kd.R_base ho0) hb);have _:=qm (Kd.R_elder' (by first|exact rb HO466.out|exact HO466.out) (Kd.R_base ho0) hb);have _:=qm (Kd.R_lower (nw (nw (nw ho0 (by first|exact rb HO_8.out|exact HO_8.out)) (by first|exact rb HO458.out|exact HO458.out)) (by first|exact rb HO466.out|exact HO466.out)) (qs (by repeat first|exact HB.out|apply qh|apply qi|apply qj|refine bk ?_)));have _:=qm (qv (g:=gb439) (o:= .cells #[.slice A0_0 l0_0.length c0_0, .slice A0_1 l0_1.length c0_1, .slice A0_2 l0_2.length c0_2, .slice A0_3 l0_3.length c0_3] 33 (0,0)) (kb BK439.out) hb);have _:=qm (qv (g:=gb440) (o:= .cells #[.int .i64 a1_0, .int .i64 a1_1, .slice A1_2 l1_2.length c1_2, .slice A1_3 l1_3.length c1_3, .slice A1_4 l1_4.length c1_4, .int .i64 a1_5, .int .i64 a1_6, .int .i64 a1_7] 45 (0,0)) (kb BK440.out) hb);have _:=qm (Kd.C_below (by repeat (first|(with_reducible exact HR463.out)|(with_reducible refine Kd.C_alloc ?_ _)|(with_reducible refine Kd.C_drewN ?_ _)|(with_reducible refine Kd.C_drew ?_)|exact HR463.out)) hb);have _:=qm (qt (by repeat first|exact HB.out|apply qh|apply qi|apply qj|refine bk ?_) hb);clear HO_8 HO458 HO466 BK439 BK440 HR463 HB;rename_i HO_8 HO458 HO466 HO469 BK439 BK440 HR463 HB)|((with_reducible refine gate_builtin (b:= .append) (xs:=#[.tmp 77, .tmp 78]) rfl ?_);(try (refine gate_guard (by rfl) ?_;dsimp only));at_builtin;refine Kd.R_append_rows (Kd.int .u8) (w0:=w) w.heap.size rfl (.tmp 77) (.tmp 78) 22 5 (.int .u8 0) 1 rfl Try.underlying22 info5 rfl (by decide) (by omega) v468 t467 t456 _ _ _ (fun k_=>ob k_ (.slice Ao53 t449.length co53)∧ob k_ (.slice Ao57 t456.length co57)∧ob k_ v465) (fun _=>False) rfl rfl ?aO ?aR (fun _ _ h=>h) (fun _ h=>h.elim) ?aF ?aB ?aS ?aL ?_;(case aR=>exact cb ((qe HO458.out).2.2));(case aB=>exact (by repeat first|exact HB.out|apply qh|apply qi|apply qj|refine bk ?_));(case aF=>exact (fun k_ hk=>⟨Kd.fresh' (Kd.R_lt (by first|exact rb HO_8.out|exact HO_8.out)) k_ hk,Kd.fresh' (Kd.R_lt (by first|exact rb HO458.out|exact HO458.out)) k_ hk,Kd.fresh' (Kd.R_lt (by first|exact rb HO466.out|exact HO466.out)) k_ hk⟩));(case aO=>exact (by first|exact rb (qg HO469.out (fun _ hk=>⟨hk.1.1.2,⟨hk.1.2,hk.2⟩⟩))|exact qg HO469.out (fun _ hk=>⟨hk.1.1.2,⟨hk.1.2,hk.2⟩⟩)));(case aS=>exact (qs (by repeat first|exact HB.out|apply qh|apply qi|apply qj|refine bk ?_)));(case aL=>have:=LMc44.out;omega);intro v471 w61 ho hb hg hat;rw [←Ny470.out] at ho;have _:=qm (Kd.R_after (ok:=(fun k_=>ob k_ (.slice Ao57 t456.length co57)∧ob k_ v465)) (by first|exact rb (qg HO_8.out (fun _ hk=>⟨⟨hk.1.1.2,hk.1.2⟩,hk.2⟩))|exact qg HO_8.out (fun _ hk=>⟨⟨hk.1.1.2,hk.1.2⟩,hk.2⟩)) hg hat);have _:=qm (blk_grown (g:=gb439) (o:= .cells #[.slice A0_0 l0_0.length c0_0, .slice A0_1 l0_1.length c0_1, .slice A0_2 l0_2.length c0_2, .slice A0_3 l0_3.length c0_3] 33 (0,0)) (kb BK439.out) hg (Kd.R_ne HO469.out BK439.out (by decide)));have _:=qm (blk_grown (g:=gb440) (o:= .cells #[.int .i64 a1_0, .int .i64 a1_1, .slice A1_2 l1_2.length c1_2, .slice A1_3 l1_3.length c1_3, .slice A1_4 l1_4.length c1_4, .int .i64 a1_5, .int .i64 a1_6, .int .i64 a1_7] 45 (0,0)) (kb BK440.out) hg (Kd.R_ne HO469.out BK440.out (by decide)));have _:=qm (Kd.R_after (ok:=(fun k_=>ob k_ (.slice Ao53 t449.length co53)∧ob k_ v465)) (by first|exact rb (qg HO458.out (fun _ hk=>⟨⟨hk.1.1.2,hk.1.2⟩,hk.2⟩))|exact qg HO458.out (fun _ hk=>⟨⟨hk.1.1.2,hk.1.2⟩,hk.2⟩)) hg hat);have _:=qm (Kd.R_after (ok:=(fun k_=>ob k_ (.slice Ao53 t449.length co53)∧ob k_ (.slice Ao57 t456.length co57))) (by first|exact rb (qg HO466.out (fun _ hk=>⟨⟨hk.1.1.2,hk.1.2⟩,hk.2⟩))|exact qg HO466.out (fun _ hk=>⟨⟨hk.1.1.2,hk.1.2⟩,hk.2⟩)) hg hat);have _:=qm (hb);have _:=qm ((show Kd.C (Kd.int .u8) w61 A56 y460.length y460 from by rw [Ny460.out,KA56.out];exact Kd.C_mid (lo:=((ji38):Int).toNat) (hi:=((wrap64 (12 - a1_6)):Int).toNat) (c:=co57) ((qe (Kd.R_after (ok:=(fun k_=>ob k_ (.slice Ao53 t449.length co53)∧ob k_ v465)) (by first|exact rb (qg HO458.out (fun _ hk=>⟨⟨hk.1.1.2,hk.1.2⟩,hk.2⟩))|exact qg HO458.out (fun _ hk=>⟨⟨hk.1.1.2,hk.1.2⟩,hk.2⟩)) hg hat)).2.2) KM56.out KL56.out ((qe (Kd.R_after (ok:=(fun k_=>ob k_ (.slice Ao53 t449.length co53)∧ob k_ v465)) (by first|exact rb (qg HO458.out (fun _ hk=>⟨⟨hk.1.1.2,hk.1.2⟩,hk.2⟩))|exact qg HO458.out (fun _ hk=>⟨⟨hk.1.1.2,hk.1.2⟩,hk.2⟩)) hg hat)).2.1)));have _:=qm (ho);clear HO_8 BK439 BK440 HO458 HO466 HB HR463 HO469;rename_i HO_8 BK439 BK440 HO458 HO466 HB HR463 HO472;clear ho hb hg hat))
        have _:=qm (qd HO_8.out)
        have _:=qm (qd HO458.out)
        have _:=qm (qd HO466.out)
        have _:=qm (qd HO472.out)
        have _:=qm (qn BK439.out)
        have _:=qm (qn BK440.out)
        have _:=qm (Kd.C_drew HR463.out)
        have _:=qm (qj HB.out)
        clear HO_8 HO458 HO466 HO472 BK439 BK440 HR463 HB
        rename_i HO_8 HO458 HO466 HO472 BK439 BK440 HR463 HB
        obtain ⟨Ao63,co63,eo63⟩:=Kd.R_slice HO472.out
        (first|subst eo63|(injection eo63 with f1_ f2_ f3_;have f4_:=f1_.symm;have f5_:=f3_.symm;clear f1_ f2_ f3_;subst f4_;subst f5_))
        have p473:0≤(0:Int):=(by omega)
        have q473:0<(y470.length:Int):=of_decide_eq_true (by assumption)
        obtain ⟨ad473,e473,hx473_0⟩:=Kd.at_int (qe HO472.out).2.2 0 p473 q473
        cases e473
        have qi473:(0<y470.length)=True:=eq_true (by omega)
        (try rw [show ((0:Int)).toNat=0 from rfl] at hx473_0)
        (try rw [Addr.add_zero'] at hx473_0)
        replace p473:=eq_true p473
        replace q473:=eq_true q473
        obtain ⟨Ao64,co64,eo64⟩:=Kd.R_slice HO466.out
        (first|subst eo64|(injection eo64 with f1_ f2_ f3_;have f4_:=f1_.symm;have f5_:=f3_.symm;clear f1_ f2_ f3_;subst f4_;subst f5_))
        have p474:0≤(0:Int):=(by omega)
        have q474:0<(t464.length:Int):=of_decide_eq_true (by assumption)
        obtain ⟨ad474,e474,hx474_0⟩:=Kd.at_int (qe HO466.out).2.2 0 p474 q474
        cases e474
        have qi474:(0<t464.length)=True:=eq_true (by omega)
        (try rw [show ((0:Int)).toNat=0 from rfl] at hx474_0)
        (try rw [Addr.add_zero'] at hx474_0)
        replace p474:=eq_true p474
        replace q474:=eq_true q474
        have p475:0≤(0:Int):=(by omega)
        have q475:0<(t449.length:Int):=of_decide_eq_true (by assumption)
        obtain ⟨ad475,e475,hx475_0⟩:=Kd.at_int (qe HO_8.out).2.2 0 p475 q475
        cases e475
        have qi475:(0<t449.length)=True:=eq_true (by omega)
        (try rw [show ((0:Int)).toNat=0 from rfl] at hx475_0)
        (try rw [Addr.add_zero'] at hx475_0)
        replace p475:=eq_true p475
        replace q475:=eq_true q475
        refine start_ (n:=15) (S:=fun w' =>w'.cell? ad473=some (.int .u8 (rd y470 0))∧w'.cell? ad474=some (.int .u8 (rd t464 0))∧w'.cell? ad475=some (.int .u8 (rd t449 0))) (ds:=[14]) (bm 0 15) (by kernel_rfl) rfl rfl ⟨hx473_0,hx474_0,hx475_0⟩ (fun hHeld=>?_);refine with_tabW spec_ProtectPacket.tab12 spec_ProtectPacket.bits12 (fun HT_ HW_=>?_)
        generalize w61.drew=w62 at HO_8 HO458 HO466 HO472 BK439 BK440 HR463 HB hx473_0 hx474_0 hx475_0 hHeld ⊢
        refine pu 0 80 (bm 1 15) HT_ (h:=⟨_,by intro w';go_simp;with_reducible rfl,_,by simp only [Act.put,s1,s2,s3,i64_w,i32_w];rfl,?_⟩)
        refine pu 1 81 (bm 2 15) HT_ (h:=⟨_,by intro w';go_simp;with_reducible rfl,_,by simp only [Act.put,s1,s2,s3,i64_w,i32_w];rfl,?_⟩)
        refine pu 2 82 (bm 3 15) HT_ (h:=⟨_,by intro w';go_simp;with_reducible rfl,_,by simp only [Act.put,s1,s2,s3,i64_w,i32_w];rfl,?_⟩)
        refine pu 4 84 (bb 23 15) HT_ (h:=⟨_,by intro w';go_simp;with_reducible rfl,_,by simp only [Act.put,s1,s2,s3,i64_w,i32_w];rfl,?_⟩)
        refine pu 5 85 (bb 55 15) HT_ (h:=⟨_,by intro w';go_simp;with_reducible rfl,_,by simp only [Act.put,s1,s2,s3,i64_w,i32_w];rfl,?_⟩)
        refine pu 7 87 (bb 183 15) HT_ (h:=⟨_,by intro w';go_simp;with_reducible rfl,_,by simp only [Act.put,s1,s2,s3,i64_w,i32_w];rfl,?_⟩)
        refine pu 8 88 (bb 439 15) HT_ (h:=⟨_,by intro w';go_simp;with_reducible rfl,_,by simp only [Act.put,s1,s2,s3,i64_w,i32_w];rfl,?_⟩)
        refine tk 3 83 (bb 447 15) HT_ HW_ (hS:=hHeld) (h:=⟨_,by rintro w' ⟨s0,s1,s2⟩;go_simp;with_reducible rfl,_,by simp only [Act.put,s1,s2,s3,i64_w,i32_w];rfl,?_⟩)
        refine tk 6 86 (bm 9 15) HT_ HW_ (hS:=hHeld) (h:=⟨_,by rintro w' ⟨s0,s1,s2⟩;go_simp;with_reducible rfl,_,by simp only [Act.put,s1,s2,s3,i64_w,i32_w];rfl,?_⟩)
        refine tk 9 89 (bm 10 15) HT_ HW_ (hS:=hHeld) (h:=⟨_,by rintro w' ⟨s0,s1,s2⟩;go_simp;with_reducible rfl,_,by simp only [Act.put,s1,s2,s3,i64_w,i32_w];rfl,?_⟩)
        refine one_ (i:=10) (N:=some 90) (bm 11 15) rfl rfl (one_of HT_.out (by kernel_rfl)) (by decide) (fun K hK=>?_)
        refine goes_ Try.func76 (by kernel_rfl) rfl #[.int .u8 (rd t449 0)] (by rfl) rfl rfl (by (try simp only [m1,m2,m3]);first|done|rfl) ?_
        with_reducible refine (spec_l04Bits.calls (rd t449 0) t476 _ A48.out).mono ?_
        rintro e w' ⟨rfl,⟨nd,rfl⟩⟩
        refine ⟨_,rfl,?_⟩
        have p49:0≤(0:Int):=(by omega)
        have q49:(0:Int)<((y470.length:Int):Int):=of_decide_eq_true (by assumption)
        have qi49:(0<y470.length)=True:=eq_true (by omega)
        obtain ⟨go49,co49,eo49,gb49,gl49,cl49,HG49⟩:=Kd.R_form HO472.out (by omega)
        (first|cases eo49|(injection eo49 with ea_ en_ ec_;(first|subst ea_|(injection ea_ with ea_;subst ea_));subst ec_;clear en_))
        have GB49:=qm gb49
        have GG49:=qm HG49
        clear gb49 gl49 HG49
        (first|simp only [add_plain] at hx473_0|skip)
        obtain ⟨hx49_0,hf49_0⟩:=Kd.R_celln 0 HO472.out (0:Int) p49 q49
        (try rw [show ((0:Int)).toNat=0 from rfl] at hx49_0)
        (try simp only [Nat.reduceMul,Nat.zero_mul,Nat.zero_add,Nat.reduceAdd] at hx49_0)
        (try rw [show ((0:Int)).toNat=0 from rfl] at hf49_0)
        (try simp only [Nat.reduceMul,Nat.zero_mul,Nat.zero_add,Nat.reduceAdd] at hf49_0)
        replace p49:=eq_true p49
        replace q49:=eq_true q49
        have HP65:=Kd.R_putn HO472.out (0:Int) (Go.bits .xor .u8 (rd y470 0) (Go.bits .and .u8 (rd t464 0) t476))
        rw [←Ny477.out] at HP65
        have HQ65:=qm HP65
        clear HP65
        refine hK.out _ _ ⟨hHeld.1,hHeld.2.1,hHeld.2.2⟩ (fun hHeld=>?_)
        clear hK K
        refine norm_ (a' :=?_) ?_ ?_
        rotate_left
        ·show Act.put _ (some 90) _=_
         simp only [Act.put,s1,s2,s3,i64_w,i32_w]
         rfl
        refine pu 11 91 (bm 12 15) HT_ (h:=⟨_,by intro w';go_simp;with_reducible rfl,_,by simp only [Act.put,s1,s2,s3,i64_w,i32_w];rfl,?_⟩)
        refine pu 12 92 (bm 13 15) HT_ (h:=⟨_,by intro w';go_simp;with_reducible rfl,_,by simp only [Act.put,s1,s2,s3,i64_w,i32_w];rfl,?_⟩)
        refine pu 13 93 (bm 14 15) HT_ (h:=⟨_,by intro w';go_simp;with_reducible rfl,_,by simp only [Act.put,s1,s2,s3,i64_w,i32_w];rfl,?_⟩)
        refine last_ (i:=14) (N:=none) (bm 15 15) rfl rfl (one_of HT_.out (by kernel_rfl)) (by decide) (fun K hK=>?_)
        refine skip_ (w1:=?_) (by rfl) rfl ?_ ?_
        rotate_left
        ·go_simp
         rfl
        refine hK.out _ _ ?_
        clear hK K
        refine done_ (done_of HT_.out (by kernel_rfl)) ?_
        try go_wp2
        go_loopg [15] kj27 (fun kq v15 w' =>∃ (x14_3:List Int) (x15_3:Int),v15 = .int .i64 x15_3∧Aside0 (spec_ProtectPacket.l0 kq t464 (wrap64 ((t449.length:Int) - a1_6)) x14_3 x15_3 a1_0 a1_1 l1_2 l1_3 l1_4 a1_5 a1_6 a1_7=some (r1,r2))∧Aside0 (kq≤kj27)∧Aside0 (Kd.R (Kd.int .u8) 5 w' w.heap.size (fun k_=>ob k_ ((.slice (some ⟨go49,0,none⟩) y470.length co63))) (.slice (some ad474) t464.length co64) t464)∧Aside0 (Kd.R (Kd.int .u8) 5 w' w.heap.size (fun k_=>ob k_ ((.slice (some ad474) t464.length co64))) (.slice (some ⟨go49,0,none⟩) y470.length co63) x14_3)∧Aside0 (w'.heap[gb439]? =some (.cells #[(.slice A0_0 l0_0.length c0_0),(.slice A0_1 l0_1.length c0_1),(.slice A0_2 l0_2.length c0_2),(.slice A0_3 l0_3.length c0_3)] 33 (0,0)))∧Aside0 (w'.heap[gb440]? =some (.cells #[.int .i64 a1_0, .int .i64 a1_1,(.slice A1_2 l1_2.length c1_2),(.slice A1_3 l1_3.length c1_3),(.slice A1_4 l1_4.length c1_4), .int .i64 a1_5, .int .i64 a1_6, .int .i64 a1_7] 45 (0,0)))∧Aside0 (Below w.heap.size w w'))
        case atStart=>exact ⟨(y477),(0),(by first|rfl|(simp;done)|(simp [*];done)),H',⟨Nat.le_refl _⟩,⟨by first|exact rb (qg (Kd.R_far (p:=⟨go49,0,none⟩) (qg HO466.out (fun k_ hk=>(⟨hk,fun e_=>hk.2 (by rw [e_];rfl)⟩:_∧k_≠go49))) (fun _ hk=>hk.2) (.int .u8 (Go.bits .xor .u8 (rd y470 0) (Go.bits .and .u8 (rd t464 0) t476)))) (fun _ hk=>hk.1.2))|exact qg (Kd.R_far (p:=⟨go49,0,none⟩) (qg HO466.out (fun k_ hk=>(⟨hk,fun e_=>hk.2 (by rw [e_];rfl)⟩:_∧k_≠go49))) (fun _ hk=>hk.2) (.int .u8 (Go.bits .xor .u8 (rd y470 0) (Go.bits .and .u8 (rd t464 0) t476)))) (fun _ hk=>hk.1.2)⟩,⟨by first|exact rb (qg HQ65.out (fun _ hk=>hk.2.2))|exact qg HQ65.out (fun _ hk=>hk.2.2)⟩,⟨by (with_reducible repeat first|apply ql|apply qn|apply qo);refine blk_far ?_ (by have h_:=Kd.R_ne HO472.out BK439.out (by decide);intro e_;exact h_ (by rw [e_];rfl)) _;(with_reducible repeat first|apply ql|apply qn|apply qo);exact BK439.out⟩,⟨by (with_reducible repeat first|apply ql|apply qn|apply qo);refine blk_far ?_ (by have h_:=Kd.R_ne HO472.out BK440.out (by decide);intro e_;exact h_ (by rw [e_];rfl)) _;(with_reducible repeat first|apply ql|apply qn|apply qo);exact BK440.out⟩,⟨by repeat (first|(with_reducible first|exact HB.out|apply qh|apply qi|apply qj|refine qk ?_ GB49.out|refine qk ?_ GE439.out|refine qk ?_ GE440.out)|exact HB.out)⟩⟩
        case round=>
         clear H'
         try clear c1
         try clear c2
         try clear c18
         try clear c21
         try clear c21b0
         try clear c34
         try clear c39
         try clear c39b0
         try clear c39b1
         try clear c40
         try clear c40b0
         try clear c40b1
         try clear c41
         try clear c41b0
         try clear c41b1
         try clear c44
         try clear c45
         try clear c45b0
         try clear c45b1
         try clear c46
         try clear c46b0
         try clear c46b1
         try clear c47
         try clear c47b0
         try clear c47b1
         try clear p49
         try clear q49
         try clear qi49
         try clear c56
         try clear q56
         try clear hx473_0
         try clear hx474_0
         try clear hx475_0
         try clear hx49_0
         try clear p473
         try clear p474
         try clear p475
         try clear p49
         try clear q056
         try clear q473
         try clear q474
         try clear q475
         try clear q49
         try clear q56
         obtain ⟨x14_3,x15_3,rfl,HA,HK3,HO_12,HO_14,BK439,BK440,HB⟩:=hrel
         have hl14_3:=(qe HO_14.out).1
         rw [hl14_3] at HO_14
         (try simp only [hl14_3])
         (try simp only [hl14_3] at BK439)
         (try simp only [hl14_3] at BK440)
         (try simp only [hl14_3] at HO_12)
         cases gk with
         |zero=>exact absurd HA.out (by simp [spec_ProtectPacket.l0])
         |succ k3=>?_
         have H:=HA.out
         clear HA
         simp only [spec_ProtectPacket.l0] at H
         by_cases c66:x15_3<a1_6
         ·rw [if_pos c66] at H
          have c66b0:decide (x15_3<a1_6)=true:=decide_eq_true c66
          clear c66
          obtain ⟨ji67,hji67⟩:∃ j_:Int,(wrap64 ((wrap64 ((t449.length:Int) - a1_6))+x15_3))=j_:=⟨_,rfl⟩
          replace H:(if 0≤(ji67) then (if (ji67)<(x14_3.length:Int) then (if 0≤(wrap64 (1+x15_3)) then (if (wrap64 (1+x15_3))<(t464.length:Int) then (spec_ProtectPacket.l0 k3 t464 (wrap64 ((t449.length:Int) - a1_6)) (x14_3.set ((ji67):Int).toNat (Go.bits .xor .u8 (rd x14_3 (ji67)) (rd t464 (wrap64 (1+x15_3))))) (wrap64 (x15_3+1)) a1_0 a1_1 l1_2 l1_3 l1_4 a1_5 a1_6 a1_7) else (none)) else (none)) else (none)) else (none))=some (r1,r2):=by first|(rw [hji67] at H;exact H)|(simp only [hji67] at H ⊢;exact H)
          have hji67w:(IntKind.i64.wrap ((wrap64 ((t449.length:Int) - a1_6))+x15_3))=ji67:=(i64_w _).trans hji67
          by_cases c68:0≤(ji67)
          ·rw [if_pos c68] at H
           have c68b0:decide (0≤(ji67))=true:=decide_eq_true c68
           clear c68
           by_cases c69:(ji67)<(x14_3.length:Int)
           ·rw [if_pos c69] at H
            have c69b0:decide ((ji67)<(x14_3.length:Int))=true:=decide_eq_true c69
            clear c69
            obtain ⟨ji70,hji70⟩:∃ j_:Int,(wrap64 (1+x15_3))=j_:=⟨_,rfl⟩
            replace H:(if 0≤(ji70) then (if (ji70)<(t464.length:Int) then (spec_ProtectPacket.l0 k3 t464 (wrap64 ((t449.length:Int) - a1_6)) (x14_3.set ((ji67):Int).toNat (Go.bits .xor .u8 (rd x14_3 (ji67)) (rd t464 (ji70)))) (wrap64 (x15_3+1)) a1_0 a1_1 l1_2 l1_3 l1_4 a1_5 a1_6 a1_7) else (none)) else (none))=some (r1,r2):=by first|(rw [hji70] at H;exact H)|(simp only [hji70] at H ⊢;exact H)
            have hji70w:(IntKind.i64.wrap (1+x15_3))=ji70:=(i64_w _).trans hji70
            by_cases c71:0≤(ji70)
            ·rw [if_pos c71] at H
             have c71b0:decide (0≤(ji70))=true:=decide_eq_true c71
             clear c71
             by_cases c72:(ji70)<(t464.length:Int)
             ·rw [if_pos c72] at H
              have c72b0:decide ((ji70)<(t464.length:Int))=true:=decide_eq_true c72
              clear c72
              obtain ⟨y480,hy480⟩:∃ y_:List Int,y_=(x14_3.set ((ji67):Int).toNat (Go.bits .xor .u8 (rd x14_3 (ji67)) (rd t464 (ji70)))):=⟨_,rfl⟩
              replace H:(spec_ProtectPacket.l0 k3 t464 (wrap64 ((t449.length:Int) - a1_6)) y480 (wrap64 (x15_3+1)) a1_0 a1_1 l1_2 l1_3 l1_4 a1_5 a1_6 a1_7)=some (r1,r2):=by first|(rw [hy480];with_reducible exact H)|(have H2_:=(Option.bind_some _ _).symm.trans H;rw [hy480];with_reducible exact H2_)|(have H2_:=(Option.bind_some _ _).symm.trans H;with_reducible exact H2_)|with_reducible exact H|(rw [hy480];exact H)|exact H
              have Ny480:=qm hy480
              clear hy480
              have H' :=qm H
              clear H
              have hnb74:=NB440_439.out
              have hnc74:=NB439_440.out
              obtain ⟨_,_,_,_,_,_,_,_,_,_,_,_,_,_,_,_⟩:=fc8 BK440.out
              try go_wp2
              have _:=qm (qd HO_12.out)
              have _:=qm (qd HO_14.out)
              have _:=qm (qn BK439.out)
              have _:=qm (qn BK440.out)
              have _:=qm (qj HB.out)
              clear HO_12 HO_14 BK439 BK440 HB
              rename_i HO_12 HO_14 BK439 BK440 HB
              have p478:0≤((ji67):Int):=of_decide_eq_true (by assumption)
              have q478:(ji67)<(x14_3.length:Int):=of_decide_eq_true (by assumption)
              obtain ⟨ad478,e478,hx478_0⟩:=Kd.at_int (qe HO_14.out).2.2 (ji67) p478 q478
              obtain rfl:(⟨go49,0,none⟩:Addr)=ad478:=(by injection e478)
              (first|simp only [add_plain] at hx478_0|simp only [add_at] at hx478_0|simp only [Addr.add,Nat.zero_add] at hx478_0|skip)
              replace p478:=eq_true p478
              replace q478:=eq_true q478
              have p479:0≤((ji70):Int):=of_decide_eq_true (by assumption)
              have q479:(ji70)<(t464.length:Int):=of_decide_eq_true (by assumption)
              obtain ⟨ad479,e479,hx479_0⟩:=Kd.at_int (qe HO_12.out).2.2 (ji70) p479 q479
              obtain rfl:ad474=ad479:=(by injection e479)
              replace p479:=eq_true p479
              replace q479:=eq_true q479
              have p73:0≤((ji67):Int):=of_decide_eq_true (by assumption)
              have q73:((ji67):Int)<((x14_3.length:Int):Int):=of_decide_eq_true (by assumption)
              obtain ⟨hx73_0,hf73_0⟩:=Kd.R_celln 0 HO_14.out ((ji67):Int) p73 q73
              replace p73:=eq_true p73
              replace q73:=eq_true q73
              have HP77:=Kd.R_putn HO_14.out ((ji67):Int) (Go.bits .xor .u8 (rd x14_3 (ji67)) (rd t464 (ji70)))
              rw [←Ny480.out] at HP77
              have HQ77:=qm HP77
              clear HP77
              refine start_ (n:=18) (S:=fun w' =>w'.cell? ⟨go49,((ji67)).toNat,none⟩=some (.int .u8 (rd x14_3 (ji67)))∧w'.cell? (ad474.add ((ji70)).toNat)=some (.int .u8 (rd t464 (ji70)))) (ds:=[17]) (bm 0 18) (by kernel_rfl) rfl rfl ⟨hx478_0,hx479_0⟩ (fun hHeld=>?_);refine with_tabW spec_ProtectPacket.tab16 spec_ProtectPacket.bits16 (fun HT_ HW_=>?_)
              generalize wr.drew=w76 at HO_12 HO_14 BK439 BK440 HB HQ77 hf73_0 hx478_0 hx479_0 hx73_0 hHeld ⊢
              refine pu 0 100 (bm 1 18) HT_ (h:=⟨_,by intro w';go_simp;with_reducible rfl,_,by simp only [Act.put,s1,s2,s3,i64_w,i32_w];rfl,?_⟩)
              refine pu 1 101 (bm 2 18) HT_ (h:=⟨_,by intro w';go_simp;with_reducible rfl,_,by simp only [Act.put,s1,s2,s3,i64_w,i32_w];rfl,?_⟩)
              refine pu 2 102 (bm 3 18) HT_ (h:=⟨_,by intro w';go_simp;with_reducible rfl,_,by simp only [Act.put,s1,s2,s3,i64_w,i32_w];rfl,?_⟩)
              refine pu 3 103 (bm 4 18) HT_ (h:=⟨_,by intro w';go_simp;with_reducible rfl,_,by simp only [Act.put,s1,s2,s3,i64_w,i32_w];rfl,?_⟩)
              refine pu 4 104 (bm 5 18) HT_ (h:=⟨_,by intro w';go_simp;with_reducible rfl,_,by simp only [Act.put,s1,s2,s3,i64_w,i32_w];rfl,?_⟩)
              refine pu 5 105 (bm 6 18) HT_ (h:=⟨_,by intro w';go_simp;with_reducible rfl,_,by simp only [Act.put,s1,s2,s3,i64_w,i32_w];rfl,?_⟩)
              refine pu 6 106 (bm 7 18) HT_ (h:=⟨_,by intro w';go_simp;with_reducible rfl,_,by simp only [Act.put,s1,s2,s3,i64_w,i32_w];rfl,?_⟩)
              refine pu 7 107 (bm 8 18) HT_ (h:=⟨_,by intro w';go_simp;with_reducible rfl,_,by simp only [Act.put,s1,s2,s3,i64_w,i32_w];rfl,?_⟩)
              refine pu 8 108 (bm 9 18) HT_ (h:=⟨_,by intro w';go_simp;with_reducible rfl,_,by simp only [Act.put,s1,s2,s3,i64_w,i32_w];rfl,?_⟩)
              refine pu 10 110 (bb 1535 18) HT_ (h:=⟨_,by intro w';go_simp;with_reducible rfl,_,by simp only [Act.put,s1,s2,s3,i64_w,i32_w];rfl,?_⟩)
              refine pu 11 111 (bb 3583 18) HT_ (h:=⟨_,by intro w';go_simp;with_reducible rfl,_,by simp only [Act.put,s1,s2,s3,i64_w,i32_w];rfl,?_⟩)
              refine pu 12 112 (bb 7679 18) HT_ (h:=⟨_,by intro w';go_simp;with_reducible rfl,_,by simp only [Act.put,s1,s2,s3,i64_w,i32_w];rfl,?_⟩)
              refine pu 13 113 (bb 15871 18) HT_ (h:=⟨_,by intro w';go_simp;with_reducible rfl,_,by simp only [Act.put,s1,s2,s3,i64_w,i32_w];rfl,?_⟩)
              refine tk 9 109 (bm 14 18) HT_ HW_ (hS:=hHeld) (h:=⟨_,by rintro w' ⟨s0,s1⟩;go_simp;with_reducible rfl,_,by simp only [Act.put,s1,s2,s3,i64_w,i32_w];rfl,?_⟩)
              refine tk 14 114 (bm 15 18) HT_ HW_ (hS:=hHeld) (h:=⟨_,by rintro w' ⟨s0,s1⟩;go_simp;with_reducible rfl,_,by simp only [Act.put,s1,s2,s3,i64_w,i32_w];rfl,?_⟩)
              refine pu 15 115 (bm 16 18) HT_ (h:=⟨_,by intro w';go_simp;with_reducible rfl,_,by simp only [Act.put,s1,s2,s3,i64_w,i32_w];rfl,?_⟩)
              refine pu 16 116 (bm 17 18) HT_ (h:=⟨_,by intro w';go_simp;with_reducible rfl,_,by simp only [Act.put,s1,s2,s3,i64_w,i32_w];rfl,?_⟩)
              refine last_ (i:=17) (N:=none) (bm 18 18) rfl rfl (one_of HT_.out (by kernel_rfl)) (by decide) (fun K hK=>?_)
              refine skip_ (w1:=?_) (by rfl) rfl ?_ ?_
              rotate_left
              ·go_simp
               rfl
              refine hK.out _ _ ?_
              clear hK K
              refine done_ (done_of HT_.out (by kernel_rfl)) ?_
              try go_wp2
              (try simp only [←hl14_3])
              go_roundg k3
              case measure=>have:=HJ3.out;have:=HJ27.out;have:=HK3.out;omega
              case rel=>exact ⟨(y480),(wrap64 (x15_3+1)),rfl,H',⟨by have:=HJ3.out;have:=HJ27.out;have:=HK3.out;omega⟩,⟨by (try simp only [hl14_3]);(with_reducible repeat (first|apply qb|apply qc|apply qd));exact qg (Kd.R_far (p:=⟨go49,((ji67):Int).toNat,none⟩) (qg HO_12.out (fun k_ hk=>(⟨hk,fun e_=>hk (by rw [e_];rfl)⟩:_∧k_≠go49))) (fun _ hk=>hk.2) (.int .u8 (Go.bits .xor .u8 (rd x14_3 (ji67)) (rd t464 (ji70))))) (fun _ hk=>hk.1)⟩,⟨by (try simp only [hl14_3]);(with_reducible repeat (first|apply qb|apply qc|apply qd));exact HQ77.out⟩,⟨by (try simp only [hl14_3]);(with_reducible repeat first|apply ql|apply qn|apply qo);refine blk_far ?_ (by have h_:=Kd.R_ne HO_14.out BK439.out (by decide);intro e_;exact h_ (by rw [e_];rfl)) _;(with_reducible repeat first|apply ql|apply qn|apply qo);exact BK439.out⟩,⟨by (try simp only [hl14_3]);(with_reducible repeat first|apply ql|apply qn|apply qo);refine blk_far ?_ (by have h_:=Kd.R_ne HO_14.out BK440.out (by decide);intro e_;exact h_ (by rw [e_];rfl)) _;(with_reducible repeat first|apply ql|apply qn|apply qo);exact BK440.out⟩,⟨by repeat (first|(with_reducible first|exact HB.out|apply qh|apply qi|apply qj|refine qk ?_ GB49.out|refine qk ?_ GE439.out|refine qk ?_ GE440.out)|exact HB.out)⟩⟩
             rw [if_neg c72] at H
             exact absurd H (by simp)
            rw [if_neg c71] at H
            exact absurd H (by simp)
           rw [if_neg c69] at H
           exact absurd H (by simp)
          rw [if_neg c68] at H
          exact absurd H (by simp)
         rw [if_neg c66] at H
         have c66b0:decide (x15_3<a1_6)=false:=decide_eq_false c66
         clear c66
         simp only [Option.some.injEq,Prod.mk.injEq] at H
         obtain ⟨rfl,rfl⟩:=H
         have hnb78:=NB440_439.out
         have hnc78:=NB439_440.out
         obtain ⟨_,_,_,_,_,_,_,_,_,_,_,_,_,_,_,_⟩:=fc8 BK440.out
         go_wp2
         go_ret2
         exact ⟨_,by first|rfl|(simp [errW_none,errW_some] <;> rfl)|(simp only [←hji26,←hji38];first|rfl|(simp [errW_none,errW_some] <;> rfl))|(simp [*,errW_none,errW_some] <;> rfl),by (with_reducible repeat (first|apply qb|apply qc|apply qd));exact qg HO_14.out (fun _ hk=>trivial),by repeat (first|(with_reducible first|exact HB.out|apply qh|apply qi|apply qj|refine qk ?_ GE439.out|refine qk ?_ GE440.out)|exact HB.out)⟩
       rw [if_neg c47] at H
       exact absurd H (by simp)
      rw [if_neg c46] at H
      exact absurd H (by simp)
     rw [if_neg c45] at H
     exact absurd H (by simp)
    rw [if_neg c44] at H
    exact absurd H (by simp)
   rw [if_neg c41] at H
   exact absurd H (by simp)
  rw [if_neg c40] at H
  exact absurd H (by simp)
 rw [if_neg c39] at H
 exact absurd H (by simp)
end Go.Proofs.Ytcdkbdkanjifeaa.SFnExactProtectPacket
