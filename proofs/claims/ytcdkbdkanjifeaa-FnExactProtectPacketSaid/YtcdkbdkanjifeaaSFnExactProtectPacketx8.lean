/- The walk of functions that the law FnExactProtectPacket uses, written by program. -/
import Derived.Test.YtcdkbdkanjifeaaSFnExactProtectPacketx0
import Derived.Test.YtcdkbdkanjifeaaSFnExactProtectPacketx2
import Derived.Test.YtcdkbdkanjifeaaSFnExactProtectPacketx5
import Derived.Test.YtcdkbdkanjifeaaSFnExactProtectPacketx6
import Derived.Test.YtcdkbdkanjifeaaSFnExactProtectPacketx7
import Derived.Test.YtcdkbdkanjifeaaSteps2
import Derived.Test.YtcdkbdkanjifeaaSteps3
namespace Go.Proofs.Ytcdkbdkanjifeaa.SFnExactProtectPacket
open Go.Proofs.Ytcdkbdkanjifeaa.Steps3 Go.Proofs.Ytcdkbdkanjifeaa.Steps2 Go.RowKit Go.Proofs.YtcdkbdkanjifeaaW.PrintWords Go.Proofs.YtcdkbdkanjifeaaW.PrintLast Go.Proofs.YtcdkbdkanjifeaaW.PrintMore
open Go.Proofs.YtcdkbdkanjifeaaW.PrintWords renaming below_alloc → qh, pw_below_drewN → qi, below_drew1 → qj, below_set → qk, blk_drewN → ql, blk_drew → qn, blk_alloc → qo, below_size → qs, below_step → qt, blk_below → qv
open Go.Proofs.YtcdkbdkanjifeaaW.PrintWords.Kd renaming R_alloc → qb, R_drewN → qc, R_drew → qd, R_reads' → qe, R_mono → qg
open Go.Proofs.YtcdkbdkanjifeaaW.PrintWords.Aside0 renaming mk → qm
attribute [local go_sem] max2_int min2_int max_two min_two max_three min_three max_four min_four 
set_option linter.unusedVariables false
set_option linter.unusedSimpArgs false
mutual
def spec_HeadBytes.j0:Nat→Int→Bool→Int→Int→List Int→List Int→List Int→Int→Int→Int→Option (List Int×Int)
 |0,_,_,_,_,_,_,_,_,_,_=>none
 |k+1,x1,x20,x374000,x374001,x374002,x374003,x374004,x374005,x374006,x374007=>if x20=true then (some ((([]:List Int)),1)) else ((some (([]:List Int):List Int)).bind fun y378=>(if x374000=4 then (if y378.length<140737488355328 then ((some (y378 ++ [(wrap64 ((wrap64 ((wrap64 (64+(wrap64 (4*x374007))))+x374006)) - 1))%256]:List Int)).bind fun y381=>(if y381.length+x374002.length<140737488355328 then ((some (y381 ++ x374002:List Int)).bind fun y384=>((spec_CutNum.f k x374005 x374006).bind fun t387=>((spec_l01Digits.f k t387 x374006).bind fun t388=>(if y384.length+t388.length<140737488355328 then (some ((y384 ++ t388),0)) else (none))))) else (none))) else (none)) else (if x374000=2 then (spec_HeadBytes.j1 k x1 y378 2 x374000 x374001 x374002 x374003 x374004 x374005 x374006 x374007) else (spec_HeadBytes.j1 k x1 y378 0 x374000 x374001 x374002 x374003 x374004 x374005 x374006 x374007))))
def spec_HeadBytes.j1:Nat→Int→List Int→Int→Int→Int→List Int→List Int→List Int→Int→Int→Int→Option (List Int×Int)
 |0,_,_,_,_,_,_,_,_,_,_,_=>none
 |k+1,x1,x6,x7,x374000,x374001,x374002,x374003,x374004,x374005,x374006,x374007=>if x6.length<140737488355328 then ((some (x6 ++ [(wrap64 ((wrap64 ((wrap64 (192+(wrap64 (16*x7))))+x374006)) - 1))%256]:List Int)).bind fun y394=>((spec_l04Ids.f k x374001 x374002 x374003).bind fun t397=>(if y394.length+t397.length<140737488355328 then ((some (y394 ++ t397:List Int)).bind fun y400=>(if x374000=1 then ((spec_PutVar.f k (x374004.length:Int)).bind fun bt403=>(if y400.length+bt403.1.length<140737488355328 then ((some (y400 ++ bt403.1:List Int)).bind fun y407=>(if y407.length+x374004.length<140737488355328 then ((some (y407 ++ x374004:List Int)).bind fun y410=>((spec_l01Digits.f k (wrap64 ((wrap64 (16384+x1))+x374006)) 2).bind fun t413=>(if y410.length+t413.length<140737488355328 then ((some (y410 ++ t413:List Int)).bind fun y416=>((spec_CutNum.f k x374005 x374006).bind fun t419=>((spec_l01Digits.f k t419 x374006).bind fun t420=>(if y416.length+t420.length<140737488355328 then (some ((y416 ++ t420),0)) else (none))))) else (none)))) else (none))) else (none))) else ((spec_l01Digits.f k (wrap64 ((wrap64 (16384+x1))+x374006)) 2).bind fun t426=>(if y400.length+t426.length<140737488355328 then ((some (y400 ++ t426:List Int)).bind fun y429=>((spec_CutNum.f k x374005 x374006).bind fun t432=>((spec_l01Digits.f k t432 x374006).bind fun t433=>(if y429.length+t433.length<140737488355328 then (some ((y429 ++ t433),0)) else (none))))) else (none))))) else (none)))) else (none)
end
def spec_HeadBytes.f (k:Nat) (a0_0:Int) (a0_1:Int) (l0_2:List Int) (l0_3:List Int) (l0_4:List Int) (a0_5:Int) (a0_6:Int) (a0_7:Int) (a1:Int):Option (List Int×Int):=(spec_l04HeaderOK.f k a0_0 a0_1 l0_2 l0_3 l0_4 a0_5 a0_6 a0_7).bind fun t374=>(if t374=true then (if a1<8 then (spec_HeadBytes.j0 k a1 true a0_0 a0_1 l0_2 l0_3 l0_4 a0_5 a0_6 a0_7) else (spec_HeadBytes.j0 k a1 (decide (a1>1508)) a0_0 a0_1 l0_2 l0_3 l0_4 a0_5 a0_6 a0_7)) else (spec_HeadBytes.j0 k a1 true a0_0 a0_1 l0_2 l0_3 l0_4 a0_5 a0_6 a0_7))
def spec_HeadBytes.T17:Bool×List (List Nat×List Nat):=(true,[([],[]),([],[]),([1],[1]),([],[]),([3],[3]),([2,4],[2,4]),([],[]),([6],[6]),([5,7,5],[5,7]),([0,8,8],[0,8]),([9,9,0,1,2,3,4,5,6,7,8,9],[9]),([10,0,1,2,3,4,5,6,7,8,9,10],[])])
def spec_HeadBytes.B17:List Nat:=[0,0,2,0,8,30,0,64,254,511,1023,2047]
theorem spec_HeadBytes.tab17:rtab .any (opsOf Try.f45 17)=spec_HeadBytes.T17:=by kernel_rfl
theorem spec_HeadBytes.bits17:waitsOk spec_HeadBytes.T17.2 spec_HeadBytes.B17=true:=by kernel_rfl
set_option maxHeartbeats 8000000 in
set_option maxRecDepth 100000 in
theorem spec_HeadBytes.calls (k:Nat) (a0_0:Int) (a0_1:Int) (A0_2:Option Addr) (c0_2:Nat) (l0_2:List Int) (A0_3:Option Addr) (c0_3:Nat) (l0_3:List Int) (A0_4:Option Addr) (c0_4:Nat) (l0_4:List Int) (a0_5:Int) (a0_6:Int) (a0_7:Int) (a1:Int) (r1:List Int) (r2:Int) (w:World) (hr0_2:Kd.C (Kd.int .u8) w A0_2 l0_2.length l0_2) (hc0_2:l0_2.length≤c0_2) (hr0_3:Kd.C (Kd.int .u8) w A0_3 l0_3.length l0_3) (hc0_3:l0_3.length≤c0_3) (hr0_4:Kd.C (Kd.int .u8) w A0_4 l0_4.length l0_4) (hc0_4:l0_4.length≤c0_4) (h:spec_HeadBytes.f k a0_0 a0_1 l0_2 l0_3 l0_4 a0_5 a0_6 a0_7 a1=some (r1,r2)) :
  Calls Try.prog 45 #[.agg #[.int .i64 a0_0, .int .i64 a0_1, .slice A0_2 l0_2.length c0_2, .slice A0_3 l0_3.length c0_3, .slice A0_4 l0_4.length c0_4, .int .i64 a0_5, .int .i64 a0_6, .int .i64 a0_7], .int .i64 a1] w fun e w' =>∃ v0_:Value,e = .returned (.tuple #[v0_, .int .i64 r2])∧Kd.R (Kd.int .u8) 5 w' w.heap.size (fun _=>True) v0_ r1∧Below w.heap.size w w' :=by
 have hu45:=Try.underlying45
 have HR0_2:=qm hr0_2
 have HC0_2:=qm hc0_2
 clear hr0_2 hc0_2
 have HR0_3:=qm hr0_3
 have HC0_3:=qm hc0_3
 clear hr0_3 hc0_3
 have HR0_4:=qm hr0_4
 have HC0_4:=qm hc0_4
 clear hr0_4 hc0_4
 have HB:=qm (Below.refl w.heap.size w)
 have H:((spec_l04HeaderOK.f k a0_0 a0_1 l0_2 l0_3 l0_4 a0_5 a0_6 a0_7).bind fun t374=>(if t374=true then (if a1<8 then (spec_HeadBytes.j0 k a1 true a0_0 a0_1 l0_2 l0_3 l0_4 a0_5 a0_6 a0_7) else (spec_HeadBytes.j0 k a1 (decide (a1>1508)) a0_0 a0_1 l0_2 l0_3 l0_4 a0_5 a0_6 a0_7)) else (spec_HeadBytes.j0 k a1 true a0_0 a0_1 l0_2 l0_3 l0_4 a0_5 a0_6 a0_7)))=some (r1,r2):=h
 clear h
 have HC3:=qm H
 clear H
 go_enter Try.func45,Try.ntmps45
 go_upto_region 1 with (first|((with_reducible refine gate_dst (N:=2) rfl ?_);refine box_event (by rfl) (N:=2) (by rfl) (cs:=#[.int .i64 a0_0, .int .i64 a0_1, .slice A0_2 l0_2.length c0_2, .slice A0_3 l0_3.length c0_3, .slice A0_4 l0_4.length c0_4, .int .i64 a0_5, .int .i64 a0_6, .int .i64 a0_7]) (t:=45) (by first|(go_simp;done)|(go_simp;rfl)) ?_;intro gb373 hg w4 hbox hb;have _:=qm (qt (by repeat first|exact HB.out|apply qh|apply qi|apply qj) hb);have _:=qm (hbox);have _:=qm ((gs hg (qs (by repeat first|exact HB.out|apply qh|apply qi|apply qj))));have _:=qm ((gs hg (qs (by repeat first|exact HB.out|apply qh|apply qi|apply qj))));clear HB;rename_i HB BK373 GW373 GE373;clear hb hbox hg))
 (try simp only [Act.put,s1,s2,s3])
 go_cut [20] (fun v20 wc=>∃ (kq:Nat) (x20_2:Bool),v20 = .bool x20_2∧Aside0 (spec_HeadBytes.j0 kq a1 x20_2 a0_0 a0_1 l0_2 l0_3 l0_4 a0_5 a0_6 a0_7=some (r1,r2))∧Aside0 (kq≤k)∧Aside0 (wc.heap[gb373]? =some (.cells #[.int .i64 a0_0, .int .i64 a0_1,(.slice A0_2 l0_2.length c0_2),(.slice A0_3 l0_3.length c0_3),(.slice A0_4 l0_4.length c0_4), .int .i64 a0_5, .int .i64 a0_6, .int .i64 a0_7] 45 (0,0)))∧Aside0 (Below w.heap.size w wc))
 case first=>
  have H:=HC3.out
  clear HC3
  replace H:=Option.bind_eq_some_iff.mp H
  obtain ⟨t374,A50,H⟩:=H
  try dsimp only at H
  have A5:=qm A50
  clear A50
  by_cases c6:t374=true
  ·subst c6
   rw [if_pos rfl] at H
   by_cases c7:a1<8
   ·rw [if_pos c7] at H
    have c7b0:decide (a1<8)=true:=decide_eq_true c7
    clear c7
    (first|rw [c7b0]|(simp only [i64_w,i32_w];rw [c7b0])|skip)
    have H' :=qm H
    clear H
    obtain ⟨_,_,_,_,_,_,_,_,_,_,_,_,_,_,_,_⟩:=fc8 BK373.out
    go_wp2_with (first|((with_reducible refine gate_callee (f:=71) rfl ?_);refine goesL_ (some 11) rfl rfl Try.func71 (by kernel_rfl) rfl #[.agg #[.int .i64 a0_0, .int .i64 a0_1, .slice A0_2 l0_2.length c0_2, .slice A0_3 l0_3.length c0_3, .slice A0_4 l0_4.length c0_4, .int .i64 a0_5, .int .i64 a0_6, .int .i64 a0_7]] rfl (by (try simp only [m1,m2,m3]);first|done|rfl) ?_;(with_reducible refine (spec_l04HeaderOK.calls k a0_0 a0_1 _ _ l0_2 _ _ l0_3 _ _ l0_4 a0_5 a0_6 a0_7 true _ ?side1 ?side2 ?side3 ?side4 ?side5 ?side6 A5.out).mono ?_);(case side1=>exact cb (Kd.C_below HR0_2.out HB.out));(case side2=>exact HC0_2.out);(case side3=>exact cb (Kd.C_below HR0_3.out HB.out));(case side4=>exact HC0_3.out);(case side5=>exact cb (Kd.C_below HR0_4.out HB.out));(case side6=>exact HC0_4.out);rintro e w9 ⟨rfl,hb⟩;refine ⟨_,rfl,?_⟩;have _:=qm (qv (g:=gb373) (o:= .cells #[.int .i64 a0_0, .int .i64 a0_1, .slice A0_2 l0_2.length c0_2, .slice A0_3 l0_3.length c0_3, .slice A0_4 l0_4.length c0_4, .int .i64 a0_5, .int .i64 a0_6, .int .i64 a0_7] 45 (0,0)) (kb BK373.out) hb);have _:=qm (qt (by repeat first|exact HB.out|apply qh|apply qi|apply qj|refine bk ?_) hb);clear BK373 HB;rename_i BK373 HB))
    go_meet
    case rel=>exact ⟨_,(true),rfl,H',⟨by first|omega|exact Nat.le_refl _⟩,⟨BK373.out⟩,⟨by repeat (first|(with_reducible first|exact HB.out|apply qh|apply qi|apply qj|refine qk ?_ GE373.out)|exact HB.out)⟩⟩
   rw [if_neg c7] at H
   have c7b0:decide (a1<8)=false:=decide_eq_false c7
   clear c7
   (first|rw [c7b0]|(simp only [i64_w,i32_w];rw [c7b0])|skip)
   have H' :=qm H
   clear H
   obtain ⟨_,_,_,_,_,_,_,_,_,_,_,_,_,_,_,_⟩:=fc8 BK373.out
   go_wp2_with (first|((with_reducible refine gate_callee (f:=71) rfl ?_);refine goesL_ (some 11) rfl rfl Try.func71 (by kernel_rfl) rfl #[.agg #[.int .i64 a0_0, .int .i64 a0_1, .slice A0_2 l0_2.length c0_2, .slice A0_3 l0_3.length c0_3, .slice A0_4 l0_4.length c0_4, .int .i64 a0_5, .int .i64 a0_6, .int .i64 a0_7]] rfl (by (try simp only [m1,m2,m3]);first|done|rfl) ?_;(with_reducible refine (spec_l04HeaderOK.calls k a0_0 a0_1 _ _ l0_2 _ _ l0_3 _ _ l0_4 a0_5 a0_6 a0_7 true _ ?side1 ?side2 ?side3 ?side4 ?side5 ?side6 A5.out).mono ?_);(case side1=>exact cb (Kd.C_below HR0_2.out HB.out));(case side2=>exact HC0_2.out);(case side3=>exact cb (Kd.C_below HR0_3.out HB.out));(case side4=>exact HC0_3.out);(case side5=>exact cb (Kd.C_below HR0_4.out HB.out));(case side6=>exact HC0_4.out);rintro e w11 ⟨rfl,hb⟩;refine ⟨_,rfl,?_⟩;have _:=qm (qv (g:=gb373) (o:= .cells #[.int .i64 a0_0, .int .i64 a0_1, .slice A0_2 l0_2.length c0_2, .slice A0_3 l0_3.length c0_3, .slice A0_4 l0_4.length c0_4, .int .i64 a0_5, .int .i64 a0_6, .int .i64 a0_7] 45 (0,0)) (kb BK373.out) hb);have _:=qm (qt (by repeat first|exact HB.out|apply qh|apply qi|apply qj|refine bk ?_) hb);clear BK373 HB;rename_i BK373 HB))
   go_meet
   case rel=>exact ⟨_,(decide (a1>1508)),rfl,H',⟨by first|omega|exact Nat.le_refl _⟩,⟨BK373.out⟩,⟨by repeat (first|(with_reducible first|exact HB.out|apply qh|apply qi|apply qj|refine qk ?_ GE373.out)|exact HB.out)⟩⟩
  replace c6:=Bool.eq_false_iff.mpr c6
  subst c6
  rw [if_neg nt] at H
  have H' :=qm H
  clear H
  obtain ⟨_,_,_,_,_,_,_,_,_,_,_,_,_,_,_,_⟩:=fc8 BK373.out
  go_wp2_with (first|((with_reducible refine gate_callee (f:=71) rfl ?_);refine goesL_ (some 11) rfl rfl Try.func71 (by kernel_rfl) rfl #[.agg #[.int .i64 a0_0, .int .i64 a0_1, .slice A0_2 l0_2.length c0_2, .slice A0_3 l0_3.length c0_3, .slice A0_4 l0_4.length c0_4, .int .i64 a0_5, .int .i64 a0_6, .int .i64 a0_7]] rfl (by (try simp only [m1,m2,m3]);first|done|rfl) ?_;(with_reducible refine (spec_l04HeaderOK.calls k a0_0 a0_1 _ _ l0_2 _ _ l0_3 _ _ l0_4 a0_5 a0_6 a0_7 false _ ?side1 ?side2 ?side3 ?side4 ?side5 ?side6 A5.out).mono ?_);(case side1=>exact cb (Kd.C_below HR0_2.out HB.out));(case side2=>exact HC0_2.out);(case side3=>exact cb (Kd.C_below HR0_3.out HB.out));(case side4=>exact HC0_3.out);(case side5=>exact cb (Kd.C_below HR0_4.out HB.out));(case side6=>exact HC0_4.out);rintro e w13 ⟨rfl,hb⟩;refine ⟨_,rfl,?_⟩;have _:=qm (qv (g:=gb373) (o:= .cells #[.int .i64 a0_0, .int .i64 a0_1, .slice A0_2 l0_2.length c0_2, .slice A0_3 l0_3.length c0_3, .slice A0_4 l0_4.length c0_4, .int .i64 a0_5, .int .i64 a0_6, .int .i64 a0_7] 45 (0,0)) (kb BK373.out) hb);have _:=qm (qt (by repeat first|exact HB.out|apply qh|apply qi|apply qj|refine bk ?_) hb);clear BK373 HB;rename_i BK373 HB))
  go_meet
  case rel=>exact ⟨_,(true),rfl,H',⟨by first|omega|exact Nat.le_refl _⟩,⟨BK373.out⟩,⟨by repeat (first|(with_reducible first|exact HB.out|apply qh|apply qi|apply qj|refine qk ?_ GE373.out)|exact HB.out)⟩⟩
 clear HC3
 obtain ⟨kq,x20_2,rfl,HA,HJ2,BK373,HB⟩:=hcut
 cases kq with
 |zero=>exact absurd HA.out (by simp [spec_HeadBytes.j0])
 |succ kj2=>?_
 have H:=HA.out
 clear HA
 simp only [spec_HeadBytes.j0] at H
 by_cases c14:x20_2=true
 ·subst c14
  rw [if_pos rfl] at H
  obtain ⟨y375,hy375⟩:∃ y_:List Int,y_=(([]:List Int)):=⟨_,rfl⟩
  replace H:(some (y375,1))=some (r1,r2):=by first|(rw [hy375];with_reducible exact H)|(have H2_:=(Option.bind_some _ _).symm.trans H;rw [hy375];with_reducible exact H2_)|(have H2_:=(Option.bind_some _ _).symm.trans H;with_reducible exact H2_)|with_reducible exact H|(rw [hy375];exact H)|exact H
  have Ny375:=qm hy375
  clear hy375
  simp only [Option.some.injEq,Prod.mk.injEq] at H
  obtain ⟨rfl,rfl⟩:=H
  go_wp2_with (first|((with_reducible refine gate_dst (N:=21) rfl ?_);refine Kd.R_lit (Kd.int .u8) _ 5 ?hg (N:=21) ?hd (xs:=([]:List Int)) (inner:=[]) (ok:=fun _=>True) (okp:=fun _=>True) ?hr ?hp (fun _ hk=>hk) trivial (Below.refl _ _) (Nat.le_refl _) (by simp) ?_;(case hd=>rfl);(case hg=>rfl);(case hr=>first|(go_simp;done)|(go_simp;rfl));(case hp=>exact (Reps.none _ _));intro v376 w15 ho16 hb hg_ hnew_;clear hg_ hnew_;(first|rw [←Ny375.out] at ho16|(simp only [Int.reduceToNat] at ho16;rw [←Ny375.out] at ho16));have _:=qm (Kd.R_lower ho16 (qs (by repeat first|exact HB.out|apply qh|apply qi|apply qj|refine bk ?_)));have _:=qm (qv (g:=gb373) (o:= .cells #[.int .i64 a0_0, .int .i64 a0_1, .slice A0_2 l0_2.length c0_2, .slice A0_3 l0_3.length c0_3, .slice A0_4 l0_4.length c0_4, .int .i64 a0_5, .int .i64 a0_6, .int .i64 a0_7] 45 (0,0)) (kb BK373.out) hb);have _:=qm (qt (by repeat first|exact HB.out|apply qh|apply qi|apply qj|refine bk ?_) hb);clear BK373 HB;rename_i HO377 BK373 HB;clear hb ho16))
  go_ret2
  exact ⟨_,by first|rfl|(simp <;> rfl)|(simp [*] <;> rfl),by (with_reducible repeat (first|apply qb|apply qc|apply qd));exact HO377.out,by repeat (first|(with_reducible first|exact HB.out|apply qh|apply qi|apply qj|refine qk ?_ GE373.out)|exact HB.out)⟩
 replace c14:=Bool.eq_false_iff.mpr c14
 subst c14
 rw [if_neg nt] at H
 obtain ⟨y378,hy378⟩:∃ y_:List Int,y_=(([]:List Int)):=⟨_,rfl⟩
 replace H:(if a0_0=4 then (if y378.length<140737488355328 then ((some (y378 ++ [(wrap64 ((wrap64 ((wrap64 (64+(wrap64 (4*a0_7))))+a0_6)) - 1))%256]:List Int)).bind fun y381=>(if y381.length+l0_2.length<140737488355328 then ((some (y381 ++ l0_2:List Int)).bind fun y384=>((spec_CutNum.f kj2 a0_5 a0_6).bind fun t387=>((spec_l01Digits.f kj2 t387 a0_6).bind fun t388=>(if y384.length+t388.length<140737488355328 then (some ((y384 ++ t388),0)) else (none))))) else (none))) else (none)) else (if a0_0=2 then (spec_HeadBytes.j1 kj2 a1 y378 2 a0_0 a0_1 l0_2 l0_3 l0_4 a0_5 a0_6 a0_7) else (spec_HeadBytes.j1 kj2 a1 y378 0 a0_0 a0_1 l0_2 l0_3 l0_4 a0_5 a0_6 a0_7)))=some (r1,r2):=by first|(rw [hy378];with_reducible exact H)|(have H2_:=(Option.bind_some _ _).symm.trans H;rw [hy378];with_reducible exact H2_)|(have H2_:=(Option.bind_some _ _).symm.trans H;with_reducible exact H2_)|with_reducible exact H|(rw [hy378];exact H)|exact H
 have Ny378:=qm hy378
 clear hy378
 by_cases c17:a0_0=4
 ·rw [if_pos c17] at H
  have c17b0:(a0_0 == 4)=true:=beq_iff_eq.mpr c17
  have c17b1:(a0_0 != 4)=false:=bne_eq_false_iff_eq.mpr c17
  clear c17
  by_cases c18:y378.length<140737488355328
  ·rw [if_pos c18] at H
   have LMc18:=qm c18
   clear c18
   obtain ⟨y381,hy381⟩:∃ y_:List Int,y_=(y378 ++ [(wrap64 ((wrap64 ((wrap64 (64+(wrap64 (4*a0_7))))+a0_6)) - 1))%256]):=⟨_,rfl⟩
   replace H:(if y381.length+l0_2.length<140737488355328 then ((some (y381 ++ l0_2:List Int)).bind fun y384=>((spec_CutNum.f kj2 a0_5 a0_6).bind fun t387=>((spec_l01Digits.f kj2 t387 a0_6).bind fun t388=>(if y384.length+t388.length<140737488355328 then (some ((y384 ++ t388),0)) else (none))))) else (none))=some (r1,r2):=by first|(rw [hy381];with_reducible exact H)|(have H2_:=(Option.bind_some _ _).symm.trans H;rw [hy381];with_reducible exact H2_)|(have H2_:=(Option.bind_some _ _).symm.trans H;with_reducible exact H2_)|with_reducible exact H|(rw [hy381];exact H)|exact H
   have Ny381:=qm hy381
   clear hy381
   by_cases c19:y381.length+l0_2.length<140737488355328
   ·rw [if_pos c19] at H
    have LMc19:=qm c19
    clear c19
    obtain ⟨y384,hy384⟩:∃ y_:List Int,y_=(y381 ++ l0_2):=⟨_,rfl⟩
    replace H:((spec_CutNum.f kj2 a0_5 a0_6).bind fun t387=>((spec_l01Digits.f kj2 t387 a0_6).bind fun t388=>(if y384.length+t388.length<140737488355328 then (some ((y384 ++ t388),0)) else (none))))=some (r1,r2):=by first|(rw [hy384];with_reducible exact H)|(have H2_:=(Option.bind_some _ _).symm.trans H;rw [hy384];with_reducible exact H2_)|(have H2_:=(Option.bind_some _ _).symm.trans H;with_reducible exact H2_)|with_reducible exact H|(rw [hy384];exact H)|exact H
    have Ny384:=qm hy384
    clear hy384
    replace H:=Option.bind_eq_some_iff.mp H
    obtain ⟨t387,A200,H⟩:=H
    try dsimp only at H
    have A20:=qm A200
    clear A200
    replace H:=Option.bind_eq_some_iff.mp H
    obtain ⟨t388,A210,H⟩:=H
    try dsimp only at H
    have A21:=qm A210
    clear A210
    by_cases c22:y384.length+t388.length<140737488355328
    ·rw [if_pos c22] at H
     have LMc22:=qm c22
     clear c22
     obtain ⟨y391,hy391⟩:∃ y_:List Int,y_=(y384 ++ t388):=⟨_,rfl⟩
     replace H:(some (y391,0))=some (r1,r2):=by first|(rw [hy391];with_reducible exact H)|(have H2_:=(Option.bind_some _ _).symm.trans H;rw [hy391];with_reducible exact H2_)|(have H2_:=(Option.bind_some _ _).symm.trans H;with_reducible exact H2_)|with_reducible exact H|(rw [hy391];exact H)|exact H
     have Ny391:=qm hy391
     clear hy391
     simp only [Option.some.injEq,Prod.mk.injEq] at H
     obtain ⟨rfl,rfl⟩:=H
     try go_wp2_with (first|((with_reducible refine gate_dst (N:=22) rfl ?_);refine Kd.R_lit (Kd.int .u8) _ 5 ?hg (N:=22) ?hd (xs:=([]:List Int)) (inner:=[]) (ok:=fun _=>True) (okp:=fun _=>True) ?hr ?hp (fun _ hk=>hk) trivial (Below.refl _ _) (Nat.le_refl _) (by simp) ?_;(case hd=>rfl);(case hg=>rfl);(case hr=>first|(go_simp;done)|(go_simp;rfl));(case hp=>exact (Reps.none _ _));intro v379 w23 ho24 hb hg_ hnew_;clear hg_ hnew_;(first|rw [←Ny378.out] at ho24|(simp only [Int.reduceToNat] at ho24;rw [←Ny378.out] at ho24));have _:=qm (Kd.R_lower ho24 (qs (by repeat first|exact HB.out|apply qh|apply qi|apply qj|refine bk ?_)));have _:=qm (qv (g:=gb373) (o:= .cells #[.int .i64 a0_0, .int .i64 a0_1, .slice A0_2 l0_2.length c0_2, .slice A0_3 l0_3.length c0_3, .slice A0_4 l0_4.length c0_4, .int .i64 a0_5, .int .i64 a0_6, .int .i64 a0_7] 45 (0,0)) (kb BK373.out) hb);have _:=qm (qt (by repeat first|exact HB.out|apply qh|apply qi|apply qj|refine bk ?_) hb);clear BK373 HB;rename_i HO380 BK373 HB;clear hb ho24;obtain ⟨_,_,_,_,_,_,_,_,_,_,_,_,_,_,_,_⟩:=fc8 BK373.out)|((with_reducible refine gate_builtin (b:= .append) (xs:=#[.tmp 26, .tmp 36]) rfl ?_);at_builtin;refine Kd.R_append (Kd.int .u8) (w0:=w) w.heap.size rfl (.tmp 26) (.tmp 36) 22 5 (.int .u8 0) 1 rfl Try.underlying22 info5 rfl (by decide) (by omega) v379 y378 ((wrap64 ((wrap64 ((wrap64 (64+(wrap64 (4*a0_7))))+a0_6)) - 1))%256) [.int .u8 ((wrap64 ((wrap64 ((wrap64 (64+(wrap64 (4*a0_7))))+a0_6)) - 1))%256)] (fun _=>True) (fun _=>False) rfl rfl ?aP (fun _ hk=>hk.elim) ?aF ?aO ?aB ?aS ?aL ?_;(case aP=>exact rfl);(case aB=>exact (by repeat first|exact HB.out|apply qh|apply qi|apply qj|refine bk ?_));(case aF=>exact (fun _ _=>trivial));(case aO=>exact (rb HO380.out));(case aS=>exact (qs (by repeat first|exact HB.out|apply qh|apply qi|apply qj|refine bk ?_)));(case aL=>have:=LMc18.out;omega);intro v382 w26 ho hb hg hat;rw [←Ny381.out] at ho;have _:=qm (blk_grown (g:=gb373) (o:= .cells #[.int .i64 a0_0, .int .i64 a0_1, .slice A0_2 l0_2.length c0_2, .slice A0_3 l0_3.length c0_3, .slice A0_4 l0_4.length c0_4, .int .i64 a0_5, .int .i64 a0_6, .int .i64 a0_7] 45 (0,0)) (kb BK373.out) hg (Kd.R_ne HO380.out BK373.out (by decide)));have _:=qm (hb);have _:=qm (ho);clear BK373 HB HO380;rename_i BK373 HB HO383;clear ho hb hg hat;obtain ⟨_,_,_,_,_,_,_,_,_,_,_,_,_,_,_,_⟩:=fc8 BK373.out)|((with_reducible refine gate_builtin (b:= .append) (xs:=#[.tmp 38, .tmp 40]) rfl ?_);at_builtin;refine Kd.R_append_rows (Kd.int .u8) (w0:=w) w.heap.size rfl (.tmp 38) (.tmp 40) 22 5 (.int .u8 0) 1 rfl Try.underlying22 info5 rfl (by decide) (by omega) v382 y381 l0_2 _ _ _ (fun _=>True) (fun _=>False) rfl rfl ?aO ?aR (fun _ _ h=>h) (fun _ h=>h.elim) ?aF ?aB ?aS ?aL ?_;(case aR=>exact cb (Kd.C_below HR0_2.out HB.out));(case aB=>exact (by repeat first|exact HB.out|apply qh|apply qi|apply qj|refine bk ?_));(case aF=>exact (fun _ _=>trivial));(case aO=>exact (rb HO383.out));(case aS=>exact (qs (by repeat first|exact HB.out|apply qh|apply qi|apply qj|refine bk ?_)));(case aL=>have:=LMc19.out;omega);intro v385 w28 ho hb hg hat;rw [←Ny384.out] at ho;have _:=qm (blk_grown (g:=gb373) (o:= .cells #[.int .i64 a0_0, .int .i64 a0_1, .slice A0_2 l0_2.length c0_2, .slice A0_3 l0_3.length c0_3, .slice A0_4 l0_4.length c0_4, .int .i64 a0_5, .int .i64 a0_6, .int .i64 a0_7] 45 (0,0)) (kb BK373.out) hg (Kd.R_ne HO383.out BK373.out (by decide)));have _:=qm (hb);have _:=qm (ho);clear BK373 HB HO383;rename_i BK373 HB HO386;clear ho hb hg hat))
     have _:=qm (qd HO386.out)
     have _:=qm (qn BK373.out)
     have _:=qm (qj HB.out)
     clear HO386 BK373 HB
     rename_i HO386 BK373 HB
     refine start_ (n:=12) (S:=fun w' =>w'.cell? ⟨gb373,0,none⟩=some (.int .i64 a0_0)∧w'.cell? ⟨gb373,1,none⟩=some (.int .i64 a0_1)∧w'.cell? ⟨gb373,2,none⟩=some (.slice A0_2 l0_2.length c0_2)∧w'.cell? ⟨gb373,3,none⟩=some (.slice A0_3 l0_3.length c0_3)∧w'.cell? ⟨gb373,4,none⟩=some (.slice A0_4 l0_4.length c0_4)∧w'.cell? ⟨gb373,5,none⟩=some (.int .i64 a0_5)∧w'.cell? ⟨gb373,6,none⟩=some (.int .i64 a0_6)∧w'.cell? ⟨gb373,7,none⟩=some (.int .i64 a0_7)) (ds:=[]) (bm 0 12) (by kernel_rfl) rfl rfl (fz8 BK373.out) (fun hHeld=>?_);refine with_tabW spec_HeadBytes.tab17 spec_HeadBytes.bits17 (fun HT_ HW_=>?_)
     generalize w28.drew=w29 at HO386 BK373 HB hHeld ⊢
     refine pu 0 90 (bm 1 12) HT_ (h:=⟨_,by intro w';go_simp;with_reducible rfl,_,by simp only [Act.put,s1,s2,s3,i64_w,i32_w];rfl,?_⟩)
     refine pu 1 91 (bm 2 12) HT_ (h:=⟨_,by intro w';go_simp;with_reducible rfl,_,by simp only [Act.put,s1,s2,s3,i64_w,i32_w];rfl,?_⟩)
     refine pu 3 93 (bb 11 12) HT_ (h:=⟨_,by intro w';go_simp;with_reducible rfl,_,by simp only [Act.put,s1,s2,s3,i64_w,i32_w];rfl,?_⟩)
     refine pu 6 96 (bb 75 12) HT_ (h:=⟨_,by intro w';go_simp;with_reducible rfl,_,by simp only [Act.put,s1,s2,s3,i64_w,i32_w];rfl,?_⟩)
     refine tk 2 92 (bb 79 12) HT_ HW_ (hS:=hHeld) (h:=⟨_,by rintro w' ⟨s0,s1,s2,s3,s4,s5,s6,s7⟩;go_simp;with_reducible rfl,_,by simp only [Act.put,s1,s2,s3,i64_w,i32_w];rfl,?_⟩)
     refine tk 4 94 (bb 95 12) HT_ HW_ (hS:=hHeld) (h:=⟨_,by rintro w' ⟨s0,s1,s2,s3,s4,s5,s6,s7⟩;go_simp;with_reducible rfl,_,by simp only [Act.put,s1,s2,s3,i64_w,i32_w];rfl,?_⟩)
     refine tk 7 97 (bb 223 12) HT_ HW_ (hS:=hHeld) (h:=⟨_,by rintro w' ⟨s0,s1,s2,s3,s4,s5,s6,s7⟩;go_simp;with_reducible rfl,_,by simp only [Act.put,s1,s2,s3,i64_w,i32_w];rfl,?_⟩)
     refine one_ (i:=5) (N:=some 95) (bm 8 12) rfl rfl (one_of HT_.out (by kernel_rfl)) (by decide) (fun K hK=>?_)
     refine goes_ Try.func73 (by kernel_rfl) rfl #[.int .i64 a0_5, .int .i64 a0_6] (by rfl) rfl rfl (by (try simp only [m1,m2,m3]);first|done|rfl) ?_
     with_reducible refine (spec_CutNum.calls kj2 a0_5 a0_6 t387 _ A20.out).mono ?_
     rintro e w' ⟨rfl,⟨nd,rfl⟩⟩
     refine ⟨_,rfl,?_⟩
     refine hK.out _ _ (fz8 BK373.out) (fun hHeld=>?_)
     clear hK K
     refine norm_ (a' :=?_) ?_ ?_
     rotate_left
     ·show Act.put _ (some 95) _=_
      simp only [Act.put,s1,s2,s3,i64_w,i32_w]
      rfl
     refine one_ (i:=8) (N:=some 98) (bm 9 12) rfl rfl (one_of HT_.out (by kernel_rfl)) (by decide) (fun K hK=>?_)
     refine goes_ Try.func64 (by kernel_rfl) rfl #[.int .i64 t387, .int .i64 a0_6] (by rfl) rfl rfl (by (try simp only [m1,m2,m3]);first|done|rfl) ?_
     with_reducible refine (spec_l01Digits.calls kj2 t387 a0_6 t388 _ A21.out).mono ?_
     rintro e w30 ⟨v389,rfl,ho0,hb⟩
     refine ⟨_,rfl,?_⟩
     have _:=qm (Kd.R_elder' (rb HO386.out) (Kd.R_base ho0) hb)
     have _:=qm (Kd.R_lower (nw ho0 (rb HO386.out)) (qs (by repeat first|exact HB.out|apply qh|apply qi|apply qj|refine bk ?_)))
     have _:=qm (qv (g:=gb373) (o:= .cells #[.int .i64 a0_0, .int .i64 a0_1, .slice A0_2 l0_2.length c0_2, .slice A0_3 l0_3.length c0_3, .slice A0_4 l0_4.length c0_4, .int .i64 a0_5, .int .i64 a0_6, .int .i64 a0_7] 45 (0,0)) (kb BK373.out) hb)
     have _:=qm (qt (by repeat first|exact HB.out|apply qh|apply qi|apply qj|refine bk ?_) hb)
     clear HO386 BK373 HB
     rename_i HO386 HO390 BK373 HB
     (try clear hb)
     (try clear hb2)
     (try clear hk)
     (try clear hi)
     (try clear ho0)
     obtain ⟨Ao32,co32,eo32⟩:=Kd.R_slice HO390.out
     (first|subst eo32|(injection eo32 with f1_ f2_ f3_;have f4_:=f1_.symm;have f5_:=f3_.symm;clear f1_ f2_ f3_;subst f4_;subst f5_))
     refine hK.out _ _ (fz8 BK373.out) (fun hHeld=>?_)
     clear hK K
     refine norm_ (a' :=?_) ?_ ?_
     rotate_left
     ·show Act.put _ (some 98) _=_
      simp only [Act.put,s1,s2,s3,i64_w,i32_w]
      rfl
     refine one_ (i:=9) (N:=some 99) (bm 10 12) rfl rfl (one_of HT_.out (by kernel_rfl)) (by decide) (fun K hK=>?_)
     refine Kd.R_append_rows_step (Kd.int .u8) (w0:=w) w.heap.size (by rfl) (.tmp 90) (.tmp 98) 22 5 (.int .u8 0) 1 rfl Try.underlying22 info5 rfl (by decide) (by omega) v385 y384 t388 _ _ _ (fun k_=>ob k_ (.slice Ao32 t388.length co32)) (fun _=>False) rfl rfl ?aO ?aR (fun _ _ h=>h) (fun _ h=>h.elim) ?aF ?aB ?aS ?aL ?_
     (case aR=>exact cb ((qe HO390.out).2.2))
     (case aB=>exact (by repeat first|exact HB.out|apply qh|apply qi|apply qj|refine bk ?_))
     (case aF=>exact (fun k_ hk=>Kd.fresh' (Kd.R_lt (rb HO390.out)) k_ hk))
     (case aO=>exact (rb (qg HO386.out (fun _ hk=>hk.2))))
     (case aS=>exact (qs (by repeat first|exact HB.out|apply qh|apply qi|apply qj|refine bk ?_)))
     (case aL=>have:=LMc22.out;omega)
     intro v392 w31 ho hb hg hat
     rw [←Ny391.out] at ho
     have _:=qm (blk_grown (g:=gb373) (o:= .cells #[.int .i64 a0_0, .int .i64 a0_1, .slice A0_2 l0_2.length c0_2, .slice A0_3 l0_3.length c0_3, .slice A0_4 l0_4.length c0_4, .int .i64 a0_5, .int .i64 a0_6, .int .i64 a0_7] 45 (0,0)) (kb BK373.out) hg (Kd.R_ne HO386.out BK373.out (by decide)))
     have _:=qm (Kd.R_after (ok:=(fun _=>True)) (rb HO390.out) hg hat)
     have _:=qm (hb)
     have _:=qm (ho)
     clear BK373 HO390 HB HO386
     rename_i BK373 HO390 HB HO393
     clear ho hb hg hat
     refine hK.out _ _ (fz8 BK373.out) (fun hHeld=>?_)
     clear hK K
     refine norm_ (a' :=?_) ?_ ?_
     rotate_left
     ·show Act.put _ (some 99) _=_
      simp only [Act.put,s1,s2,s3,i64_w,i32_w]
      rfl
     refine pu 10 4 (bm 11 12) HT_ (h:=⟨_,by intro w';go_simp;with_reducible rfl,_,by simp only [Act.put,s1,s2,s3,i64_w,i32_w];rfl,?_⟩)
     refine pu 11 5 (bm 12 12) HT_ (h:=⟨_,by intro w';go_simp;with_reducible rfl,_,by simp only [Act.put,s1,s2,s3,i64_w,i32_w];rfl,?_⟩)
     refine done_ (done_of HT_.out (by kernel_rfl)) ?_
     try go_wp2
     go_ret2
     exact ⟨_,by first|rfl|(simp <;> rfl)|(simp [*] <;> rfl),by (with_reducible repeat (first|apply qb|apply qc|apply qd));exact qg HO393.out (fun _ hk=>trivial),by repeat (first|(with_reducible first|exact HB.out|apply qh|apply qi|apply qj|refine qk ?_ GE373.out)|exact HB.out)⟩
    rw [if_neg c22] at H
    exact absurd H (by simp)
   rw [if_neg c19] at H
   exact absurd H (by simp)
  rw [if_neg c18] at H
  exact absurd H (by simp)
 rw [if_neg c17] at H
 have c17b0:(a0_0 == 4)=false:=beq_eq_false_iff_ne.mpr c17
 have c17b1:(a0_0 != 4)=true:=bne_iff_ne.mpr c17
 have HC33:=qm H
 clear H
 go_upto_if 44 with (first|((with_reducible refine gate_dst (N:=22) rfl ?_);refine Kd.R_lit (Kd.int .u8) _ 5 ?hg (N:=22) ?hd (xs:=([]:List Int)) (inner:=[]) (ok:=fun _=>True) (okp:=fun _=>True) ?hr ?hp (fun _ hk=>hk) trivial (Below.refl _ _) (Nat.le_refl _) (by simp) ?_;(case hd=>rfl);(case hg=>rfl);(case hr=>first|(go_simp;done)|(go_simp;rfl));(case hp=>exact (Reps.none _ _));intro v379 w34 ho35 hb hg_ hnew_;clear hg_ hnew_;(first|rw [←Ny378.out] at ho35|(simp only [Int.reduceToNat] at ho35;rw [←Ny378.out] at ho35));have _:=qm (Kd.R_lower ho35 (qs (by repeat first|exact HB.out|apply qh|apply qi|apply qj|refine bk ?_)));have _:=qm (qv (g:=gb373) (o:= .cells #[.int .i64 a0_0, .int .i64 a0_1, .slice A0_2 l0_2.length c0_2, .slice A0_3 l0_3.length c0_3, .slice A0_4 l0_4.length c0_4, .int .i64 a0_5, .int .i64 a0_6, .int .i64 a0_7] 45 (0,0)) (kb BK373.out) hb);have _:=qm (qt (by repeat first|exact HB.out|apply qh|apply qi|apply qj|refine bk ?_) hb);clear BK373 HB;rename_i HO380 BK373 HB;clear hb ho35;obtain ⟨_,_,_,_,_,_,_,_,_,_,_,_,_,_,_,_⟩:=fc8 BK373.out))
 (try simp only [Act.put,s1,s2,s3])
 go_cut [7] (fun v7 wc=>∃ (kq:Nat) (x7_32:Int),v7 = .int .i64 x7_32∧Aside0 (spec_HeadBytes.j1 kq a1 y378 x7_32 a0_0 a0_1 l0_2 l0_3 l0_4 a0_5 a0_6 a0_7=some (r1,r2))∧Aside0 (kq≤kj2)∧Aside0 (Kd.R (Kd.int .u8) 5 wc w.heap.size (fun _=>True) v379 y378)∧Aside0 (wc.heap[gb373]? =some (.cells #[.int .i64 a0_0, .int .i64 a0_1,(.slice A0_2 l0_2.length c0_2),(.slice A0_3 l0_3.length c0_3),(.slice A0_4 l0_4.length c0_4), .int .i64 a0_5, .int .i64 a0_6, .int .i64 a0_7] 45 (0,0)))∧Aside0 (Below w.heap.size w wc))
 case first=>
  have H:=HC33.out
  clear HC33
  by_cases c37:a0_0=2
  ·rw [if_pos c37] at H
   have c37b0:(a0_0 == 2)=true:=beq_iff_eq.mpr c37
   have c37b1:(a0_0 != 2)=false:=bne_eq_false_iff_eq.mpr c37
   clear c37
   (first|rw [c37b0]|(simp only [i64_w,i32_w];rw [c37b0])|skip)
   have H' :=qm H
   clear H
   go_wp2
   go_meet
   case rel=>exact ⟨_,(2),rfl,H',⟨by have:=HJ2.out;omega⟩,⟨rb HO380.out⟩,⟨BK373.out⟩,⟨by repeat (first|(with_reducible first|exact HB.out|apply qh|apply qi|apply qj|refine qk ?_ GE373.out)|exact HB.out)⟩⟩
  rw [if_neg c37] at H
  have c37b0:(a0_0 == 2)=false:=beq_eq_false_iff_ne.mpr c37
  have c37b1:(a0_0 != 2)=true:=bne_iff_ne.mpr c37
  (first|rw [c37b0]|(simp only [i64_w,i32_w];rw [c37b0])|skip)
  have H' :=qm H
  clear H
  go_wp2
  go_meet
  case rel=>exact ⟨_,(0),rfl,H',⟨by have:=HJ2.out;omega⟩,⟨rb HO380.out⟩,⟨BK373.out⟩,⟨by repeat (first|(with_reducible first|exact HB.out|apply qh|apply qi|apply qj|refine qk ?_ GE373.out)|exact HB.out)⟩⟩
 clear HC33
 try clear c14
 try clear c17
 try clear c17b0
 try clear c17b1
 obtain ⟨kq,x7_32,rfl,HA,HJ32,HO_6,BK373,HB⟩:=hcut
 cases kq with
 |zero=>exact absurd HA.out (by simp [spec_HeadBytes.j1])
 |succ kj32=>?_
 have H:=HA.out
 clear HA
 simp only [spec_HeadBytes.j1] at H
 by_cases c38:y378.length<140737488355328
 ·rw [if_pos c38] at H
  have LMc38:=qm c38
  clear c38
  obtain ⟨y394,hy394⟩:∃ y_:List Int,y_=(y378 ++ [(wrap64 ((wrap64 ((wrap64 (192+(wrap64 (16*x7_32))))+a0_6)) - 1))%256]):=⟨_,rfl⟩
  replace H:((spec_l04Ids.f kj32 a0_1 l0_2 l0_3).bind fun t397=>(if y394.length+t397.length<140737488355328 then ((some (y394 ++ t397:List Int)).bind fun y400=>(if a0_0=1 then ((spec_PutVar.f kj32 (l0_4.length:Int)).bind fun bt403=>(if y400.length+bt403.1.length<140737488355328 then ((some (y400 ++ bt403.1:List Int)).bind fun y407=>(if y407.length+l0_4.length<140737488355328 then ((some (y407 ++ l0_4:List Int)).bind fun y410=>((spec_l01Digits.f kj32 (wrap64 ((wrap64 (16384+a1))+a0_6)) 2).bind fun t413=>(if y410.length+t413.length<140737488355328 then ((some (y410 ++ t413:List Int)).bind fun y416=>((spec_CutNum.f kj32 a0_5 a0_6).bind fun t419=>((spec_l01Digits.f kj32 t419 a0_6).bind fun t420=>(if y416.length+t420.length<140737488355328 then (some ((y416 ++ t420),0)) else (none))))) else (none)))) else (none))) else (none))) else ((spec_l01Digits.f kj32 (wrap64 ((wrap64 (16384+a1))+a0_6)) 2).bind fun t426=>(if y400.length+t426.length<140737488355328 then ((some (y400 ++ t426:List Int)).bind fun y429=>((spec_CutNum.f kj32 a0_5 a0_6).bind fun t432=>((spec_l01Digits.f kj32 t432 a0_6).bind fun t433=>(if y429.length+t433.length<140737488355328 then (some ((y429 ++ t433),0)) else (none))))) else (none))))) else (none)))=some (r1,r2):=by first|(rw [hy394];with_reducible exact H)|(have H2_:=(Option.bind_some _ _).symm.trans H;rw [hy394];with_reducible exact H2_)|(have H2_:=(Option.bind_some _ _).symm.trans H;with_reducible exact H2_)|with_reducible exact H|(rw [hy394];exact H)|exact H
  have Ny394:=qm hy394
  clear hy394
  replace H:=Option.bind_eq_some_iff.mp H
  obtain ⟨t397,A390,H⟩:=H
  try dsimp only at H
  have A39:=qm A390
  clear A390
  by_cases c40:y394.length+t397.length<140737488355328
  ·rw [if_pos c40] at H
   have LMc40:=qm c40
   clear c40
   obtain ⟨y400,hy400⟩:∃ y_:List Int,y_=(y394 ++ t397):=⟨_,rfl⟩
   replace H:(if a0_0=1 then ((spec_PutVar.f kj32 (l0_4.length:Int)).bind fun bt403=>(if y400.length+bt403.1.length<140737488355328 then ((some (y400 ++ bt403.1:List Int)).bind fun y407=>(if y407.length+l0_4.length<140737488355328 then ((some (y407 ++ l0_4:List Int)).bind fun y410=>((spec_l01Digits.f kj32 (wrap64 ((wrap64 (16384+a1))+a0_6)) 2).bind fun t413=>(if y410.length+t413.length<140737488355328 then ((some (y410 ++ t413:List Int)).bind fun y416=>((spec_CutNum.f kj32 a0_5 a0_6).bind fun t419=>((spec_l01Digits.f kj32 t419 a0_6).bind fun t420=>(if y416.length+t420.length<140737488355328 then (some ((y416 ++ t420),0)) else (none))))) else (none)))) else (none))) else (none))) else ((spec_l01Digits.f kj32 (wrap64 ((wrap64 (16384+a1))+a0_6)) 2).bind fun t426=>(if y400.length+t426.length<140737488355328 then ((some (y400 ++ t426:List Int)).bind fun y429=>((spec_CutNum.f kj32 a0_5 a0_6).bind fun t432=>((spec_l01Digits.f kj32 t432 a0_6).bind fun t433=>(if y429.length+t433.length<140737488355328 then (some ((y429 ++ t433),0)) else (none))))) else (none))))=some (r1,r2):=by first|(rw [hy400];with_reducible exact H)|(have H2_:=(Option.bind_some _ _).symm.trans H;rw [hy400];with_reducible exact H2_)|(have H2_:=(Option.bind_some _ _).symm.trans H;with_reducible exact H2_)|with_reducible exact H|(rw [hy400];exact H)|exact H
   have Ny400:=qm hy400
   clear hy400
   by_cases c41:a0_0=1
   ·rw [if_pos c41] at H
    have c41b0:(a0_0 == 1)=true:=beq_iff_eq.mpr c41
    have c41b1:(a0_0 != 1)=false:=bne_eq_false_iff_eq.mpr c41
    clear c41
    replace H:=Option.bind_eq_some_iff.mp H
    obtain ⟨⟨t403,t404⟩,A420,H⟩:=H
    try dsimp only at H
    have A42:=qm A420
    clear A420
    by_cases c43:y400.length+t403.length<140737488355328
    ·rw [if_pos c43] at H
     have LMc43:=qm c43
     clear c43
     obtain ⟨y407,hy407⟩:∃ y_:List Int,y_=(y400 ++ t403):=⟨_,rfl⟩
     replace H:(if y407.length+l0_4.length<140737488355328 then ((some (y407 ++ l0_4:List Int)).bind fun y410=>((spec_l01Digits.f kj32 (wrap64 ((wrap64 (16384+a1))+a0_6)) 2).bind fun t413=>(if y410.length+t413.length<140737488355328 then ((some (y410 ++ t413:List Int)).bind fun y416=>((spec_CutNum.f kj32 a0_5 a0_6).bind fun t419=>((spec_l01Digits.f kj32 t419 a0_6).bind fun t420=>(if y416.length+t420.length<140737488355328 then (some ((y416 ++ t420),0)) else (none))))) else (none)))) else (none))=some (r1,r2):=by first|(rw [hy407];with_reducible exact H)|(have H2_:=(Option.bind_some _ _).symm.trans H;rw [hy407];with_reducible exact H2_)|(have H2_:=(Option.bind_some _ _).symm.trans H;with_reducible exact H2_)|with_reducible exact H|(rw [hy407];exact H)|exact H
     have Ny407:=qm hy407
     clear hy407
     by_cases c44:y407.length+l0_4.length<140737488355328
     ·rw [if_pos c44] at H
      have LMc44:=qm c44
      clear c44
      obtain ⟨y410,hy410⟩:∃ y_:List Int,y_=(y407 ++ l0_4):=⟨_,rfl⟩
      replace H:((spec_l01Digits.f kj32 (wrap64 ((wrap64 (16384+a1))+a0_6)) 2).bind fun t413=>(if y410.length+t413.length<140737488355328 then ((some (y410 ++ t413:List Int)).bind fun y416=>((spec_CutNum.f kj32 a0_5 a0_6).bind fun t419=>((spec_l01Digits.f kj32 t419 a0_6).bind fun t420=>(if y416.length+t420.length<140737488355328 then (some ((y416 ++ t420),0)) else (none))))) else (none)))=some (r1,r2):=by first|(rw [hy410];with_reducible exact H)|(have H2_:=(Option.bind_some _ _).symm.trans H;rw [hy410];with_reducible exact H2_)|(have H2_:=(Option.bind_some _ _).symm.trans H;with_reducible exact H2_)|with_reducible exact H|(rw [hy410];exact H)|exact H
      have Ny410:=qm hy410
      clear hy410
      replace H:=Option.bind_eq_some_iff.mp H
      obtain ⟨t413,A450,H⟩:=H
      try dsimp only at H
      have A45:=qm A450
      clear A450
      by_cases c46:y410.length+t413.length<140737488355328
      ·rw [if_pos c46] at H
       have LMc46:=qm c46
       clear c46
       obtain ⟨y416,hy416⟩:∃ y_:List Int,y_=(y410 ++ t413):=⟨_,rfl⟩
       replace H:((spec_CutNum.f kj32 a0_5 a0_6).bind fun t419=>((spec_l01Digits.f kj32 t419 a0_6).bind fun t420=>(if y416.length+t420.length<140737488355328 then (some ((y416 ++ t420),0)) else (none))))=some (r1,r2):=by first|(rw [hy416];with_reducible exact H)|(have H2_:=(Option.bind_some _ _).symm.trans H;rw [hy416];with_reducible exact H2_)|(have H2_:=(Option.bind_some _ _).symm.trans H;with_reducible exact H2_)|with_reducible exact H|(rw [hy416];exact H)|exact H
       have Ny416:=qm hy416
       clear hy416
       replace H:=Option.bind_eq_some_iff.mp H
       obtain ⟨t419,A470,H⟩:=H
       try dsimp only at H
       have A47:=qm A470
       clear A470
       replace H:=Option.bind_eq_some_iff.mp H
       obtain ⟨t420,A480,H⟩:=H
       try dsimp only at H
       have A48:=qm A480
       clear A480
       by_cases c49:y416.length+t420.length<140737488355328
       ·rw [if_pos c49] at H
        have LMc49:=qm c49
        clear c49
        obtain ⟨y423,hy423⟩:∃ y_:List Int,y_=(y416 ++ t420):=⟨_,rfl⟩
        replace H:(some (y423,0))=some (r1,r2):=by first|(rw [hy423];with_reducible exact H)|(have H2_:=(Option.bind_some _ _).symm.trans H;rw [hy423];with_reducible exact H2_)|(have H2_:=(Option.bind_some _ _).symm.trans H;with_reducible exact H2_)|with_reducible exact H|(rw [hy423];exact H)|exact H
        have Ny423:=qm hy423
        clear hy423
        simp only [Option.some.injEq,Prod.mk.injEq] at H
        obtain ⟨rfl,rfl⟩:=H
        obtain ⟨_,_,_,_,_,_,_,_,_,_,_,_,_,_,_,_⟩:=fc8 BK373.out
        try go_wp2_with (first|((with_reducible refine gate_builtin (b:= .append) (xs:=#[.tmp 45, .tmp 54]) rfl ?_);at_builtin;refine Kd.R_append (Kd.int .u8) (w0:=w) w.heap.size rfl (.tmp 45) (.tmp 54) 22 5 (.int .u8 0) 1 rfl Try.underlying22 info5 rfl (by decide) (by omega) v379 y378 ((wrap64 ((wrap64 ((wrap64 (192+(wrap64 (16*x7_32))))+a0_6)) - 1))%256) [.int .u8 ((wrap64 ((wrap64 ((wrap64 (192+(wrap64 (16*x7_32))))+a0_6)) - 1))%256)] (fun _=>True) (fun _=>False) rfl rfl ?aP (fun _ hk=>hk.elim) ?aF ?aO ?aB ?aS ?aL ?_;(case aP=>exact rfl);(case aB=>exact (by repeat first|exact HB.out|apply qh|apply qi|apply qj|refine bk ?_));(case aF=>exact (fun _ _=>trivial));(case aO=>exact (rb HO_6.out));(case aS=>exact (qs (by repeat first|exact HB.out|apply qh|apply qi|apply qj|refine bk ?_)));(case aL=>have:=LMc38.out;omega);intro v395 w51 ho hb hg hat;rw [←Ny394.out] at ho;have _:=qm (blk_grown (g:=gb373) (o:= .cells #[.int .i64 a0_0, .int .i64 a0_1, .slice A0_2 l0_2.length c0_2, .slice A0_3 l0_3.length c0_3, .slice A0_4 l0_4.length c0_4, .int .i64 a0_5, .int .i64 a0_6, .int .i64 a0_7] 45 (0,0)) (kb BK373.out) hg (Kd.R_ne HO_6.out BK373.out (by decide)));have _:=qm (hb);have _:=qm (ho);clear BK373 HB HO_6;rename_i BK373 HB HO396;clear ho hb hg hat;obtain ⟨_,_,_,_,_,_,_,_,_,_,_,_,_,_,_,_⟩:=fc8 BK373.out)|((with_reducible refine gate_callee (f:=58) rfl ?_);refine goesL_ (some 63) rfl rfl Try.func58 (by kernel_rfl) rfl #[.int .i64 a0_1, .slice A0_2 l0_2.length c0_2, .slice A0_3 l0_3.length c0_3] rfl (by (try simp only [m1,m2,m3]);first|done|rfl) ?_;(with_reducible refine (spec_l04Ids.calls kj32 a0_1 _ _ l0_2 _ _ l0_3 t397 _ ?side1 ?side2 ?side3 ?side4 A39.out).mono ?_);(case side1=>exact cb (Kd.C_below HR0_2.out HB.out));(case side2=>exact HC0_2.out);(case side3=>exact cb (Kd.C_below HR0_3.out HB.out));(case side4=>exact HC0_3.out);rintro e w53 ⟨v398,rfl,ho0,hb⟩;refine ⟨_,rfl,?_⟩;have _:=qm (Kd.R_elder' (rb HO396.out) (Kd.R_base ho0) hb);have _:=qm (Kd.R_lower (nw ho0 (rb HO396.out)) (qs (by repeat first|exact HB.out|apply qh|apply qi|apply qj|refine bk ?_)));have _:=qm (qv (g:=gb373) (o:= .cells #[.int .i64 a0_0, .int .i64 a0_1, .slice A0_2 l0_2.length c0_2, .slice A0_3 l0_3.length c0_3, .slice A0_4 l0_4.length c0_4, .int .i64 a0_5, .int .i64 a0_6, .int .i64 a0_7] 45 (0,0)) (kb BK373.out) hb);have _:=qm (qt (by repeat first|exact HB.out|apply qh|apply qi|apply qj|refine bk ?_) hb);clear HO396 BK373 HB;rename_i HO396 HO399 BK373 HB;obtain ⟨Ao55,co55,eo55⟩:=Kd.R_slice HO399.out;subst eo55)|((with_reducible refine gate_builtin (b:= .append) (xs:=#[.tmp 56, .tmp 63]) rfl ?_);at_builtin;refine Kd.R_append_rows (Kd.int .u8) (w0:=w) w.heap.size rfl (.tmp 56) (.tmp 63) 22 5 (.int .u8 0) 1 rfl Try.underlying22 info5 rfl (by decide) (by omega) v395 y394 t397 _ _ _ (fun k_=>ob k_ (.slice Ao55 t397.length co55)) (fun _=>False) rfl rfl ?aO ?aR (fun _ _ h=>h) (fun _ h=>h.elim) ?aF ?aB ?aS ?aL ?_;(case aR=>exact cb ((qe HO399.out).2.2));(case aB=>exact (by repeat first|exact HB.out|apply qh|apply qi|apply qj|refine bk ?_));(case aF=>exact (fun k_ hk=>Kd.fresh' (Kd.R_lt (rb HO399.out)) k_ hk));(case aO=>exact (rb (qg HO396.out (fun _ hk=>hk.2))));(case aS=>exact (qs (by repeat first|exact HB.out|apply qh|apply qi|apply qj|refine bk ?_)));(case aL=>have:=LMc40.out;omega);intro v401 w54 ho hb hg hat;rw [←Ny400.out] at ho;have _:=qm (blk_grown (g:=gb373) (o:= .cells #[.int .i64 a0_0, .int .i64 a0_1, .slice A0_2 l0_2.length c0_2, .slice A0_3 l0_3.length c0_3, .slice A0_4 l0_4.length c0_4, .int .i64 a0_5, .int .i64 a0_6, .int .i64 a0_7] 45 (0,0)) (kb BK373.out) hg (Kd.R_ne HO396.out BK373.out (by decide)));have _:=qm (Kd.R_after (ok:=(fun _=>True)) (rb HO399.out) hg hat);have _:=qm (hb);have _:=qm (ho);clear BK373 HO399 HB HO396;rename_i BK373 HO399 HB HO402;clear ho hb hg hat;obtain ⟨_,_,_,_,_,_,_,_,_,_,_,_,_,_,_,_⟩:=fc8 BK373.out)|((with_reducible refine gate_callee (f:=72) rfl ?_);refine goesL_ (some 72) rfl rfl Try.func72 (by kernel_rfl) rfl #[.int .i64 (l0_4.length:Int)] rfl (by (try simp only [m1,m2,m3]);first|done|rfl) ?_;(with_reducible refine (spec_PutVar.calls kj32 (l0_4.length:Int) t403 t404 _ A42.out).mono ?_);rintro e w57 ⟨v405,rfl,ho0,hb⟩;refine ⟨_,rfl,?_⟩;have _:=qm (Kd.R_elder' (rb HO399.out) (Kd.R_base ho0) hb);have _:=qm (Kd.R_elder' (rb HO402.out) (Kd.R_base ho0) hb);have _:=qm (Kd.R_lower (nw (nw ho0 (rb HO399.out)) (rb HO402.out)) (qs (by repeat first|exact HB.out|apply qh|apply qi|apply qj|refine bk ?_)));have _:=qm (qv (g:=gb373) (o:= .cells #[.int .i64 a0_0, .int .i64 a0_1, .slice A0_2 l0_2.length c0_2, .slice A0_3 l0_3.length c0_3, .slice A0_4 l0_4.length c0_4, .int .i64 a0_5, .int .i64 a0_6, .int .i64 a0_7] 45 (0,0)) (kb BK373.out) hb);have _:=qm (qt (by repeat first|exact HB.out|apply qh|apply qi|apply qj|refine bk ?_) hb);clear HO399 HO402 BK373 HB;rename_i HO399 HO402 HO406 BK373 HB;obtain ⟨Ao59,co59,eo59⟩:=Kd.R_slice HO406.out;subst eo59)|((with_reducible refine gate_builtin (b:= .append) (xs:=#[.tmp 75, .tmp 76]) rfl ?_);at_builtin;refine Kd.R_append_rows (Kd.int .u8) (w0:=w) w.heap.size rfl (.tmp 75) (.tmp 76) 22 5 (.int .u8 0) 1 rfl Try.underlying22 info5 rfl (by decide) (by omega) v401 y400 t403 _ _ _ (fun k_=>ob k_ (.slice Ao55 t397.length co55)∧ob k_ (.slice Ao59 t403.length co59)) (fun _=>False) rfl rfl ?aO ?aR (fun _ _ h=>h) (fun _ h=>h.elim) ?aF ?aB ?aS ?aL ?_;(case aR=>exact cb ((qe HO406.out).2.2));(case aB=>exact (by repeat first|exact HB.out|apply qh|apply qi|apply qj|refine bk ?_));(case aF=>exact (fun k_ hk=>⟨Kd.fresh' (Kd.R_lt (rb HO399.out)) k_ hk,Kd.fresh' (Kd.R_lt (rb HO406.out)) k_ hk⟩));(case aO=>exact (rb HO402.out));(case aS=>exact (qs (by repeat first|exact HB.out|apply qh|apply qi|apply qj|refine bk ?_)));(case aL=>have:=LMc43.out;omega);intro v408 w58 ho hb hg hat;rw [←Ny407.out] at ho;have _:=qm (blk_grown (g:=gb373) (o:= .cells #[.int .i64 a0_0, .int .i64 a0_1, .slice A0_2 l0_2.length c0_2, .slice A0_3 l0_3.length c0_3, .slice A0_4 l0_4.length c0_4, .int .i64 a0_5, .int .i64 a0_6, .int .i64 a0_7] 45 (0,0)) (kb BK373.out) hg (Kd.R_ne HO402.out BK373.out (by decide)));have _:=qm (Kd.R_after (ok:=(fun k_=>ob k_ (.slice Ao59 t403.length co59))) (rb (qg HO399.out (fun _ hk=>⟨hk.2,hk.1.2⟩))) hg hat);have _:=qm (Kd.R_after (ok:=(fun k_=>ob k_ (.slice Ao55 t397.length co55))) (rb (qg HO406.out (fun _ hk=>⟨hk.1.2,hk.2⟩))) hg hat);have _:=qm (hb);have _:=qm (ho);clear BK373 HO399 HO406 HB HO402;rename_i BK373 HO399 HO406 HB HO409;clear ho hb hg hat;obtain ⟨_,_,_,_,_,_,_,_,_,_,_,_,_,_,_,_⟩:=fc8 BK373.out)|((with_reducible refine gate_builtin (b:= .append) (xs:=#[.tmp 78, .tmp 80]) rfl ?_);at_builtin;refine Kd.R_append_rows (Kd.int .u8) (w0:=w) w.heap.size rfl (.tmp 78) (.tmp 80) 22 5 (.int .u8 0) 1 rfl Try.underlying22 info5 rfl (by decide) (by omega) v408 y407 l0_4 _ _ _ (fun k_=>ob k_ (.slice Ao55 t397.length co55)∧ob k_ (.slice Ao59 t403.length co59)) (fun _=>False) rfl rfl ?aO ?aR (fun _ _ h=>h) (fun _ h=>h.elim) ?aF ?aB ?aS ?aL ?_;(case aR=>exact cb (Kd.C_below HR0_4.out HB.out));(case aB=>exact (by repeat first|exact HB.out|apply qh|apply qi|apply qj|refine bk ?_));(case aF=>exact (fun k_ hk=>⟨Kd.fresh' (Kd.R_lt (rb HO399.out)) k_ hk,Kd.fresh' (Kd.R_lt (rb HO406.out)) k_ hk⟩));(case aO=>exact (rb HO409.out));(case aS=>exact (qs (by repeat first|exact HB.out|apply qh|apply qi|apply qj|refine bk ?_)));(case aL=>have:=LMc44.out;omega);intro v411 w61 ho hb hg hat;rw [←Ny410.out] at ho;have _:=qm (blk_grown (g:=gb373) (o:= .cells #[.int .i64 a0_0, .int .i64 a0_1, .slice A0_2 l0_2.length c0_2, .slice A0_3 l0_3.length c0_3, .slice A0_4 l0_4.length c0_4, .int .i64 a0_5, .int .i64 a0_6, .int .i64 a0_7] 45 (0,0)) (kb BK373.out) hg (Kd.R_ne HO409.out BK373.out (by decide)));have _:=qm (Kd.R_after (ok:=(fun k_=>ob k_ (.slice Ao59 t403.length co59))) (rb HO399.out) hg hat);have _:=qm (Kd.R_after (ok:=(fun k_=>ob k_ (.slice Ao55 t397.length co55))) (rb HO406.out) hg hat);have _:=qm (hb);have _:=qm (ho);clear BK373 HO399 HO406 HB HO409;rename_i BK373 HO399 HO406 HB HO412;clear ho hb hg hat;obtain ⟨_,_,_,_,_,_,_,_,_,_,_,_,_,_,_,_⟩:=fc8 BK373.out)|((with_reducible refine gate_callee (f:=64) rfl ?_);refine goesL_ (some 88) rfl rfl Try.func64 (by kernel_rfl) rfl #[.int .i64 (wrap64 ((wrap64 (16384+a1))+a0_6)), .int .i64 2] rfl (by (try simp only [m1,m2,m3]);first|done|rfl) ?_;(with_reducible refine (spec_l01Digits.calls kj32 (wrap64 ((wrap64 (16384+a1))+a0_6)) 2 t413 _ A45.out).mono ?_);rintro e w63 ⟨v414,rfl,ho0,hb⟩;refine ⟨_,rfl,?_⟩;have _:=qm (Kd.R_elder' (rb HO399.out) (Kd.R_base ho0) hb);have _:=qm (Kd.R_elder' (rb HO406.out) (Kd.R_base ho0) hb);have _:=qm (Kd.R_elder' (rb HO412.out) (Kd.R_base ho0) hb);have _:=qm (Kd.R_lower (nw (nw (nw ho0 (rb HO399.out)) (rb HO406.out)) (rb HO412.out)) (qs (by repeat first|exact HB.out|apply qh|apply qi|apply qj|refine bk ?_)));have _:=qm (qv (g:=gb373) (o:= .cells #[.int .i64 a0_0, .int .i64 a0_1, .slice A0_2 l0_2.length c0_2, .slice A0_3 l0_3.length c0_3, .slice A0_4 l0_4.length c0_4, .int .i64 a0_5, .int .i64 a0_6, .int .i64 a0_7] 45 (0,0)) (kb BK373.out) hb);have _:=qm (qt (by repeat first|exact HB.out|apply qh|apply qi|apply qj|refine bk ?_) hb);clear HO399 HO406 HO412 BK373 HB;rename_i HO399 HO406 HO412 HO415 BK373 HB;obtain ⟨Ao65,co65,eo65⟩:=Kd.R_slice HO415.out;subst eo65)|((with_reducible refine gate_builtin (b:= .append) (xs:=#[.tmp 82, .tmp 88]) rfl ?_);at_builtin;refine Kd.R_append_rows (Kd.int .u8) (w0:=w) w.heap.size rfl (.tmp 82) (.tmp 88) 22 5 (.int .u8 0) 1 rfl Try.underlying22 info5 rfl (by decide) (by omega) v411 y410 t413 _ _ _ (fun k_=>ob k_ (.slice Ao55 t397.length co55)∧ob k_ (.slice Ao59 t403.length co59)∧ob k_ (.slice Ao65 t413.length co65)) (fun _=>False) rfl rfl ?aO ?aR (fun _ _ h=>h) (fun _ h=>h.elim) ?aF ?aB ?aS ?aL ?_;(case aR=>exact cb ((qe HO415.out).2.2));(case aB=>exact (by repeat first|exact HB.out|apply qh|apply qi|apply qj|refine bk ?_));(case aF=>exact (fun k_ hk=>⟨Kd.fresh' (Kd.R_lt (rb HO399.out)) k_ hk,Kd.fresh' (Kd.R_lt (rb HO406.out)) k_ hk,Kd.fresh' (Kd.R_lt (rb HO415.out)) k_ hk⟩));(case aO=>exact (rb (qg HO412.out (fun _ hk=>⟨hk.1.1,⟨hk.1.2,hk.2⟩⟩))));(case aS=>exact (qs (by repeat first|exact HB.out|apply qh|apply qi|apply qj|refine bk ?_)));(case aL=>have:=LMc46.out;omega);intro v417 w64 ho hb hg hat;rw [←Ny416.out] at ho;have _:=qm (blk_grown (g:=gb373) (o:= .cells #[.int .i64 a0_0, .int .i64 a0_1, .slice A0_2 l0_2.length c0_2, .slice A0_3 l0_3.length c0_3, .slice A0_4 l0_4.length c0_4, .int .i64 a0_5, .int .i64 a0_6, .int .i64 a0_7] 45 (0,0)) (kb BK373.out) hg (Kd.R_ne HO412.out BK373.out (by decide)));have _:=qm (Kd.R_after (ok:=(fun k_=>ob k_ (.slice Ao59 t403.length co59)∧ob k_ (.slice Ao65 t413.length co65))) (rb (qg HO399.out (fun _ hk=>⟨⟨hk.1.1,hk.2⟩,hk.1.2⟩))) hg hat);have _:=qm (Kd.R_after (ok:=(fun k_=>ob k_ (.slice Ao55 t397.length co55)∧ob k_ (.slice Ao65 t413.length co65))) (rb (qg HO406.out (fun _ hk=>⟨⟨hk.1.1,hk.2⟩,hk.1.2⟩))) hg hat);have _:=qm (Kd.R_after (ok:=(fun k_=>ob k_ (.slice Ao55 t397.length co55)∧ob k_ (.slice Ao59 t403.length co59))) (rb (qg HO415.out (fun _ hk=>⟨⟨hk.1.1.2,hk.1.2⟩,hk.2⟩))) hg hat);have _:=qm (hb);have _:=qm (ho);clear BK373 HO399 HO406 HO415 HB HO412;rename_i BK373 HO399 HO406 HO415 HB HO418;clear ho hb hg hat))
        have _:=qm (qd HO399.out)
        have _:=qm (qd HO406.out)
        have _:=qm (qd HO415.out)
        have _:=qm (qd HO418.out)
        have _:=qm (qn BK373.out)
        have _:=qm (qj HB.out)
        clear HO399 HO406 HO415 HO418 BK373 HB
        rename_i HO399 HO406 HO415 HO418 BK373 HB
        refine start_ (n:=12) (S:=fun w' =>w'.cell? ⟨gb373,0,none⟩=some (.int .i64 a0_0)∧w'.cell? ⟨gb373,1,none⟩=some (.int .i64 a0_1)∧w'.cell? ⟨gb373,2,none⟩=some (.slice A0_2 l0_2.length c0_2)∧w'.cell? ⟨gb373,3,none⟩=some (.slice A0_3 l0_3.length c0_3)∧w'.cell? ⟨gb373,4,none⟩=some (.slice A0_4 l0_4.length c0_4)∧w'.cell? ⟨gb373,5,none⟩=some (.int .i64 a0_5)∧w'.cell? ⟨gb373,6,none⟩=some (.int .i64 a0_6)∧w'.cell? ⟨gb373,7,none⟩=some (.int .i64 a0_7)) (ds:=[]) (bm 0 12) (by kernel_rfl) rfl rfl (fz8 BK373.out) (fun hHeld=>?_);refine with_tabW spec_HeadBytes.tab17 spec_HeadBytes.bits17 (fun HT_ HW_=>?_)
        generalize w64.drew=w66 at HO399 HO406 HO415 HO418 BK373 HB hHeld ⊢
        refine pu 0 90 (bm 1 12) HT_ (h:=⟨_,by intro w';go_simp;with_reducible rfl,_,by simp only [Act.put,s1,s2,s3,i64_w,i32_w];rfl,?_⟩)
        refine pu 1 91 (bm 2 12) HT_ (h:=⟨_,by intro w';go_simp;with_reducible rfl,_,by simp only [Act.put,s1,s2,s3,i64_w,i32_w];rfl,?_⟩)
        refine pu 3 93 (bb 11 12) HT_ (h:=⟨_,by intro w';go_simp;with_reducible rfl,_,by simp only [Act.put,s1,s2,s3,i64_w,i32_w];rfl,?_⟩)
        refine pu 6 96 (bb 75 12) HT_ (h:=⟨_,by intro w';go_simp;with_reducible rfl,_,by simp only [Act.put,s1,s2,s3,i64_w,i32_w];rfl,?_⟩)
        refine tk 2 92 (bb 79 12) HT_ HW_ (hS:=hHeld) (h:=⟨_,by rintro w' ⟨s0,s1,s2,s3,s4,s5,s6,s7⟩;go_simp;with_reducible rfl,_,by simp only [Act.put,s1,s2,s3,i64_w,i32_w];rfl,?_⟩)
        refine tk 4 94 (bb 95 12) HT_ HW_ (hS:=hHeld) (h:=⟨_,by rintro w' ⟨s0,s1,s2,s3,s4,s5,s6,s7⟩;go_simp;with_reducible rfl,_,by simp only [Act.put,s1,s2,s3,i64_w,i32_w];rfl,?_⟩)
        refine tk 7 97 (bb 223 12) HT_ HW_ (hS:=hHeld) (h:=⟨_,by rintro w' ⟨s0,s1,s2,s3,s4,s5,s6,s7⟩;go_simp;with_reducible rfl,_,by simp only [Act.put,s1,s2,s3,i64_w,i32_w];rfl,?_⟩)
        refine one_ (i:=5) (N:=some 95) (bm 8 12) rfl rfl (one_of HT_.out (by kernel_rfl)) (by decide) (fun K hK=>?_)
        refine goes_ Try.func73 (by kernel_rfl) rfl #[.int .i64 a0_5, .int .i64 a0_6] (by rfl) rfl rfl (by (try simp only [m1,m2,m3]);first|done|rfl) ?_
        with_reducible refine (spec_CutNum.calls kj32 a0_5 a0_6 t419 _ A47.out).mono ?_
        rintro e w' ⟨rfl,⟨nd,rfl⟩⟩
        refine ⟨_,rfl,?_⟩
        refine hK.out _ _ (fz8 BK373.out) (fun hHeld=>?_)
        clear hK K
        refine norm_ (a' :=?_) ?_ ?_
        rotate_left
        ·show Act.put _ (some 95) _=_
         simp only [Act.put,s1,s2,s3,i64_w,i32_w]
         rfl
        refine one_ (i:=8) (N:=some 98) (bm 9 12) rfl rfl (one_of HT_.out (by kernel_rfl)) (by decide) (fun K hK=>?_)
        refine goes_ Try.func64 (by kernel_rfl) rfl #[.int .i64 t419, .int .i64 a0_6] (by rfl) rfl rfl (by (try simp only [m1,m2,m3]);first|done|rfl) ?_
        with_reducible refine (spec_l01Digits.calls kj32 t419 a0_6 t420 _ A48.out).mono ?_
        rintro e w67 ⟨v421,rfl,ho0,hb⟩
        refine ⟨_,rfl,?_⟩
        have _:=qm (Kd.R_elder' (rb HO399.out) (Kd.R_base ho0) hb)
        have _:=qm (Kd.R_elder' (rb HO406.out) (Kd.R_base ho0) hb)
        have _:=qm (Kd.R_elder' (rb HO415.out) (Kd.R_base ho0) hb)
        have _:=qm (Kd.R_elder' (rb HO418.out) (Kd.R_base ho0) hb)
        have _:=qm (Kd.R_lower (nw (nw (nw (nw ho0 (rb HO399.out)) (rb HO406.out)) (rb HO415.out)) (rb HO418.out)) (qs (by repeat first|exact HB.out|apply qh|apply qi|apply qj|refine bk ?_)))
        have _:=qm (qv (g:=gb373) (o:= .cells #[.int .i64 a0_0, .int .i64 a0_1, .slice A0_2 l0_2.length c0_2, .slice A0_3 l0_3.length c0_3, .slice A0_4 l0_4.length c0_4, .int .i64 a0_5, .int .i64 a0_6, .int .i64 a0_7] 45 (0,0)) (kb BK373.out) hb)
        have _:=qm (qt (by repeat first|exact HB.out|apply qh|apply qi|apply qj|refine bk ?_) hb)
        clear HO399 HO406 HO415 HO418 BK373 HB
        rename_i HO399 HO406 HO415 HO418 HO422 BK373 HB
        (try clear hb)
        (try clear hb2)
        (try clear hk)
        (try clear hi)
        (try clear ho0)
        obtain ⟨Ao69,co69,eo69⟩:=Kd.R_slice HO422.out
        (first|subst eo69|(injection eo69 with f1_ f2_ f3_;have f4_:=f1_.symm;have f5_:=f3_.symm;clear f1_ f2_ f3_;subst f4_;subst f5_))
        refine hK.out _ _ (fz8 BK373.out) (fun hHeld=>?_)
        clear hK K
        refine norm_ (a' :=?_) ?_ ?_
        rotate_left
        ·show Act.put _ (some 98) _=_
         simp only [Act.put,s1,s2,s3,i64_w,i32_w]
         rfl
        refine one_ (i:=9) (N:=some 99) (bm 10 12) rfl rfl (one_of HT_.out (by kernel_rfl)) (by decide) (fun K hK=>?_)
        refine Kd.R_append_rows_step (Kd.int .u8) (w0:=w) w.heap.size (by rfl) (.tmp 90) (.tmp 98) 22 5 (.int .u8 0) 1 rfl Try.underlying22 info5 rfl (by decide) (by omega) v417 y416 t420 _ _ _ (fun k_=>ob k_ (.slice Ao55 t397.length co55)∧ob k_ (.slice Ao59 t403.length co59)∧ob k_ (.slice Ao65 t413.length co65)∧ob k_ (.slice Ao69 t420.length co69)) (fun _=>False) rfl rfl ?aO ?aR (fun _ _ h=>h) (fun _ h=>h.elim) ?aF ?aB ?aS ?aL ?_
        (case aR=>exact cb ((qe HO422.out).2.2))
        (case aB=>exact (by repeat first|exact HB.out|apply qh|apply qi|apply qj|refine bk ?_))
        (case aF=>exact (fun k_ hk=>⟨Kd.fresh' (Kd.R_lt (rb HO399.out)) k_ hk,Kd.fresh' (Kd.R_lt (rb HO406.out)) k_ hk,Kd.fresh' (Kd.R_lt (rb HO415.out)) k_ hk,Kd.fresh' (Kd.R_lt (rb HO422.out)) k_ hk⟩))
        (case aO=>exact (rb (qg HO418.out (fun _ hk=>⟨hk.1.1,⟨hk.1.2.1,⟨hk.1.2.2,hk.2⟩⟩⟩))))
        (case aS=>exact (qs (by repeat first|exact HB.out|apply qh|apply qi|apply qj|refine bk ?_)))
        (case aL=>have:=LMc49.out;omega)
        intro v424 w68 ho hb hg hat
        rw [←Ny423.out] at ho
        have _:=qm (blk_grown (g:=gb373) (o:= .cells #[.int .i64 a0_0, .int .i64 a0_1, .slice A0_2 l0_2.length c0_2, .slice A0_3 l0_3.length c0_3, .slice A0_4 l0_4.length c0_4, .int .i64 a0_5, .int .i64 a0_6, .int .i64 a0_7] 45 (0,0)) (kb BK373.out) hg (Kd.R_ne HO418.out BK373.out (by decide)))
        have _:=qm (Kd.R_after (ok:=(fun k_=>ob k_ (.slice Ao59 t403.length co59)∧ob k_ (.slice Ao65 t413.length co65)∧ob k_ (.slice Ao69 t420.length co69))) (rb (qg HO399.out (fun _ hk=>⟨⟨hk.1.1.1,⟨hk.1.1.2,hk.2⟩⟩,hk.1.2⟩))) hg hat)
        have _:=qm (Kd.R_after (ok:=(fun k_=>ob k_ (.slice Ao55 t397.length co55)∧ob k_ (.slice Ao65 t413.length co65)∧ob k_ (.slice Ao69 t420.length co69))) (rb (qg HO406.out (fun _ hk=>⟨⟨hk.1.1.1,⟨hk.1.1.2,hk.2⟩⟩,hk.1.2⟩))) hg hat)
        have _:=qm (Kd.R_after (ok:=(fun k_=>ob k_ (.slice Ao55 t397.length co55)∧ob k_ (.slice Ao59 t403.length co59)∧ob k_ (.slice Ao69 t420.length co69))) (rb (qg HO415.out (fun _ hk=>⟨⟨hk.1.1.1,⟨hk.1.1.2,hk.2⟩⟩,hk.1.2⟩))) hg hat)
        have _:=qm (Kd.R_after (ok:=(fun k_=>ob k_ (.slice Ao55 t397.length co55)∧ob k_ (.slice Ao59 t403.length co59)∧ob k_ (.slice Ao65 t413.length co65))) (rb (qg HO422.out (fun _ hk=>⟨⟨hk.1.1.1.2,⟨hk.1.1.2,hk.1.2⟩⟩,hk.2⟩))) hg hat)
        have _:=qm (hb)
        have _:=qm (ho)
        clear BK373 HO399 HO406 HO415 HO422 HB HO418
        rename_i BK373 HO399 HO406 HO415 HO422 HB HO425
        clear ho hb hg hat
        refine hK.out _ _ (fz8 BK373.out) (fun hHeld=>?_)
        clear hK K
        refine norm_ (a' :=?_) ?_ ?_
        rotate_left
        ·show Act.put _ (some 99) _=_
         simp only [Act.put,s1,s2,s3,i64_w,i32_w]
         rfl
        refine pu 10 4 (bm 11 12) HT_ (h:=⟨_,by intro w';go_simp;with_reducible rfl,_,by simp only [Act.put,s1,s2,s3,i64_w,i32_w];rfl,?_⟩)
        refine pu 11 5 (bm 12 12) HT_ (h:=⟨_,by intro w';go_simp;with_reducible rfl,_,by simp only [Act.put,s1,s2,s3,i64_w,i32_w];rfl,?_⟩)
        refine done_ (done_of HT_.out (by kernel_rfl)) ?_
        try go_wp2
        go_ret2
        exact ⟨_,by first|rfl|(simp <;> rfl)|(simp [*] <;> rfl),by (with_reducible repeat (first|apply qb|apply qc|apply qd));exact qg HO425.out (fun _ hk=>trivial),by repeat (first|(with_reducible first|exact HB.out|apply qh|apply qi|apply qj|refine qk ?_ GE373.out)|exact HB.out)⟩
       rw [if_neg c49] at H
       exact absurd H (by simp)
      rw [if_neg c46] at H
      exact absurd H (by simp)
     rw [if_neg c44] at H
     exact absurd H (by simp)
    rw [if_neg c43] at H
    exact absurd H (by simp)
   rw [if_neg c41] at H
   have c41b0:(a0_0 == 1)=false:=beq_eq_false_iff_ne.mpr c41
   have c41b1:(a0_0 != 1)=true:=bne_iff_ne.mpr c41
   replace H:=Option.bind_eq_some_iff.mp H
   obtain ⟨t426,A700,H⟩:=H
   try dsimp only at H
   have A70:=qm A700
   clear A700
   by_cases c71:y400.length+t426.length<140737488355328
   ·rw [if_pos c71] at H
    have LMc71:=qm c71
    clear c71
    obtain ⟨y429,hy429⟩:∃ y_:List Int,y_=(y400 ++ t426):=⟨_,rfl⟩
    replace H:((spec_CutNum.f kj32 a0_5 a0_6).bind fun t432=>((spec_l01Digits.f kj32 t432 a0_6).bind fun t433=>(if y429.length+t433.length<140737488355328 then (some ((y429 ++ t433),0)) else (none))))=some (r1,r2):=by first|(rw [hy429];with_reducible exact H)|(have H2_:=(Option.bind_some _ _).symm.trans H;rw [hy429];with_reducible exact H2_)|(have H2_:=(Option.bind_some _ _).symm.trans H;with_reducible exact H2_)|with_reducible exact H|(rw [hy429];exact H)|exact H
    have Ny429:=qm hy429
    clear hy429
    replace H:=Option.bind_eq_some_iff.mp H
    obtain ⟨t432,A720,H⟩:=H
    try dsimp only at H
    have A72:=qm A720
    clear A720
    replace H:=Option.bind_eq_some_iff.mp H
    obtain ⟨t433,A730,H⟩:=H
    try dsimp only at H
    have A73:=qm A730
    clear A730
    by_cases c74:y429.length+t433.length<140737488355328
    ·rw [if_pos c74] at H
     have LMc74:=qm c74
     clear c74
     obtain ⟨y436,hy436⟩:∃ y_:List Int,y_=(y429 ++ t433):=⟨_,rfl⟩
     replace H:(some (y436,0))=some (r1,r2):=by first|(rw [hy436];with_reducible exact H)|(have H2_:=(Option.bind_some _ _).symm.trans H;rw [hy436];with_reducible exact H2_)|(have H2_:=(Option.bind_some _ _).symm.trans H;with_reducible exact H2_)|with_reducible exact H|(rw [hy436];exact H)|exact H
     have Ny436:=qm hy436
     clear hy436
     simp only [Option.some.injEq,Prod.mk.injEq] at H
     obtain ⟨rfl,rfl⟩:=H
     obtain ⟨_,_,_,_,_,_,_,_,_,_,_,_,_,_,_,_⟩:=fc8 BK373.out
     try go_wp2_with (first|((with_reducible refine gate_builtin (b:= .append) (xs:=#[.tmp 45, .tmp 54]) rfl ?_);at_builtin;refine Kd.R_append (Kd.int .u8) (w0:=w) w.heap.size rfl (.tmp 45) (.tmp 54) 22 5 (.int .u8 0) 1 rfl Try.underlying22 info5 rfl (by decide) (by omega) v379 y378 ((wrap64 ((wrap64 ((wrap64 (192+(wrap64 (16*x7_32))))+a0_6)) - 1))%256) [.int .u8 ((wrap64 ((wrap64 ((wrap64 (192+(wrap64 (16*x7_32))))+a0_6)) - 1))%256)] (fun _=>True) (fun _=>False) rfl rfl ?aP (fun _ hk=>hk.elim) ?aF ?aO ?aB ?aS ?aL ?_;(case aP=>exact rfl);(case aB=>exact (by repeat first|exact HB.out|apply qh|apply qi|apply qj|refine bk ?_));(case aF=>exact (fun _ _=>trivial));(case aO=>exact (rb HO_6.out));(case aS=>exact (qs (by repeat first|exact HB.out|apply qh|apply qi|apply qj|refine bk ?_)));(case aL=>have:=LMc38.out;omega);intro v395 w76 ho hb hg hat;rw [←Ny394.out] at ho;have _:=qm (blk_grown (g:=gb373) (o:= .cells #[.int .i64 a0_0, .int .i64 a0_1, .slice A0_2 l0_2.length c0_2, .slice A0_3 l0_3.length c0_3, .slice A0_4 l0_4.length c0_4, .int .i64 a0_5, .int .i64 a0_6, .int .i64 a0_7] 45 (0,0)) (kb BK373.out) hg (Kd.R_ne HO_6.out BK373.out (by decide)));have _:=qm (hb);have _:=qm (ho);clear BK373 HB HO_6;rename_i BK373 HB HO396;clear ho hb hg hat;obtain ⟨_,_,_,_,_,_,_,_,_,_,_,_,_,_,_,_⟩:=fc8 BK373.out)|((with_reducible refine gate_callee (f:=58) rfl ?_);refine goesL_ (some 63) rfl rfl Try.func58 (by kernel_rfl) rfl #[.int .i64 a0_1, .slice A0_2 l0_2.length c0_2, .slice A0_3 l0_3.length c0_3] rfl (by (try simp only [m1,m2,m3]);first|done|rfl) ?_;(with_reducible refine (spec_l04Ids.calls kj32 a0_1 _ _ l0_2 _ _ l0_3 t397 _ ?side1 ?side2 ?side3 ?side4 A39.out).mono ?_);(case side1=>exact cb (Kd.C_below HR0_2.out HB.out));(case side2=>exact HC0_2.out);(case side3=>exact cb (Kd.C_below HR0_3.out HB.out));(case side4=>exact HC0_3.out);rintro e w78 ⟨v398,rfl,ho0,hb⟩;refine ⟨_,rfl,?_⟩;have _:=qm (Kd.R_elder' (rb HO396.out) (Kd.R_base ho0) hb);have _:=qm (Kd.R_lower (nw ho0 (rb HO396.out)) (qs (by repeat first|exact HB.out|apply qh|apply qi|apply qj|refine bk ?_)));have _:=qm (qv (g:=gb373) (o:= .cells #[.int .i64 a0_0, .int .i64 a0_1, .slice A0_2 l0_2.length c0_2, .slice A0_3 l0_3.length c0_3, .slice A0_4 l0_4.length c0_4, .int .i64 a0_5, .int .i64 a0_6, .int .i64 a0_7] 45 (0,0)) (kb BK373.out) hb);have _:=qm (qt (by repeat first|exact HB.out|apply qh|apply qi|apply qj|refine bk ?_) hb);clear HO396 BK373 HB;rename_i HO396 HO399 BK373 HB;obtain ⟨Ao80,co80,eo80⟩:=Kd.R_slice HO399.out;subst eo80)|((with_reducible refine gate_builtin (b:= .append) (xs:=#[.tmp 56, .tmp 63]) rfl ?_);at_builtin;refine Kd.R_append_rows (Kd.int .u8) (w0:=w) w.heap.size rfl (.tmp 56) (.tmp 63) 22 5 (.int .u8 0) 1 rfl Try.underlying22 info5 rfl (by decide) (by omega) v395 y394 t397 _ _ _ (fun k_=>ob k_ (.slice Ao80 t397.length co80)) (fun _=>False) rfl rfl ?aO ?aR (fun _ _ h=>h) (fun _ h=>h.elim) ?aF ?aB ?aS ?aL ?_;(case aR=>exact cb ((qe HO399.out).2.2));(case aB=>exact (by repeat first|exact HB.out|apply qh|apply qi|apply qj|refine bk ?_));(case aF=>exact (fun k_ hk=>Kd.fresh' (Kd.R_lt (rb HO399.out)) k_ hk));(case aO=>exact (rb (qg HO396.out (fun _ hk=>hk.2))));(case aS=>exact (qs (by repeat first|exact HB.out|apply qh|apply qi|apply qj|refine bk ?_)));(case aL=>have:=LMc40.out;omega);intro v401 w79 ho hb hg hat;rw [←Ny400.out] at ho;have _:=qm (blk_grown (g:=gb373) (o:= .cells #[.int .i64 a0_0, .int .i64 a0_1, .slice A0_2 l0_2.length c0_2, .slice A0_3 l0_3.length c0_3, .slice A0_4 l0_4.length c0_4, .int .i64 a0_5, .int .i64 a0_6, .int .i64 a0_7] 45 (0,0)) (kb BK373.out) hg (Kd.R_ne HO396.out BK373.out (by decide)));have _:=qm (Kd.R_after (ok:=(fun _=>True)) (rb HO399.out) hg hat);have _:=qm (hb);have _:=qm (ho);clear BK373 HO399 HB HO396;rename_i BK373 HO399 HB HO402;clear ho hb hg hat;obtain ⟨_,_,_,_,_,_,_,_,_,_,_,_,_,_,_,_⟩:=fc8 BK373.out)|((with_reducible refine gate_callee (f:=64) rfl ?_);refine goesL_ (some 88) rfl rfl Try.func64 (by kernel_rfl) rfl #[.int .i64 (wrap64 ((wrap64 (16384+a1))+a0_6)), .int .i64 2] rfl (by (try simp only [m1,m2,m3]);first|done|rfl) ?_;(with_reducible refine (spec_l01Digits.calls kj32 (wrap64 ((wrap64 (16384+a1))+a0_6)) 2 t426 _ A70.out).mono ?_);rintro e w82 ⟨v427,rfl,ho0,hb⟩;refine ⟨_,rfl,?_⟩;have _:=qm (Kd.R_elder' (rb HO399.out) (Kd.R_base ho0) hb);have _:=qm (Kd.R_elder' (rb HO402.out) (Kd.R_base ho0) hb);have _:=qm (Kd.R_lower (nw (nw ho0 (rb HO399.out)) (rb HO402.out)) (qs (by repeat first|exact HB.out|apply qh|apply qi|apply qj|refine bk ?_)));have _:=qm (qv (g:=gb373) (o:= .cells #[.int .i64 a0_0, .int .i64 a0_1, .slice A0_2 l0_2.length c0_2, .slice A0_3 l0_3.length c0_3, .slice A0_4 l0_4.length c0_4, .int .i64 a0_5, .int .i64 a0_6, .int .i64 a0_7] 45 (0,0)) (kb BK373.out) hb);have _:=qm (qt (by repeat first|exact HB.out|apply qh|apply qi|apply qj|refine bk ?_) hb);clear HO399 HO402 BK373 HB;rename_i HO399 HO402 HO428 BK373 HB;obtain ⟨Ao84,co84,eo84⟩:=Kd.R_slice HO428.out;subst eo84)|((with_reducible refine gate_builtin (b:= .append) (xs:=#[.tmp 82, .tmp 88]) rfl ?_);at_builtin;refine Kd.R_append_rows (Kd.int .u8) (w0:=w) w.heap.size rfl (.tmp 82) (.tmp 88) 22 5 (.int .u8 0) 1 rfl Try.underlying22 info5 rfl (by decide) (by omega) v401 y400 t426 _ _ _ (fun k_=>ob k_ (.slice Ao80 t397.length co80)∧ob k_ (.slice Ao84 t426.length co84)) (fun _=>False) rfl rfl ?aO ?aR (fun _ _ h=>h) (fun _ h=>h.elim) ?aF ?aB ?aS ?aL ?_;(case aR=>exact cb ((qe HO428.out).2.2));(case aB=>exact (by repeat first|exact HB.out|apply qh|apply qi|apply qj|refine bk ?_));(case aF=>exact (fun k_ hk=>⟨Kd.fresh' (Kd.R_lt (rb HO399.out)) k_ hk,Kd.fresh' (Kd.R_lt (rb HO428.out)) k_ hk⟩));(case aO=>exact (rb HO402.out));(case aS=>exact (qs (by repeat first|exact HB.out|apply qh|apply qi|apply qj|refine bk ?_)));(case aL=>have:=LMc71.out;omega);intro v430 w83 ho hb hg hat;rw [←Ny429.out] at ho;have _:=qm (blk_grown (g:=gb373) (o:= .cells #[.int .i64 a0_0, .int .i64 a0_1, .slice A0_2 l0_2.length c0_2, .slice A0_3 l0_3.length c0_3, .slice A0_4 l0_4.length c0_4, .int .i64 a0_5, .int .i64 a0_6, .int .i64 a0_7] 45 (0,0)) (kb BK373.out) hg (Kd.R_ne HO402.out BK373.out (by decide)));have _:=qm (Kd.R_after (ok:=(fun k_=>ob k_ (.slice Ao84 t426.length co84))) (rb (qg HO399.out (fun _ hk=>⟨hk.2,hk.1.2⟩))) hg hat);have _:=qm (Kd.R_after (ok:=(fun k_=>ob k_ (.slice Ao80 t397.length co80))) (rb (qg HO428.out (fun _ hk=>⟨hk.1.2,hk.2⟩))) hg hat);have _:=qm (hb);have _:=qm (ho);clear BK373 HO399 HO428 HB HO402;rename_i BK373 HO399 HO428 HB HO431;clear ho hb hg hat))
     have _:=qm (qd HO399.out)
     have _:=qm (qd HO428.out)
     have _:=qm (qd HO431.out)
     have _:=qm (qn BK373.out)
     have _:=qm (qj HB.out)
     clear HO399 HO428 HO431 BK373 HB
     rename_i HO399 HO428 HO431 BK373 HB
     refine start_ (n:=12) (S:=fun w' =>w'.cell? ⟨gb373,0,none⟩=some (.int .i64 a0_0)∧w'.cell? ⟨gb373,1,none⟩=some (.int .i64 a0_1)∧w'.cell? ⟨gb373,2,none⟩=some (.slice A0_2 l0_2.length c0_2)∧w'.cell? ⟨gb373,3,none⟩=some (.slice A0_3 l0_3.length c0_3)∧w'.cell? ⟨gb373,4,none⟩=some (.slice A0_4 l0_4.length c0_4)∧w'.cell? ⟨gb373,5,none⟩=some (.int .i64 a0_5)∧w'.cell? ⟨gb373,6,none⟩=some (.int .i64 a0_6)∧w'.cell? ⟨gb373,7,none⟩=some (.int .i64 a0_7)) (ds:=[]) (bm 0 12) (by kernel_rfl) rfl rfl (fz8 BK373.out) (fun hHeld=>?_);refine with_tabW spec_HeadBytes.tab17 spec_HeadBytes.bits17 (fun HT_ HW_=>?_)
     generalize w83.drew=w85 at HO399 HO428 HO431 BK373 HB hHeld ⊢
     refine pu 0 90 (bm 1 12) HT_ (h:=⟨_,by intro w';go_simp;with_reducible rfl,_,by simp only [Act.put,s1,s2,s3,i64_w,i32_w];rfl,?_⟩)
     refine pu 1 91 (bm 2 12) HT_ (h:=⟨_,by intro w';go_simp;with_reducible rfl,_,by simp only [Act.put,s1,s2,s3,i64_w,i32_w];rfl,?_⟩)
     refine pu 3 93 (bb 11 12) HT_ (h:=⟨_,by intro w';go_simp;with_reducible rfl,_,by simp only [Act.put,s1,s2,s3,i64_w,i32_w];rfl,?_⟩)
     refine pu 6 96 (bb 75 12) HT_ (h:=⟨_,by intro w';go_simp;with_reducible rfl,_,by simp only [Act.put,s1,s2,s3,i64_w,i32_w];rfl,?_⟩)
     refine tk 2 92 (bb 79 12) HT_ HW_ (hS:=hHeld) (h:=⟨_,by rintro w' ⟨s0,s1,s2,s3,s4,s5,s6,s7⟩;go_simp;with_reducible rfl,_,by simp only [Act.put,s1,s2,s3,i64_w,i32_w];rfl,?_⟩)
     refine tk 4 94 (bb 95 12) HT_ HW_ (hS:=hHeld) (h:=⟨_,by rintro w' ⟨s0,s1,s2,s3,s4,s5,s6,s7⟩;go_simp;with_reducible rfl,_,by simp only [Act.put,s1,s2,s3,i64_w,i32_w];rfl,?_⟩)
     refine tk 7 97 (bb 223 12) HT_ HW_ (hS:=hHeld) (h:=⟨_,by rintro w' ⟨s0,s1,s2,s3,s4,s5,s6,s7⟩;go_simp;with_reducible rfl,_,by simp only [Act.put,s1,s2,s3,i64_w,i32_w];rfl,?_⟩)
     refine one_ (i:=5) (N:=some 95) (bm 8 12) rfl rfl (one_of HT_.out (by kernel_rfl)) (by decide) (fun K hK=>?_)
     refine goes_ Try.func73 (by kernel_rfl) rfl #[.int .i64 a0_5, .int .i64 a0_6] (by rfl) rfl rfl (by (try simp only [m1,m2,m3]);first|done|rfl) ?_
     with_reducible refine (spec_CutNum.calls kj32 a0_5 a0_6 t432 _ A72.out).mono ?_
     rintro e w' ⟨rfl,⟨nd,rfl⟩⟩
     refine ⟨_,rfl,?_⟩
     refine hK.out _ _ (fz8 BK373.out) (fun hHeld=>?_)
     clear hK K
     refine norm_ (a' :=?_) ?_ ?_
     rotate_left
     ·show Act.put _ (some 95) _=_
      simp only [Act.put,s1,s2,s3,i64_w,i32_w]
      rfl
     refine one_ (i:=8) (N:=some 98) (bm 9 12) rfl rfl (one_of HT_.out (by kernel_rfl)) (by decide) (fun K hK=>?_)
     refine goes_ Try.func64 (by kernel_rfl) rfl #[.int .i64 t432, .int .i64 a0_6] (by rfl) rfl rfl (by (try simp only [m1,m2,m3]);first|done|rfl) ?_
     with_reducible refine (spec_l01Digits.calls kj32 t432 a0_6 t433 _ A73.out).mono ?_
     rintro e w86 ⟨v434,rfl,ho0,hb⟩
     refine ⟨_,rfl,?_⟩
     have _:=qm (Kd.R_elder' (rb HO399.out) (Kd.R_base ho0) hb)
     have _:=qm (Kd.R_elder' (rb HO428.out) (Kd.R_base ho0) hb)
     have _:=qm (Kd.R_elder' (rb HO431.out) (Kd.R_base ho0) hb)
     have _:=qm (Kd.R_lower (nw (nw (nw ho0 (rb HO399.out)) (rb HO428.out)) (rb HO431.out)) (qs (by repeat first|exact HB.out|apply qh|apply qi|apply qj|refine bk ?_)))
     have _:=qm (qv (g:=gb373) (o:= .cells #[.int .i64 a0_0, .int .i64 a0_1, .slice A0_2 l0_2.length c0_2, .slice A0_3 l0_3.length c0_3, .slice A0_4 l0_4.length c0_4, .int .i64 a0_5, .int .i64 a0_6, .int .i64 a0_7] 45 (0,0)) (kb BK373.out) hb)
     have _:=qm (qt (by repeat first|exact HB.out|apply qh|apply qi|apply qj|refine bk ?_) hb)
     clear HO399 HO428 HO431 BK373 HB
     rename_i HO399 HO428 HO431 HO435 BK373 HB
     (try clear hb)
     (try clear hb2)
     (try clear hk)
     (try clear hi)
     (try clear ho0)
     obtain ⟨Ao88,co88,eo88⟩:=Kd.R_slice HO435.out
     (first|subst eo88|(injection eo88 with f1_ f2_ f3_;have f4_:=f1_.symm;have f5_:=f3_.symm;clear f1_ f2_ f3_;subst f4_;subst f5_))
     refine hK.out _ _ (fz8 BK373.out) (fun hHeld=>?_)
     clear hK K
     refine norm_ (a' :=?_) ?_ ?_
     rotate_left
     ·show Act.put _ (some 98) _=_
      simp only [Act.put,s1,s2,s3,i64_w,i32_w]
      rfl
     refine one_ (i:=9) (N:=some 99) (bm 10 12) rfl rfl (one_of HT_.out (by kernel_rfl)) (by decide) (fun K hK=>?_)
     refine Kd.R_append_rows_step (Kd.int .u8) (w0:=w) w.heap.size (by rfl) (.tmp 90) (.tmp 98) 22 5 (.int .u8 0) 1 rfl Try.underlying22 info5 rfl (by decide) (by omega) v430 y429 t433 _ _ _ (fun k_=>ob k_ (.slice Ao80 t397.length co80)∧ob k_ (.slice Ao84 t426.length co84)∧ob k_ (.slice Ao88 t433.length co88)) (fun _=>False) rfl rfl ?aO ?aR (fun _ _ h=>h) (fun _ h=>h.elim) ?aF ?aB ?aS ?aL ?_
     (case aR=>exact cb ((qe HO435.out).2.2))
     (case aB=>exact (by repeat first|exact HB.out|apply qh|apply qi|apply qj|refine bk ?_))
     (case aF=>exact (fun k_ hk=>⟨Kd.fresh' (Kd.R_lt (rb HO399.out)) k_ hk,Kd.fresh' (Kd.R_lt (rb HO428.out)) k_ hk,Kd.fresh' (Kd.R_lt (rb HO435.out)) k_ hk⟩))
     (case aO=>exact (rb (qg HO431.out (fun _ hk=>⟨hk.1.1,⟨hk.1.2,hk.2⟩⟩))))
     (case aS=>exact (qs (by repeat first|exact HB.out|apply qh|apply qi|apply qj|refine bk ?_)))
     (case aL=>have:=LMc74.out;omega)
     intro v437 w87 ho hb hg hat
     rw [←Ny436.out] at ho
     have _:=qm (blk_grown (g:=gb373) (o:= .cells #[.int .i64 a0_0, .int .i64 a0_1, .slice A0_2 l0_2.length c0_2, .slice A0_3 l0_3.length c0_3, .slice A0_4 l0_4.length c0_4, .int .i64 a0_5, .int .i64 a0_6, .int .i64 a0_7] 45 (0,0)) (kb BK373.out) hg (Kd.R_ne HO431.out BK373.out (by decide)))
     have _:=qm (Kd.R_after (ok:=(fun k_=>ob k_ (.slice Ao84 t426.length co84)∧ob k_ (.slice Ao88 t433.length co88))) (rb (qg HO399.out (fun _ hk=>⟨⟨hk.1.1,hk.2⟩,hk.1.2⟩))) hg hat)
     have _:=qm (Kd.R_after (ok:=(fun k_=>ob k_ (.slice Ao80 t397.length co80)∧ob k_ (.slice Ao88 t433.length co88))) (rb (qg HO428.out (fun _ hk=>⟨⟨hk.1.1,hk.2⟩,hk.1.2⟩))) hg hat)
     have _:=qm (Kd.R_after (ok:=(fun k_=>ob k_ (.slice Ao80 t397.length co80)∧ob k_ (.slice Ao84 t426.length co84))) (rb (qg HO435.out (fun _ hk=>⟨⟨hk.1.1.2,hk.1.2⟩,hk.2⟩))) hg hat)
     have _:=qm (hb)
     have _:=qm (ho)
     clear BK373 HO399 HO428 HO435 HB HO431
     rename_i BK373 HO399 HO428 HO435 HB HO438
     clear ho hb hg hat
     refine hK.out _ _ (fz8 BK373.out) (fun hHeld=>?_)
     clear hK K
     refine norm_ (a' :=?_) ?_ ?_
     rotate_left
     ·show Act.put _ (some 99) _=_
      simp only [Act.put,s1,s2,s3,i64_w,i32_w]
      rfl
     refine pu 10 4 (bm 11 12) HT_ (h:=⟨_,by intro w';go_simp;with_reducible rfl,_,by simp only [Act.put,s1,s2,s3,i64_w,i32_w];rfl,?_⟩)
     refine pu 11 5 (bm 12 12) HT_ (h:=⟨_,by intro w';go_simp;with_reducible rfl,_,by simp only [Act.put,s1,s2,s3,i64_w,i32_w];rfl,?_⟩)
     refine done_ (done_of HT_.out (by kernel_rfl)) ?_
     try go_wp2
     go_ret2
     exact ⟨_,by first|rfl|(simp <;> rfl)|(simp [*] <;> rfl),by (with_reducible repeat (first|apply qb|apply qc|apply qd));exact qg HO438.out (fun _ hk=>trivial),by repeat (first|(with_reducible first|exact HB.out|apply qh|apply qi|apply qj|refine qk ?_ GE373.out)|exact HB.out)⟩
    rw [if_neg c74] at H
    exact absurd H (by simp)
   rw [if_neg c71] at H
   exact absurd H (by simp)
  rw [if_neg c40] at H
  exact absurd H (by simp)
 rw [if_neg c38] at H
 exact absurd H (by simp)
end Go.Proofs.Ytcdkbdkanjifeaa.SFnExactProtectPacket
